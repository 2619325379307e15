/- What 'PositiveQuery' answers. -/
import Derived.Test.YtoalfeglgioabaaGreatBase
set_option linter.all false
namespace Go.Proofs.YtoalfeglgioabaaGreat
open Go Go.Vse
set_option maxRecDepth 100000
set_option maxHeartbeats 4000000
set_option linter.unusedSimpArgs false

theorem fn13 : pr.fn 13 = some g13 := by kernel_rfl

/-- the head, as it lies in the heap -/
def HdOk (b : Prop) (h : T Ob) (d : D) : Prop := (¬ b ∧ d = .f .nils) ∨ (b ∧ d = .sl 2 0 1 1 1 true ∧ h.get 2 = some (.arr 1 0 [[.f (.s [120])]]))

/-- the disjuncts, as they lie in the heap -/
def DsOk (b : Prop) (s : St) (ds : List F) (d : D) : Prop := (ds = [] ∧ d = .f .nils) ∨ (ds ≠ [] ∧ ∃ id, d = .sl id 0 ds.length 2 ds.length false ∧ s.h.get id = some (.arr 2 0 (ds.map fun a => [.f a, .f .nils])) ∧ 2 ≤ id ∧ (b → 3 ≤ id) ∧ id < s.c)

def InvQ (x : F) (f : Nat → F) (m : Nat) (b : Prop) (k : Nat) (s : St) : Prop :=
  ∃ n, n ≤ m + 1 ∧ k = m + 1 - n ∧ s.tm.get 0 = some (.f x) ∧ s.tm.get 2 = some (.ptr 0 2 0 0) ∧ s.tm.get 3 = some (.ptr 1 2 0 0) ∧ s.tm.get 4 = some (.f (.i .i64 n)) ∧
    s.h.get 0 = some (.arr 2 0 [[.f .nils, .f .nils]]) ∧ 2 ≤ s.c ∧ (b → 3 ≤ s.c) ∧ ∃ d e, s.h.get 1 = some (.arr 2 0 [[d, e]]) ∧ HdOk b s.h d ∧ DsOk b s ((List.range n).map f) e

theorem HdOk.keep {b : Prop} {h h' : T Ob} {d : D} (hd : HdOk b h d) (he : b → h'.get 2 = h.get 2) : HdOk b h' d := by
  rcases hd with h1 | ⟨h1, h2, h3⟩
  · exact .inl h1
  · exact .inr ⟨h1, h2, (he h1).trans h3⟩

theorem rows_frz (h : Nat → Option Ob) : ∀ ds : List F, mapFrr (frz h 10) (ds.map fun a => [.f a, .f .nils]) = some (ds.map fun a => [a, .nils], [])
  | [] => rfl
  | a :: ds => by simp [mapFrr, mapFr, fz10_f, rows_frz h ds]

theorem ans13 {x : F} (hx : isInts x) : ∃ hd ds, (∀ a ∈ ds, a ∈ tabA) ∧ ds.length < 10 ∧ ds ≠ [] ∧ (hd = .nils ∨ hd = .sl 1 [[.s [120]]]) ∧
    Ans pr 13 [x] (.ag [hd, .sl 2 (ds.map fun a => [a, .nils])]) := by
  obtain ⟨n0, hn0, hat0⟩ := ans37 hx 0 (by omega)
  obtain ⟨n1, hn1, hat1⟩ := ans37 hx 1 (by omega)
  have hxd : x.d = .f x := by rcases hx with rfl | ⟨zs, rfl⟩ <;> rfl
  obtain ⟨m, hm⟩ : ∃ m, m = n1 % 3 := ⟨_, rfl⟩
  have hrem3 : binF .rem (.i .i64 n1) (.i .i64 3) = some (.i .i64 (m : Int)) := by rw [bin_rem _ _ (by decide), hm]; rfl
  obtain ⟨m0, hm0⟩ : ∃ m0, m0 = n0 % 2 := ⟨_, rfl⟩
  have hrem2 : binF .rem (.i .i64 n0) (.i .i64 2) = some (.i .i64 (m0 : Int)) := by rw [bin_rem _ _ (by decide), hm0]; rfl
  have main : ∃ hd ds, (∀ a ∈ ds, a ∈ tabA) ∧ ds.length < 10 ∧ ds ≠ [] ∧ (hd = .nils ∨ hd = .sl 1 [[.s [120]]]) ∧ wpC pr g13.body (st0 (F.dL [x]) .e 0) (endP g13.res (.ag [hd, .sl 2 (ds.map fun a => [a, .nils])])) := by
    -- the disjuncts are known ahead of the walk
    have each : ∀ i : Nat, i < 10 → ∃ a n2, a ∈ tabA ∧ Ans pr 37 [x, .i .i64 (2 + (i : Int))] (.i .i64 ((n2 : Nat) : Int)) ∧ Ans pr 38 [.i .i64 ((n2 : Nat) : Int)] (cqF a) := by
      intro i hi
      obtain ⟨n2, _, h2⟩ := ans37 hx (2 + i) (by omega)
      obtain ⟨a, ha, h3⟩ := ans38 (n2 : Int)
      exact ⟨a, n2, ha, by simpa using h2, h3⟩
    obtain ⟨f, hf⟩ : ∃ f : Nat → F, ∀ i, i < 10 → f i ∈ tabA ∧ ∃ n2 : Nat, Ans pr 37 [x, .i .i64 (2 + (i : Int))] (.i .i64 (n2 : Int)) ∧ Ans pr 38 [.i .i64 (n2 : Int)] (cqF (f i)) := by
      refine ⟨fun i => if h : i < 10 then (each i h).choose else .nils, fun i hi => ?_⟩
      obtain ⟨n2, h1, h2, h3⟩ := (each i hi).choose_spec
      simp only [hi, dif_pos]
      exact ⟨h1, n2, h2, h3⟩
    refine ⟨if m0 = 1 then .sl 1 [[.s [120]]] else .nils, (List.range (m + 1)).map f, ?_, ?_, ?_, ?_, ?_⟩
    · intro a ha
      obtain ⟨i, hi, rfl⟩ := List.mem_map.1 ha
      exact (hf i (by simp at hi; omega)).1
    · simp; omega
    · simp
    · split <;> simp
    · unfold g13
      simp [c_seq, c_reg, c_ret, c_blk, c_skip, c_exit, x_nil, x_new, y_mv, y_pick, y_ld, y_bin, y_not, y_len, y_fa, y_ext, y_box, y_st, y_ia, y_mkf, y_bld, y_callp, y_call, y_callv, y_cond, y_guard, e_nil, e_mv, e_pick, e_ld, e_bin, e_eqb, e_len, e_fa, e_ia, e_bld, e_new, e_st, e_callp, e_guard, asG_b, asG_un, disj_nil, disj_cons, chkM, chkM_nn, ue_tm, ue_h, ue_c, ue_lw, ae_tm, ae_h, ae_c, ae_lw, se_tm, se_h, se_c, se_lw, oB_some, opnd_t, opnd_k, asF_f, asB_b, asFn_fn, asFn_f, asTu_tu, Option.bind_some, fnD, up_tm, up_h, up_c, up_lw, aft_tm, aft_h, aft_c, aft_lw, cal_tm, cal_h, cal_c, cal_lw, putO_some, putO_none, F.d, toIdx, iaB, faB, lenB, loadB, storeB, over, partF, partD, mapO, D.cells, fillB, wrT, T.get_set, T.get_del, T.get_e, frzArgs, mapFr, fz12_f, fz11_f, fz10_f, fz12_ag, fz11_ag, fz12_tu, roMarks, wrOk, bin_lss, bin_leq, bin_geq, bin_gtr, bin_eql, bin_neq, bin_add, bin_sub, st0, tmOf, F.dL, hxd]
      refine ⟨_, hat0, ?_⟩
      simp [c_seq, c_reg, c_ret, c_blk, c_skip, c_exit, x_nil, x_new, y_mv, y_pick, y_ld, y_bin, y_not, y_len, y_fa, y_ext, y_box, y_st, y_ia, y_mkf, y_bld, y_callp, y_call, y_callv, y_cond, y_guard, e_nil, e_mv, e_pick, e_ld, e_bin, e_eqb, e_len, e_fa, e_ia, e_bld, e_new, e_st, e_callp, e_guard, asG_b, asG_un, disj_nil, disj_cons, chkM, chkM_nn, ue_tm, ue_h, ue_c, ue_lw, ae_tm, ae_h, ae_c, ae_lw, se_tm, se_h, se_c, se_lw, oB_some, opnd_t, opnd_k, asF_f, asB_b, asFn_fn, asFn_f, asTu_tu, Option.bind_some, fnD, up_tm, up_h, up_c, up_lw, aft_tm, aft_h, aft_c, aft_lw, cal_tm, cal_h, cal_c, cal_lw, putO_some, putO_none, F.d, toIdx, iaB, faB, lenB, loadB, storeB, over, partF, partD, mapO, D.cells, fillB, wrT, T.get_set, T.get_del, T.get_e, frzArgs, mapFr, fz12_f, fz11_f, fz10_f, fz12_ag, fz11_ag, fz12_tu, roMarks, wrOk, bin_lss, bin_leq, bin_geq, bin_gtr, bin_eql, bin_neq, bin_add, bin_sub, hxd, hrem2]
      by_cases hb : m0 = 1
      have hb' : (m0 : Int) = 1 := by omega
      simp [hb', hb]
      rw [o_iff rfl]
      simp [c_seq, c_reg, c_ret, c_blk, c_skip, c_exit, x_nil, x_new, y_mv, y_pick, y_ld, y_bin, y_not, y_len, y_fa, y_ext, y_box, y_st, y_ia, y_mkf, y_bld, y_callp, y_call, y_callv, y_cond, y_guard, e_nil, e_mv, e_pick, e_ld, e_bin, e_eqb, e_len, e_fa, e_ia, e_bld, e_new, e_st, e_callp, e_guard, asG_b, asG_un, disj_nil, disj_cons, chkM, chkM_nn, ue_tm, ue_h, ue_c, ue_lw, ae_tm, ae_h, ae_c, ae_lw, se_tm, se_h, se_c, se_lw, oB_some, opnd_t, opnd_k, asF_f, asB_b, asFn_fn, asFn_f, asTu_tu, Option.bind_some, fnD, up_tm, up_h, up_c, up_lw, aft_tm, aft_h, aft_c, aft_lw, cal_tm, cal_h, cal_c, cal_lw, putO_some, putO_none, F.d, toIdx, iaB, faB, lenB, loadB, storeB, over, partF, partD, mapO, D.cells, fillB, wrT, T.get_set, T.get_del, T.get_e, frzArgs, mapFr, fz12_f, fz11_f, fz10_f, fz12_ag, fz11_ag, fz12_tu, roMarks, wrOk, bin_lss, bin_leq, bin_geq, bin_gtr, bin_eql, bin_neq, bin_add, bin_sub, O.res, opv, fillE, Nat.blt_eq]
      refine wpLoop (InvQ x f m (m0 = 1)) ?_ (m + 1) _ ?_
      rotate_left
      · refine ⟨0, by omega, rfl, ?_⟩
        simp [c_seq, c_reg, c_ret, c_blk, c_skip, c_exit, x_nil, x_new, y_mv, y_pick, y_ld, y_bin, y_not, y_len, y_fa, y_ext, y_box, y_st, y_ia, y_mkf, y_bld, y_callp, y_call, y_callv, y_cond, y_guard, e_nil, e_mv, e_pick, e_ld, e_bin, e_eqb, e_len, e_fa, e_ia, e_bld, e_new, e_st, e_callp, e_guard, asG_b, asG_un, disj_nil, disj_cons, chkM, chkM_nn, ue_tm, ue_h, ue_c, ue_lw, ae_tm, ae_h, ae_c, ae_lw, se_tm, se_h, se_c, se_lw, oB_some, opnd_t, opnd_k, asF_f, asB_b, asFn_fn, asFn_f, asTu_tu, Option.bind_some, fnD, up_tm, up_h, up_c, up_lw, aft_tm, aft_h, aft_c, aft_lw, cal_tm, cal_h, cal_c, cal_lw, putO_some, putO_none, F.d, toIdx, iaB, faB, lenB, loadB, storeB, over, partF, partD, mapO, D.cells, fillB, wrT, T.get_set, T.get_del, T.get_e, frzArgs, mapFr, fz12_f, fz11_f, fz10_f, fz12_ag, fz11_ag, fz12_tu, roMarks, wrOk, bin_lss, bin_leq, bin_geq, bin_gtr, bin_eql, bin_neq, bin_add, bin_sub, HdOk, DsOk, hb]
      have hb' : ¬ ((m0 : Int) = 1) := by omega
      simp [hb', hb]
      refine wpLoop (InvQ x f m (m0 = 1)) ?_ (m + 1) _ ?_
      rotate_left
      · refine ⟨0, by omega, rfl, ?_⟩
        simp [c_seq, c_reg, c_ret, c_blk, c_skip, c_exit, x_nil, x_new, y_mv, y_pick, y_ld, y_bin, y_not, y_len, y_fa, y_ext, y_box, y_st, y_ia, y_mkf, y_bld, y_callp, y_call, y_callv, y_cond, y_guard, e_nil, e_mv, e_pick, e_ld, e_bin, e_eqb, e_len, e_fa, e_ia, e_bld, e_new, e_st, e_callp, e_guard, asG_b, asG_un, disj_nil, disj_cons, chkM, chkM_nn, ue_tm, ue_h, ue_c, ue_lw, ae_tm, ae_h, ae_c, ae_lw, se_tm, se_h, se_c, se_lw, oB_some, opnd_t, opnd_k, asF_f, asB_b, asFn_fn, asFn_f, asTu_tu, Option.bind_some, fnD, up_tm, up_h, up_c, up_lw, aft_tm, aft_h, aft_c, aft_lw, cal_tm, cal_h, cal_c, cal_lw, putO_some, putO_none, F.d, toIdx, iaB, faB, lenB, loadB, storeB, over, partF, partD, mapO, D.cells, fillB, wrT, T.get_set, T.get_del, T.get_e, frzArgs, mapFr, fz12_f, fz11_f, fz10_f, fz12_ag, fz11_ag, fz12_tu, roMarks, wrOk, bin_lss, bin_leq, bin_geq, bin_gtr, bin_eql, bin_neq, bin_add, bin_sub, HdOk, DsOk, hb]
      all_goals
        rintro k s ⟨n, hn, rfl, h0, h2, h3, h4, g0, hc, hc3, d, e, g1, hdk, hds⟩
        simp [c_seq, c_reg, c_ret, c_blk, c_skip, c_exit, x_nil, x_new, y_mv, y_pick, y_ld, y_bin, y_not, y_len, y_fa, y_ext, y_box, y_st, y_ia, y_mkf, y_bld, y_callp, y_call, y_callv, y_cond, y_guard, e_nil, e_mv, e_pick, e_ld, e_bin, e_eqb, e_len, e_fa, e_ia, e_bld, e_new, e_st, e_callp, e_guard, asG_b, asG_un, disj_nil, disj_cons, chkM, chkM_nn, ue_tm, ue_h, ue_c, ue_lw, ae_tm, ae_h, ae_c, ae_lw, se_tm, se_h, se_c, se_lw, oB_some, opnd_t, opnd_k, asF_f, asB_b, asFn_fn, asFn_f, asTu_tu, Option.bind_some, fnD, up_tm, up_h, up_c, up_lw, aft_tm, aft_h, aft_c, aft_lw, cal_tm, cal_h, cal_c, cal_lw, putO_some, putO_none, F.d, toIdx, iaB, faB, lenB, loadB, storeB, over, partF, partD, mapO, D.cells, fillB, wrT, T.get_set, T.get_del, T.get_e, frzArgs, mapFr, fz12_f, fz11_f, fz10_f, fz12_ag, fz11_ag, fz12_tu, roMarks, wrOk, bin_lss, bin_leq, bin_geq, bin_gtr, bin_eql, bin_neq, bin_add, bin_sub, h0, h2, h3, h4, g0, g1, hxd]
        refine ⟨_, hat1, ?_⟩
        simp [c_seq, c_reg, c_ret, c_blk, c_skip, c_exit, x_nil, x_new, y_mv, y_pick, y_ld, y_bin, y_not, y_len, y_fa, y_ext, y_box, y_st, y_ia, y_mkf, y_bld, y_callp, y_call, y_callv, y_cond, y_guard, e_nil, e_mv, e_pick, e_ld, e_bin, e_eqb, e_len, e_fa, e_ia, e_bld, e_new, e_st, e_callp, e_guard, asG_b, asG_un, disj_nil, disj_cons, chkM, chkM_nn, ue_tm, ue_h, ue_c, ue_lw, ae_tm, ae_h, ae_c, ae_lw, se_tm, se_h, se_c, se_lw, oB_some, opnd_t, opnd_k, asF_f, asB_b, asFn_fn, asFn_f, asTu_tu, Option.bind_some, fnD, up_tm, up_h, up_c, up_lw, aft_tm, aft_h, aft_c, aft_lw, cal_tm, cal_h, cal_c, cal_lw, putO_some, putO_none, F.d, toIdx, iaB, faB, lenB, loadB, storeB, over, partF, partD, mapO, D.cells, fillB, wrT, T.get_set, T.get_del, T.get_e, frzArgs, mapFr, fz12_f, fz11_f, fz10_f, fz12_ag, fz11_ag, fz12_tu, roMarks, wrOk, bin_lss, bin_leq, bin_geq, bin_gtr, bin_eql, bin_neq, bin_add, bin_sub, h0, h2, h3, h4, g0, g1, hxd, hrem3]
        by_cases hlt : n ≤ m
        · simp [hlt]
          refine c_dreg ?_
          obtain ⟨hfn, n2, hat, hpos⟩ := hf n (by omega)
          have hadd : IntKind.i64.wrap (2 + (n : Int)) = 2 + (n : Int) := wrap_i64 _ (by omega) (by omega)
          have hadd1 : IntKind.i64.wrap ((n : Int) + 1) = ((n + 1 : Nat) : Int) := wrap_i64 _ (by omega) (by omega)
          simp [c_seq, c_reg, c_ret, c_blk, c_skip, c_exit, x_nil, x_new, y_mv, y_pick, y_ld, y_bin, y_not, y_len, y_fa, y_ext, y_box, y_st, y_ia, y_mkf, y_bld, y_callp, y_call, y_callv, y_cond, y_guard, e_nil, e_mv, e_pick, e_ld, e_bin, e_eqb, e_len, e_fa, e_ia, e_bld, e_new, e_st, e_callp, e_guard, asG_b, asG_un, disj_nil, disj_cons, chkM, chkM_nn, ue_tm, ue_h, ue_c, ue_lw, ae_tm, ae_h, ae_c, ae_lw, se_tm, se_h, se_c, se_lw, oB_some, opnd_t, opnd_k, asF_f, asB_b, asFn_fn, asFn_f, asTu_tu, Option.bind_some, fnD, up_tm, up_h, up_c, up_lw, aft_tm, aft_h, aft_c, aft_lw, cal_tm, cal_h, cal_c, cal_lw, putO_some, putO_none, F.d, toIdx, iaB, faB, lenB, loadB, storeB, over, partF, partD, mapO, D.cells, fillB, wrT, T.get_set, T.get_del, T.get_e, frzArgs, mapFr, fz12_f, fz11_f, fz10_f, fz12_ag, fz11_ag, fz12_tu, roMarks, wrOk, bin_lss, bin_leq, bin_geq, bin_gtr, bin_eql, bin_neq, bin_add, bin_sub, h0, h2, h3, h4, g0, g1, hxd, hadd]
          refine ⟨_, hat, ?_⟩
          simp [c_seq, c_reg, c_ret, c_blk, c_skip, c_exit, x_nil, x_new, y_mv, y_pick, y_ld, y_bin, y_not, y_len, y_fa, y_ext, y_box, y_st, y_ia, y_mkf, y_bld, y_callp, y_call, y_callv, y_cond, y_guard, e_nil, e_mv, e_pick, e_ld, e_bin, e_eqb, e_len, e_fa, e_ia, e_bld, e_new, e_st, e_callp, e_guard, asG_b, asG_un, disj_nil, disj_cons, chkM, chkM_nn, ue_tm, ue_h, ue_c, ue_lw, ae_tm, ae_h, ae_c, ae_lw, se_tm, se_h, se_c, se_lw, oB_some, opnd_t, opnd_k, asF_f, asB_b, asFn_fn, asFn_f, asTu_tu, Option.bind_some, fnD, up_tm, up_h, up_c, up_lw, aft_tm, aft_h, aft_c, aft_lw, cal_tm, cal_h, cal_c, cal_lw, putO_some, putO_none, F.d, toIdx, iaB, faB, lenB, loadB, storeB, over, partF, partD, mapO, D.cells, fillB, wrT, T.get_set, T.get_del, T.get_e, frzArgs, mapFr, fz12_f, fz11_f, fz10_f, fz12_ag, fz11_ag, fz12_tu, roMarks, wrOk, bin_lss, bin_leq, bin_geq, bin_gtr, bin_eql, bin_neq, bin_add, bin_sub, h0, h2, h3, h4, g0, g1, hxd]
          refine ⟨_, hpos, ?_⟩
          have hfd := tab_d _ hfn
          rw [e_iff rfl]
          simp [c_seq, c_reg, c_ret, c_blk, c_skip, c_exit, x_nil, x_new, y_mv, y_pick, y_ld, y_bin, y_not, y_len, y_fa, y_ext, y_box, y_st, y_ia, y_mkf, y_bld, y_callp, y_call, y_callv, y_cond, y_guard, e_nil, e_mv, e_pick, e_ld, e_bin, e_eqb, e_len, e_fa, e_ia, e_bld, e_new, e_st, e_callp, e_guard, asG_b, asG_un, disj_nil, disj_cons, chkM, chkM_nn, ue_tm, ue_h, ue_c, ue_lw, ae_tm, ae_h, ae_c, ae_lw, se_tm, se_h, se_c, se_lw, oB_some, opnd_t, opnd_k, asF_f, asB_b, asFn_fn, asFn_f, asTu_tu, Option.bind_some, fnD, up_tm, up_h, up_c, up_lw, aft_tm, aft_h, aft_c, aft_lw, cal_tm, cal_h, cal_c, cal_lw, putO_some, putO_none, F.d, toIdx, iaB, faB, lenB, loadB, storeB, over, partF, partD, mapO, D.cells, fillB, wrT, T.get_set, T.get_del, T.get_e, frzArgs, mapFr, fz12_f, fz11_f, fz10_f, fz12_ag, fz11_ag, fz12_tu, roMarks, wrOk, bin_lss, bin_leq, bin_geq, bin_gtr, bin_eql, bin_neq, bin_add, bin_sub, O.res, opv, fillE, fzRows, fzCells, okF, cqF, F.dL, hfd]
          rw [e_iff rfl]
          have n1c : (1 : Nat) ≠ s.c + 1 + 1 + 1 + 1 + 1 + 1 + 1 + 1 := by omega
          have n0c : (0 : Nat) ≠ s.c + 1 + 1 + 1 + 1 + 1 + 1 + 1 + 1 := by omega
          have n2c : (2 : Nat) ≠ s.c + 1 + 1 + 1 + 1 + 1 + 1 + 1 + 1 := by omega
          have hcc : s.c + 1 + 1 + 1 + 1 + 1 + 1 + 1 + 1 ≠ 1 := by omega
          rcases hds with ⟨he1, rfl⟩ | ⟨he1, id, rfl, gi, hi2, hi3, hic⟩
          · have hn0' : n = 0 := by simpa using he1
            subst hn0'
            simp [c_seq, c_reg, c_ret, c_blk, c_skip, c_exit, x_nil, x_new, y_mv, y_pick, y_ld, y_bin, y_not, y_len, y_fa, y_ext, y_box, y_st, y_ia, y_mkf, y_bld, y_callp, y_call, y_callv, y_cond, y_guard, e_nil, e_mv, e_pick, e_ld, e_bin, e_eqb, e_len, e_fa, e_ia, e_bld, e_new, e_st, e_callp, e_guard, asG_b, asG_un, disj_nil, disj_cons, chkM, chkM_nn, ue_tm, ue_h, ue_c, ue_lw, ae_tm, ae_h, ae_c, ae_lw, se_tm, se_h, se_c, se_lw, oB_some, opnd_t, opnd_k, asF_f, asB_b, asFn_fn, asFn_f, asTu_tu, Option.bind_some, fnD, up_tm, up_h, up_c, up_lw, aft_tm, aft_h, aft_c, aft_lw, cal_tm, cal_h, cal_c, cal_lw, putO_some, putO_none, F.d, toIdx, iaB, faB, lenB, loadB, storeB, over, partF, partD, mapO, D.cells, fillB, wrT, T.get_set, T.get_del, T.get_e, frzArgs, mapFr, fz12_f, fz11_f, fz10_f, fz12_ag, fz11_ag, fz12_tu, roMarks, wrOk, bin_lss, bin_leq, bin_geq, bin_gtr, bin_eql, bin_neq, bin_add, bin_sub, O.res, opv, elemsOf, h0, h2, h3, h4, g0, g1]
            rw [app_nil (by simp) (by simp [maxBytes]) (by simp [maxBytes])]
            simp [c_seq, c_reg, c_ret, c_blk, c_skip, c_exit, x_nil, x_new, y_mv, y_pick, y_ld, y_bin, y_not, y_len, y_fa, y_ext, y_box, y_st, y_ia, y_mkf, y_bld, y_callp, y_call, y_callv, y_cond, y_guard, e_nil, e_mv, e_pick, e_ld, e_bin, e_eqb, e_len, e_fa, e_ia, e_bld, e_new, e_st, e_callp, e_guard, asG_b, asG_un, disj_nil, disj_cons, chkM, chkM_nn, ue_tm, ue_h, ue_c, ue_lw, ae_tm, ae_h, ae_c, ae_lw, se_tm, se_h, se_c, se_lw, oB_some, opnd_t, opnd_k, asF_f, asB_b, asFn_fn, asFn_f, asTu_tu, Option.bind_some, fnD, up_tm, up_h, up_c, up_lw, aft_tm, aft_h, aft_c, aft_lw, cal_tm, cal_h, cal_c, cal_lw, putO_some, putO_none, F.d, toIdx, iaB, faB, lenB, loadB, storeB, over, partF, partD, mapO, D.cells, fillB, wrT, T.get_set, T.get_del, T.get_e, frzArgs, mapFr, fz12_f, fz11_f, fz10_f, fz12_ag, fz11_ag, fz12_tu, roMarks, wrOk, bin_lss, bin_leq, bin_geq, bin_gtr, bin_eql, bin_neq, bin_add, bin_sub, Nat.blt_eq, h0, h2, h3, h4, g0, g1, n1c, n0c, n2c]
            refine ⟨m, by omega, 1, by omega, by omega, ?_, ?_, ?_, ?_, ?_, ?_, fun _ => ?_, d, .sl (s.c + 1 + 1 + 1 + 1 + 1 + 1 + 1 + 1) 0 1 2 1 false, ?_, hdk.keep fun hbb => ?_, .inr ⟨by simp, s.c + 1 + 1 + 1 + 1 + 1 + 1 + 1 + 1, by simp, ?_, by omega, fun _ => by omega, ?_⟩⟩
            all_goals simp [c_seq, c_reg, c_ret, c_blk, c_skip, c_exit, x_nil, x_new, y_mv, y_pick, y_ld, y_bin, y_not, y_len, y_fa, y_ext, y_box, y_st, y_ia, y_mkf, y_bld, y_callp, y_call, y_callv, y_cond, y_guard, e_nil, e_mv, e_pick, e_ld, e_bin, e_eqb, e_len, e_fa, e_ia, e_bld, e_new, e_st, e_callp, e_guard, asG_b, asG_un, disj_nil, disj_cons, chkM, chkM_nn, ue_tm, ue_h, ue_c, ue_lw, ae_tm, ae_h, ae_c, ae_lw, se_tm, se_h, se_c, se_lw, oB_some, opnd_t, opnd_k, asF_f, asB_b, asFn_fn, asFn_f, asTu_tu, Option.bind_some, fnD, up_tm, up_h, up_c, up_lw, aft_tm, aft_h, aft_c, aft_lw, cal_tm, cal_h, cal_c, cal_lw, putO_some, putO_none, F.d, toIdx, iaB, faB, lenB, loadB, storeB, over, partF, partD, mapO, D.cells, fillB, wrT, T.get_set, T.get_del, T.get_e, frzArgs, mapFr, fz12_f, fz11_f, fz10_f, fz12_ag, fz11_ag, fz12_tu, roMarks, wrOk, bin_lss, bin_leq, bin_geq, bin_gtr, bin_eql, bin_neq, bin_add, bin_sub, h0, h2, h3, h4, g0, g1, n1c, n0c, n2c, hcc, wrap_i64, List.range_succ]
            all_goals omega
          · simp [c_seq, c_reg, c_ret, c_blk, c_skip, c_exit, x_nil, x_new, y_mv, y_pick, y_ld, y_bin, y_not, y_len, y_fa, y_ext, y_box, y_st, y_ia, y_mkf, y_bld, y_callp, y_call, y_callv, y_cond, y_guard, e_nil, e_mv, e_pick, e_ld, e_bin, e_eqb, e_len, e_fa, e_ia, e_bld, e_new, e_st, e_callp, e_guard, asG_b, asG_un, disj_nil, disj_cons, chkM, chkM_nn, ue_tm, ue_h, ue_c, ue_lw, ae_tm, ae_h, ae_c, ae_lw, se_tm, se_h, se_c, se_lw, oB_some, opnd_t, opnd_k, asF_f, asB_b, asFn_fn, asFn_f, asTu_tu, Option.bind_some, fnD, up_tm, up_h, up_c, up_lw, aft_tm, aft_h, aft_c, aft_lw, cal_tm, cal_h, cal_c, cal_lw, putO_some, putO_none, F.d, toIdx, iaB, faB, lenB, loadB, storeB, over, partF, partD, mapO, D.cells, fillB, wrT, T.get_set, T.get_del, T.get_e, frzArgs, mapFr, fz12_f, fz11_f, fz10_f, fz12_ag, fz11_ag, fz12_tu, roMarks, wrOk, bin_lss, bin_leq, bin_geq, bin_gtr, bin_eql, bin_neq, bin_add, bin_sub, O.res, opv, elemsOf, h0, h2, h3, h4, g0, g1]
            have hag := app_grow (byt := 48) (c := s.c + 1 + 1 + 1 + 1 + 1 + 1 + 1 + 1) (new := [[D.f (f n), D.f F.nils]]) (rd := []) gi (by simp) (Nat.zero_le _) (by simp [maxBytes]; omega) (by simp [maxBytes]; omega)
            simp at hag
            rw [hag]
            have ni1 : (1 : Nat) ≠ id := by omega
            have ni0 : (0 : Nat) ≠ id := by omega
            have ni2 : m0 = 1 → (2 : Nat) ≠ id := fun h => by have := hi3 h; omega
            simp [c_seq, c_reg, c_ret, c_blk, c_skip, c_exit, x_nil, x_new, y_mv, y_pick, y_ld, y_bin, y_not, y_len, y_fa, y_ext, y_box, y_st, y_ia, y_mkf, y_bld, y_callp, y_call, y_callv, y_cond, y_guard, e_nil, e_mv, e_pick, e_ld, e_bin, e_eqb, e_len, e_fa, e_ia, e_bld, e_new, e_st, e_callp, e_guard, asG_b, asG_un, disj_nil, disj_cons, chkM, chkM_nn, ue_tm, ue_h, ue_c, ue_lw, ae_tm, ae_h, ae_c, ae_lw, se_tm, se_h, se_c, se_lw, oB_some, opnd_t, opnd_k, asF_f, asB_b, asFn_fn, asFn_f, asTu_tu, Option.bind_some, fnD, up_tm, up_h, up_c, up_lw, aft_tm, aft_h, aft_c, aft_lw, cal_tm, cal_h, cal_c, cal_lw, putO_some, putO_none, F.d, toIdx, iaB, faB, lenB, loadB, storeB, over, partF, partD, mapO, D.cells, fillB, wrT, T.get_set, T.get_del, T.get_e, frzArgs, mapFr, fz12_f, fz11_f, fz10_f, fz12_ag, fz11_ag, fz12_tu, roMarks, wrOk, bin_lss, bin_leq, bin_geq, bin_gtr, bin_eql, bin_neq, bin_add, bin_sub, Nat.blt_eq, h0, h2, h3, h4, g0, g1, n1c, n0c, n2c, ni1, ni0]
            refine ⟨by omega, m + 1 - (n + 1), by omega, n + 1, by omega, by omega, ?_, ?_, ?_, ?_, ?_, ?_, fun _ => ?_, d, .sl (s.c + 1 + 1 + 1 + 1 + 1 + 1 + 1 + 1) 0 (n + 1) 2 (n + 1) false, ?_, hdk.keep fun hbb => ?_, .inr ⟨by simp, s.c + 1 + 1 + 1 + 1 + 1 + 1 + 1 + 1, by simp, ?_, by omega, fun _ => by omega, ?_⟩⟩
            all_goals simp [c_seq, c_reg, c_ret, c_blk, c_skip, c_exit, x_nil, x_new, y_mv, y_pick, y_ld, y_bin, y_not, y_len, y_fa, y_ext, y_box, y_st, y_ia, y_mkf, y_bld, y_callp, y_call, y_callv, y_cond, y_guard, e_nil, e_mv, e_pick, e_ld, e_bin, e_eqb, e_len, e_fa, e_ia, e_bld, e_new, e_st, e_callp, e_guard, asG_b, asG_un, disj_nil, disj_cons, chkM, chkM_nn, ue_tm, ue_h, ue_c, ue_lw, ae_tm, ae_h, ae_c, ae_lw, se_tm, se_h, se_c, se_lw, oB_some, opnd_t, opnd_k, asF_f, asB_b, asFn_fn, asFn_f, asTu_tu, Option.bind_some, fnD, up_tm, up_h, up_c, up_lw, aft_tm, aft_h, aft_c, aft_lw, cal_tm, cal_h, cal_c, cal_lw, putO_some, putO_none, F.d, toIdx, iaB, faB, lenB, loadB, storeB, over, partF, partD, mapO, D.cells, fillB, wrT, T.get_set, T.get_del, T.get_e, frzArgs, mapFr, fz12_f, fz11_f, fz10_f, fz12_ag, fz11_ag, fz12_tu, roMarks, wrOk, bin_lss, bin_leq, bin_geq, bin_gtr, bin_eql, bin_neq, bin_add, bin_sub, h0, h2, h3, h4, g0, g1, n1c, n0c, n2c, ni1, ni0, hcc, hadd1, List.range_succ]
            all_goals first | omega | exact (fun h => ni2 hbb h) | trace_state
        · have hnm : n = m + 1 := by omega
          subst hnm
          have hle : ¬ (m + 1 ≤ m) := by omega
          rcases hds with ⟨he1, rfl⟩ | ⟨he1, id, rfl, gi, hi2, hi3, hic⟩
          · simp at he1
          · have ni0 : id ≠ 0 := by omega
            simp [c_seq, c_reg, c_ret, c_blk, c_skip, c_exit, x_nil, x_new, y_mv, y_pick, y_ld, y_bin, y_not, y_len, y_fa, y_ext, y_box, y_st, y_ia, y_mkf, y_bld, y_callp, y_call, y_callv, y_cond, y_guard, e_nil, e_mv, e_pick, e_ld, e_bin, e_eqb, e_len, e_fa, e_ia, e_bld, e_new, e_st, e_callp, e_guard, asG_b, asG_un, disj_nil, disj_cons, chkM, chkM_nn, ue_tm, ue_h, ue_c, ue_lw, ae_tm, ae_h, ae_c, ae_lw, se_tm, se_h, se_c, se_lw, oB_some, opnd_t, opnd_k, asF_f, asB_b, asFn_fn, asFn_f, asTu_tu, Option.bind_some, fnD, up_tm, up_h, up_c, up_lw, aft_tm, aft_h, aft_c, aft_lw, cal_tm, cal_h, cal_c, cal_lw, putO_some, putO_none, F.d, toIdx, iaB, faB, lenB, loadB, storeB, over, partF, partD, mapO, D.cells, fillB, wrT, T.get_set, T.get_del, T.get_e, frzArgs, mapFr, fz12_f, fz11_f, fz10_f, fz12_ag, fz11_ag, fz12_tu, roMarks, wrOk, bin_lss, bin_leq, bin_geq, bin_gtr, bin_eql, bin_neq, bin_add, bin_sub, hle, h0, h2, h3, h4, g0, g1]
            refine ⟨by omega, ?_⟩
            have hrow : ∀ h, mapFrr (frz h 10) (List.take (m + 1) (List.map ((fun a => [D.f a, D.f F.nils]) ∘ f) (List.range (m + 1)))) = some (List.map ((fun a => [a, F.nils]) ∘ f) (List.range (m + 1)), []) := by
              intro h
              rw [List.take_of_length_le (by simp), ← List.map_map, rows_frz, List.map_map]
            rcases hdk with ⟨hb1, rfl⟩ | ⟨hb1, rfl, gh⟩
            · first | exact absurd hb hb1 | simp [c_seq, c_reg, c_ret, c_blk, c_skip, c_exit, x_nil, x_new, y_mv, y_pick, y_ld, y_bin, y_not, y_len, y_fa, y_ext, y_box, y_st, y_ia, y_mkf, y_bld, y_callp, y_call, y_callv, y_cond, y_guard, e_nil, e_mv, e_pick, e_ld, e_bin, e_eqb, e_len, e_fa, e_ia, e_bld, e_new, e_st, e_callp, e_guard, asG_b, asG_un, disj_nil, disj_cons, chkM, chkM_nn, ue_tm, ue_h, ue_c, ue_lw, ae_tm, ae_h, ae_c, ae_lw, se_tm, se_h, se_c, se_lw, oB_some, opnd_t, opnd_k, asF_f, asB_b, asFn_fn, asFn_f, asTu_tu, Option.bind_some, fnD, up_tm, up_h, up_c, up_lw, aft_tm, aft_h, aft_c, aft_lw, cal_tm, cal_h, cal_c, cal_lw, putO_some, putO_none, F.d, toIdx, iaB, faB, lenB, loadB, storeB, over, partF, partD, mapO, D.cells, fillB, wrT, T.get_set, T.get_del, T.get_e, frzArgs, mapFr, fz12_f, fz11_f, fz10_f, fz12_ag, fz11_ag, fz12_tu, roMarks, wrOk, bin_lss, bin_leq, bin_geq, bin_gtr, bin_eql, bin_neq, bin_add, bin_sub, endQ, endP, resD, resV, mapO, wrLow, D.isF, D.isFL, h0, h2, h3, h4, g0, g1, fz11_sl, gi, ni0, hb1, hrow, mapFrr]
            · first | exact absurd hb1 hb | simp [c_seq, c_reg, c_ret, c_blk, c_skip, c_exit, x_nil, x_new, y_mv, y_pick, y_ld, y_bin, y_not, y_len, y_fa, y_ext, y_box, y_st, y_ia, y_mkf, y_bld, y_callp, y_call, y_callv, y_cond, y_guard, e_nil, e_mv, e_pick, e_ld, e_bin, e_eqb, e_len, e_fa, e_ia, e_bld, e_new, e_st, e_callp, e_guard, asG_b, asG_un, disj_nil, disj_cons, chkM, chkM_nn, ue_tm, ue_h, ue_c, ue_lw, ae_tm, ae_h, ae_c, ae_lw, se_tm, se_h, se_c, se_lw, oB_some, opnd_t, opnd_k, asF_f, asB_b, asFn_fn, asFn_f, asTu_tu, Option.bind_some, fnD, up_tm, up_h, up_c, up_lw, aft_tm, aft_h, aft_c, aft_lw, cal_tm, cal_h, cal_c, cal_lw, putO_some, putO_none, F.d, toIdx, iaB, faB, lenB, loadB, storeB, over, partF, partD, mapO, D.cells, fillB, wrT, T.get_set, T.get_del, T.get_e, frzArgs, mapFr, fz12_f, fz11_f, fz10_f, fz12_ag, fz11_ag, fz12_tu, roMarks, wrOk, bin_lss, bin_leq, bin_geq, bin_gtr, bin_eql, bin_neq, bin_add, bin_sub, endQ, endP, resD, resV, mapO, wrLow, D.isF, D.isFL, h0, h2, h3, h4, g0, g1, fz11_sl, gi, ni0, hb1, gh, hrow, mapFrr]
  obtain ⟨hd, ds, h1, h2, h3, h4, hw⟩ := main
  exact ⟨hd, ds, h1, h2, h3, h4, ansP fn13 hw⟩
end Go.Proofs.YtoalfeglgioabaaGreat
