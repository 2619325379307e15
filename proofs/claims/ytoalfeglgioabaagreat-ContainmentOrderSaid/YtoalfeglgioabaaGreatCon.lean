/- What 'Contained' answers, over whatever list of queries: by what 'exists' answers. -/
import Derived.Test.YtoalfeglgioabaaGreatVe
import Derived.Test.YtoalfeglgioabaaGreatTab
set_option linter.all false
namespace Go.Proofs.YtoalfeglgioabaaGreat
open Go Go.Vse
set_option maxRecDepth 100000
set_option maxHeartbeats 4000000
set_option linter.unusedSimpArgs false

theorem fn41 : pr.fn 41 = some g41 := by kernel_rfl
theorem fn79 : pr.fn 79 = some g79 := by kernel_rfl
theorem fn40 : pr.fn 40 = some g40 := by kernel_rfl
theorem fn14 : pr.fn 14 = some g14 := by kernel_rfl

theorem wrap_small (n : Int) (h : 0 ≤ n) (h2 : n < 1000000) : IntKind.i64.wrap n = n := IntWalk.i64_in n (by omega)

theorem con41 {h : T Ob} {c i j : Nat} {x y ds : F} {e : Bool} (hi : h.get i = some (.arr 2 0 [[.f y, .f .nils]])) (hj : h.get j = some (.arr 2 0 [[.f .nils, .f ds]])) (hic : i < c) (hjc : j < c)
    (hans : Ans pr 42 [cqF x, cqF y, .nils] (.b e)) :
    ∃ q, (q.d = .f (.b e) ∧ q.h = h ∧ q.c = c ∧ q.lw = c) ∧ Con pr 41 [.ag [.f x, .f .nils], .ptr i 2 0 0, .ptr j 2 0 0] h c q := by
  refine con_of_wp fn41 ?_
  have hne : i ≠ c := by omega
  have hne' : j ≠ c := by omega
  unfold g41
  simp [c_seq, c_reg, c_ret, c_blk, c_skip, c_exit, x_nil, x_new, y_mv, y_pick, y_ld, y_bin, y_not, y_len, y_fa, y_ext, y_box, y_st, y_ia, y_mkf, y_bld, y_callp, y_call, y_callv, y_cond, y_guard, e_nil, e_mv, e_pick, e_ld, e_bin, e_eqb, e_len, e_fa, e_ia, e_bld, e_new, e_st, e_callp, e_guard, asG_b, asG_un, disj_nil, disj_cons, chkM, chkM_nn, ue_tm, ue_h, ue_c, ue_lw, ae_tm, ae_h, ae_c, ae_lw, se_tm, se_h, se_c, se_lw, oB_some, opnd_t, opnd_k, asF_f, asB_b, asFn_fn, asFn_f, asTu_tu, Option.bind_some, fnD, up_tm, up_h, up_c, up_lw, aft_tm, aft_h, aft_c, aft_lw, cal_tm, cal_h, cal_c, cal_lw, putO_some, putO_none, F.d, toIdx, iaB, faB, lenB, loadB, storeB, over, partF, partD, mapO, D.cells, fillB, wrT, T.get_set, T.get_del, T.get_e, frzArgs, mapFr, fz12_f, fz11_f, fz10_f, fz12_ag, fz11_ag, fz12_tu, roMarks, wrOk, bin_lss, bin_leq, bin_geq, bin_gtr, bin_eql, bin_neq, bin_add, bin_sub, st0, tmOf, hne, hne', hi, hj]
  refine ⟨_, hans, ?_⟩
  simp [c_seq, c_reg, c_ret, c_blk, c_skip, c_exit, x_nil, x_new, y_mv, y_pick, y_ld, y_bin, y_not, y_len, y_fa, y_ext, y_box, y_st, y_ia, y_mkf, y_bld, y_callp, y_call, y_callv, y_cond, y_guard, e_nil, e_mv, e_pick, e_ld, e_bin, e_eqb, e_len, e_fa, e_ia, e_bld, e_new, e_st, e_callp, e_guard, asG_b, asG_un, disj_nil, disj_cons, chkM, chkM_nn, ue_tm, ue_h, ue_c, ue_lw, ae_tm, ae_h, ae_c, ae_lw, se_tm, se_h, se_c, se_lw, oB_some, opnd_t, opnd_k, asF_f, asB_b, asFn_fn, asFn_f, asTu_tu, Option.bind_some, fnD, up_tm, up_h, up_c, up_lw, aft_tm, aft_h, aft_c, aft_lw, cal_tm, cal_h, cal_c, cal_lw, putO_some, putO_none, F.d, toIdx, iaB, faB, lenB, loadB, storeB, over, partF, partD, mapO, D.cells, fillB, wrT, T.get_set, T.get_del, T.get_e, frzArgs, mapFr, fz12_f, fz11_f, fz10_f, fz12_ag, fz11_ag, fz12_tu, roMarks, wrOk, bin_lss, bin_leq, bin_geq, bin_gtr, bin_eql, bin_neq, bin_add, bin_sub, endQ, endP, resD, resV, mapO, wrLow, D.isF, D.isFL]

/-- the first of a list for which the test holds -/
theorem con79 {h : T Ob} {c i j : Nat} {y ds : F} (hi : h.get i = some (.arr 2 0 [[.f y, .f .nils]])) (hj : h.get j = some (.arr 2 0 [[.f .nils, .f ds]])) (hic : i < c) (hjc : j < c)
    {xs : List F} {E : F → Bool} (hE : ∀ x ∈ xs, Ans pr 42 [cqF x, cqF y, .nils] (.b (E x))) (hlen : xs.length < 1000) :
    ∃ q, ((∃ n : Int, q.d = .f (.i .i64 n) ∧ (0 ≤ n ↔ xs.any E = true)) ∧ q.h = h ∧ q.c = c ∧ q.lw = c) ∧ Con pr 79 [.f (.sl 2 (xs.map fun x => [x, .nils])), .fn 41 [] [.ptr i 2 0 0, .ptr j 2 0 0]] h c q := by
  refine con_of_wp fn79 ?_
  unfold g79
  simp [c_seq, c_reg, c_ret, c_blk, c_skip, c_exit, x_nil, x_new, y_mv, y_pick, y_ld, y_bin, y_not, y_len, y_fa, y_ext, y_box, y_st, y_ia, y_mkf, y_bld, y_callp, y_call, y_callv, y_cond, y_guard, e_nil, e_mv, e_pick, e_ld, e_bin, e_eqb, e_len, e_fa, e_ia, e_bld, e_new, e_st, e_callp, e_guard, asG_b, asG_un, disj_nil, disj_cons, chkM, chkM_nn, ue_tm, ue_h, ue_c, ue_lw, ae_tm, ae_h, ae_c, ae_lw, se_tm, se_h, se_c, se_lw, oB_some, opnd_t, opnd_k, asF_f, asB_b, asFn_fn, asFn_f, asTu_tu, Option.bind_some, fnD, up_tm, up_h, up_c, up_lw, aft_tm, aft_h, aft_c, aft_lw, cal_tm, cal_h, cal_c, cal_lw, putO_some, putO_none, F.d, toIdx, iaB, faB, lenB, loadB, storeB, over, partF, partD, mapO, D.cells, fillB, wrT, T.get_set, T.get_del, T.get_e, frzArgs, mapFr, fz12_f, fz11_f, fz10_f, fz12_ag, fz11_ag, fz12_tu, roMarks, wrOk, bin_lss, bin_leq, bin_geq, bin_gtr, bin_eql, bin_neq, bin_add, bin_sub, st0, tmOf]
  refine wpLoop (fun k s => ∃ n, n ≤ xs.length ∧ k = xs.length - n ∧ s.tm.get 0 = some (.f (.sl 2 (xs.map fun x => [x, .nils]))) ∧ s.tm.get 1 = some (.fn 41 [] [.ptr i 2 0 0, .ptr j 2 0 0]) ∧
    s.tm.get 7 = some (.f (.i .i64 xs.length)) ∧ s.tm.get 8 = some (.f (.i .i64 n)) ∧ s.h = h ∧ s.c = c ∧ s.lw = c ∧ ∀ x ∈ xs.take n, E x = false) ?_ xs.length _ ⟨0, ?_⟩
  · rintro k s ⟨n, hn, rfl, h0, h1, h7, h8, hh, hc, hlw, hE0⟩
    simp [c_seq, c_reg, c_ret, c_blk, c_skip, c_exit, x_nil, x_new, y_mv, y_pick, y_ld, y_bin, y_not, y_len, y_fa, y_ext, y_box, y_st, y_ia, y_mkf, y_bld, y_callp, y_call, y_callv, y_cond, y_guard, e_nil, e_mv, e_pick, e_ld, e_bin, e_eqb, e_len, e_fa, e_ia, e_bld, e_new, e_st, e_callp, e_guard, asG_b, asG_un, disj_nil, disj_cons, chkM, chkM_nn, ue_tm, ue_h, ue_c, ue_lw, ae_tm, ae_h, ae_c, ae_lw, se_tm, se_h, se_c, se_lw, oB_some, opnd_t, opnd_k, asF_f, asB_b, asFn_fn, asFn_f, asTu_tu, Option.bind_some, fnD, up_tm, up_h, up_c, up_lw, aft_tm, aft_h, aft_c, aft_lw, cal_tm, cal_h, cal_c, cal_lw, putO_some, putO_none, F.d, toIdx, iaB, faB, lenB, loadB, storeB, over, partF, partD, mapO, D.cells, fillB, wrT, T.get_set, T.get_del, T.get_e, frzArgs, mapFr, fz12_f, fz11_f, fz10_f, fz12_ag, fz11_ag, fz12_tu, roMarks, wrOk, bin_lss, bin_leq, bin_geq, bin_gtr, bin_eql, bin_neq, bin_add, bin_sub, h0, h1, h7, h8, hh, hc, hlw]
    by_cases hlt : n < xs.length
    · have hx : xs[n]? = some xs[n] := List.getElem?_eq_getElem hlt
      simp [c_seq, c_reg, c_ret, c_blk, c_skip, c_exit, x_nil, x_new, y_mv, y_pick, y_ld, y_bin, y_not, y_len, y_fa, y_ext, y_box, y_st, y_ia, y_mkf, y_bld, y_callp, y_call, y_callv, y_cond, y_guard, e_nil, e_mv, e_pick, e_ld, e_bin, e_eqb, e_len, e_fa, e_ia, e_bld, e_new, e_st, e_callp, e_guard, asG_b, asG_un, disj_nil, disj_cons, chkM, chkM_nn, ue_tm, ue_h, ue_c, ue_lw, ae_tm, ae_h, ae_c, ae_lw, se_tm, se_h, se_c, se_lw, oB_some, opnd_t, opnd_k, asF_f, asB_b, asFn_fn, asFn_f, asTu_tu, Option.bind_some, fnD, up_tm, up_h, up_c, up_lw, aft_tm, aft_h, aft_c, aft_lw, cal_tm, cal_h, cal_c, cal_lw, putO_some, putO_none, F.d, toIdx, iaB, faB, lenB, loadB, storeB, over, partF, partD, mapO, D.cells, fillB, wrT, T.get_set, T.get_del, T.get_e, frzArgs, mapFr, fz12_f, fz11_f, fz10_f, fz12_ag, fz11_ag, fz12_tu, roMarks, wrOk, bin_lss, bin_leq, bin_geq, bin_gtr, bin_eql, bin_neq, bin_add, bin_sub, hlt, h0, h1, h7, h8, hh, hc, hlw]
      obtain ⟨q, ⟨q1, q2, q3, q4⟩, hq⟩ := con41 (x := xs[n]) (e := E xs[n]) hi hj hic hjc (hE _ (List.getElem_mem hlt))
      refine ⟨q, hq, ?_⟩
      cases hb : E xs[n] with
      | true =>
        simp [c_seq, c_reg, c_ret, c_blk, c_skip, c_exit, x_nil, x_new, y_mv, y_pick, y_ld, y_bin, y_not, y_len, y_fa, y_ext, y_box, y_st, y_ia, y_mkf, y_bld, y_callp, y_call, y_callv, y_cond, y_guard, e_nil, e_mv, e_pick, e_ld, e_bin, e_eqb, e_len, e_fa, e_ia, e_bld, e_new, e_st, e_callp, e_guard, asG_b, asG_un, disj_nil, disj_cons, chkM, chkM_nn, ue_tm, ue_h, ue_c, ue_lw, ae_tm, ae_h, ae_c, ae_lw, se_tm, se_h, se_c, se_lw, oB_some, opnd_t, opnd_k, asF_f, asB_b, asFn_fn, asFn_f, asTu_tu, Option.bind_some, fnD, up_tm, up_h, up_c, up_lw, aft_tm, aft_h, aft_c, aft_lw, cal_tm, cal_h, cal_c, cal_lw, putO_some, putO_none, F.d, toIdx, iaB, faB, lenB, loadB, storeB, over, partF, partD, mapO, D.cells, fillB, wrT, T.get_set, T.get_del, T.get_e, frzArgs, mapFr, fz12_f, fz11_f, fz10_f, fz12_ag, fz11_ag, fz12_tu, roMarks, wrOk, bin_lss, bin_leq, bin_geq, bin_gtr, bin_eql, bin_neq, bin_add, bin_sub, endQ, endP, resD, resV, mapO, wrLow, D.isF, D.isFL, h0, h1, h7, h8, hh, hc, hlw, q1, q2, q3, q4, hb]
        exact ⟨xs[n], List.getElem_mem hlt, hb⟩
      | false =>
        simp [c_seq, c_reg, c_ret, c_blk, c_skip, c_exit, x_nil, x_new, y_mv, y_pick, y_ld, y_bin, y_not, y_len, y_fa, y_ext, y_box, y_st, y_ia, y_mkf, y_bld, y_callp, y_call, y_callv, y_cond, y_guard, e_nil, e_mv, e_pick, e_ld, e_bin, e_eqb, e_len, e_fa, e_ia, e_bld, e_new, e_st, e_callp, e_guard, asG_b, asG_un, disj_nil, disj_cons, chkM, chkM_nn, ue_tm, ue_h, ue_c, ue_lw, ae_tm, ae_h, ae_c, ae_lw, se_tm, se_h, se_c, se_lw, oB_some, opnd_t, opnd_k, asF_f, asB_b, asFn_fn, asFn_f, asTu_tu, Option.bind_some, fnD, up_tm, up_h, up_c, up_lw, aft_tm, aft_h, aft_c, aft_lw, cal_tm, cal_h, cal_c, cal_lw, putO_some, putO_none, F.d, toIdx, iaB, faB, lenB, loadB, storeB, over, partF, partD, mapO, D.cells, fillB, wrT, T.get_set, T.get_del, T.get_e, frzArgs, mapFr, fz12_f, fz11_f, fz10_f, fz12_ag, fz11_ag, fz12_tu, roMarks, wrOk, bin_lss, bin_leq, bin_geq, bin_gtr, bin_eql, bin_neq, bin_add, bin_sub, h0, h1, h7, h8, hh, hc, hlw, q1, q2, q3, q4, hb]
        refine ⟨xs.length - (n + 1), by omega, n + 1, by omega, rfl, ?_, ?_⟩
        · rw [wrap_small _ (by omega) (by omega)]; rfl
        · intro x hx'
          rw [List.take_add_one, hx] at hx'
          rcases List.mem_append.1 hx' with h' | h'
          · exact hE0 x h'
          · simp at h'; subst h'; exact hb
    · have hnl : n = xs.length := by omega
      subst hnl
      simp [c_seq, c_reg, c_ret, c_blk, c_skip, c_exit, x_nil, x_new, y_mv, y_pick, y_ld, y_bin, y_not, y_len, y_fa, y_ext, y_box, y_st, y_ia, y_mkf, y_bld, y_callp, y_call, y_callv, y_cond, y_guard, e_nil, e_mv, e_pick, e_ld, e_bin, e_eqb, e_len, e_fa, e_ia, e_bld, e_new, e_st, e_callp, e_guard, asG_b, asG_un, disj_nil, disj_cons, chkM, chkM_nn, ue_tm, ue_h, ue_c, ue_lw, ae_tm, ae_h, ae_c, ae_lw, se_tm, se_h, se_c, se_lw, oB_some, opnd_t, opnd_k, asF_f, asB_b, asFn_fn, asFn_f, asTu_tu, Option.bind_some, fnD, up_tm, up_h, up_c, up_lw, aft_tm, aft_h, aft_c, aft_lw, cal_tm, cal_h, cal_c, cal_lw, putO_some, putO_none, F.d, toIdx, iaB, faB, lenB, loadB, storeB, over, partF, partD, mapO, D.cells, fillB, wrT, T.get_set, T.get_del, T.get_e, frzArgs, mapFr, fz12_f, fz11_f, fz10_f, fz12_ag, fz11_ag, fz12_tu, roMarks, wrOk, bin_lss, bin_leq, bin_geq, bin_gtr, bin_eql, bin_neq, bin_add, bin_sub, endQ, endP, resD, resV, mapO, wrLow, D.isF, D.isFL, h0, h1, h7, h8, hh, hc, hlw]
      intro x hx
      exact hE0 x (by simpa using hx)
  · refine ⟨Nat.zero_le _, rfl, ?_⟩
    simp [c_seq, c_reg, c_ret, c_blk, c_skip, c_exit, x_nil, x_new, y_mv, y_pick, y_ld, y_bin, y_not, y_len, y_fa, y_ext, y_box, y_st, y_ia, y_mkf, y_bld, y_callp, y_call, y_callv, y_cond, y_guard, e_nil, e_mv, e_pick, e_ld, e_bin, e_eqb, e_len, e_fa, e_ia, e_bld, e_new, e_st, e_callp, e_guard, asG_b, asG_un, disj_nil, disj_cons, chkM, chkM_nn, ue_tm, ue_h, ue_c, ue_lw, ae_tm, ae_h, ae_c, ae_lw, se_tm, se_h, se_c, se_lw, oB_some, opnd_t, opnd_k, asF_f, asB_b, asFn_fn, asFn_f, asTu_tu, Option.bind_some, fnD, up_tm, up_h, up_c, up_lw, aft_tm, aft_h, aft_c, aft_lw, cal_tm, cal_h, cal_c, cal_lw, putO_some, putO_none, F.d, toIdx, iaB, faB, lenB, loadB, storeB, over, partF, partD, mapO, D.cells, fillB, wrT, T.get_set, T.get_del, T.get_e, frzArgs, mapFr, fz12_f, fz11_f, fz10_f, fz12_ag, fz11_ag, fz12_tu, roMarks, wrOk, bin_lss, bin_leq, bin_geq, bin_gtr, bin_eql, bin_neq, bin_add, bin_sub]

theorem con40 {h : T Ob} {c i j : Nat} {y ds : F} (hi : h.get i = some (.arr 2 0 [[.f y, .f .nils]])) (hj : h.get j = some (.arr 2 0 [[.f .nils, .f ds]])) (hic : i < c) (hjc : j < c)
    {xs : List F} {E : F → Bool} (hE : ∀ x ∈ xs, Ans pr 42 [cqF x, cqF y, .nils] (.b (E x))) (hlen : xs.length < 1000) :
    ∃ q, (q.d = .f (.b (xs.any E)) ∧ q.h = h ∧ q.c = c ∧ q.lw = c) ∧ Con pr 40 [.f (.sl 2 (xs.map fun x => [x, .nils])), .fn 41 [] [.ptr i 2 0 0, .ptr j 2 0 0]] h c q := by
  refine con_of_wp fn40 ?_
  unfold g40
  simp [c_seq, c_reg, c_ret, c_blk, c_skip, c_exit, x_nil, x_new, y_mv, y_pick, y_ld, y_bin, y_not, y_len, y_fa, y_ext, y_box, y_st, y_ia, y_mkf, y_bld, y_callp, y_call, y_callv, y_cond, y_guard, e_nil, e_mv, e_pick, e_ld, e_bin, e_eqb, e_len, e_fa, e_ia, e_bld, e_new, e_st, e_callp, e_guard, asG_b, asG_un, disj_nil, disj_cons, chkM, chkM_nn, ue_tm, ue_h, ue_c, ue_lw, ae_tm, ae_h, ae_c, ae_lw, se_tm, se_h, se_c, se_lw, oB_some, opnd_t, opnd_k, asF_f, asB_b, asFn_fn, asFn_f, asTu_tu, Option.bind_some, fnD, up_tm, up_h, up_c, up_lw, aft_tm, aft_h, aft_c, aft_lw, cal_tm, cal_h, cal_c, cal_lw, putO_some, putO_none, F.d, toIdx, iaB, faB, lenB, loadB, storeB, over, partF, partD, mapO, D.cells, fillB, wrT, T.get_set, T.get_del, T.get_e, frzArgs, mapFr, fz12_f, fz11_f, fz10_f, fz12_ag, fz11_ag, fz12_tu, roMarks, wrOk, bin_lss, bin_leq, bin_geq, bin_gtr, bin_eql, bin_neq, bin_add, bin_sub, st0, tmOf]
  obtain ⟨q, ⟨⟨n, q1, hn⟩, q2, q3, q4⟩, hq⟩ := con79 hi hj hic hjc hE hlen
  refine ⟨q, hq, ?_⟩
  have hd : decide (0 ≤ n) = xs.any E := by
    cases ha : xs.any E with
    | true => exact decide_eq_true (hn.2 ha)
    | false => exact decide_eq_false fun hx => by rw [hn.1 hx] at ha; cases ha
  simp [c_seq, c_reg, c_ret, c_blk, c_skip, c_exit, x_nil, x_new, y_mv, y_pick, y_ld, y_bin, y_not, y_len, y_fa, y_ext, y_box, y_st, y_ia, y_mkf, y_bld, y_callp, y_call, y_callv, y_cond, y_guard, e_nil, e_mv, e_pick, e_ld, e_bin, e_eqb, e_len, e_fa, e_ia, e_bld, e_new, e_st, e_callp, e_guard, asG_b, asG_un, disj_nil, disj_cons, chkM, chkM_nn, ue_tm, ue_h, ue_c, ue_lw, ae_tm, ae_h, ae_c, ae_lw, se_tm, se_h, se_c, se_lw, oB_some, opnd_t, opnd_k, asF_f, asB_b, asFn_fn, asFn_f, asTu_tu, Option.bind_some, fnD, up_tm, up_h, up_c, up_lw, aft_tm, aft_h, aft_c, aft_lw, cal_tm, cal_h, cal_c, cal_lw, putO_some, putO_none, F.d, toIdx, iaB, faB, lenB, loadB, storeB, over, partF, partD, mapO, D.cells, fillB, wrT, T.get_set, T.get_del, T.get_e, frzArgs, mapFr, fz12_f, fz11_f, fz10_f, fz12_ag, fz11_ag, fz12_tu, roMarks, wrOk, bin_lss, bin_leq, bin_geq, bin_gtr, bin_eql, bin_neq, bin_add, bin_sub, endQ, endP, resD, resV, mapO, wrLow, D.isF, D.isFL, q1, q2, q3, q4, hd]

theorem eq_nil : Ans pr 39 [.nils, .nils] (.b true) := runP_ans (n := 100) (orc0_ok pr) (by kernel_rfl)

/-- 'Contained', of queries without a head -/
theorem ans14 {ps qs : List F} {E : F → F → Bool} (hE : ∀ x ∈ qs, ∀ y ∈ ps, Ans pr 42 [cqF x, cqF y, .nils] (.b (E x y))) (hp : ps.length < 1000) (hq : qs.length < 1000) :
    Ans pr 14 [.ag [.nils, .sl 2 (ps.map fun x => [x, .nils])], .ag [.nils, .sl 2 (qs.map fun x => [x, .nils])]] (.b (ps.all fun y => qs.any fun x => E x y)) := by
  refine ansP fn14 ?_
  unfold g14
  simp [c_seq, c_reg, c_ret, c_blk, c_skip, c_exit, x_nil, x_new, y_mv, y_pick, y_ld, y_bin, y_not, y_len, y_fa, y_ext, y_box, y_st, y_ia, y_mkf, y_bld, y_callp, y_call, y_callv, y_cond, y_guard, e_nil, e_mv, e_pick, e_ld, e_bin, e_eqb, e_len, e_fa, e_ia, e_bld, e_new, e_st, e_callp, e_guard, asG_b, asG_un, disj_nil, disj_cons, chkM, chkM_nn, ue_tm, ue_h, ue_c, ue_lw, ae_tm, ae_h, ae_c, ae_lw, se_tm, se_h, se_c, se_lw, oB_some, opnd_t, opnd_k, asF_f, asB_b, asFn_fn, asFn_f, asTu_tu, Option.bind_some, fnD, up_tm, up_h, up_c, up_lw, aft_tm, aft_h, aft_c, aft_lw, cal_tm, cal_h, cal_c, cal_lw, putO_some, putO_none, F.d, toIdx, iaB, faB, lenB, loadB, storeB, over, partF, partD, mapO, D.cells, fillB, wrT, T.get_set, T.get_del, T.get_e, frzArgs, mapFr, fz12_f, fz11_f, fz10_f, fz12_ag, fz11_ag, fz12_tu, roMarks, wrOk, bin_lss, bin_leq, bin_geq, bin_gtr, bin_eql, bin_neq, bin_add, bin_sub, st0, tmOf, F.dL]
  refine ⟨_, eq_nil, ?_⟩
  simp [c_seq, c_reg, c_ret, c_blk, c_skip, c_exit, x_nil, x_new, y_mv, y_pick, y_ld, y_bin, y_not, y_len, y_fa, y_ext, y_box, y_st, y_ia, y_mkf, y_bld, y_callp, y_call, y_callv, y_cond, y_guard, e_nil, e_mv, e_pick, e_ld, e_bin, e_eqb, e_len, e_fa, e_ia, e_bld, e_new, e_st, e_callp, e_guard, asG_b, asG_un, disj_nil, disj_cons, chkM, chkM_nn, ue_tm, ue_h, ue_c, ue_lw, ae_tm, ae_h, ae_c, ae_lw, se_tm, se_h, se_c, se_lw, oB_some, opnd_t, opnd_k, asF_f, asB_b, asFn_fn, asFn_f, asTu_tu, Option.bind_some, fnD, up_tm, up_h, up_c, up_lw, aft_tm, aft_h, aft_c, aft_lw, cal_tm, cal_h, cal_c, cal_lw, putO_some, putO_none, F.d, toIdx, iaB, faB, lenB, loadB, storeB, over, partF, partD, mapO, D.cells, fillB, wrT, T.get_set, T.get_del, T.get_e, frzArgs, mapFr, fz12_f, fz11_f, fz10_f, fz12_ag, fz11_ag, fz12_tu, roMarks, wrOk, bin_lss, bin_leq, bin_geq, bin_gtr, bin_eql, bin_neq, bin_add, bin_sub]
  refine wpLoop (fun k s => ∃ n, n ≤ ps.length ∧ k = ps.length - n ∧ s.tm.get 2 = some (.ptr 0 2 0 0) ∧ s.tm.get 3 = some (.ptr 1 2 0 0) ∧ s.tm.get 14 = some (.f (.sl 2 (ps.map fun x => [x, .nils]))) ∧
    s.tm.get 15 = some (.f (.i .i64 ps.length)) ∧ s.tm.get 16 = some (.f (.i .i64 n)) ∧ s.h.get 0 = some (.arr 2 0 [[.f .nils, .f (.sl 2 (ps.map fun x => [x, .nils]))]]) ∧
    s.h.get 1 = some (.arr 2 0 [[.f .nils, .f (.sl 2 (qs.map fun x => [x, .nils]))]]) ∧ 2 ≤ s.c ∧ ∀ y ∈ ps.take n, (qs.any fun x => E x y) = true) ?_ ps.length _ ⟨0, ?_⟩
  · rintro k s ⟨n, hn, rfl, h2, h3, h14, h15, h16, g0, g1, hc, hA⟩
    simp [c_seq, c_reg, c_ret, c_blk, c_skip, c_exit, x_nil, x_new, y_mv, y_pick, y_ld, y_bin, y_not, y_len, y_fa, y_ext, y_box, y_st, y_ia, y_mkf, y_bld, y_callp, y_call, y_callv, y_cond, y_guard, e_nil, e_mv, e_pick, e_ld, e_bin, e_eqb, e_len, e_fa, e_ia, e_bld, e_new, e_st, e_callp, e_guard, asG_b, asG_un, disj_nil, disj_cons, chkM, chkM_nn, ue_tm, ue_h, ue_c, ue_lw, ae_tm, ae_h, ae_c, ae_lw, se_tm, se_h, se_c, se_lw, oB_some, opnd_t, opnd_k, asF_f, asB_b, asFn_fn, asFn_f, asTu_tu, Option.bind_some, fnD, up_tm, up_h, up_c, up_lw, aft_tm, aft_h, aft_c, aft_lw, cal_tm, cal_h, cal_c, cal_lw, putO_some, putO_none, F.d, toIdx, iaB, faB, lenB, loadB, storeB, over, partF, partD, mapO, D.cells, fillB, wrT, T.get_set, T.get_del, T.get_e, frzArgs, mapFr, fz12_f, fz11_f, fz10_f, fz12_ag, fz11_ag, fz12_tu, roMarks, wrOk, bin_lss, bin_leq, bin_geq, bin_gtr, bin_eql, bin_neq, bin_add, bin_sub, h2, h3, h14, h15, h16, g0, g1]
    by_cases hlt : n < ps.length
    · have hx : ps[n]? = some ps[n] := List.getElem?_eq_getElem hlt
      have n0 : (0 : Nat) ≠ s.c := by omega
      have n1 : (1 : Nat) ≠ s.c := by omega
      simp [c_seq, c_reg, c_ret, c_blk, c_skip, c_exit, x_nil, x_new, y_mv, y_pick, y_ld, y_bin, y_not, y_len, y_fa, y_ext, y_box, y_st, y_ia, y_mkf, y_bld, y_callp, y_call, y_callv, y_cond, y_guard, e_nil, e_mv, e_pick, e_ld, e_bin, e_eqb, e_len, e_fa, e_ia, e_bld, e_new, e_st, e_callp, e_guard, asG_b, asG_un, disj_nil, disj_cons, chkM, chkM_nn, ue_tm, ue_h, ue_c, ue_lw, ae_tm, ae_h, ae_c, ae_lw, se_tm, se_h, se_c, se_lw, oB_some, opnd_t, opnd_k, asF_f, asB_b, asFn_fn, asFn_f, asTu_tu, Option.bind_some, fnD, up_tm, up_h, up_c, up_lw, aft_tm, aft_h, aft_c, aft_lw, cal_tm, cal_h, cal_c, cal_lw, putO_some, putO_none, F.d, toIdx, iaB, faB, lenB, loadB, storeB, over, partF, partD, mapO, D.cells, fillB, wrT, T.get_set, T.get_del, T.get_e, frzArgs, mapFr, fz12_f, fz11_f, fz10_f, fz12_ag, fz11_ag, fz12_tu, roMarks, wrOk, bin_lss, bin_leq, bin_geq, bin_gtr, bin_eql, bin_neq, bin_add, bin_sub, hlt, h2, h3, h14, h15, h16, g0, g1, n0, n1]
      obtain ⟨q, ⟨q1, q2, q3, q4⟩, hq'⟩ := con40 (h := (s.h.set s.c (.arr 2 0 [[.f .nils, .f .nils]])).set s.c (.arr 2 0 [[.f ps[n], .f .nils]])) (c := s.c + 1) (i := s.c) (j := 0) (y := ps[n]) (ds := .sl 2 (ps.map fun x => [x, .nils]))
        (by simp [T.get_set]) (by simp [T.get_set, n0, g0]) (by omega) (by omega) (xs := qs) (E := fun x => E x ps[n]) (fun x hx => hE x hx _ (List.getElem_mem hlt)) hq
      refine ⟨q, hq', ?_⟩
      cases hb : qs.any fun x => E x ps[n] with
      | true =>
        rw [hb] at q1
        simp [c_seq, c_reg, c_ret, c_blk, c_skip, c_exit, x_nil, x_new, y_mv, y_pick, y_ld, y_bin, y_not, y_len, y_fa, y_ext, y_box, y_st, y_ia, y_mkf, y_bld, y_callp, y_call, y_callv, y_cond, y_guard, e_nil, e_mv, e_pick, e_ld, e_bin, e_eqb, e_len, e_fa, e_ia, e_bld, e_new, e_st, e_callp, e_guard, asG_b, asG_un, disj_nil, disj_cons, chkM, chkM_nn, ue_tm, ue_h, ue_c, ue_lw, ae_tm, ae_h, ae_c, ae_lw, se_tm, se_h, se_c, se_lw, oB_some, opnd_t, opnd_k, asF_f, asB_b, asFn_fn, asFn_f, asTu_tu, Option.bind_some, fnD, up_tm, up_h, up_c, up_lw, aft_tm, aft_h, aft_c, aft_lw, cal_tm, cal_h, cal_c, cal_lw, putO_some, putO_none, F.d, toIdx, iaB, faB, lenB, loadB, storeB, over, partF, partD, mapO, D.cells, fillB, wrT, T.get_set, T.get_del, T.get_e, frzArgs, mapFr, fz12_f, fz11_f, fz10_f, fz12_ag, fz11_ag, fz12_tu, roMarks, wrOk, bin_lss, bin_leq, bin_geq, bin_gtr, bin_eql, bin_neq, bin_add, bin_sub, h2, h3, h14, h15, h16, g0, g1, n0, n1, q1, q2, q3, q4]
        refine ⟨ps.length - (n + 1), by omega, n + 1, by omega, rfl, ?_, by omega, ?_⟩
        · rw [wrap_small _ (by omega) (by omega)]; rfl
        · intro y hy
          rw [List.take_add_one, hx] at hy
          rcases List.mem_append.1 hy with h' | h'
          · simpa using hA y h'
          · simp at h'; subst h'; simpa using hb
      | false =>
        rw [hb] at q1
        have hall : (ps.all fun y => qs.any fun x => E x y) = false := by
          rw [List.all_eq_false]
          exact ⟨ps[n], List.getElem_mem hlt, by simp [hb]⟩
        simp only [hall]
        simp [c_seq, c_reg, c_ret, c_blk, c_skip, c_exit, x_nil, x_new, y_mv, y_pick, y_ld, y_bin, y_not, y_len, y_fa, y_ext, y_box, y_st, y_ia, y_mkf, y_bld, y_callp, y_call, y_callv, y_cond, y_guard, e_nil, e_mv, e_pick, e_ld, e_bin, e_eqb, e_len, e_fa, e_ia, e_bld, e_new, e_st, e_callp, e_guard, asG_b, asG_un, disj_nil, disj_cons, chkM, chkM_nn, ue_tm, ue_h, ue_c, ue_lw, ae_tm, ae_h, ae_c, ae_lw, se_tm, se_h, se_c, se_lw, oB_some, opnd_t, opnd_k, asF_f, asB_b, asFn_fn, asFn_f, asTu_tu, Option.bind_some, fnD, up_tm, up_h, up_c, up_lw, aft_tm, aft_h, aft_c, aft_lw, cal_tm, cal_h, cal_c, cal_lw, putO_some, putO_none, F.d, toIdx, iaB, faB, lenB, loadB, storeB, over, partF, partD, mapO, D.cells, fillB, wrT, T.get_set, T.get_del, T.get_e, frzArgs, mapFr, fz12_f, fz11_f, fz10_f, fz12_ag, fz11_ag, fz12_tu, roMarks, wrOk, bin_lss, bin_leq, bin_geq, bin_gtr, bin_eql, bin_neq, bin_add, bin_sub, endQ, endP, resD, resV, mapO, wrLow, D.isF, D.isFL, h2, h3, h14, h15, h16, g0, g1, n0, n1, q1, q2, q3, q4]
    · have hnl : n = ps.length := by omega
      subst hnl
      have hall : (ps.all fun y => qs.any fun x => E x y) = true := by
        rw [List.all_eq_true]
        intro y hy
        exact hA y (by simpa using hy)
      simp only [hall]
      simp [c_seq, c_reg, c_ret, c_blk, c_skip, c_exit, x_nil, x_new, y_mv, y_pick, y_ld, y_bin, y_not, y_len, y_fa, y_ext, y_box, y_st, y_ia, y_mkf, y_bld, y_callp, y_call, y_callv, y_cond, y_guard, e_nil, e_mv, e_pick, e_ld, e_bin, e_eqb, e_len, e_fa, e_ia, e_bld, e_new, e_st, e_callp, e_guard, asG_b, asG_un, disj_nil, disj_cons, chkM, chkM_nn, ue_tm, ue_h, ue_c, ue_lw, ae_tm, ae_h, ae_c, ae_lw, se_tm, se_h, se_c, se_lw, oB_some, opnd_t, opnd_k, asF_f, asB_b, asFn_fn, asFn_f, asTu_tu, Option.bind_some, fnD, up_tm, up_h, up_c, up_lw, aft_tm, aft_h, aft_c, aft_lw, cal_tm, cal_h, cal_c, cal_lw, putO_some, putO_none, F.d, toIdx, iaB, faB, lenB, loadB, storeB, over, partF, partD, mapO, D.cells, fillB, wrT, T.get_set, T.get_del, T.get_e, frzArgs, mapFr, fz12_f, fz11_f, fz10_f, fz12_ag, fz11_ag, fz12_tu, roMarks, wrOk, bin_lss, bin_leq, bin_geq, bin_gtr, bin_eql, bin_neq, bin_add, bin_sub, endQ, endP, resD, resV, mapO, wrLow, D.isF, D.isFL, h2, h3, h14, h15, h16, g0, g1]
  · refine ⟨Nat.zero_le _, rfl, ?_⟩
    simp [c_seq, c_reg, c_ret, c_blk, c_skip, c_exit, x_nil, x_new, y_mv, y_pick, y_ld, y_bin, y_not, y_len, y_fa, y_ext, y_box, y_st, y_ia, y_mkf, y_bld, y_callp, y_call, y_callv, y_cond, y_guard, e_nil, e_mv, e_pick, e_ld, e_bin, e_eqb, e_len, e_fa, e_ia, e_bld, e_new, e_st, e_callp, e_guard, asG_b, asG_un, disj_nil, disj_cons, chkM, chkM_nn, ue_tm, ue_h, ue_c, ue_lw, ae_tm, ae_h, ae_c, ae_lw, se_tm, se_h, se_c, se_lw, oB_some, opnd_t, opnd_k, asF_f, asB_b, asFn_fn, asFn_f, asTu_tu, Option.bind_some, fnD, up_tm, up_h, up_c, up_lw, aft_tm, aft_h, aft_c, aft_lw, cal_tm, cal_h, cal_c, cal_lw, putO_some, putO_none, F.d, toIdx, iaB, faB, lenB, loadB, storeB, over, partF, partD, mapO, D.cells, fillB, wrT, T.get_set, T.get_del, T.get_e, frzArgs, mapFr, fz12_f, fz11_f, fz10_f, fz12_ag, fz11_ag, fz12_tu, roMarks, wrOk, bin_lss, bin_leq, bin_geq, bin_gtr, bin_eql, bin_neq, bin_add, bin_sub]
end Go.Proofs.YtoalfeglgioabaaGreat
