/- What the builders of queries answer: 'At', 'Positive'. -/
import Derived.Test.YtoalfeglgioabaaGreatVe
import Derived.Test.YtoalfeglgioabaaGreatRead0
import Derived.Test.YtoalfeglgioabaaGreatRead1
import Derived.Test.YtoalfeglgioabaaGreatRead2
import Derived.Test.YtoalfeglgioabaaGreatRead3
set_option linter.all false
namespace Go.Proofs.YtoalfeglgioabaaGreat
open Go Go.Vse
set_option maxRecDepth 100000
set_option maxHeartbeats 4000000
set_option linter.unusedSimpArgs false

theorem fn37 : pr.fn 37 = some g37 := by kernel_rfl
theorem fn38 : pr.fn 38 = some g38 := by kernel_rfl

theorem wrap_i64 (n : Int) (h : 0 ≤ n) (h2 : n < 9223372036854775808) : IntKind.i64.wrap n = n := IntWalk.i64_in n (by omega)

theorem and_mask (a : Int) (m : Nat) (hm : m < 2147483648) : ∃ r : Nat, r ≤ m ∧ binF .and (.i .i64 a) (.i .i64 m) = some (.i .i64 r) := by
  refine ⟨(BitVec.ofInt 64 a &&& BitVec.ofInt 64 m).toNat, ?_, ?_⟩
  · rw [BitVec.toNat_and]
    refine Nat.le_trans Nat.and_le_right ?_
    rw [BitVec.toNat_ofInt]
    omega
  · have hle : (BitVec.ofInt 64 a &&& BitVec.ofInt 64 m).toNat ≤ m := by
      rw [BitVec.toNat_and]
      refine Nat.le_trans Nat.and_le_right ?_
      rw [BitVec.toNat_ofInt]
      omega
    have e : binF .and (.i .i64 a) (.i .i64 m) = some (.i .i64 (IntKind.i64.wrap ((BitVec.ofInt 64 a &&& BitVec.ofInt 64 m).toNat : Int))) := rfl
    rw [e, wrap_i64 _ (by omega) (by omega)]

theorem shr_any (a : Int) : ∃ r : Int, binF .shr (.i .i64 a) (.i .u64 6) = some (.i .i64 r) := ⟨_, rfl⟩

/-- a slice of integers that came in -/
def isInts (x : F) : Prop := x = .nils ∨ ∃ zs : List Int, x = .sl 1 (zs.map fun z => [.i .i64 z])

theorem ans37 {x : F} (hx : isInts x) (i : Nat) (hi : i < 1000) : ∃ n : Nat, n < 100000 ∧ Ans pr 37 [x, .i .i64 i] (.i .i64 n) := by
  obtain ⟨r0, hr0, he0⟩ := and_mask i 65535 (by omega)
  have he0' : binF .and (.i .i64 i) (.i .i64 65535) = some (.i .i64 r0) := he0
  rcases hx with rfl | ⟨zs, rfl⟩
  · refine ⟨r0, by omega, ansP fn37 ?_⟩
    unfold g37
    simp [c_seq, c_reg, c_ret, c_blk, c_skip, c_exit, x_nil, x_new, y_mv, y_pick, y_ld, y_bin, y_not, y_len, y_fa, y_ext, y_box, y_st, y_ia, y_mkf, y_bld, y_callp, y_call, y_callv, y_cond, y_guard, e_nil, e_mv, e_pick, e_ld, e_bin, e_eqb, e_len, e_fa, e_ia, e_bld, e_new, e_st, e_callp, e_guard, asG_b, asG_un, disj_nil, disj_cons, chkM, chkM_nn, ue_tm, ue_h, ue_c, ue_lw, ae_tm, ae_h, ae_c, ae_lw, se_tm, se_h, se_c, se_lw, oB_some, opnd_t, opnd_k, asF_f, asB_b, asFn_fn, asFn_f, asTu_tu, Option.bind_some, fnD, up_tm, up_h, up_c, up_lw, aft_tm, aft_h, aft_c, aft_lw, cal_tm, cal_h, cal_c, cal_lw, putO_some, putO_none, F.d, toIdx, iaB, faB, lenB, loadB, storeB, over, partF, partD, mapO, D.cells, fillB, wrT, T.get_set, T.get_del, T.get_e, frzArgs, mapFr, fz12_f, fz11_f, fz10_f, fz12_ag, fz11_ag, fz12_tu, roMarks, wrOk, bin_lss, bin_leq, bin_geq, bin_gtr, bin_eql, bin_neq, bin_add, bin_sub, endQ, endP, resD, resV, mapO, wrLow, D.isF, D.isFL, st0, tmOf, F.dL, he0']
  · by_cases hz : zs = []
    · subst hz
      refine ⟨r0, by omega, ansP fn37 ?_⟩
      unfold g37
      simp [c_seq, c_reg, c_ret, c_blk, c_skip, c_exit, x_nil, x_new, y_mv, y_pick, y_ld, y_bin, y_not, y_len, y_fa, y_ext, y_box, y_st, y_ia, y_mkf, y_bld, y_callp, y_call, y_callv, y_cond, y_guard, e_nil, e_mv, e_pick, e_ld, e_bin, e_eqb, e_len, e_fa, e_ia, e_bld, e_new, e_st, e_callp, e_guard, asG_b, asG_un, disj_nil, disj_cons, chkM, chkM_nn, ue_tm, ue_h, ue_c, ue_lw, ae_tm, ae_h, ae_c, ae_lw, se_tm, se_h, se_c, se_lw, oB_some, opnd_t, opnd_k, asF_f, asB_b, asFn_fn, asFn_f, asTu_tu, Option.bind_some, fnD, up_tm, up_h, up_c, up_lw, aft_tm, aft_h, aft_c, aft_lw, cal_tm, cal_h, cal_c, cal_lw, putO_some, putO_none, F.d, toIdx, iaB, faB, lenB, loadB, storeB, over, partF, partD, mapO, D.cells, fillB, wrT, T.get_set, T.get_del, T.get_e, frzArgs, mapFr, fz12_f, fz11_f, fz10_f, fz12_ag, fz11_ag, fz12_tu, roMarks, wrOk, bin_lss, bin_leq, bin_geq, bin_gtr, bin_eql, bin_neq, bin_add, bin_sub, endQ, endP, resD, resV, mapO, wrLow, D.isF, D.isFL, st0, tmOf, F.dL, he0']
    · have hlen : 0 < zs.length := List.length_pos_iff.2 hz
      have hne : ((zs.length : Nat) : Int) ≠ 0 := by omega
      have hmod : i % zs.length < zs.length := Nat.mod_lt _ hlen
      obtain ⟨m, hm⟩ : ∃ m, m = i % zs.length := ⟨_, rfl⟩
      obtain ⟨d, hd⟩ : ∃ d, d = i / zs.length := ⟨_, rfl⟩
      have hdl : d ≤ i := by rw [hd]; exact Nat.div_le_self _ _
      rw [← hm] at hmod
      obtain ⟨r, hr, he⟩ := and_mask zs[m] 65535 (by omega)
      have he' : binF .and (.i .i64 zs[m]) (.i .i64 65535) = some (.i .i64 r) := he
      have hrem : binF .rem (.i .i64 i) (.i .i64 zs.length) = some (.i .i64 (m : Int)) := by
        rw [bin_rem _ _ hne, hm]; rfl
      have hquo : binF .quo (.i .i64 i) (.i .i64 zs.length) = some (.i .i64 (d : Int)) := by
        rw [bin_quo _ _ hne, show ((i : Int).tdiv (zs.length : Int)) = (d : Int) by rw [hd]; rfl, wrap_i64 _ (by omega) (by omega)]
      have hx : zs[m]? = some zs[m] := List.getElem?_eq_getElem hmod
      have hadd : IntKind.i64.wrap ((r : Int) + (d : Int)) = ((r + d : Nat) : Int) := by
        rw [wrap_i64 _ (by omega) (by omega)]; rfl
      refine ⟨r + d, by omega, ?_⟩
      refine ansP fn37 ?_
      unfold g37
      simp [c_seq, c_reg, c_ret, c_blk, c_skip, c_exit, x_nil, x_new, y_mv, y_pick, y_ld, y_bin, y_not, y_len, y_fa, y_ext, y_box, y_st, y_ia, y_mkf, y_bld, y_callp, y_call, y_callv, y_cond, y_guard, e_nil, e_mv, e_pick, e_ld, e_bin, e_eqb, e_len, e_fa, e_ia, e_bld, e_new, e_st, e_callp, e_guard, asG_b, asG_un, disj_nil, disj_cons, chkM, chkM_nn, ue_tm, ue_h, ue_c, ue_lw, ae_tm, ae_h, ae_c, ae_lw, se_tm, se_h, se_c, se_lw, oB_some, opnd_t, opnd_k, asF_f, asB_b, asFn_fn, asFn_f, asTu_tu, Option.bind_some, fnD, up_tm, up_h, up_c, up_lw, aft_tm, aft_h, aft_c, aft_lw, cal_tm, cal_h, cal_c, cal_lw, putO_some, putO_none, F.d, toIdx, iaB, faB, lenB, loadB, storeB, over, partF, partD, mapO, D.cells, fillB, wrT, T.get_set, T.get_del, T.get_e, frzArgs, mapFr, fz12_f, fz11_f, fz10_f, fz12_ag, fz11_ag, fz12_tu, roMarks, wrOk, bin_lss, bin_leq, bin_geq, bin_gtr, bin_eql, bin_neq, bin_add, bin_sub, st0, tmOf, F.dL, hz]
      refine c_dreg ?_
      simp [c_seq, c_reg, c_ret, c_blk, c_skip, c_exit, x_nil, x_new, y_mv, y_pick, y_ld, y_bin, y_not, y_len, y_fa, y_ext, y_box, y_st, y_ia, y_mkf, y_bld, y_callp, y_call, y_callv, y_cond, y_guard, e_nil, e_mv, e_pick, e_ld, e_bin, e_eqb, e_len, e_fa, e_ia, e_bld, e_new, e_st, e_callp, e_guard, asG_b, asG_un, disj_nil, disj_cons, chkM, chkM_nn, ue_tm, ue_h, ue_c, ue_lw, ae_tm, ae_h, ae_c, ae_lw, se_tm, se_h, se_c, se_lw, oB_some, opnd_t, opnd_k, asF_f, asB_b, asFn_fn, asFn_f, asTu_tu, Option.bind_some, fnD, up_tm, up_h, up_c, up_lw, aft_tm, aft_h, aft_c, aft_lw, cal_tm, cal_h, cal_c, cal_lw, putO_some, putO_none, F.d, toIdx, iaB, faB, lenB, loadB, storeB, over, partF, partD, mapO, D.cells, fillB, wrT, T.get_set, T.get_del, T.get_e, frzArgs, mapFr, fz12_f, fz11_f, fz10_f, fz12_ag, fz11_ag, fz12_tu, roMarks, wrOk, bin_lss, bin_leq, bin_geq, bin_gtr, bin_eql, bin_neq, bin_add, bin_sub, endQ, endP, resD, resV, mapO, wrLow, D.isF, D.isFL, hrem, hquo, hx, he', hadd]

theorem ans78 : Ans pr 78 [] (.sl 1 [[.s p0], [.s p1], [.s p2], [.s p3], [.s p4], [.s p5], [.s p6], [.s p7], [.s p8], [.s p9], [.s p10], [.s p11], [.s p12], [.s p13], [.s p14], [.s p15], [.s p16], [.s p17]]) :=
  runP_ans (n := 100) (orc0_ok pr) (by kernel_rfl)

theorem rd_all (j : Nat) (hj : j < 18) (k : Nat) (hk : k < 8) : ∃ a ∈ tabA, ∃ p, ([[F.s p0], [.s p1], [.s p2], [.s p3], [.s p4], [.s p5], [.s p6], [.s p7], [.s p8], [.s p9], [.s p10], [.s p11], [.s p12], [.s p13], [.s p14], [.s p15], [.s p16], [.s p17]] : List (List F))[j]? = some [.s p] ∧ Ans pr 44 [.s p, .i .i64 k] (cqF a) := by
  match j, hj with
  | 0, _ => exact ⟨a0, by simp [tabA], p0, rfl, runP_ans (orc0_ok pr) (rd0 k)⟩
  | 1, _ => exact ⟨a1, by simp [tabA], p1, rfl, runP_ans (orc0_ok pr) (rd1 k)⟩
  | 2, _ => exact ⟨a2, by simp [tabA], p2, rfl, runP_ans (orc0_ok pr) (rd2 k)⟩
  | 3, _ => exact ⟨a3, by simp [tabA], p3, rfl, runP_ans (orc0_ok pr) (rd3 k)⟩
  | 4, _ => exact ⟨a4, by simp [tabA], p4, rfl, runP_ans (orc0_ok pr) (rd4 k)⟩
  | 5, _ => exact ⟨a5, by simp [tabA], p5, rfl, runP_ans (orc0_ok pr) (rd5 k)⟩
  | 6, _ => exact ⟨a6, by simp [tabA], p6, rfl, runP_ans (orc0_ok pr) (rd6 k)⟩
  | 7, _ => exact ⟨a7, by simp [tabA], p7, rfl, runP_ans (orc0_ok pr) (rd7 k)⟩
  | 8, _ => exact ⟨a8, by simp [tabA], p8, rfl, runP_ans (orc0_ok pr) (rd8 k)⟩
  | 9, _ => exact ⟨a9, by simp [tabA], p9, rfl, runP_ans (orc0_ok pr) (rd9 k)⟩
  | 10, _ =>
    match k, hk with
    | 0, _ => exact ⟨a10, by simp [tabA], p10, rfl, runP_ans (orc0_ok pr) rd10_0⟩
    | 1, _ => exact ⟨a11, by simp [tabA], p10, rfl, runP_ans (orc0_ok pr) rd10_1⟩
    | 2, _ => exact ⟨a12, by simp [tabA], p10, rfl, runP_ans (orc0_ok pr) rd10_2⟩
    | 3, _ => exact ⟨a10, by simp [tabA], p10, rfl, runP_ans (orc0_ok pr) rd10_3⟩
    | 4, _ => exact ⟨a11, by simp [tabA], p10, rfl, runP_ans (orc0_ok pr) rd10_4⟩
    | 5, _ => exact ⟨a12, by simp [tabA], p10, rfl, runP_ans (orc0_ok pr) rd10_5⟩
    | 6, _ => exact ⟨a10, by simp [tabA], p10, rfl, runP_ans (orc0_ok pr) rd10_6⟩
    | 7, _ => exact ⟨a11, by simp [tabA], p10, rfl, runP_ans (orc0_ok pr) rd10_7⟩
    | _ + 8, h => omega
  | 11, _ =>
    match k, hk with
    | 0, _ => exact ⟨a13, by simp [tabA], p11, rfl, runP_ans (orc0_ok pr) rd11_0⟩
    | 1, _ => exact ⟨a14, by simp [tabA], p11, rfl, runP_ans (orc0_ok pr) rd11_1⟩
    | 2, _ => exact ⟨a15, by simp [tabA], p11, rfl, runP_ans (orc0_ok pr) rd11_2⟩
    | 3, _ => exact ⟨a13, by simp [tabA], p11, rfl, runP_ans (orc0_ok pr) rd11_3⟩
    | 4, _ => exact ⟨a14, by simp [tabA], p11, rfl, runP_ans (orc0_ok pr) rd11_4⟩
    | 5, _ => exact ⟨a15, by simp [tabA], p11, rfl, runP_ans (orc0_ok pr) rd11_5⟩
    | 6, _ => exact ⟨a13, by simp [tabA], p11, rfl, runP_ans (orc0_ok pr) rd11_6⟩
    | 7, _ => exact ⟨a14, by simp [tabA], p11, rfl, runP_ans (orc0_ok pr) rd11_7⟩
    | _ + 8, h => omega
  | 12, _ => exact ⟨a16, by simp [tabA], p12, rfl, runP_ans (orc0_ok pr) (rd12 k)⟩
  | 13, _ => exact ⟨a17, by simp [tabA], p13, rfl, runP_ans (orc0_ok pr) (rd13 k)⟩
  | 14, _ => exact ⟨a18, by simp [tabA], p14, rfl, runP_ans (orc0_ok pr) (rd14 k)⟩
  | 15, _ => exact ⟨a19, by simp [tabA], p15, rfl, runP_ans (orc0_ok pr) (rd15 k)⟩
  | 16, _ => exact ⟨a20, by simp [tabA], p16, rfl, runP_ans (orc0_ok pr) (rd16 k)⟩
  | 17, _ => exact ⟨a21, by simp [tabA], p17, rfl, runP_ans (orc0_ok pr) (rd17 k)⟩
  | _ + 18, h => omega

theorem tab_d : ∀ a ∈ tabA, a.d = .f a := by
  intro a ha
  simp only [tabA, List.mem_cons, List.not_mem_nil, or_false] at ha
  rcases ha with rfl | rfl | rfl | rfl | rfl | rfl | rfl | rfl | rfl | rfl | rfl | rfl | rfl | rfl | rfl | rfl | rfl | rfl | rfl | rfl | rfl | rfl <;> rfl

theorem ans38 (n : Int) : ∃ a ∈ tabA, Ans pr 38 [.i .i64 n] (cqF a) := by
  obtain ⟨r, hr, he⟩ := and_mask n 65535 (by omega)
  obtain ⟨z, hz⟩ := shr_any n
  obtain ⟨k, hk, hke⟩ := and_mask z 7 (by omega)
  have he' : binF .and (.i .i64 n) (.i .i64 65535) = some (.i .i64 r) := he
  have hke' : binF .and (.i .i64 z) (.i .i64 7) = some (.i .i64 k) := hke
  obtain ⟨j, hj⟩ : ∃ j, j = r % 18 := ⟨_, rfl⟩
  have hrem : binF .rem (.i .i64 r) (.i .i64 18) = some (.i .i64 (j : Int)) := by
    rw [bin_rem _ _ (by decide), hj]; rfl
  obtain ⟨a, ha, p, hp, hans⟩ := rd_all j (by omega) k (by omega)
  have had := tab_d a ha
  refine ⟨a, ha, ansP fn38 ?_⟩
  unfold g38
  simp [c_seq, c_reg, c_ret, c_blk, c_skip, c_exit, x_nil, x_new, y_mv, y_pick, y_ld, y_bin, y_not, y_len, y_fa, y_ext, y_box, y_st, y_ia, y_mkf, y_bld, y_callp, y_call, y_callv, y_cond, y_guard, e_nil, e_mv, e_pick, e_ld, e_bin, e_eqb, e_len, e_fa, e_ia, e_bld, e_new, e_st, e_callp, e_guard, asG_b, asG_un, disj_nil, disj_cons, chkM, chkM_nn, ue_tm, ue_h, ue_c, ue_lw, ae_tm, ae_h, ae_c, ae_lw, se_tm, se_h, se_c, se_lw, oB_some, opnd_t, opnd_k, asF_f, asB_b, asFn_fn, asFn_f, asTu_tu, Option.bind_some, fnD, up_tm, up_h, up_c, up_lw, aft_tm, aft_h, aft_c, aft_lw, cal_tm, cal_h, cal_c, cal_lw, putO_some, putO_none, F.d, toIdx, iaB, faB, lenB, loadB, storeB, over, partF, partD, mapO, D.cells, fillB, wrT, T.get_set, T.get_del, T.get_e, frzArgs, mapFr, fz12_f, fz11_f, fz10_f, fz12_ag, fz11_ag, fz12_tu, roMarks, wrOk, bin_lss, bin_leq, bin_geq, bin_gtr, bin_eql, bin_neq, bin_add, bin_sub, st0, tmOf, F.dL]
  refine ⟨_, ans78, ?_⟩
  simp only [cqF] at hans
  simp [c_seq, c_reg, c_ret, c_blk, c_skip, c_exit, x_nil, x_new, y_mv, y_pick, y_ld, y_bin, y_not, y_len, y_fa, y_ext, y_box, y_st, y_ia, y_mkf, y_bld, y_callp, y_call, y_callv, y_cond, y_guard, e_nil, e_mv, e_pick, e_ld, e_bin, e_eqb, e_len, e_fa, e_ia, e_bld, e_new, e_st, e_callp, e_guard, asG_b, asG_un, disj_nil, disj_cons, chkM, chkM_nn, ue_tm, ue_h, ue_c, ue_lw, ae_tm, ae_h, ae_c, ae_lw, se_tm, se_h, se_c, se_lw, oB_some, opnd_t, opnd_k, asF_f, asB_b, asFn_fn, asFn_f, asTu_tu, Option.bind_some, fnD, up_tm, up_h, up_c, up_lw, aft_tm, aft_h, aft_c, aft_lw, cal_tm, cal_h, cal_c, cal_lw, putO_some, putO_none, F.d, toIdx, iaB, faB, lenB, loadB, storeB, over, partF, partD, mapO, D.cells, fillB, wrT, T.get_set, T.get_del, T.get_e, frzArgs, mapFr, fz12_f, fz11_f, fz10_f, fz12_ag, fz11_ag, fz12_tu, roMarks, wrOk, bin_lss, bin_leq, bin_geq, bin_gtr, bin_eql, bin_neq, bin_add, bin_sub, he', hz, hke', hrem, hp]
  refine ⟨_, hans, ?_⟩
  simp [c_seq, c_reg, c_ret, c_blk, c_skip, c_exit, x_nil, x_new, y_mv, y_pick, y_ld, y_bin, y_not, y_len, y_fa, y_ext, y_box, y_st, y_ia, y_mkf, y_bld, y_callp, y_call, y_callv, y_cond, y_guard, e_nil, e_mv, e_pick, e_ld, e_bin, e_eqb, e_len, e_fa, e_ia, e_bld, e_new, e_st, e_callp, e_guard, asG_b, asG_un, disj_nil, disj_cons, chkM, chkM_nn, ue_tm, ue_h, ue_c, ue_lw, ae_tm, ae_h, ae_c, ae_lw, se_tm, se_h, se_c, se_lw, oB_some, opnd_t, opnd_k, asF_f, asB_b, asFn_fn, asFn_f, asTu_tu, Option.bind_some, fnD, up_tm, up_h, up_c, up_lw, aft_tm, aft_h, aft_c, aft_lw, cal_tm, cal_h, cal_c, cal_lw, putO_some, putO_none, F.d, toIdx, iaB, faB, lenB, loadB, storeB, over, partF, partD, mapO, D.cells, fillB, wrT, T.get_set, T.get_del, T.get_e, frzArgs, mapFr, fz12_f, fz11_f, fz10_f, fz12_ag, fz11_ag, fz12_tu, roMarks, wrOk, bin_lss, bin_leq, bin_geq, bin_gtr, bin_eql, bin_neq, bin_add, bin_sub, endQ, endP, resD, resV, mapO, wrLow, D.isF, D.isFL, F.dL, had, cqF]
end Go.Proofs.YtoalfeglgioabaaGreat
