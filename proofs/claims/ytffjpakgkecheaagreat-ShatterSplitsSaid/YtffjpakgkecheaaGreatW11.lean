/- t -/
import Derived.Test.YtffjpakgkecheaaGreatShX
import Derived.Test.YtffjpakgkecheaaGreatW10
import Derived.Test.YtffjpakgkecheaaGreatShG
set_option linter.all false
namespace Go.Proofs.YtffjpakgkecheaaGreat
open Go Go.Vse Go.Vse.Sm
set_option maxRecDepth 100000
set_option maxHeartbeats 4000000
set_option linter.unusedSimpArgs false
noncomputable def lo2 : C := (.seq (oD [oM 25 7,oM 26 0,oM 27 5,oR 28 (.callp 14 [(.t 26),(.t 27)]),oR 29 (.bin .rem (.t 28) (.k (.i .i64 4))),oR 30 (.bin .lss (.t 25) (.t 29)),oM 31 30,oG 32 31 (.mv (.t 5)),oG 33 31 (.bin .eql (.t 32) (.k (.i .i64 1))),oG 34 31 (.mv (.t 33)),oG 35 34 (.mv (.t 7)),oG 36 34 (.bin .eql (.t 35) (.k (.i .i64 2))),oG 37 31 (.pick (.t 34) (.t 36) (.k (.b false))),oG 38 31 (.un .not (.t 37)),oR 39 (.pick (.t 31) (.t 38) (.k (.b false)))] 39 .skip (.exit 2))
 (.seq (.blk 3 (oZ [oM 42 0,oM 43 5,oR 44 (.bin .mul (.k (.i .i64 3)) (.t 43)),oR 45 (.bin .add (.k (.i .i64 4)) (.t 44)),oM 46 7,oR 47 (.bin .add (.t 45) (.t 46)),oR 48 (.callp 14 [(.t 42),(.t 47)]),oM 8 48]
 (oZ [oM 49 8,oR 50 (.bin .shr (.t 49) (.k (.i .u64 4))),oR 51 (.callp 15 [(.t 50)]),oR 52 (.bld [.nils,.b false,.nils,.nils] [(1,3,(.t 51))]),oR 9 (.new [.nils,.b false,.nils,.nils]),oS 4 9 52]
 (.seq (oD [oM 53 4,oM 54 5,oI 55 3 53 54,oF 56 1 55,oK 57 1 56] 57 (.reg [oR 58 (.callp 16 [(.k (.i .i64 1))]),oF 59 1 9,oS 3 59 58]) .skip)
 (.seq (oZ [oR 10 (.mv (.k (.i .i64 0)))]
 (.blk 4 (.loop (.seq (oD [oM 60 10,oM 61 4,oM 62 5,oI 63 3 61 62,oF 64 2 63,oK 65 1 64,oR 66 (.len (.t 65)),oR 67 (.bin .lss (.t 60) (.t 66))] 67 .skip (.exit 4))
 (.seq (.blk 5 (.seq (.dreg [(oF 70 0 9,0),(oK 71 1 70,0),(oM 72 8,3),(oR 73 (.bin .rem (.t 72) (.k (.i .i64 3))),3),(oR 74 (.bin .add (.k (.i .i64 1)) (.t 73)),3),(oR 75 (.callp 6 [(.t 74)]),3),(oR 76 (.bsf 3 [.i .i64 0,.i .i64 0,.s []] 1 [(0,(.t 75))]),3),(oR 77 (.app 3 32 (.t 71) (.t 76)),0),(oF 78 0 9,0),(oS 1 78 77,0)])
 (.reg [oM 79 8,oR 80 (.bin .quo (.t 79) (.k (.i .i64 3))),oM 8 80])))
 (.reg [oM 68 10,oR 69 (.bin .add (.t 68) (.k (.i .i64 1))),oM 10 69]))))))
 (oZ [oL 82 4 6,oL 83 4 9,oR 84 (.callp 17 [(.t 82),(.t 83)]),oM 81 84,oR 85 (.ext (.t 81) 0),oR 86 (.ext (.t 81) 1),oR 11 (.new [.s [],.b false,.nils,.nils]),oS 4 11 85,oM 12 86]
 (oD [oM 87 12,oR 88 (.bin .eql (.t 87) (.k (.i .i64 0)))] 88 (.reg [oL 89 4 11,oS 4 6 89]) .skip)))))))
 (.reg [oM 40 7,oR 41 (.bin .add (.t 40) (.k (.i .i64 1))),oM 7 41])))
noncomputable def lo5 : C := (.seq (oD [oM 60 10,oM 61 4,oM 62 5,oI 63 3 61 62,oF 64 2 63,oK 65 1 64,oR 66 (.len (.t 65)),oR 67 (.bin .lss (.t 60) (.t 66))] 67 .skip (.exit 4))
 (.seq (.blk 5 (.seq (.dreg [(oF 70 0 9,0),(oK 71 1 70,0),(oM 72 8,3),(oR 73 (.bin .rem (.t 72) (.k (.i .i64 3))),3),(oR 74 (.bin .add (.k (.i .i64 1)) (.t 73)),3),(oR 75 (.callp 6 [(.t 74)]),3),(oR 76 (.bsf 3 [.i .i64 0,.i .i64 0,.s []] 1 [(0,(.t 75))]),3),(oR 77 (.app 3 32 (.t 71) (.t 76)),0),(oF 78 0 9,0),(oS 1 78 77,0)])
 (.reg [oM 79 8,oR 80 (.bin .quo (.t 79) (.k (.i .i64 3))),oM 8 80])))
 (.reg [oM 68 10,oR 69 (.bin .add (.t 68) (.k (.i .i64 1))),oM 10 69])))
noncomputable def schL : List (List F) := [[.s [82], .b false, coR], [.s [83], .b false, coS], [.s [75], .b false, coK], [.s [67], .b true, coC]]
theorem ans13 : Ans pr 13 [] (.sl 3 schL) := runP_ans (n := 1000) (orc0_ok pr) (by kernel_rfl)
theorem ans16_1 : Ans pr 16 [.i .i64 1] (.ag [.b false, .sl 1 [[.i .u32 1]], .sl 1 [[.i .u32 1]]]) := runP_ans (n := 1000) (orc0_ok pr) (by kernel_rfl)
theorem pp1 : PPp [.b false, .sl 1 [[.i .u32 1]], .sl 1 [[.i .u32 1]]] := mg 4 rfl
theorem rem_nat (a b : Nat) (hb : b ≠ 0) : binF .rem (.i .i64 a) (.i .i64 b) = some (.i .i64 ((a % b : Nat) : Int)) := by
 rw [bin_rem _ _ (by omega)]; rfl
theorem quo_nat (a b : Nat) (hb : b ≠ 0) (ha : a < 1000000) : binF .quo (.i .i64 a) (.i .i64 b) = some (.i .i64 ((a / b : Nat) : Int)) := by
 have : a / b ≤ a := Nat.div_le_self _ _
 rw [bin_quo _ _ (by omega), show ((a : Int).tdiv (b : Int)) = ((a / b : Nat) : Int) by rfl]
 generalize a / b = d at this
 rw [wrap_i64 _ (by omega) (by omega)]
theorem mem_mid {α : Type} {P : α → Prop} {l : List α} {t : α} (n : Nat) (h : ∀ a ∈ l, P a) (ht : P t) : ∀ a ∈ l.take n ++ t :: l.drop n, P a := by
 intro a ha
 rcases List.mem_append.1 ha with h1 | h1
 ·exact h a (List.mem_of_mem_take h1)
 ·rcases List.mem_cons.1 h1 with rfl | h1
  ·exact ht
  ·exact h a (List.mem_of_mem_drop h1)
theorem len_mid {α : Type} {l : List α} {t : α} (n : Nat) (hn : n ≤ l.length) : (l.take n ++ t :: l.drop n).length = l.length + 1 := by
 simp; omega
def CS (h0 : Vse.T Ob) (x : F) (i : Nat) (id : Nat) (dO : D) (n : Nat) (rel : List D) (id9 : Nat) (S : St) : Prop :=
 S.tm.get 0 = some (.f x) ∧ S.tm.get 4 = some (.f (.sl 3 schL)) ∧ S.tm.get 5 = some (.f (.i .i64 i)) ∧ S.tm.get 6 = some (.ptr id 4 0 0) ∧ S.tm.get 3 = some dO ∧ S.tm.get 7 = some (.f (.i .i64 n)) ∧
 S.tm.get 9 = some (.ptr id9 4 0 0) ∧ S.h.get id = some (.arr 4 0 [rel]) ∧ id < id9 ∧ id9 < S.c ∧ ∀ j, j < id → S.h.get j = h0.get j
theorem cols1 (h00 : Vse.T Ob) (x : F) (i : Nat) (id : Nat) (dO : D) (n : Nat) (rel : List D) (id9 : Nat) (p0 p1 p2 : D) (nm : Str) (ce : Bool) (co : F) (hs : schL[i]? = some [.s nm, .b ce, co]) (hcd : co.d = .f co) (lc : lenB (.f co) = some 1)
  (b : Nat) (b1 b2 b3 b4 : Nat) (hr1 : binF .rem (.i .i64 b) (.i .i64 3) = some (.i .i64 (b1 : Int))) (hq1 : binF .quo (.i .i64 b) (.i .i64 3) = some (.i .i64 (b3 : Int))) (hr2 : binF .rem (.i .i64 b3) (.i .i64 3) = some (.i .i64 (b2 : Int))) (hq2 : binF .quo (.i .i64 b3) (.i .i64 3) = some (.i .i64 (b4 : Int)))
  (hb1 : b1 < 3) (hb2 : b2 < 3) (S : St) (Q : Ex → St → Prop) (hS : CS h00 x i id dO n rel id9 S) (g9 : S.h.get id9 = some (.arr 4 0 [[.f .nils, p0, p1, p2]])) (h8 : S.tm.get 8 = some (.f (.i .i64 b))) (h10 : S.tm.get 10 = some (.f (.i .i64 0)))
  (hQ : ∀ S' idv, CS h00 x i id dO n rel id9 S' → S'.h.get id9 = some (.arr 4 0 [[.sl idv 0 1 3 1 false, p0, p1, p2]]) → S'.h.get idv = some (.arr 3 0 [[.f (.i .i64 1), .f (.i .i64 (1 + (b1 : Int))), .f (.s [])]]) → id9 < idv → idv < S'.c → Q (.exit 4) S') : WL pr lo5 S Q := by
 unfold lo5
 dsimp only [oR, oM, oN, oG, oH, oF, oL, oK, oI, oS, oZ, oD]
 obtain ⟨h0, h4, h5, h6, h3, h7, h9, g, hi1, hi2, hk⟩ := hS
 have q6a := fun k => aB_iff (k := k) (ans6 (1 + (b1 : Int)))
 have q6b := fun k => aB_iff (k := k) (ans6 (1 + (b2 : Int)))
 simp only [vF] at q6a q6b
 have hv1 : IntKind.i64.wrap (1 + (b1 : Int)) = 1 + (b1 : Int) := wrap_i64 _ (by omega) (by omega)
 have hv2 : IntKind.i64.wrap (1 + (b2 : Int)) = 1 + (b2 : Int) := wrap_i64 _ (by omega) (by omega)
 have hw1 : IntKind.i64.wrap 1 = 1 := by decide
 have hw2 : IntKind.i64.wrap 2 = 2 := by decide
 have i1 : ¬ id = S.c + 1 + 1 + 1 + 1 + 1 + 1 + 1 := by omega
 have i2 : ¬ id9 = S.c + 1 + 1 + 1 + 1 + 1 + 1 + 1 := by omega
 have i3 : ¬ S.c + 1 + 1 + 1 + 1 + 1 + 1 + 1 = id := by omega
 have i4 : ¬ S.c + 1 + 1 + 1 + 1 + 1 + 1 + 1 = id9 := by omega
 have i5 : ¬ id = id9 := by omega
 have i6 : ¬ id9 = id := by omega
 refine round ?_
 simp -implicitDefEqProofs [rulA, Function.comp_def, Nat.blt_eq, apO, h0, h4, h5, h6, h3, h7, h9, g, g9, h8, h10, hs, lc, leMax, hw1, hw2]
 refine dreg_i ?_
 simp -implicitDefEqProofs [rulA, Function.comp_def, Nat.blt_eq, apO, h0, h4, h5, h6, h3, h7, h9, g, g9, h8, h10, hs, lc, leMax, hw1, hw2, hr1, hv1, q6a, hq1, hi2, i1, i2, i3, i4, i5, i6]
 repeat refine ⟨by omega, ?_⟩
 refine wl_gen (fun S' => CS h00 x i id dO n rel id9 S' ∧ S'.tm.get 8 = some (.f (.i .i64 b3)) ∧ S'.tm.get 10 = some (.f (.i .i64 1)) ∧ ∃ idv, S'.h.get id9 = some (.arr 4 0 [[.sl idv 0 1 3 1 false, p0, p1, p2]]) ∧ S'.h.get idv = some (.arr 3 0 [[.f (.i .i64 1), .f (.i .i64 (1 + (b1 : Int))), .f (.s [])]]) ∧ id9 < idv ∧ idv < S'.c)
  ⟨⟨?_, ?_, ?_, ?_, ?_, ?_, ?_, ?_, ?_, ?_, ?_⟩, ?_, ?_, S.c + 1 + 1 + 1 + 1 + 1 + 1 + 1, ?_, ?_, ?_, ?_⟩ ?_
 any_goals (simp -implicitDefEqProofs [rulA, Function.comp_def, Nat.blt_eq, apO, h0, h4, h5, h6, h3, h7, h9, g, i1, i2, i3, i4, i5, i6]; done)
 any_goals (simp only [ue_tm, ue_h, ue_c, ae_tm, ae_h, ae_c, se_tm, se_h, se_c, up_tm, up_h, up_c, aft_tm, aft_h, aft_c, wt_n, wt_s, wt_d]; omega)
 any_goals omega
 ·intro j hj
  rw [← hk j hj]
  simp only [ue_tm, ue_h, ue_c, ae_tm, ae_h, ae_c, se_tm, se_h, se_c, up_tm, up_h, up_c, aft_tm, aft_h, aft_c, wt_n, wt_s, wt_d]
  repeat first | rw [Vse.T.get_set, if_neg (by omega)] | rw [Vse.T.get_del, if_neg (by omega)]
 clear h0 h4 h5 h6 h3 h7 h9 g hi2 hk i1 i2 i3 i4 g9 h8 h10 i5 i6
 rintro S ⟨⟨h0, h4, h5, h6, h3, h7, h9, g, _, hi2, hk⟩, h8, h10, idv, g9, gv, hi4, hi5⟩
 refine round ?_
 simp -implicitDefEqProofs [rulA, Function.comp_def, Nat.blt_eq, apO, h0, h4, h5, h6, h3, h7, h9, g, g9, h8, h10, hs, lc, leMax, hw1, hw2]
 refine hQ _ idv ⟨?_, ?_, ?_, ?_, ?_, ?_, ?_, ?_, hi1, ?_, ?_⟩ ?_ ?_ hi4 ?_
 any_goals (simp -implicitDefEqProofs [rulA, Function.comp_def, Nat.blt_eq, apO, h0, h4, h5, h6, h3, h7, h9, g, g9, gv]; done)
 any_goals (simp only [ue_tm, ue_h, ue_c, ae_tm, ae_h, ae_c, se_tm, se_h, se_c, up_tm, up_h, up_c, aft_tm, aft_h, aft_c, wt_n, wt_s, wt_d]; omega)
 all_goals (intro j hj; simp only [ue_tm, ue_h, ue_c, ae_tm, ae_h, ae_c, se_tm, se_h, se_c, up_tm, up_h, up_c, aft_tm, aft_h, aft_c, wt_n, wt_s, wt_d]; exact hk j hj)
theorem cols2 (h00 : Vse.T Ob) (x : F) (i : Nat) (id : Nat) (dO : D) (n : Nat) (rel : List D) (id9 : Nat) (p0 p1 p2 : D) (nm : Str) (ce : Bool) (co : F) (hs : schL[i]? = some [.s nm, .b ce, co]) (hcd : co.d = .f co) (lc : lenB (.f co) = some 2)
  (b : Nat) (b1 b2 b3 b4 : Nat) (hr1 : binF .rem (.i .i64 b) (.i .i64 3) = some (.i .i64 (b1 : Int))) (hq1 : binF .quo (.i .i64 b) (.i .i64 3) = some (.i .i64 (b3 : Int))) (hr2 : binF .rem (.i .i64 b3) (.i .i64 3) = some (.i .i64 (b2 : Int))) (hq2 : binF .quo (.i .i64 b3) (.i .i64 3) = some (.i .i64 (b4 : Int)))
  (hb1 : b1 < 3) (hb2 : b2 < 3) (S : St) (Q : Ex → St → Prop) (hS : CS h00 x i id dO n rel id9 S) (g9 : S.h.get id9 = some (.arr 4 0 [[.f .nils, p0, p1, p2]])) (h8 : S.tm.get 8 = some (.f (.i .i64 b))) (h10 : S.tm.get 10 = some (.f (.i .i64 0)))
  (hQ : ∀ S' idv, CS h00 x i id dO n rel id9 S' → S'.h.get id9 = some (.arr 4 0 [[.sl idv 0 2 3 2 false, p0, p1, p2]]) → S'.h.get idv = some (.arr 3 0 [[.f (.i .i64 1), .f (.i .i64 (1 + (b1 : Int))), .f (.s [])], [.f (.i .i64 1), .f (.i .i64 (1 + (b2 : Int))), .f (.s [])]]) → id9 < idv → idv < S'.c → Q (.exit 4) S') : WL pr lo5 S Q := by
 unfold lo5
 dsimp only [oR, oM, oN, oG, oH, oF, oL, oK, oI, oS, oZ, oD]
 obtain ⟨h0, h4, h5, h6, h3, h7, h9, g, hi1, hi2, hk⟩ := hS
 have q6a := fun k => aB_iff (k := k) (ans6 (1 + (b1 : Int)))
 have q6b := fun k => aB_iff (k := k) (ans6 (1 + (b2 : Int)))
 simp only [vF] at q6a q6b
 have hv1 : IntKind.i64.wrap (1 + (b1 : Int)) = 1 + (b1 : Int) := wrap_i64 _ (by omega) (by omega)
 have hv2 : IntKind.i64.wrap (1 + (b2 : Int)) = 1 + (b2 : Int) := wrap_i64 _ (by omega) (by omega)
 have hw1 : IntKind.i64.wrap 1 = 1 := by decide
 have hw2 : IntKind.i64.wrap 2 = 2 := by decide
 have i1 : ¬ id = S.c + 1 + 1 + 1 + 1 + 1 + 1 + 1 := by omega
 have i2 : ¬ id9 = S.c + 1 + 1 + 1 + 1 + 1 + 1 + 1 := by omega
 have i3 : ¬ S.c + 1 + 1 + 1 + 1 + 1 + 1 + 1 = id := by omega
 have i4 : ¬ S.c + 1 + 1 + 1 + 1 + 1 + 1 + 1 = id9 := by omega
 have i5 : ¬ id = id9 := by omega
 have i6 : ¬ id9 = id := by omega
 refine round ?_
 simp -implicitDefEqProofs [rulA, Function.comp_def, Nat.blt_eq, apO, h0, h4, h5, h6, h3, h7, h9, g, g9, h8, h10, hs, lc, leMax, hw1, hw2]
 refine dreg_i ?_
 simp -implicitDefEqProofs [rulA, Function.comp_def, Nat.blt_eq, apO, h0, h4, h5, h6, h3, h7, h9, g, g9, h8, h10, hs, lc, leMax, hw1, hw2, hr1, hv1, q6a, hq1, hi2, i1, i2, i3, i4, i5, i6]
 repeat refine ⟨by omega, ?_⟩
 refine wl_gen (fun S' => CS h00 x i id dO n rel id9 S' ∧ S'.tm.get 8 = some (.f (.i .i64 b3)) ∧ S'.tm.get 10 = some (.f (.i .i64 1)) ∧ ∃ idv, S'.h.get id9 = some (.arr 4 0 [[.sl idv 0 1 3 1 false, p0, p1, p2]]) ∧ S'.h.get idv = some (.arr 3 0 [[.f (.i .i64 1), .f (.i .i64 (1 + (b1 : Int))), .f (.s [])]]) ∧ id9 < idv ∧ idv < S'.c)
  ⟨⟨?_, ?_, ?_, ?_, ?_, ?_, ?_, ?_, ?_, ?_, ?_⟩, ?_, ?_, S.c + 1 + 1 + 1 + 1 + 1 + 1 + 1, ?_, ?_, ?_, ?_⟩ ?_
 any_goals (simp -implicitDefEqProofs [rulA, Function.comp_def, Nat.blt_eq, apO, h0, h4, h5, h6, h3, h7, h9, g, i1, i2, i3, i4, i5, i6]; done)
 any_goals (simp only [ue_tm, ue_h, ue_c, ae_tm, ae_h, ae_c, se_tm, se_h, se_c, up_tm, up_h, up_c, aft_tm, aft_h, aft_c, wt_n, wt_s, wt_d]; omega)
 any_goals omega
 ·intro j hj
  rw [← hk j hj]
  simp only [ue_tm, ue_h, ue_c, ae_tm, ae_h, ae_c, se_tm, se_h, se_c, up_tm, up_h, up_c, aft_tm, aft_h, aft_c, wt_n, wt_s, wt_d]
  repeat first | rw [Vse.T.get_set, if_neg (by omega)] | rw [Vse.T.get_del, if_neg (by omega)]
 clear h0 h4 h5 h6 h3 h7 h9 g hi2 hk i1 i2 i3 i4 g9 h8 h10 i5 i6
 rintro S ⟨⟨h0, h4, h5, h6, h3, h7, h9, g, _, hi2, hk⟩, h8, h10, idv, g9, gv, hi4, hi5⟩
 have i1 : ¬ id = S.c + 1 + 1 + 1 + 1 + 1 + 1 + 1 := by omega
 have i2 : ¬ id9 = S.c + 1 + 1 + 1 + 1 + 1 + 1 + 1 := by omega
 have i3 : ¬ S.c + 1 + 1 + 1 + 1 + 1 + 1 + 1 = id := by omega
 have i4 : ¬ S.c + 1 + 1 + 1 + 1 + 1 + 1 + 1 = id9 := by omega
 have i5 : ¬ id = id9 := by omega
 have i6 : ¬ id9 = id := by omega
 have i7 : ¬ idv = S.c + 1 + 1 + 1 + 1 + 1 + 1 + 1 := by omega
 have i8 : ¬ S.c + 1 + 1 + 1 + 1 + 1 + 1 + 1 = idv := by omega
 have i9 : ¬ id = idv := by omega
 have i10 : ¬ id9 = idv := by omega
 have i11 : ¬ idv = id := by omega
 have i12 : ¬ idv = id9 := by omega
 refine round ?_
 simp -implicitDefEqProofs [rulA, Function.comp_def, Nat.blt_eq, apO, h0, h4, h5, h6, h3, h7, h9, g, g9, h10, hs, lc, leMax, hw1, hw2, gv]
 refine dreg_i ?_
 simp -implicitDefEqProofs [rulA, Function.comp_def, Nat.blt_eq, apO, h0, h4, h5, h6, h3, h7, h9, g, g9, h8, h10, hs, lc, leMax, hw1, hw2, gv, hr2, hv2, q6b, hq2, hi2, hi5, i1, i2, i3, i4, i5, i6, i7, i8, i9, i10, i11, i12]
 repeat refine ⟨by omega, ?_⟩
 refine wl_gen (fun S' => CS h00 x i id dO n rel id9 S' ∧ S'.tm.get 10 = some (.f (.i .i64 2)) ∧ ∃ idv, S'.h.get id9 = some (.arr 4 0 [[.sl idv 0 2 3 2 false, p0, p1, p2]]) ∧ S'.h.get idv = some (.arr 3 0 [[.f (.i .i64 1), .f (.i .i64 (1 + (b1 : Int))), .f (.s [])], [.f (.i .i64 1), .f (.i .i64 (1 + (b2 : Int))), .f (.s [])]]) ∧ id9 < idv ∧ idv < S'.c)
  ⟨⟨?_, ?_, ?_, ?_, ?_, ?_, ?_, ?_, ?_, ?_, ?_⟩, ?_, S.c + 1 + 1 + 1 + 1 + 1 + 1 + 1, ?_, ?_, ?_, ?_⟩ ?_
 any_goals (simp -implicitDefEqProofs [rulA, Function.comp_def, Nat.blt_eq, apO, h0, h4, h5, h6, h3, h7, h9, g, i1, i2, i3, i4, i5, i6, i7, i8, i9, i10, i11, i12]; done)
 any_goals (simp only [ue_tm, ue_h, ue_c, ae_tm, ae_h, ae_c, se_tm, se_h, se_c, up_tm, up_h, up_c, aft_tm, aft_h, aft_c, wt_n, wt_s, wt_d]; omega)
 any_goals omega
 ·intro j hj
  rw [← hk j hj]
  simp only [ue_tm, ue_h, ue_c, ae_tm, ae_h, ae_c, se_tm, se_h, se_c, up_tm, up_h, up_c, aft_tm, aft_h, aft_c, wt_n, wt_s, wt_d]
  repeat first | rw [Vse.T.get_set, if_neg (by omega)] | rw [Vse.T.get_del, if_neg (by omega)]
 clear h0 h4 h5 h6 h3 h7 h9 g hi2 hk i1 i2 i3 i4 g9 h8 h10 i5 i6 i7 i8 i9 i10 i11 i12 gv hi4 hi5 idv
 rintro S ⟨⟨h0, h4, h5, h6, h3, h7, h9, g, _, hi2, hk⟩, h10, idv, g9, gv, hi4, hi5⟩
 refine round ?_
 simp -implicitDefEqProofs [rulA, Function.comp_def, Nat.blt_eq, apO, h0, h4, h5, h6, h3, h7, h9, g, g9, h10, hs, lc, leMax, hw1, hw2]
 refine hQ _ idv ⟨?_, ?_, ?_, ?_, ?_, ?_, ?_, ?_, hi1, ?_, ?_⟩ ?_ ?_ hi4 ?_
 any_goals (simp -implicitDefEqProofs [rulA, Function.comp_def, Nat.blt_eq, apO, h0, h4, h5, h6, h3, h7, h9, g, g9, gv]; done)
 any_goals (simp only [ue_tm, ue_h, ue_c, ae_tm, ae_h, ae_c, se_tm, se_h, se_c, up_tm, up_h, up_c, aft_tm, aft_h, aft_c, wt_n, wt_s, wt_d]; omega)
 all_goals (intro j hj; simp only [ue_tm, ue_h, ue_c, ae_tm, ae_h, ae_c, se_tm, se_h, se_c, up_tm, up_h, up_c, aft_tm, aft_h, aft_c, wt_n, wt_s, wt_d]; exact hk j hj)
def KB (nm : Str) (ce : Bool) (co : F) (Tu : List Int × List F → Prop) (i : Int) (x : F) (id : Nat) (dO : D) (els : List (List D)) (tu : List (List Int × List F)) (s : St) : Prop :=
 (∀ t ∈ tu, Tu t) ∧ s.tm.get 0 = some (.f x) ∧ s.tm.get 4 = some (.f (.sl 3 schL)) ∧ s.tm.get 5 = some (.f (.i .i64 i)) ∧ s.tm.get 6 = some (.ptr id 4 0 0) ∧ s.tm.get 3 = some dO ∧
 s.h.get id = some (.arr 4 0 [[.f (.s nm), .f (.b ce), .f co, .f (slc 4 (tu.map tuF))]]) ∧ Grow s.h 0 id 4 dO els ∧ id < s.c
def KI (nm : Str) (ce : Bool) (co : F) (Tu : List Int × List F → Prop) (i : Int) (x : F) (id : Nat) (dO : D) (els : List (List D)) (k : Nat) (s : St) : Prop :=
 ∃ n tu, n ≤ 3 ∧ k = 3 - n ∧ tu.length ≤ n ∧ s.tm.get 7 = some (.f (.i .i64 (n : Nat))) ∧ KB nm ce co Tu i x id dO els tu s
def KR (nm : Str) (ce : Bool) (co : F) (Tu : List Int × List F → Prop) (i : Int) (x : F) (id : Nat) (dO : D) (els : List (List D)) (e : Ex) (s : St) : Prop :=
 e = .exit 2 ∧ ∃ tu, tu.length ≤ 3 ∧ KB nm ce co Tu i x id dO els tu s
theorem stepR (x : F) (hx : isInts x) (hxd : x.d = .f x) (id : Nat) (dO : D) (els : List (List D)) : ∀ k s, KI [82] false coR TuR 0 x id dO els k s → wpC pr lo2 s (lp (KI [82] false coR TuR 0 x id dO els) k (KR [82] false coR TuR 0 x id dO els)) := by
 unfold lo2
 dsimp only [oR, oM, oN, oG, oH, oF, oL, oK, oI, oS, oZ, oD]
 rintro k s ⟨n, tu, hn, rfl, htl, h7, hT, h0, h4, h5, h6, h3, g, hg, c0⟩
 obtain ⟨a, ha, h14⟩ := ans14 hx 0 (by omega)
 obtain ⟨b, hb, h14b⟩ := ans14 hx (4 + n) (by omega)
 have q14 := fun k => aB_iff (k := k) h14
 have hrm := rem_nat a 4 (by omega)
 have hm4 : a % 4 < 4 := Nat.mod_lt _ (by omega)
 have hs : schL[0]? = some [.s [82], .b false, coR] := rfl
 have hmul : binF .mul (.i .i64 3) (.i .i64 0) = some (.i .i64 0) := rfl
 have hw := wrap_suc n (by omega)
 rw [show ((0 : Nat) : Int) = 0 from rfl] at q14
 rw [show ((4 : Nat) : Int) = 4 from rfl] at hrm
 generalize a % 4 = m4 at hrm hm4
 by_cases hlt : n < m4
 ·by_cases hgo : True
  ·have hw4 : IntKind.i64.wrap (4 : Int) = 4 := rfl
   have hwn : IntKind.i64.wrap ((4 : Int) + (n : Int)) = ((4 + n : Nat) : Int) := wrap_i64 _ (by omega) (by omega)
   have q14b := fun k => aB_iff (k := k) h14b
   have hci : ((4 + n : Nat) : Int) = (4 : Int) + (n : Int) := rfl
   rw [hci] at q14b hwn
   obtain ⟨z, hz⟩ : ∃ r : Int, binF .shr (.i .i64 b) (.i .u64 4) = some (.i .i64 r) := ⟨_, rfl⟩
   obtain ⟨p, hp, h15⟩ := ans15 z
   obtain ⟨p0, p1, p2, rfl, hd0, hd1, hd2⟩ := pc_PPl _ hp
   have q15 := fun k => aB_iff (k := k) h15
   have q16 := fun k => aB_iff (k := k) ans16_1
   have hr1 := rem_nat b 3 (by omega)
   have hq1 := quo_nat b 3 (by omega) (by omega)
   have hr2 := rem_nat (b / 3) 3 (by omega)
   have hq2 := quo_nat (b / 3) 3 (by omega) (by have : b / 3 ≤ b := Nat.div_le_self _ _; omega)
   rw [show ((3 : Nat) : Int) = 3 from rfl] at hr1 hq1 hr2 hq2
   have hb1 : b % 3 < 3 := Nat.mod_lt _ (by omega)
   have hb2 : b / 3 % 3 < 3 := Nat.mod_lt _ (by omega)
   generalize b / 3 % 3 = b2 at hr2 hb2
   generalize b / 3 / 3 = b4 at hq2
   generalize b / 3 = b3 at hq1 hr2 hq2
   generalize b % 3 = b1 at hr1 hb1
   have k1 : ¬ id = s.c := by omega
   have hok : TuR ([1 + (b1 : Int), 1 + (b2 : Int)], [p0, p1, p2]) := ⟨hp, 1 + (b1 : Int), 1 + (b2 : Int), rfl⟩
   obtain ⟨y, hy, h17⟩ := ans17 sumTab [82] false coR tu (okR tu (by omega) hT) (by omega) ([1 + (b1 : Int), 1 + (b2 : Int)], [p0, p1, p2]) hp (ckR _ hok) (fun m hm => okR _ (by rw [len_mid m hm]; omega) (mem_mid m hT hok))
   have h17 : Ans pr 17 [.ag [.s [82], .b false, coR, slc 4 (tu.map tuF)], .ag [.sl 3 [[.i .i64 1, .i .i64 (1 + (b1 : Int)), .s []], [.i .i64 1, .i .i64 (1 + (b2 : Int)), .s []]], p0, p1, p2]] y := h17
   simp -implicitDefEqProofs [rulA, Function.comp_def, Nat.blt_eq, apO, h0, h4, h5, h6, h3, h7, g, hxd, q14, hrm, hlt, hs, hgo, hmul, hw4, hwn, q14b, hz, q15, q16, hd0, hd1, hd2]
   refine cols2 s.h x 0 id dO n [.f (.s [82]), .f (.b false), .f coR, .f (slc 4 (tu.map tuF))] s.c (.f p0) (.f p1) (.f p2) [82] false coR rfl rfl rfl b b1 b2 b3 b4 hr1 hq1 hr2 hq2 hb1 hb2 _ _ ⟨?_, ?_, ?_, ?_, ?_, ?_, ?_, ?_, ?_, ?_, ?_⟩ ?_ ?_ ?_ ?_
   any_goals (simp -implicitDefEqProofs [rulA, Function.comp_def, Nat.blt_eq, apO, h0, h4, h5, h6, h3, h7, g, k1]; done)
   ·omega
   ·intro j hj
    simp only [ue_tm, ue_h, ue_c, ae_tm, ae_h, ae_c, se_tm, se_h, se_c, up_tm, up_h, up_c, aft_tm, aft_h, aft_c, wt_n, wt_s, wt_d]
    repeat first | rw [Vse.T.get_set, if_neg (by omega)] | rw [Vse.T.get_del, if_neg (by omega)]
   ·clear h0 h4 h5 h6 h3 h7 g k1
    intro S idv hS g9 gv hi4 hi5
    obtain ⟨h0, h4, h5, h6, h3, h7, h9, g, hi1, hi2, hk⟩ := hS
    rw [show ((0 : Nat) : Int) = 0 from rfl] at h5
    have hcd : coR.d = .f coR := rfl
    have hcc : (D.f coR).cells = some [.f coR] := rfl
    have j1 : ¬ id = s.c := by omega
    have j2 : ¬ id = idv := by omega
    have j3 : ¬ id = S.c := by omega
    have j4 : ¬ s.c = id := by omega
    have j5 : ¬ s.c = idv := by omega
    have j6 : ¬ s.c = S.c := by omega
    have j7 : ¬ idv = id := by omega
    have j8 : ¬ idv = s.c := by omega
    have j9 : ¬ idv = S.c := by omega
    have j10 : ¬ S.c = id := by omega
    have j11 : ¬ S.c = s.c := by omega
    have j12 : ¬ S.c = idv := by omega
    have keep : ∀ h' : Vse.T Ob, (∀ j, j < id → h'.get j = S.h.get j) → Grow h' 0 id 4 dO els := fun h' hh => grow_up hg (fun j hj => (hh j hj).trans (hk j hj)) (Nat.le_refl _)
    rcases hy with ⟨e, he, rfl⟩ | ⟨m, hm, rfl⟩
    ·have q17 := fun k => aB_iff (k := k) h17
     simp only [zRl] at q17
     simp -implicitDefEqProofs [rulA, Function.comp_def, Nat.blt_eq, apO, h0, h4, h5, h6, h3, h7, h9, g, g9, gv, hcd, hcc, hd0, hd1, hd2, hi2, hi5, j1, j2, j3, j4, j5, j6, j7, j8, j9, j10, j11, j12, q17, he, hw]
     rw [lp_nrm]
     refine ⟨3 - (n + 1), by omega, n + 1, tu, by omega, rfl, by omega, ?_, hT, ?_, ?_, ?_, ?_, ?_, ?_, ?_, ?_⟩
     any_goals (simp -implicitDefEqProofs [rulA, Function.comp_def, Nat.blt_eq, apO, h0, h4, h5, h6, h3, h7, h9, g, g9, gv, hcd, hcc, hd0, hd1, hd2, hi2, hi5, j1, j2, j3, j4, j5, j6, j7, j8, j9, j10, j11, j12]; done)
     ·simp only [ue_tm, ue_h, ue_c, ae_tm, ae_h, ae_c, se_tm, se_h, se_c, up_tm, up_h, up_c, aft_tm, aft_h, aft_c, wt_n, wt_s, wt_d]
      refine keep _ ?_
      intro j hj
      repeat first | rw [Vse.T.get_set, if_neg (by omega)] | rw [Vse.T.get_del, if_neg (by omega)]
     all_goals (simp only [ue_tm, ue_h, ue_c, ae_tm, ae_h, ae_c, se_tm, se_h, se_c, up_tm, up_h, up_c, aft_tm, aft_h, aft_c, wt_n, wt_s, wt_d]; omega)
    ·have q17 := fun k => aB_iff (k := k) h17
     simp only [rlF] at q17
     simp -implicitDefEqProofs [rulA, Function.comp_def, Nat.blt_eq, apO, h0, h4, h5, h6, h3, h7, h9, g, g9, gv, hcd, hcc, hd0, hd1, hd2, hi2, hi5, j1, j2, j3, j4, j5, j6, j7, j8, j9, j10, j11, j12, q17, hw]
     refine ⟨by omega, ?_⟩
     rw [lp_nrm]
     refine ⟨3 - (n + 1), by omega, n + 1, tu.take m ++ ([1 + (b1 : Int), 1 + (b2 : Int)], [p0, p1, p2]) :: tu.drop m, by omega, rfl, by rw [len_mid m hm]; omega, ?_, mem_mid m hT hok, ?_, ?_, ?_, ?_, ?_, ?_, ?_, ?_⟩
     any_goals (simp -implicitDefEqProofs [rulA, Function.comp_def, Nat.blt_eq, apO, h0, h4, h5, h6, h3, h7, h9, g, g9, gv, hcd, hcc, hd0, hd1, hd2, hi2, hi5, j1, j2, j3, j4, j5, j6, j7, j8, j9, j10, j11, j12]; done)
     ·simp only [ue_tm, ue_h, ue_c, ae_tm, ae_h, ae_c, se_tm, se_h, se_c, up_tm, up_h, up_c, aft_tm, aft_h, aft_c, wt_n, wt_s, wt_d]
      refine keep _ ?_
      intro j hj
      repeat first | rw [Vse.T.get_set, if_neg (by omega)] | rw [Vse.T.get_del, if_neg (by omega)]
     all_goals (simp only [ue_tm, ue_h, ue_c, ae_tm, ae_h, ae_c, se_tm, se_h, se_c, up_tm, up_h, up_c, aft_tm, aft_h, aft_c, wt_n, wt_s, wt_d]; omega)
  ·exact absurd trivial hgo
 ·simp -implicitDefEqProofs [rulA, Function.comp_def, Nat.blt_eq, apO, h0, h4, h5, h6, h3, h7, g, hxd, q14, hrm, hlt, hs]
  refine ⟨rfl, tu, by omega, hT, ?_, ?_, ?_, ?_, ?_, ?_, ?_, ?_⟩
  all_goals simp -implicitDefEqProofs [rulA, Function.comp_def, Nat.blt_eq, apO, h0, h4, h5, h6, h3, g, hg, c0]
end Go.Proofs.YtffjpakgkecheaaGreat
