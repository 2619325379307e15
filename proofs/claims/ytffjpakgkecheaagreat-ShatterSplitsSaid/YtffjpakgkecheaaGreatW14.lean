/- t -/
import Derived.Test.YtffjpakgkecheaaGreatShX
import Derived.Test.YtffjpakgkecheaaGreatW11
import Derived.Test.YtffjpakgkecheaaGreatW12
import Derived.Test.YtffjpakgkecheaaGreatW13
set_option linter.all false
namespace Go.Proofs.YtffjpakgkecheaaGreat
open Go Go.Vse Go.Vse.Sm
set_option maxRecDepth 100000
set_option maxHeartbeats 4000000
set_option linter.unusedSimpArgs false
noncomputable def lo4 : C := (.seq (oD [oM 14 5,oM 15 4,oR 16 (.len (.t 15)),oR 17 (.bin .lss (.t 14) (.t 16))] 17 .skip (.exit 0))
 (.seq (.blk 1 (oZ [oM 20 4,oM 21 5,oI 22 3 20 21,oL 23 3 22,oR 24 (.bld [.s [],.b false,.nils,.nils] [(0,3,(.t 23))]),oR 6 (.new [.s [],.b false,.nils,.nils]),oS 4 6 24]
 (.seq (oZ [oR 7 (.mv (.k (.i .i64 0)))]
 (.blk 2 (.loop (.seq (oD [oM 25 7,oM 26 0,oM 27 5,oR 28 (.callp 14 [(.t 26),(.t 27)]),oR 29 (.bin .rem (.t 28) (.k (.i .i64 4))),oR 30 (.bin .lss (.t 25) (.t 29)),oM 31 30,oG 32 31 (.mv (.t 5)),oG 33 31 (.bin .eql (.t 32) (.k (.i .i64 1))),oG 34 31 (.mv (.t 33)),oG 35 34 (.mv (.t 7)),oG 36 34 (.bin .eql (.t 35) (.k (.i .i64 2))),oG 37 31 (.pick (.t 34) (.t 36) (.k (.b false))),oG 38 31 (.un .not (.t 37)),oR 39 (.pick (.t 31) (.t 38) (.k (.b false)))] 39 .skip (.exit 2))
 (.seq (.blk 3 (oZ [oM 42 0,oM 43 5,oR 44 (.bin .mul (.k (.i .i64 3)) (.t 43)),oR 45 (.bin .add (.k (.i .i64 4)) (.t 44)),oM 46 7,oR 47 (.bin .add (.t 45) (.t 46)),oR 48 (.callp 14 [(.t 42),(.t 47)]),oM 8 48]
 (oZ [oM 49 8,oR 50 (.bin .shr (.t 49) (.k (.i .u64 4))),oR 51 (.callp 15 [(.t 50)]),oR 52 (.bld [.nils,.b false,.nils,.nils] [(1,3,(.t 51))]),oR 9 (.new [.nils,.b false,.nils,.nils]),oS 4 9 52]
 (.seq (oD [oM 53 4,oM 54 5,oI 55 3 53 54,oF 56 1 55,oK 57 1 56] 57 (.reg [oR 58 (.callp 16 [(.k (.i .i64 1))]),oF 59 1 9,oS 3 59 58]) .skip)
 (.seq (oZ [oR 10 (.mv (.k (.i .i64 0)))]
 (.blk 4 (.loop (.seq (oD [oM 60 10,oM 61 4,oM 62 5,oI 63 3 61 62,oF 64 2 63,oK 65 1 64,oR 66 (.len (.t 65)),oR 67 (.bin .lss (.t 60) (.t 66))] 67 .skip (.exit 4))
 (.seq (.blk 5 (.seq (.dreg [(oF 70 0 9,0),(oK 71 1 70,0),(oM 72 8,3),(oR 73 (.bin .rem (.t 72) (.k (.i .i64 3))),3),(oR 74 (.bin .add (.k (.i .i64 1)) (.t 73)),3),(oR 75 (.callp 6 [(.t 74)]),3),(oR 76 (.bsf 3 [.i .i64 0,.i .i64 0,.s []] 1 [(0,(.t 75))]),3),(oR 77 (.app 3 32 (.t 71) (.t 76)),0),(oF 78 0 9,0),(oS 1 78 77,0)])
 (.reg [oM 79 8,oR 80 (.bin .quo (.t 79) (.k (.i .i64 3))),oM 8 80])))
 (.reg [oM 68 10,oR 69 (.bin .add (.t 68) (.k (.i .i64 1))),oM 10 69]))))))
 (oZ [oL 82 4 6,oL 83 4 9,oR 84 (.callp 17 [(.t 82),(.t 83)]),oM 81 84,oR 85 (.ext (.t 81) 0),oR 86 (.ext (.t 81) 1),oR 11 (.new [.s [],.b false,.nils,.nils]),oS 4 11 85,oM 12 86]
 (oD [oM 87 12,oR 88 (.bin .eql (.t 87) (.k (.i .i64 0)))] 88 (.reg [oL 89 4 11,oS 4 6 89]) .skip)))))))
 (.reg [oM 40 7,oR 41 (.bin .add (.t 40) (.k (.i .i64 1))),oM 7 41]))))))
 (.reg [oM 90 3,oL 91 4 6,oR 92 (.bsf 4 [.s [],.b false,.nils,.nils] 1 [(0,(.t 91))]),oR 93 (.app 4 72 (.t 90) (.t 92)),oM 3 93]))))
 (.reg [oM 18 5,oR 19 (.bin .add (.t 18) (.k (.i .i64 1))),oM 5 19])))
theorem fn4 : pr.fn 4 = some g4 := by kernel_rfl
def rlE (L : List Rl) : List (List D) := L.map fun r => (rlF r).map D.f
theorem rlE_frz (h : Nat → Option Ob) (k : Nat) (L : List Rl) : mapFrr (frz h (k + 1)) (rlE L) = some (L.map rlF, []) := by
 have := frr_F h k (L.map rlF)
 rwa [List.map_map] at this
def OB (x : F) (i : Int) (L : List Rl) (S : St) : Prop := S.tm.get 0 = some (.f x) ∧ S.tm.get 4 = some (.f (.sl 3 schL)) ∧ S.tm.get 5 = some (.f (.i .i64 i)) ∧ ∃ dO, S.tm.get 3 = some dO ∧ Grow S.h 0 S.c 4 dO (rlE L)
theorem roundR (x : F) (hx : isInts x) (hxd : x.d = .f x) (L : List Rl) (hL : L.length < 10) (S : St) (Q : Ex → St → Prop) (hS : OB x 0 L S) (hQ : ∀ S' tu, tu.length ≤ 3 → (∀ t ∈ tu, TuR t) → OB x 1 (L ++ [rR tu]) S' → WL pr lo4 S' Q) : WL pr lo4 S Q := by
 unfold lo4 at hQ ⊢
 dsimp only [oR, oM, oN, oG, oH, oF, oL, oK, oI, oS, oZ, oD]
 obtain ⟨h0, h4, h5, dO, h3, hg⟩ := hS
 have hs : schL[0]? = some [.s [82], .b false, coR] := rfl
 have hs2 : ∀ h : 0 < schL.length, schL[0] = [.s [82], .b false, coR] := fun _ => rfl
 have hsl : schL.length = 4 := rfl
 have hcd : coR.d = .f coR := rfl
 have hcc : (D.f coR).cells = some [.f coR] := rfl
 have hw : IntKind.i64.wrap 1 = 1 := rfl
 refine round ?_
 simp -implicitDefEqProofs [rulA, Function.comp_def, Nat.blt_eq, apO, h0, h4, h5, h3, hs, hs2, hsl, hcd, hcc]
 refine loopW (KI [82] false coR TuR 0 x S.c dO (rlE L)) (KR [82] false coR TuR 0 x S.c dO (rlE L)) (stepR x hx hxd S.c dO (rlE L)) 3 _ ⟨0, [], by omega, rfl, by simp, ?_, by simp, ?_, ?_, ?_, ?_, ?_, ?_, ?_, ?_⟩ ?_
 any_goals (simp -implicitDefEqProofs [rulA, Function.comp_def, Nat.blt_eq, apO, h0, h4, h5, h3, hcd]; done)
 any_goals (simp -implicitDefEqProofs [rulA, Function.comp_def, Nat.blt_eq, apO, h0, h4, h5, h3, hcd, List.map_nil, slc_nil]; done)
 ·simp only [ue_tm, ue_h, ue_c, ae_tm, ae_h, ae_c, se_tm, se_h, se_c, up_tm, up_h, up_c, aft_tm, aft_h, aft_c, wt_n, wt_s, wt_d]
  refine grow_up hg ?_ (Nat.le_refl _)
  intro j hj
  repeat first | rw [Vse.T.get_set, if_neg (by omega)] | rw [Vse.T.get_del, if_neg (by omega)]
 ·rintro e S' ⟨rfl, tu, htl, hT, h0, h4, h5, h6, h3, g, hg, hc⟩
  simp -implicitDefEqProofs [rulN, Function.comp_def, Nat.blt_eq, h0, h4, h5, h6, h3, g, hcd, hcc]
  refine grow_oB (new := [(rlF (rR tu)).map D.f]) (grow_up hg (fun _ _ => rfl) (Nat.le_of_lt hc)) (Nat.zero_le _) (by simp [rlE]; omega) (by omega) ?_
  intro r hr1 hr2 hr3 _
  refine ⟨hr1, ?_⟩
  simp -implicitDefEqProofs [rulA, Function.comp_def, Nat.blt_eq, apO, h5, hw]
  refine hQ _ tu htl hT ⟨?_, ?_, ?_, r.d, ?_, ?_⟩
  any_goals (simp -implicitDefEqProofs [rulA, Function.comp_def, Nat.blt_eq, apO, h0, h4, h5, h3]; done)
  simp only [ue_tm, ue_h, ue_c, ae_tm, ae_h, ae_c, se_tm, se_h, se_c, up_tm, up_h, up_c, aft_tm, aft_h, aft_c, wt_n, wt_s, wt_d]
  have e : rlE (L ++ [rR tu]) = rlE L ++ [(rlF (rR tu)).map D.f] := by simp [rlE]
  rw [e]
  exact hr2
theorem roundS (x : F) (hx : isInts x) (hxd : x.d = .f x) (L : List Rl) (hL : L.length < 10) (S : St) (Q : Ex → St → Prop) (hS : OB x 1 L S) (hQ : ∀ S' tu, tu.length ≤ 3 → (∀ t ∈ tu, TuS t) → OB x 2 (L ++ [rS tu]) S' → WL pr lo4 S' Q) : WL pr lo4 S Q := by
 unfold lo4 at hQ ⊢
 dsimp only [oR, oM, oN, oG, oH, oF, oL, oK, oI, oS, oZ, oD]
 obtain ⟨h0, h4, h5, dO, h3, hg⟩ := hS
 have hs : schL[1]? = some [.s [83], .b false, coS] := rfl
 have hs2 : ∀ h : 1 < schL.length, schL[1] = [.s [83], .b false, coS] := fun _ => rfl
 have hsl : schL.length = 4 := rfl
 have hcd : coS.d = .f coS := rfl
 have hcc : (D.f coS).cells = some [.f coS] := rfl
 have hw : IntKind.i64.wrap 2 = 2 := rfl
 refine round ?_
 simp -implicitDefEqProofs [rulA, Function.comp_def, Nat.blt_eq, apO, h0, h4, h5, h3, hs, hs2, hsl, hcd, hcc]
 refine loopW (KI [83] false coS TuS 1 x S.c dO (rlE L)) (KR [83] false coS TuS 1 x S.c dO (rlE L)) (stepS x hx hxd S.c dO (rlE L)) 3 _ ⟨0, [], by omega, rfl, by simp, ?_, by simp, ?_, ?_, ?_, ?_, ?_, ?_, ?_, ?_⟩ ?_
 any_goals (simp -implicitDefEqProofs [rulA, Function.comp_def, Nat.blt_eq, apO, h0, h4, h5, h3, hcd]; done)
 any_goals (simp -implicitDefEqProofs [rulA, Function.comp_def, Nat.blt_eq, apO, h0, h4, h5, h3, hcd, List.map_nil, slc_nil]; done)
 ·simp only [ue_tm, ue_h, ue_c, ae_tm, ae_h, ae_c, se_tm, se_h, se_c, up_tm, up_h, up_c, aft_tm, aft_h, aft_c, wt_n, wt_s, wt_d]
  refine grow_up hg ?_ (Nat.le_refl _)
  intro j hj
  repeat first | rw [Vse.T.get_set, if_neg (by omega)] | rw [Vse.T.get_del, if_neg (by omega)]
 ·rintro e S' ⟨rfl, tu, htl, hT, h0, h4, h5, h6, h3, g, hg, hc⟩
  simp -implicitDefEqProofs [rulN, Function.comp_def, Nat.blt_eq, h0, h4, h5, h6, h3, g, hcd, hcc]
  refine grow_oB (new := [(rlF (rS tu)).map D.f]) (grow_up hg (fun _ _ => rfl) (Nat.le_of_lt hc)) (Nat.zero_le _) (by simp [rlE]; omega) (by omega) ?_
  intro r hr1 hr2 hr3 _
  refine ⟨hr1, ?_⟩
  simp -implicitDefEqProofs [rulA, Function.comp_def, Nat.blt_eq, apO, h5, hw]
  refine hQ _ tu htl hT ⟨?_, ?_, ?_, r.d, ?_, ?_⟩
  any_goals (simp -implicitDefEqProofs [rulA, Function.comp_def, Nat.blt_eq, apO, h0, h4, h5, h3]; done)
  simp only [ue_tm, ue_h, ue_c, ae_tm, ae_h, ae_c, se_tm, se_h, se_c, up_tm, up_h, up_c, aft_tm, aft_h, aft_c, wt_n, wt_s, wt_d]
  have e : rlE (L ++ [rS tu]) = rlE L ++ [(rlF (rS tu)).map D.f] := by simp [rlE]
  rw [e]
  exact hr2
theorem roundK (x : F) (hx : isInts x) (hxd : x.d = .f x) (L : List Rl) (hL : L.length < 10) (S : St) (Q : Ex → St → Prop) (hS : OB x 2 L S) (hQ : ∀ S' tu, tu.length ≤ 3 → (∀ t ∈ tu, TuK t) → OB x 3 (L ++ [rK tu]) S' → WL pr lo4 S' Q) : WL pr lo4 S Q := by
 unfold lo4 at hQ ⊢
 dsimp only [oR, oM, oN, oG, oH, oF, oL, oK, oI, oS, oZ, oD]
 obtain ⟨h0, h4, h5, dO, h3, hg⟩ := hS
 have hs : schL[2]? = some [.s [75], .b false, coK] := rfl
 have hs2 : ∀ h : 2 < schL.length, schL[2] = [.s [75], .b false, coK] := fun _ => rfl
 have hsl : schL.length = 4 := rfl
 have hcd : coK.d = .f coK := rfl
 have hcc : (D.f coK).cells = some [.f coK] := rfl
 have hw : IntKind.i64.wrap 3 = 3 := rfl
 refine round ?_
 simp -implicitDefEqProofs [rulA, Function.comp_def, Nat.blt_eq, apO, h0, h4, h5, h3, hs, hs2, hsl, hcd, hcc]
 refine loopW (KI [75] false coK TuK 2 x S.c dO (rlE L)) (KR [75] false coK TuK 2 x S.c dO (rlE L)) (stepK x hx hxd S.c dO (rlE L)) 3 _ ⟨0, [], by omega, rfl, by simp, ?_, by simp, ?_, ?_, ?_, ?_, ?_, ?_, ?_, ?_⟩ ?_
 any_goals (simp -implicitDefEqProofs [rulA, Function.comp_def, Nat.blt_eq, apO, h0, h4, h5, h3, hcd]; done)
 any_goals (simp -implicitDefEqProofs [rulA, Function.comp_def, Nat.blt_eq, apO, h0, h4, h5, h3, hcd, List.map_nil, slc_nil]; done)
 ·simp only [ue_tm, ue_h, ue_c, ae_tm, ae_h, ae_c, se_tm, se_h, se_c, up_tm, up_h, up_c, aft_tm, aft_h, aft_c, wt_n, wt_s, wt_d]
  refine grow_up hg ?_ (Nat.le_refl _)
  intro j hj
  repeat first | rw [Vse.T.get_set, if_neg (by omega)] | rw [Vse.T.get_del, if_neg (by omega)]
 ·rintro e S' ⟨rfl, tu, htl, hT, h0, h4, h5, h6, h3, g, hg, hc⟩
  simp -implicitDefEqProofs [rulN, Function.comp_def, Nat.blt_eq, h0, h4, h5, h6, h3, g, hcd, hcc]
  refine grow_oB (new := [(rlF (rK tu)).map D.f]) (grow_up hg (fun _ _ => rfl) (Nat.le_of_lt hc)) (Nat.zero_le _) (by simp [rlE]; omega) (by omega) ?_
  intro r hr1 hr2 hr3 _
  refine ⟨hr1, ?_⟩
  simp -implicitDefEqProofs [rulA, Function.comp_def, Nat.blt_eq, apO, h5, hw]
  refine hQ _ tu htl hT ⟨?_, ?_, ?_, r.d, ?_, ?_⟩
  any_goals (simp -implicitDefEqProofs [rulA, Function.comp_def, Nat.blt_eq, apO, h0, h4, h5, h3]; done)
  simp only [ue_tm, ue_h, ue_c, ae_tm, ae_h, ae_c, se_tm, se_h, se_c, up_tm, up_h, up_c, aft_tm, aft_h, aft_c, wt_n, wt_s, wt_d]
  have e : rlE (L ++ [rK tu]) = rlE L ++ [(rlF (rK tu)).map D.f] := by simp [rlE]
  rw [e]
  exact hr2
theorem roundC (x : F) (hx : isInts x) (hxd : x.d = .f x) (L : List Rl) (hL : L.length < 10) (S : St) (Q : Ex → St → Prop) (hS : OB x 3 L S) (hQ : ∀ S' tu, tu.length ≤ 3 → (∀ t ∈ tu, TuC t) → OB x 4 (L ++ [rC tu]) S' → WL pr lo4 S' Q) : WL pr lo4 S Q := by
 unfold lo4 at hQ ⊢
 dsimp only [oR, oM, oN, oG, oH, oF, oL, oK, oI, oS, oZ, oD]
 obtain ⟨h0, h4, h5, dO, h3, hg⟩ := hS
 have hs : schL[3]? = some [.s [67], .b true, coC] := rfl
 have hs2 : ∀ h : 3 < schL.length, schL[3] = [.s [67], .b true, coC] := fun _ => rfl
 have hsl : schL.length = 4 := rfl
 have hcd : coC.d = .f coC := rfl
 have hcc : (D.f coC).cells = some [.f coC] := rfl
 have hw : IntKind.i64.wrap 4 = 4 := rfl
 refine round ?_
 simp -implicitDefEqProofs [rulA, Function.comp_def, Nat.blt_eq, apO, h0, h4, h5, h3, hs, hs2, hsl, hcd, hcc]
 refine loopW (KI [67] true coC TuC 3 x S.c dO (rlE L)) (KR [67] true coC TuC 3 x S.c dO (rlE L)) (stepC x hx hxd S.c dO (rlE L)) 3 _ ⟨0, [], by omega, rfl, by simp, ?_, by simp, ?_, ?_, ?_, ?_, ?_, ?_, ?_, ?_⟩ ?_
 any_goals (simp -implicitDefEqProofs [rulA, Function.comp_def, Nat.blt_eq, apO, h0, h4, h5, h3, hcd]; done)
 any_goals (simp -implicitDefEqProofs [rulA, Function.comp_def, Nat.blt_eq, apO, h0, h4, h5, h3, hcd, List.map_nil, slc_nil]; done)
 ·simp only [ue_tm, ue_h, ue_c, ae_tm, ae_h, ae_c, se_tm, se_h, se_c, up_tm, up_h, up_c, aft_tm, aft_h, aft_c, wt_n, wt_s, wt_d]
  refine grow_up hg ?_ (Nat.le_refl _)
  intro j hj
  repeat first | rw [Vse.T.get_set, if_neg (by omega)] | rw [Vse.T.get_del, if_neg (by omega)]
 ·rintro e S' ⟨rfl, tu, htl, hT, h0, h4, h5, h6, h3, g, hg, hc⟩
  simp -implicitDefEqProofs [rulN, Function.comp_def, Nat.blt_eq, h0, h4, h5, h6, h3, g, hcd, hcc]
  refine grow_oB (new := [(rlF (rC tu)).map D.f]) (grow_up hg (fun _ _ => rfl) (Nat.le_of_lt hc)) (Nat.zero_le _) (by simp [rlE]; omega) (by omega) ?_
  intro r hr1 hr2 hr3 _
  refine ⟨hr1, ?_⟩
  simp -implicitDefEqProofs [rulA, Function.comp_def, Nat.blt_eq, apO, h5, hw]
  refine hQ _ tu htl hT ⟨?_, ?_, ?_, r.d, ?_, ?_⟩
  any_goals (simp -implicitDefEqProofs [rulA, Function.comp_def, Nat.blt_eq, apO, h0, h4, h5, h3]; done)
  simp only [ue_tm, ue_h, ue_c, ae_tm, ae_h, ae_c, se_tm, se_h, se_c, up_tm, up_h, up_c, aft_tm, aft_h, aft_c, wt_n, wt_s, wt_d]
  have e : rlE (L ++ [rC tu]) = rlE L ++ [(rlF (rC tu)).map D.f] := by simp [rlE]
  rw [e]
  exact hr2
def IsRels (y : F) : Prop := ∃ a b c d, (a.length ≤ 3 ∧ ∀ t ∈ a, TuR t) ∧ (b.length ≤ 3 ∧ ∀ t ∈ b, TuS t) ∧ (c.length ≤ 3 ∧ ∀ t ∈ c, TuK t) ∧ (d.length ≤ 3 ∧ ∀ t ∈ d, TuC t) ∧ y = slc 4 ([rR a, rS b, rK c, rC d].map rlF)
theorem ans4 (x : F) (hx : isInts x) (hxd : x.d = .f x) : ∃ a b c d, (a.length ≤ 3 ∧ ∀ t ∈ a, TuR t) ∧ (b.length ≤ 3 ∧ ∀ t ∈ b, TuS t) ∧ (c.length ≤ 3 ∧ ∀ t ∈ c, TuK t) ∧ (d.length ≤ 3 ∧ ∀ t ∈ d, TuC t) ∧ Ans pr 4 [x] (slc 4 ([rR a, rS b, rK c, rC d].map rlF)) := by
 have main : ∃ y, IsRels y ∧ Ans pr 4 [x] y := by
  refine ansE fn4 ?_
  have q13 := fun k => aB_iff (k := k) ans13
  have hsl : schL.length = 4 := rfl
  unfold g4
  dsimp only [oR, oM, oN, oG, oH, oF, oL, oK, oI, oS, oZ, oD]
  simp -implicitDefEqProofs [rulA, Function.comp_def, Nat.blt_eq, apO, st0, tmOf, hxd, q13]
  refine roundR x hx hxd [] (by simp) _ _ ⟨?_, ?_, ?_, .f .nils, ?_, Grow.nil⟩ ?_
  any_goals (simp -implicitDefEqProofs [rulA, Function.comp_def, Nat.blt_eq, apO, tmOf]; done)
  intro S1 a ha1 ha2 h1
  refine roundS x hx hxd _ (by simp) _ _ h1 ?_
  intro S2 b hb1 hb2 h2
  refine roundK x hx hxd _ (by simp) _ _ h2 ?_
  intro S3 c hc1 hc2 h3
  refine roundC x hx hxd _ (by simp) _ _ h3 ?_
  rintro S4 d hd1 hd2 ⟨h0, h4, h5, dO, h3, hg⟩
  unfold lo4
  dsimp only [oR, oM, oN, oG, oH, oF, oL, oK, oI, oS, oZ, oD]
  refine round ?_
  obtain ⟨rd, hf⟩ := grow_frz (k := 11) hg (rlE_frz _ 10 _)
  simp -implicitDefEqProofs [rulA, Function.comp_def, Nat.blt_eq, apO, h0, h4, h5, h3, hsl, hf]
  exact ⟨a, b, c, d, ⟨ha1, ha2⟩, ⟨hb1, hb2⟩, ⟨hc1, hc2⟩, ⟨hd1, hd2⟩, rfl⟩
 obtain ⟨y, ⟨a, b, c, d, h1, h2, h3, h4, rfl⟩, ha⟩ := main
 exact ⟨a, b, c, d, h1, h2, h3, h4, ha⟩
end Go.Proofs.YtffjpakgkecheaaGreat
