/- t -/
import Derived.Test.YtffjpakgkecheaaGreatShX
import Derived.Test.YtffjpakgkecheaaGreatFs
import Derived.Test.YtffjpakgkecheaaGreatW9
import Derived.Test.YtffjpakgkecheaaGreatShG
set_option linter.all false
namespace Go.Proofs.YtffjpakgkecheaaGreat
open Go Go.Vse Go.Vse.Sm
set_option maxRecDepth 100000
set_option maxHeartbeats 4000000
set_option linter.unusedSimpArgs false
theorem fn14 : pr.fn 14 = some g14 := by kernel_rfl
theorem fn15 : pr.fn 15 = some g15 := by kernel_rfl
theorem fn6 : pr.fn 6 = some g6 := by kernel_rfl
theorem and_mask (a : Int) (m : Nat) (hm : m < 2147483648) : ∃ r : Nat, r ≤ m ∧ binF .and (.i .i64 a) (.i .i64 m) = some (.i .i64 r) := by
 refine ⟨(BitVec.ofInt 64 a &&& BitVec.ofInt 64 m).toNat, ?_, ?_⟩
 ·rw [BitVec.toNat_and]
  refine Nat.le_trans Nat.and_le_right ?_
  rw [BitVec.toNat_ofInt]
  omega
 ·have hle : (BitVec.ofInt 64 a &&& BitVec.ofInt 64 m).toNat ≤ m := by
   rw [BitVec.toNat_and]
   refine Nat.le_trans Nat.and_le_right ?_
   rw [BitVec.toNat_ofInt]
   omega
  have e : binF .and (.i .i64 a) (.i .i64 m) = some (.i .i64 (IntKind.i64.wrap ((BitVec.ofInt 64 a &&& BitVec.ofInt 64 m).toNat : Int))) := rfl
  rw [e, wrap_i64 _ (by omega) (by omega)]
def isInts (x : F) : Prop := x = .nils ∨ ∃ zs : List Int, x = .sl 1 (zs.map fun z => [.i .i64 z])
theorem ans14 {x : F} (hx : isInts x) (i : Nat) (hi : i < 1000) : ∃ n : Nat, n < 100000 ∧ Ans pr 14 [x, .i .i64 i] (.i .i64 n) := by
 obtain ⟨r0, hr0, he0⟩ := and_mask i 65535 (by omega)
 have he0' : binF .and (.i .i64 i) (.i .i64 65535) = some (.i .i64 r0) := he0
 rcases hx with rfl | ⟨zs, rfl⟩
 ·refine ⟨r0, by omega, ansP fn14 ?_⟩
  unfold g14
  dsimp only [oR, oM, oN, oG, oH, oF, oL, oK, oI, oS, oZ, oD]
  simp -implicitDefEqProofs [rulA, Function.comp_def, Nat.blt_eq, apO, st0, tmOf, he0']
 ·by_cases hz : zs = []
  ·subst hz
   refine ⟨r0, by omega, ansP fn14 ?_⟩
   unfold g14
   dsimp only [oR, oM, oN, oG, oH, oF, oL, oK, oI, oS, oZ, oD]
   simp -implicitDefEqProofs [rulA, Function.comp_def, Nat.blt_eq, apO, st0, tmOf, he0']
  ·have hlen : 0 < zs.length := List.length_pos_iff.2 hz
   have hne : ((zs.length : Nat) : Int) ≠ 0 := by omega
   have hmod : i % zs.length < zs.length := Nat.mod_lt _ hlen
   obtain ⟨m, hm⟩ : ∃ m, m = i % zs.length := ⟨_, rfl⟩
   obtain ⟨d, hd⟩ : ∃ d, d = i / zs.length := ⟨_, rfl⟩
   have hdl : d ≤ i := by rw [hd]; exact Nat.div_le_self _ _
   rw [← hm] at hmod
   obtain ⟨r, hr, he⟩ := and_mask zs[m] 65535 (by omega)
   have he' : binF .and (.i .i64 zs[m]) (.i .i64 65535) = some (.i .i64 r) := he
   have hrem : binF .rem (.i .i64 i) (.i .i64 zs.length) = some (.i .i64 (m : Int)) := by
    rw [bin_rem _ _ hne, hm]; rfl
   have hquo : binF .quo (.i .i64 i) (.i .i64 zs.length) = some (.i .i64 (d : Int)) := by
    rw [bin_quo _ _ hne, show ((i : Int).tdiv (zs.length : Int)) = (d : Int) by rw [hd]; rfl, wrap_i64 _ (by omega) (by omega)]
   have hx : zs[m]? = some zs[m] := List.getElem?_eq_getElem hmod
   have hadd : IntKind.i64.wrap ((r : Int) + (d : Int)) = ((r + d : Nat) : Int) := by
    rw [wrap_i64 _ (by omega) (by omega)]; rfl
   refine ⟨r + d, by omega, ?_⟩
   refine ansP fn14 ?_
   unfold g14
   dsimp only [oR, oM, oN, oG, oH, oF, oL, oK, oI, oS, oZ, oD]
   simp -implicitDefEqProofs [rulA, Function.comp_def, Nat.blt_eq, apO, st0, tmOf, hz]
   refine dreg_i ?_
   simp -implicitDefEqProofs [rulA, Function.comp_def, Nat.blt_eq, apO, hrem, hquo, hx, he', hadd]
theorem ans6 (n : Int) : Ans pr 6 [.i .i64 n] (.ag (vF n)) := by
 refine ansP fn6 ?_
 unfold g6 vF
 dsimp only [oR, oM, oN, oG, oH, oF, oL, oK, oI, oS, oZ, oD]
 simp -implicitDefEqProofs [rulA, Function.comp_def, Nat.blt_eq, apO, st0, tmOf]
theorem k31_0 : Ans pr 31 [.i .i64 1, .i .i64 2] (.tu [.ag [.b false,.sl 1 [[.i .u32 1]],.sl 1 [[.i .u32 2]]], .i .i64 0]) := runP_ans (n := 1000) (orc0_ok pr) (by kernel_rfl)
theorem k31_1 : Ans pr 31 [.i .i64 1, .i .i64 3] (.tu [.ag [.b false,.sl 1 [[.i .u32 1]],.sl 1 [[.i .u32 3]]], .i .i64 0]) := runP_ans (n := 1000) (orc0_ok pr) (by kernel_rfl)
theorem k31_2 : Ans pr 31 [.i .i64 2, .i .i64 3] (.tu [.ag [.b false,.sl 1 [[.i .u32 2]],.sl 1 [[.i .u32 3]]], .i .i64 0]) := runP_ans (n := 1000) (orc0_ok pr) (by kernel_rfl)
theorem k31_3 : Ans pr 31 [.i .i64 1, .i .i64 4] (.tu [.ag [.b false,.sl 1 [[.i .u32 1]],.sl 1 [[.i .u32 4]]], .i .i64 0]) := runP_ans (n := 1000) (orc0_ok pr) (by kernel_rfl)
theorem k31_4 : Ans pr 31 [.i .i64 1, .i .i64 1] (.tu [.ag [.b false,.sl 1 [[.i .u32 1]],.sl 1 [[.i .u32 1]]], .i .i64 0]) := runP_ans (n := 1000) (orc0_ok pr) (by kernel_rfl)
theorem k31_5 : Ans pr 31 [.i .i64 0, .i .i64 1] (.tu [.ag [.b false,.nils,.sl 1 [[.i .u32 1]]], .i .i64 0]) := runP_ans (n := 1000) (orc0_ok pr) (by kernel_rfl)
theorem k31_6 : Ans pr 31 [.i .i64 3, .i .i64 5] (.tu [.ag [.b false,.sl 1 [[.i .u32 3]],.sl 1 [[.i .u32 5]]], .i .i64 0]) := runP_ans (n := 1000) (orc0_ok pr) (by kernel_rfl)
theorem k31_7 : Ans pr 31 [.i .i64 1, .i .i64 7] (.tu [.ag [.b false,.sl 1 [[.i .u32 1]],.sl 1 [[.i .u32 7]]], .i .i64 0]) := runP_ans (n := 1000) (orc0_ok pr) (by kernel_rfl)
theorem ans15 (n : Int) : ∃ p, PPp p ∧ Ans pr 15 [.i .i64 n] (.ag p) := by
 obtain ⟨r, hr, he⟩ := and_mask n 7 (by omega)
 have he' : binF .and (.i .i64 n) (.i .i64 7) = some (.i .i64 r) := he
 have main : ∃ y, (∃ p, PPp p ∧ y = .ag p) ∧ Ans pr 15 [.i .i64 n] y := by
  refine ansE fn15 ?_
  unfold g15
  dsimp only [oR, oM, oN, oG, oH, oF, oL, oK, oI, oS, oZ, oD]
  have hc : r = 0 ∨ r = 1 ∨ r = 2 ∨ r = 3 ∨ r = 4 ∨ r = 5 ∨ r = 6 ∨ r = 7 := by omega
  rcases hc with rfl | rfl | rfl | rfl | rfl | rfl | rfl | rfl
  ·have q0 := fun k => aB_iff (k := k) k31_0
   simp -implicitDefEqProofs [rulA, Function.comp_def, Nat.blt_eq, apO, st0, tmOf, he', q0]
   exact mg 0 rfl
  ·have q0 := fun k => aB_iff (k := k) k31_1
   simp -implicitDefEqProofs [rulA, Function.comp_def, Nat.blt_eq, apO, st0, tmOf, he', q0]
   exact mg 1 rfl
  ·have q0 := fun k => aB_iff (k := k) k31_2
   simp -implicitDefEqProofs [rulA, Function.comp_def, Nat.blt_eq, apO, st0, tmOf, he', q0]
   exact mg 2 rfl
  ·have q0 := fun k => aB_iff (k := k) k31_3
   simp -implicitDefEqProofs [rulA, Function.comp_def, Nat.blt_eq, apO, st0, tmOf, he', q0]
   exact mg 3 rfl
  ·have q0 := fun k => aB_iff (k := k) k31_4
   simp -implicitDefEqProofs [rulA, Function.comp_def, Nat.blt_eq, apO, st0, tmOf, he', q0]
   exact mg 4 rfl
  ·have q0 := fun k => aB_iff (k := k) k31_5
   simp -implicitDefEqProofs [rulA, Function.comp_def, Nat.blt_eq, apO, st0, tmOf, he', q0]
   exact mg 5 rfl
  ·have q0 := fun k => aB_iff (k := k) k31_6
   simp -implicitDefEqProofs [rulA, Function.comp_def, Nat.blt_eq, apO, st0, tmOf, he', q0]
   exact mg 6 rfl
  ·have q0 := fun k => aB_iff (k := k) k31_7
   simp -implicitDefEqProofs [rulA, Function.comp_def, Nat.blt_eq, apO, st0, tmOf, he', q0]
   exact mg 7 rfl
 obtain ⟨y, ⟨p, hp, rfl⟩, ha⟩ := main
 exact ⟨p, hp, ha⟩
end Go.Proofs.YtffjpakgkecheaaGreat
