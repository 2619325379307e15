/- What 'PlanScales' answers: true, whatever the number and the bool. -/
import Derived.Test.YtpflgdmkpcpogaaGreatDoorVe
import Derived.Test.YtpflgdmkpcpogaaGreatDoorPM0
import Derived.Test.YtpflgdmkpcpogaaGreatDoorPM1
import Derived.Test.YtpflgdmkpcpogaaGreatDoorPM2
import Derived.Test.YtpflgdmkpcpogaaGreatDoorPM3
import Derived.KernelRfl
import Derived.IntWalk
import GoSem.Claim
set_option linter.all false
namespace Go.Proofs.YtpflgdmkpcpogaaGreatDoor
open Go Go.Vse
set_option maxRecDepth 100000
set_option maxHeartbeats 4000000

theorem wrap_i64 (n : Int) (h : 0 ≤ n) (h2 : n < 9223372036854775808) : IntKind.i64.wrap n = n := IntWalk.i64_in n (by omega)

theorem ran_i64 {a : Int} (_ : (Lit.int .i64 a).wf = true) : True := trivial

theorem and_mask (a : Int) (m : Nat) (hm : m < 2147483648) : ∃ r : Nat, r ≤ m ∧ binF .and (.i .i64 a) (.i .i64 m) = some (.i .i64 r) := by
  refine ⟨(BitVec.ofInt 64 a &&& BitVec.ofInt 64 m).toNat, ?_, ?_⟩
  · rw [BitVec.toNat_and]
    refine Nat.le_trans Nat.and_le_right ?_
    rw [BitVec.toNat_ofInt]
    omega
  · have hle : (BitVec.ofInt 64 a &&& BitVec.ofInt 64 m).toNat ≤ m := by
      rw [BitVec.toNat_and]
      refine Nat.le_trans Nat.and_le_right ?_
      rw [BitVec.toNat_ofInt]
      omega
    have e : binF .and (.i .i64 a) (.i .i64 m) = some (.i .i64 (IntKind.i64.wrap ((BitVec.ofInt 64 a &&& BitVec.ofInt 64 m).toNat : Int))) := rfl
    rw [e, wrap_i64 _ (by omega) (by omega)]

theorem and7 : ∀ r : Nat, r ≤ 7 → binF .and (.i .i64 (r : Int)) (.i .i64 7) = some (.i .i64 (r : Int))
  | 0, _ => by kernel_rfl
  | 1, _ => by kernel_rfl
  | 2, _ => by kernel_rfl
  | 3, _ => by kernel_rfl
  | 4, _ => by kernel_rfl
  | 5, _ => by kernel_rfl
  | 6, _ => by kernel_rfl
  | 7, _ => by kernel_rfl
  | n + 8, h => by omega

theorem fn3 : pr.fn 3 = some g3 := by kernel_rfl
theorem fn4 : pr.fn 4 = some g4 := by kernel_rfl

def k4 (i : Nat) : Option Nat := if i = 0 then some 0 else if i = 8 then some 0 else if i = 13 then some 0 else none
def s4 : O A → Bool
  | .bin .and (.t i) (.k (.i .i64 z)) => (match k4 i with | some _ => true | none => false) && z == 7
  | _ => false
theorem ok4 : okFn k4 s4 g4 = true := by kernel_rfl

theorem k4_some {i k : Nat} (h : k4 i = some k) : k = 0 := by
  unfold k4 at h
  repeat' split at h
  all_goals simp at h
  all_goals omega

theorem prob_rel (n : Int) (r : Nat) (hr : r ≤ 7) (he : binF .and (.i .i64 n) (.i .i64 7) = some (.i .i64 (r : Int))) (m : Nat) (h : T Ob) (c : Nat) :
    evFn pr m 4 [.f (.i .i64 n)] h c = evFn pr m 4 [.f (.i .i64 (r : Int))] h c := by
  refine evFn_rel (K := k4) (spq := s4) (u := fun _ => .f (.i .i64 n)) (u' := fun _ => .f (.i .i64 (r : Int))) fn4 ok4 ?_ ?_ ?_ m h c
  · intro m o ho
    unfold s4 at ho
    split at ho
    · rename_i i z
      simp only [Bool.and_eq_true, beq_iff_eq] at ho
      obtain ⟨hi, rfl⟩ := ho
      split at hi
      · rename_i k hk
        exact special_bin hk rfl rfl (he.trans (and7 r hr).symm) rfl
      · cases hi
    · cases ho
  · intro i hi
    have h0 : i ≠ 0 := by rintro rfl; simp [k4] at hi
    simp [tmOf, T.get_set, h0]
  · intro i k _
    by_cases h0 : i = 0
    · subst h0; right; simp [tmOf, T.get_set]
    · left; simp [tmOf, T.get_set, h0, T.get_e]

def k3 (i : Nat) : Option Nat := if i = 0 then some 0 else if i = 16 then some 0 else none
def s3 : O A → Bool
  | .callp f [.t i] => Nat.beq f 4 && (match k3 i with | some _ => true | none => false)
  | _ => false
theorem ok3 : okFn k3 s3 g3 = true := by kernel_rfl

theorem scales_rel (n : Int) (b : Bool) (r : Nat) (hr : r ≤ 7) (he : binF .and (.i .i64 n) (.i .i64 7) = some (.i .i64 (r : Int))) (m : Nat) (h : T Ob) (c : Nat) :
    evFn pr m 3 (F.dL [.i .i64 n, .b b]) h c = evFn pr m 3 (F.dL [.i .i64 (r : Int), .b b]) h c := by
  refine evFn_rel (K := k3) (spq := s3) (u := fun _ => .f (.i .i64 n)) (u' := fun _ => .f (.i .i64 (r : Int))) fn3 ok3 ?_ ?_ ?_ m h c
  · intro m o ho
    unfold s3 at ho
    split at ho
    · rename_i f i
      simp only [Bool.and_eq_true] at ho
      obtain ⟨hf, hi⟩ := ho
      have := Nat.eq_of_beq_eq_true hf
      subst this
      split at hi
      · rename_i k hk
        exact special_callp hk rfl rfl rfl rfl fun h c => prob_rel n r hr he m h c
      · cases hi
    · cases ho
  · intro i hi
    have h0 : i ≠ 0 := by rintro rfl; simp [k3] at hi
    simp [tmOf, F.dL, F.d, T.get_set, h0]
  · intro i k hk
    by_cases h0 : i = 0
    · subst h0; right; simp [tmOf, F.dL, F.d, T.get_set]
    · have h1 : i ≠ 1 := by rintro rfl; simp [k3] at hk
      left; simp [tmOf, F.dL, F.d, T.get_set, h0, h1, T.get_e]

theorem frz_b {h : Nat → Option Ob} {d : D} {b : Bool} {rd : List Nat} (e : frz h 12 d = some (.b b, rd)) : d = .f (.b b) := by
  cases d with
  | f x => rw [fz12_f] at e; cases e; rfl
  | ag cs => rw [fz12_ag] at e; split at e <;> cases e
  | tu cs => rw [fz12_tu] at e; split at e <;> cases e
  | sl id off len es lim ex =>
    rw [fz12_sl] at e
    repeat' split at e
    all_goals cases e
  | _ => simp [frz] at e

theorem mainC (a0 : Int) (a1 : Bool) (_ : True) : ∃ q, q.d = .f (.b true) ∧ Con pr 3 (F.dL [.i .i64 a0, .b a1]) .e 0 q := by
  obtain ⟨r, hr, he⟩ := and_mask a0 7 (by omega)
  have fin : Ans pr 3 [.i .i64 (r : Int), .b a1] (.b true) := by
    match r, a1, hr with
      | 0, true, _ => exact P370
      | 0, false, _ => exact P378
      | 1, true, _ => exact P406
      | 1, false, _ => exact P410
      | 2, true, _ => exact P456
      | 2, false, _ => exact P458
      | 3, true, _ => exact P534
      | 3, false, _ => exact P538
      | 4, true, _ => exact P591
      | 4, false, _ => exact P594
      | 5, true, _ => exact P638
      | 5, false, _ => exact P640
      | 6, true, _ => exact P721
      | 6, false, _ => exact P726
      | 7, true, _ => exact P807
      | 7, false, _ => exact P811
      | n + 8, _, h => omega
  obtain ⟨q, rd, hc, hf⟩ := fin
  exact ⟨q, frz_b hf, con_rel (fun m h c => scales_rel a0 a1 r hr he m h c) hc⟩
end Go.Proofs.YtpflgdmkpcpogaaGreatDoor
