/- What 'SemanticsGroundings' answers: true, whatever the two numbers. -/
import Derived.Test.YtjmjeeieakilfaaGreatDoorPM0
import Derived.Test.YtjmjeeieakilfaaGreatDoorPM1
import Derived.Test.YtjmjeeieakilfaaGreatDoorPM2
import Derived.Test.YtjmjeeieakilfaaGreatDoorPM3
import Derived.Test.YtjmjeeieakilfaaGreatDoorVe
import Derived.KernelRfl
import GoSem.Claim
set_option linter.all false
namespace Go.Proofs.YtjmjeeieakilfaaGreatDoor
open Go Go.Vse
set_option maxRecDepth 100000
set_option maxHeartbeats 4000000

theorem ran_u8 {a : Int} (h : (Lit.int .u8 a).wf = true) : ∃ n : Nat, n < 256 ∧ a = n := by
  simp only [Lit.wf, Bool.and_eq_true, decide_eq_true_eq] at h
  have h1 : (0 : Int) ≤ a := h.1
  have h2 : a ≤ 255 := h.2
  exact ⟨a.toNat, by omega, by omega⟩

/-- the slots of the two arguments, and which of them they hold -/
def kk (i : Nat) : Option Nat := if i = 0 then some 0 else if i = 15 then some 0 else if i = 1 then some 1 else if i = 46 then some 1 else if i = 69 then some 1 else none
/-- where the code looks at them -/
def sq : O A → Bool
  | .bin .and (.t i) (.k (.i .u8 z)) => (match kk i with | some _ => true | none => false) && z == 3
  | _ => false
def same3 (a b : Nat) : Bool := match binF .and (.i .u8 (a : Int)) (.i .u8 3), binF .and (.i .u8 (b : Int)) (.i .u8 3) with
  | some x, some y => F.beq x y
  | _, _ => false
theorem all3 : (List.range 256).all (fun a => same3 a (a % 4)) = true := by kernel_rfl
theorem and3 {a : Nat} (h : a < 256) : binF .and (.i .u8 (a : Int)) (.i .u8 3) = binF .and (.i .u8 ((a % 4 : Nat) : Int)) (.i .u8 3) := by
  have h1 := List.all_eq_true.1 all3 a (by simpa using h)
  unfold same3 at h1
  split at h1
  · rename_i x y e1 e2
    rw [e1, e2, F.beq_eq _ _ h1]
  · simp at h1

theorem fn3 : pr.fn 3 = some g3 := by kernel_rfl
theorem ok3 : okFn kk sq g3 = true := by kernel_rfl

theorem frz_b {h : Nat → Option Ob} {d : D} {b : Bool} {rd : List Nat} (e : frz h 12 d = some (.b b, rd)) : d = .f (.b b) := by
  cases d with
  | f x => rw [fz12_f] at e; cases e; rfl
  | ag cs => rw [fz12_ag] at e; split at e <;> cases e
  | tu cs => rw [fz12_tu] at e; split at e <;> cases e
  | sl id off len es lim ex =>
    rw [fz12_sl] at e
    repeat' split at e
    all_goals cases e
  | _ => simp [frz] at e

theorem mainC (a0 a1 : Int) (h0 : ∃ n : Nat, n < 256 ∧ a0 = n) (h1 : ∃ n : Nat, n < 256 ∧ a1 = n) : ∃ q, q.d = .f (.b true) ∧ Con pr 3 (F.dL [.i .u8 a0, .i .u8 a1]) .e 0 q := by
  obtain ⟨n, hn, rfl⟩ := h0
  obtain ⟨k, hk, rfl⟩ := h1
  have hr : ∀ m h c, evFn pr m 3 (F.dL [.i .u8 (n : Int), .i .u8 (k : Int)]) h c = evFn pr m 3 (F.dL [.i .u8 ((n % 4 : Nat) : Int), .i .u8 ((k % 4 : Nat) : Int)]) h c := by
    intro m h c
    refine evFn_rel (K := kk) (spq := sq) (u := fun i => .f (.i .u8 (if i = 0 then (n : Int) else (k : Int)))) (u' := fun i => .f (.i .u8 (if i = 0 then ((n % 4 : Nat) : Int) else ((k % 4 : Nat) : Int)))) fn3 ok3 ?_ ?_ ?_ m h c
    · intro m o ho
      unfold sq at ho
      split at ho
      · rename_i i z
        simp only [Bool.and_eq_true, beq_iff_eq] at ho
        obtain ⟨hi, rfl⟩ := ho
        split at hi
        · rename_i j hj
          refine special_bin hj rfl rfl ?_ rfl
          by_cases h0 : j = 0
          · simp only [h0, if_true]; exact and3 hn
          · simp only [h0, if_false]; exact and3 hk
        · cases hi
      · cases ho
    · intro i hi
      have i0 : i ≠ 0 := by rintro rfl; simp [kk] at hi
      have i1 : i ≠ 1 := by rintro rfl; simp [kk] at hi
      simp [tmOf, F.dL, F.d, T.get_set, i0, i1]
    · intro i j hj
      by_cases h0 : i = 0
      · subst h0
        have : j = 0 := by simp [kk] at hj; exact hj.symm
        subst this
        right; simp [tmOf, F.dL, F.d, T.get_set]
      · by_cases h1 : i = 1
        · subst h1
          have : j = 1 := by simp [kk] at hj; exact hj.symm
          subst this
          right; simp [tmOf, F.dL, F.d, T.get_set]
        · left; simp [tmOf, F.dL, F.d, T.get_set, h0, h1, T.get_e]
  have fin : ∀ n k : Nat, n < 4 → k < 4 → ∃ q, q.d = .f (.b true) ∧ Con pr 3 (F.dL [.i .u8 (n : Int), .i .u8 (k : Int)]) .e 0 q := by
    intro n k hn hk
    have cases4 : Ans pr 3 [.i .u8 (n : Int), .i .u8 (k : Int)] (.b true) := by
      match n, k, hn, hk with
      | 0, 0, _, _ => exact P553
      | 0, 1, _, _ => exact P556
      | 0, 2, _, _ => exact P560
      | 0, 3, _, _ => exact P561
      | 1, 0, _, _ => exact P590
      | 1, 1, _, _ => exact P592
      | 1, 2, _, _ => exact P594
      | 1, 3, _, _ => exact P595
      | 2, 0, _, _ => exact P625
      | 2, 1, _, _ => exact P627
      | 2, 2, _, _ => exact P629
      | 2, 3, _, _ => exact P630
      | 3, 0, _, _ => exact P661
      | 3, 1, _, _ => exact P663
      | 3, 2, _, _ => exact P665
      | 3, 3, _, _ => exact P666
      | n + 4, _, h, _ => omega
      | _, k + 4, _, h => omega
    obtain ⟨q, rd, hc, hf⟩ := cases4
    exact ⟨q, frz_b hf, hc⟩
  obtain ⟨q, hq, hc⟩ := fin (n % 4) (k % 4) (Nat.mod_lt _ (by decide)) (Nat.mod_lt _ (by decide))
  exact ⟨q, hq, con_rel hr hc⟩
end Go.Proofs.YtjmjeeieakilfaaGreatDoor
