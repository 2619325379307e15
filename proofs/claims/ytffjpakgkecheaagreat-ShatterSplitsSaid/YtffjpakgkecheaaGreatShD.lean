/- A loop, what holds behind it said ahead. -/
import Derived.Test.YtffjpakgkecheaaGreatShC
set_option linter.all false
namespace Go.Vse
variable [Globs]
section
variable {pr : Pr}
theorem loopQ {c : C} {Q : Ex → St → Prop} (I : Nat → St → Prop) (R : Ex → St → Prop) (hstep : ∀ k s, I k s → wpC pr c s (lp I k R)) (k : Nat) (s : St) (h : I k s) (hQ : ∀ x s, R x s → Q x s) : wpC pr (.loop c) s Q := by
 have hl : wpC pr (.loop c) s R := wpLoop I hstep k s h
 unfold wpC at hl ⊢
 obtain ⟨x, s', m, hr, e⟩ := hl
 exact ⟨x, s', m, hQ x s' hr, e⟩
theorem st_gen {P Q : St → Prop} {S : St} (h1 : P S) (h2 : ∀ s, P s → Q s) : Q S := h2 S h1
theorem sliceB_nils {es : Nat} {h : Nat → Option Ob} {lo hi : Option D} : sliceB es h (.f .nils) lo hi none = match optIdx 0 lo, optIdx 0 hi, optIdx 0 none with
  | some 0, some 0, some 0 => some (.f .nils, [])
  | _, _, _ => none := rfl
theorem el_fsl {es es' : Nat} {h : Nat → Option Ob} {els : List (List F)} : elemsOf es h (.f (.sl es' els)) = if es = es' then some (els.map (·.map D.f), []) else none := rfl
theorem el_nils {es : Nat} {h : Nat → Option Ob} : elemsOf es h (.f .nils) = some ([], []) := rfl
theorem slc_part {es : Nat} (l : List (List F)) (a b : Nat) (h1 : a ≤ b) (h2 : b ≤ l.length) : ∃ x : F, x.d = .f x ∧ (∀ h : Nat → Option Ob, sliceB es h (.f (slc es l)) (some (.f (.i .i64 a))) (some (.f (.i .i64 b))) none = some (.f x, [])) ∧
  (a = 0 → ∀ h : Nat → Option Ob, sliceB es h (.f (slc es l)) none (some (.f (.i .i64 b))) none = some (.f x, [])) ∧
  (b = l.length → ∀ h : Nat → Option Ob, sliceB es h (.f (slc es l)) (some (.f (.i .i64 a))) none none = some (.f x, [])) ∧
  (∀ h : Nat → Option Ob, elemsOf es h (.f x) = some (((l.drop a).take (b - a)).map (·.map D.f), [])) := by
 cases l with
 | nil =>
  simp at h2
  subst h2
  have : a = 0 := by omega
  subst this
  exact ⟨.nils, rfl, fun h => rfl, fun _ h => rfl, fun _ h => rfl, fun h => rfl⟩
 | cons w l =>
  refine ⟨.sl es (((w :: l).drop a).take (b - a)), rfl, ?_, ?_, ?_, ?_⟩
  ·intro h
   have h2' : b ≤ l.length + 1 := by simpa using h2
   simp [slc, sliceB, optIdx, toIdx, h1, h2']
  ·intro ha h
   subst ha
   have h2' : b ≤ l.length + 1 := by simpa using h2
   simp [slc, sliceB, optIdx, toIdx, h2']
  ·intro hb h
   subst hb
   have h1' : a ≤ l.length + 1 := by simpa using h1
   simp [slc, sliceB, optIdx, toIdx, h1']
  ·intro h
   simp [elemsOf]
end
end Go.Vse
