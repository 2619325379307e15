/- 'ShatterSplits' returns true for every list of numbers and every two numbers, and changes nothing that was there before. Conditions: none. (The frame was written by the kit's program proof-skeleton.mjs.) -/
import Derived.Test.YtffjpakgkecheaaGreatW15
import Derived.Test.YtffjpakgkecheaaGreatAll
import Derived.Test.YtffjpakgkecheaaGreatRows
import Derived.WalkKit
import Derived.ProofKit
import Derived.OpenShut
import Derived.ShutString
import Derived.ChangeOld
import Derived.Below
set_option linter.all false
set_option linter.all false
namespace Go.Proofs.YtffjpakgkecheaaGreat.shatterSplits
open Go.ChangeShapes Go.WideShapes Go.ChangeAt Go.RowKit
open Go.ChangeMaps (open_string shut_string)
set_option linter.unusedVariables false
theorem own : ownKnob Tryz.prog.godebug = none := by kernel_rfl
theorem laidOut : laidOutB Tryz.prog = true := by kernel_rfl
def IsRow (k : IntKind) (w : World) (a : Option Addr) (len cap : Nat) (zs : List Int) : Prop :=
 (a = none ∧ len = 0 ∧ cap = 0 ∧ zs = []) ∨
 ∃ x, a = some x ∧ len ≤ cap ∧ cap ≤ maxLen ∧ zs.length = cap ∧ (∀ i, i < zs.length → w.cell? (x.add i) = some (.int k (zs.getD i 0))) ∧ ∀ n ∈ zs, (Lit.int k n).wf = true
theorem isInts_row (k : IntKind) (hk : k = .i64) (a : Option Addr) (len : Nat) (zs : List Int) : isInts (Go.Vse.rowF k a.isNone len zs) := by
 subst hk
 unfold Go.Vse.rowF
 split
 ·exact .inl rfl
 ·exact .inr ⟨_, rfl⟩
theorem row_d (k : IntKind) (a : Option Addr) (len : Nat) (zs : List Int) : (Go.Vse.rowF k a.isNone len zs).d = .f (Go.Vse.rowF k a.isNone len zs) := by
 unfold Go.Vse.rowF
 split <;> rfl
theorem rel_is {k : IntKind} {w : World} {a : Option Addr} {len cap : Nat} {zs : List Int} (h : IsRow k w a len cap zs) : Go.Vse.RelF w.heap Go.Vse.noAmb (Go.Vse.rowF k a.isNone len zs) (.slice a len cap) :=
 Go.Vse.rel_row (h.imp id fun ⟨x, h1, h2, _, h4, h5, _⟩ => ⟨x, h1, h2, h4, h5⟩)
theorem frz_b {h : Nat → Option Go.Vse.Ob} {n : Nat} {d : Go.Vse.D} {b : Bool} {rd : List Nat} (hf : Go.Vse.frz h (n + 1) d = some (.b b, rd)) : d = .f (.b b) := by
 cases d with
 | f x => simp only [Go.Vse.frz, Option.some.injEq, Prod.mk.injEq] at hf; rw [hf.1]
 | ag cs =>
  rw [Go.Vse.fz_ag] at hf
  simp only [Go.Vse.om] at hf
  cases h1 : Go.Vse.mapFr (Go.Vse.frz h n) cs with
  | none => rw [h1] at hf; cases hf
  | some p => rw [h1] at hf; simp at hf
 | tu cs =>
  rw [Go.Vse.fz_tu] at hf
  simp only [Go.Vse.om] at hf
  cases h1 : Go.Vse.mapFr (Go.Vse.frz h n) cs with
  | none => rw [h1] at hf; cases hf
  | some p => rw [h1] at hf; simp at hf
 | sl id off len es lim ex =>
  rw [Go.Vse.fz_sl] at hf
  simp only [Go.Vse.om] at hf
  cases h1 : h id with
  | none => rw [h1] at hf; cases hf
  | some o =>
   rw [h1] at hf
   cases o with
   | arr es' ro els =>
    simp only [Option.bind_some, Go.Vse.fzS] at hf
    split at hf
    ·simp only [Go.Vse.om] at hf
     cases h2 : Go.Vse.mapFrr (Go.Vse.frz h n) ((els.drop off).take len) with
     | none => rw [h2] at hf; cases hf
     | some p => rw [h2] at hf; simp at hf
    ·cases hf
   | _ => cases hf
 | _ => cases hf
theorem walk (a0 : Option Addr) (len0 cap0 : Nat) (z0 : List Int) (a1 : Int) (a2 : Int) (w : World) (w0 : IsRow .i64 w a0 len0 cap0 z0) (w1 : (Lit.int .i64 a1).wf = true) (w2 : (Lit.int .i8 a2).wf = true) :
  Calls Tryz.prog 3 #[.slice a0 len0 cap0, .int .i64 a1, .int .i8 a2] w fun e w' => e = .returned (.bool true) ∧ Below w.heap.size w w' := by
 obtain ⟨q, rd, hc, hq⟩ := ans3 _ (isInts_row .i64 rfl a0 len0 z0) (row_d ..) a1 a2
 refine Go.Vse.land prOk (vs := [.slice a0 len0 cap0, .int .i64 a1, .int .i8 a2]) (fun n cs h => by cases h) ?_ hc (frz_b hq)
 simp only [Go.Vse.RelFL]
 exact ⟨_, _, rfl, rel_is w0, _, _, rfl, rfl, _, _, rfl, rfl, rfl⟩
set_option maxRecDepth 100000 in
theorem lifted (os : Os) (started : os.Started) (H : Type) (enc : TypeId × Value → H) :
  ReturnsInHanded {} Tryz.checked os 3 .any (Rows.shatterSplitsSpec.pre6 enc Tryz.prog Tryz.f3 Rows.shatterSplitsRow.domain false) (Rows.shatterSplitsSpec.post enc Tryz.prog Tryz.f3 false true false false) := by
 refine returnsInHanded_of_change (C := Tryz.checked) own started (by kernel_rfl) Tryz.func3
  (ChangeSpec.witness6 (enc := enc) (C := Tryz.checked) false ⟨#[], #[.slice none 0 0, .int .i64 0, .int .i8 0], []⟩ 8 (by kernel_rfl) (by kernel_rfl) (by kernel_rfl) (by kernel_rfl)) ?_
 intro W base args ds gs before hval0 hW hcnd _
 have hval : ∀ (j : Nat) t v, Tryz.f3.params[j]? = some t → args[j]? = some v → Value.okWide Tryz.prog W .any base t v := hval0
 have hW' := hW
 obtain ⟨p, q, hA0, hV, rfl, hfz, hnd⟩ := hW
 have hA : DataW.TrodAll enc Tryz.prog W 0 (fun _ => true) true Tryz.f3.params.toList args.toList ds p := hA0
 rw [Tryz.params3] at hA hval
 obtain ⟨v0, vs0, d0, ds0, p0, q0, hargs, rfl, rfl, h0, r0⟩ := trodAll_cons hA
 obtain ⟨v1, vs1, d1, ds1, p1, q1, rfl, rfl, rfl, h1, r1⟩ := trodAll_cons r0
 obtain ⟨v2, vs2, d2, ds2, p2, q2, rfl, rfl, rfl, h2, r2⟩ := trodAll_cons r1
 obtain ⟨rfl, rfl, rfl⟩ := trodAll_nil r2
 obtain rfl : args = #[v0, v1, v2] := by cases args; simp_all
 obtain ⟨rfl, rfl⟩ := trodVars_none hV
 obtain ⟨a0, len0, cap0, rfl⟩ := okWide_slice Tryz.underlying22 (hval 0 22 v0 rfl rfl)
 have k0 := h0
 have lt0 : ∀ x ∈ p0, x.block < W.heap.size := by obtain ⟨m, hm⟩ := k0; exact DataW.trod_lt m _ _ _ hm
 obtain ⟨z0, w0⟩ : ∃ zs, IsRow .i64 W a0 len0 cap0 zs := by
  obtain ⟨fuel, hf⟩ := h0
  rcases open_ints Tryz.underlying22 Tryz.underlying3 (by kernel_rfl) hf with ⟨hcs, _⟩ | ⟨x, l, c, zs, hcs, _, hl, hm, hz, _, hcell, hwz⟩
  ·simp [Value.cells] at hcs
   obtain ⟨rfl, rfl, rfl⟩ := hcs
   exact ⟨[], .inl ⟨rfl, rfl, rfl, rfl⟩⟩
  ·simp [Value.cells] at hcs
   obtain ⟨rfl, rfl, rfl⟩ := hcs
   exact ⟨zs, .inr ⟨_, rfl, hl, hm, by simpa using hz, hcell, hwz⟩⟩
 obtain ⟨a1, rfl, rfl, rfl, w1⟩ := open_int Tryz.underlying3 (hval 1 3 v1 rfl rfl) h1
 obtain ⟨a2, rfl, rfl, rfl, w2⟩ := open_int Tryz.underlying23 (hval 2 23 v2 rfl rfl) h2
 clear hA0 hval0
 refine (walk a0 len0 cap0 z0 a1 a2 W w0 w1 w2).mono fun e W' ⟨he, bel⟩ => ?_
 subst he
 exact ⟨_, rfl, _, _, _, [], _, [], hW', trodAll_mk1 (shut_bool Tryz.underlying4 _), (trodAll_cons_mk (Below.trod laidOut (by kernel_rfl) (of_decide_eq_true (by kernel_rfl)) k0 bel lt0) (trodAll_cons_mk (shut_int Tryz.underlying3 w1) (trodAll_cons_mk (shut_int Tryz.underlying23 w2) trodAll_mk0))), rfl, bel.frame _, fun h => by cases h⟩
theorem over : Rows.shatterSplitsRow.holds Tryz.pinned (OpenSpec.ofChange Rows.shatterSplitsSpec) :=
 OpenClaim.holds_of_wide 3 Tryz.f3 rfl rfl rfl rfl rfl rfl rfl ⟨rfl, rfl, rfl, rfl, rfl⟩ rfl rfl rfl rfl rfl (by kernel_rfl) Tryz.func3 (by kernel_rfl)
  (of_decide_eq_true (by kernel_rfl)) (by unfold Func.isWrapper; first | (rw [if_pos (by decide +kernel)]; kernel_rfl) | (rw [if_neg (by decide +kernel)]; exact ⟨rfl, rfl⟩))
  (fun os started H enc _ => lifted os started H enc)
theorem proved : Rows.ShatterSplitsSaid := over
#print axioms proved
end Go.Proofs.YtffjpakgkecheaaGreat.shatterSplits
