/- 'ContainmentMaps' returns true for every three numbers, and changes nothing that was there before. Conditions: none. (The frame was written by the kit's program proof-skeleton.mjs.) -/
import Derived.Test.YtimgcabgophnfaaGreatPk
import Derived.Test.YtimgcabgophnfaaGreatAll
import Derived.Test.YtimgcabgophnfaaGreatRows
import Derived.WalkKit
import Derived.ProofKit
import Derived.OpenShut
import Derived.Below
import Derived.ChangeOld
set_option linter.all false
set_option linter.all false
namespace Go.Proofs.YtimgcabgophnfaaGreat.containmentMaps
open Go.ChangeShapes Go.WideShapes Go.ChangeAt Go.RowKit
set_option linter.unusedVariables false
theorem own : ownKnob Tryz.prog.godebug = none := by kernel_rfl
theorem frz_b {h : Nat → Option Go.Vse.Ob} {n : Nat} {d : Go.Vse.D} {b : Bool} {rd : List Nat} (hf : Go.Vse.frz h (n + 1) d = some (.b b,rd)) : d = .f (.b b) := by
 cases d with
 | f x => simp only [Go.Vse.frz,Option.some.injEq,Prod.mk.injEq] at hf; rw [hf.1]
 | ag cs =>
  rw [Go.Vse.znB] at hf;simp only [Go.Vse.om] at hf;cases h1 : Go.Vse.zbl (Go.Vse.frz h n) cs with
  | none => rw [h1] at hf; cases hf
  | some p => rw [h1] at hf; simp at hf
 | tu cs =>
  rw [Go.Vse.zIt] at hf;simp only [Go.Vse.om] at hf;cases h1 : Go.Vse.zbl (Go.Vse.frz h n) cs with
  | none => rw [h1] at hf; cases hf
  | some p => rw [h1] at hf; simp at hf
 | sl id off len es lim ex =>
  rw [Go.Vse.zlG] at hf;simp only [Go.Vse.om] at hf;cases h1 : h id with
  | none => rw [h1] at hf; cases hf
  | some o =>
   rw [h1] at hf;cases o with
   | arr es' ro els =>
    simp only [Option.bind_some,Go.Vse.fzS] at hf;split at hf
    ·simp only [Go.Vse.om] at hf;cases h2 : Go.Vse.zaT (Go.Vse.frz h n) ((els.drop off).take len) with
     | none => rw [h2] at hf; cases hf
     | some p => rw [h2] at hf; simp at hf
    ·cases hf
   | _ => cases hf
 | _ => cases hf
theorem walk (a0 : Int) (a1 : Int) (a2 : Int) (w0 : (Lit.int .i64 a0).wf = true) (w1 : (Lit.int .i64 a1).wf = true) (w2 : (Lit.int .i64 a2).wf = true) (w : World) :
  Calls Tryz.prog 3 #[.int .i64 a0,.int .i64 a1,.int .i64 a2] w fun e w' => e = .returned (.bool true) ∧ Below w.heap.size w w' := by
 obtain ⟨q,rd,hc,hq⟩ := ans3 a0 a1 a2;refine Go.Vse.land prOk (vs := [.int .i64 a0,.int .i64 a1,.int .i64 a2]) (fun n cs h => by cases h) ?_ hc (frz_b hq);simp only [Go.Vse.zaS];exact ⟨_,_,rfl,rfl,_,_,rfl,rfl,_,_,rfl,rfl,rfl⟩
set_option maxRecDepth 100000 in
theorem lifted (os : Os) (started : os.Started) (H : Type) (enc : TypeId × Value → H) :
  ReturnsInHanded {} Tryz.checked os 3 .any (Rows.containmentMapsSpec.pre6 enc Tryz.prog Tryz.f3 Rows.containmentMapsRow.domain false) (Rows.containmentMapsSpec.post enc Tryz.prog Tryz.f3 false true false false) := by
 refine returnsInHanded_of_change (C := Tryz.checked) own started (by kernel_rfl) Tryz.func3
  (ChangeSpec.witness6 (enc := enc) (C := Tryz.checked) false ⟨#[],#[.int .i64 0,.int .i64 0,.int .i64 0],[]⟩ 8 (by kernel_rfl) (by kernel_rfl) (by kernel_rfl) (by kernel_rfl)) ?_
 intro W base args ds gs before hval0 hW hcnd _;have hval : ∀ (j : Nat) t v,Tryz.f3.params[j]? = some t → args[j]? = some v → Value.okWide Tryz.prog W .any base t v := hval0
 have hW' := hW;obtain ⟨p,q,hA0,hV,rfl,hfz,hnd⟩ := hW;have hA : DataW.TrodAll enc Tryz.prog W 0 (fun _ => true) true Tryz.f3.params.toList args.toList ds p := hA0;rw [Tryz.params3] at hA hval;obtain ⟨v0,vs0,d0,ds0,p0,q0,hargs,rfl,rfl,h0,r0⟩ := trodAll_cons hA;obtain ⟨v1,vs1,d1,ds1,p1,q1,rfl,rfl,rfl,h1,r1⟩ := trodAll_cons r0;obtain ⟨v2,vs2,d2,ds2,p2,q2,rfl,rfl,rfl,h2,r2⟩ := trodAll_cons r1;obtain ⟨rfl,rfl,rfl⟩ := trodAll_nil r2;obtain rfl : args = #[v0,v1,v2] := by cases args; simp_all
 obtain ⟨rfl,rfl⟩ := trodVars_none hV;obtain ⟨a0,rfl,rfl,rfl,w0⟩ := open_int Tryz.underlying3 (hval 0 3 v0 rfl rfl) h0;obtain ⟨a1,rfl,rfl,rfl,w1⟩ := open_int Tryz.underlying3 (hval 1 3 v1 rfl rfl) h1;obtain ⟨a2,rfl,rfl,rfl,w2⟩ := open_int Tryz.underlying3 (hval 2 3 v2 rfl rfl) h2;clear hA0 hval0;refine (walk a0 a1 a2 w0 w1 w2 W).mono fun e W' ⟨he,bel⟩ => ?_
 subst he;exact ⟨_,rfl,_,_,_,[],_,[],hW',trodAll_mk1 (shut_bool Tryz.underlying4 _),(trodAll_cons_mk (shut_int Tryz.underlying3 w0) (trodAll_cons_mk (shut_int Tryz.underlying3 w1) (trodAll_cons_mk (shut_int Tryz.underlying3 w2) trodAll_mk0))),rfl,bel.frame _,fun h => by cases h⟩
theorem over : Rows.containmentMapsRow.holds Tryz.pinned (OpenSpec.ofChange Rows.containmentMapsSpec) :=
 OpenClaim.holds_of_wide 3 Tryz.f3 rfl rfl rfl rfl rfl rfl rfl ⟨rfl,rfl,rfl,rfl,rfl⟩ rfl rfl rfl rfl rfl (by kernel_rfl) Tryz.func3 (by kernel_rfl)
  (of_decide_eq_true (by kernel_rfl)) (by unfold Func.isWrapper; first | (rw [if_pos (by decide +kernel)]; kernel_rfl) | (rw [if_neg (by decide +kernel)]; exact ⟨rfl,rfl⟩))
  (fun os started H enc _ => lifted os started H enc)
theorem proved : Rows.ContainmentMapsSaid :=
 over
#print axioms proved
end Go.Proofs.YtimgcabgophnfaaGreat.containmentMaps
