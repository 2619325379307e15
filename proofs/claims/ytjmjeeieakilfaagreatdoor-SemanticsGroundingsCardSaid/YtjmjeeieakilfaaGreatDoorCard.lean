/- 'SemanticsGroundings' returns true for every input, where the listed tables hold what the program's text lays; nothing that was there before is changed. (The frame follows the seat's worked example and the kit's skeleton.) -/
import Derived.Test.YtjmjeeieakilfaaGreatDoorCards
import Derived.Test.YtjmjeeieakilfaaGreatDoorFact0
import Derived.Test.YtjmjeeieakilfaaGreatDoorFact1
import Derived.Test.YtjmjeeieakilfaaGreatDoorFact2
import Derived.Test.YtjmjeeieakilfaaGreatDoorFact3
import Derived.Test.YtjmjeeieakilfaaGreatDoorTie
import Derived.Test.YtjmjeeieakilfaaGreatDoorAll
import Derived.Test.YtjmjeeieakilfaaGreatDoorMain
import Derived.WalkKit
import Derived.ProofKit
import Derived.OpenShut
import Derived.ShutString
import Derived.ChangeOld
import Derived.Below
import Derived.Deep.DeepHandedRow
import Derived.Lib.LaidTab
import Derived.Stop.LaidErr
set_option linter.all false
namespace Go.Proofs.YtjmjeeieakilfaaGreatDoor.semanticsGroundings
open Go.ChangeShapes Go.WideShapes Go.ChangeAt Go.RowKit
set_option linter.unusedVariables false
set_option maxRecDepth 100000

theorem own : ownKnob Tryz.prog.godebug = none := by kernel_rfl
theorem laidOut : laidOutB Tryz.prog = true := by kernel_rfl
def nm0 : String := match Rows.semanticsGroundingsRow.laid with
  | x :: _ => x.1
  | _ => ""
theorem gTab0 : Tryz.prog.globalNamed nm0 = some 0 := by kernel_rfl
theorem gType0 : (Tryz.prog.globals[0]?).map (·.type) = some 294 := by kernel_rfl
theorem cells294 : Tryz.prog.cellsOf 294 = 32 := by kernel_rfl
def tab0 : List Int := [0, 1, 28, 2, 29, 14, 24, 3, 30, 22, 20, 15, 25, 17, 4, 8, 31, 27, 13, 23, 21, 19, 16, 7, 26, 12, 18, 6, 11, 5, 10, 9]
def nm1 : String := match Rows.semanticsGroundingsRow.laid with
  | _ :: x :: _ => x.1
  | _ => ""
theorem gTab1 : Tryz.prog.globalNamed nm1 = some 1 := by kernel_rfl
theorem gType1 : (Tryz.prog.globals[1]?).map (·.type) = some 295 := by kernel_rfl
theorem cells295 : Tryz.prog.cellsOf 295 = 64 := by kernel_rfl
def tab1 : List Int := [0, 1, 56, 2, 57, 49, 28, 3, 61, 58, 42, 50, 38, 29, 17, 4, 62, 47, 59, 36, 45, 43, 51, 22, 53, 39, 33, 30, 24, 18, 12, 5, 63, 55, 48, 27, 60, 41, 37, 16, 46, 35, 44, 21, 52, 32, 23, 11, 54, 26, 40, 15, 34, 20, 31, 10, 25, 14, 19, 9, 13, 8, 7, 6]
theorem cells5 : Tryz.prog.cellsOf 5 = 1 := by kernel_rfl
theorem table0 {W : World} (h : laidMet Tryz.prog Rows.semanticsGroundingsRow.laid W) : Lib.TabIs Tryz.prog W nm0 .u8 tab0 :=
  Lib.tabIs_of_head (rest := _) gTab0 gType0 Tryz.underlying294 Tryz.underlying5 cells5 cells294 h
theorem table1 {W : World} (h : laidMet Tryz.prog Rows.semanticsGroundingsRow.laid W) : Lib.TabIs Tryz.prog W nm1 .u8 tab1 :=
  Lib.tabIs_of_head (rest := _) gTab1 gType1 Tryz.underlying295 Tryz.underlying5 cells5 cells295 (laidMet.tail h)

theorem globs_in {W : World} (h : laidMet Tryz.prog Rows.semanticsGroundingsRow.laid W) : Go.Vse.GlobsIn W.heap := by
  intro n cs hn
  have hn' : globF n = some cs := hn
  unfold globF at hn'
  cases hb1 : Nat.beq n 1 with
  | true =>
    rw [hb1] at hn'
    cases hn'
    rw [Nat.eq_of_beq_eq_true hb1]
    exact Go.Vse.relFC_tab (zs := tab1) (k := .u8) fun j hj => (table1 h).cell gTab1 j hj
  | false =>
    rw [hb1] at hn'
    cases hb0 : Nat.beq n 0 with
    | true =>
      rw [hb0] at hn'
      cases hn'
      rw [Nat.eq_of_beq_eq_true hb0]
      exact Go.Vse.relFC_tab (zs := tab0) (k := .u8) fun j hj => (table0 h).cell gTab0 j hj
    | false =>
      rw [hb0] at hn'
      cases hn'

theorem walk (a0 : Int) (a1 : Int) (w0 : (Lit.int .u8 a0).wf = true) (w1 : (Lit.int .u8 a1).wf = true) (w : World) (hL : laidMet Tryz.prog Rows.semanticsGroundingsRow.laid w) :
    Calls Tryz.prog 3 #[.int .u8 a0, .int .u8 a1] w fun e w' => e = .returned (.bool true) ∧ Below w.heap.size w w' := by
  obtain ⟨q, hq, hc⟩ := mainC a0 a1 (ran_u8 w0) (ran_u8 w1)
  refine Go.Vse.land prOk (vs := [.int .u8 a0, .int .u8 a1]) (globs_in hL) ?_ hc hq
  simp only [Go.Vse.RelFL, Go.Vse.RelF]
  exact ⟨_, _, rfl, rfl, ⟨_, _, rfl, rfl, rfl⟩⟩

theorem contract (H : Type) (enc : TypeId × Value → H) (W : World) (base : Nat) (args : Array Value) (ds gs : List (DataW H)) (before : List MemPlace)
    (hval : ∀ (j : Nat) t v, Tryz.f3.params[j]? = some t → args[j]? = some v → Value.okWide Tryz.prog W .any base t v)
    (hW : DataW.Whole enc Tryz.prog Tryz.f3.params.toList Rows.semanticsGroundingsSpec.vars false W args.toList ds gs before) (hL : laidMetH Tryz.prog Rows.semanticsGroundingsRow.laid W) :
    Calls Tryz.prog 3 args W fun e W' => ∃ v, e = .returned v ∧ Rows.semanticsGroundingsSpec.post enc Tryz.prog Tryz.f3 false true false false W args v W' := by
  have hW' := hW
  obtain ⟨p, q, hA0, hV, rfl, hfz, hnd⟩ := hW
  have hA : DataW.TrodAll enc Tryz.prog W 0 (fun _ => true) true Tryz.f3.params.toList args.toList ds p := hA0
  rw [Tryz.params3] at hA hval
  obtain ⟨v0, vs0, d0, ds0, p0, q0, hargs, rfl, rfl, h0, r0⟩ := trodAll_cons hA
  obtain ⟨v1, vs1, d1, ds1, p1, q1, rfl, rfl, rfl, h1, r1⟩ := trodAll_cons r0
  obtain ⟨rfl, rfl, rfl⟩ := trodAll_nil r1
  obtain rfl : args = #[v0, v1] := by cases args; simp_all
  obtain ⟨rfl, rfl⟩ := trodVars_none hV
  obtain ⟨a0, rfl, rfl, rfl, w0⟩ := open_int Tryz.underlying5 (hval 0 5 v0 rfl rfl) h0
  obtain ⟨a1, rfl, rfl, rfl, w1⟩ := open_int Tryz.underlying5 (hval 1 5 v1 rfl rfl) h1
  clear hA0
  simp only [List.append_nil] at hW'
  refine (walk a0 a1 w0 w1 W hL).mono fun e W' ⟨he, bel⟩ => ?_
  subst he
  exact ⟨_, rfl, _, _, _, [], _, [], hW', trodAll_mk1 (shut_bool Tryz.underlying4 _), (trodAll_cons_mk (shut_int Tryz.underlying5 w0) (trodAll_cons_mk (shut_int Tryz.underlying5 w1) trodAll_mk0)), rfl, bel.frame _, fun h => by cases h⟩

/-- a world for the witness: the settled one, the tables holding what their initialisers lay -/
noncomputable def laidWorld (os : Os) : World :=
  { World.holding Tryz.prog os ⟨#[], #[], []⟩ with heap := (((World.holding Tryz.prog os ⟨#[], #[], []⟩).heap.modify 0 fun
      | .cells _ t frozen => .cells #[.int .u8 0, .int .u8 1, .int .u8 28, .int .u8 2, .int .u8 29, .int .u8 14, .int .u8 24, .int .u8 3, .int .u8 30, .int .u8 22, .int .u8 20, .int .u8 15, .int .u8 25, .int .u8 17, .int .u8 4, .int .u8 8, .int .u8 31, .int .u8 27, .int .u8 13, .int .u8 23, .int .u8 21, .int .u8 19, .int .u8 16, .int .u8 7, .int .u8 26, .int .u8 12, .int .u8 18, .int .u8 6, .int .u8 11, .int .u8 5, .int .u8 10, .int .u8 9] t frozen
      | o => o).modify 1 fun
      | .cells _ t frozen => .cells #[.int .u8 0, .int .u8 1, .int .u8 56, .int .u8 2, .int .u8 57, .int .u8 49, .int .u8 28, .int .u8 3, .int .u8 61, .int .u8 58, .int .u8 42, .int .u8 50, .int .u8 38, .int .u8 29, .int .u8 17, .int .u8 4, .int .u8 62, .int .u8 47, .int .u8 59, .int .u8 36, .int .u8 45, .int .u8 43, .int .u8 51, .int .u8 22, .int .u8 53, .int .u8 39, .int .u8 33, .int .u8 30, .int .u8 24, .int .u8 18, .int .u8 12, .int .u8 5, .int .u8 63, .int .u8 55, .int .u8 48, .int .u8 27, .int .u8 60, .int .u8 41, .int .u8 37, .int .u8 16, .int .u8 46, .int .u8 35, .int .u8 44, .int .u8 21, .int .u8 52, .int .u8 32, .int .u8 23, .int .u8 11, .int .u8 54, .int .u8 26, .int .u8 40, .int .u8 15, .int .u8 34, .int .u8 20, .int .u8 31, .int .u8 10, .int .u8 25, .int .u8 14, .int .u8 19, .int .u8 9, .int .u8 13, .int .u8 8, .int .u8 7, .int .u8 6] t frozen
      | o => o) }
set_option maxRecDepth 100000 in
theorem laid_met (os : Os) : laidMet Tryz.prog Rows.semanticsGroundingsRow.laid ((laidWorld os).forCall (fun _ _ => 0) ⟨#[], #[.int .u8 0, .int .u8 0], []⟩).memory :=
  laidMet_of_run' 8 (by kernel_rfl) (by kernel_rfl)
set_option maxRecDepth 100000 in
theorem reads (os : Os) {H : Type} (enc : TypeId × Value → H) : ∃ places, DataW.whole enc Tryz.prog ((laidWorld os).forCall (fun _ _ => 0) ⟨#[], #[.int .u8 0, .int .u8 0], []⟩).memory Tryz.f3.params.toList Rows.semanticsGroundingsSpec.vars false #[Value.int .u8 0, Value.int .u8 0].toList 8 = some ([.lit (.int .u8 0), .lit (.int .u8 0)], [], places) :=
  ⟨[], by kernel_rfl⟩

set_option maxRecDepth 100000 in
theorem lifted (os : Os) (started : os.Started) (H : Type) (enc : TypeId × Value → H) (F : Stop.Interp) :
    ReturnsInHanded {} Tryz.checked os 3 .any ((OpenSpec.ofChange Rows.semanticsGroundingsSpec).preRow enc Tryz.prog Tryz.f3 Rows.semanticsGroundingsRow.domain false Rows.semanticsGroundingsRow.laid) (((OpenSpec.ofChange Rows.semanticsGroundingsSpec).at F).post enc Tryz.prog Tryz.f3 false true false false) := by
  obtain ⟨places, hx⟩ := reads os enc
  refine returnsInHanded_of_row (C := Tryz.checked) (s := OpenSpec.ofChange Rows.semanticsGroundingsSpec) own started (by kernel_rfl) Tryz.func3
    (witness_row_at (enc := enc) (C := Tryz.checked) false (laidWorld os) #[.int .u8 0, .int .u8 0] rfl (by kernel_rfl) (by kernel_rfl) (by kernel_rfl)
      (OpenSpec.preRow_of_cond 8 hx (by kernel_rfl) (fun k hk => by cases hk) (by kernel_rfl) (laid_met os))) ?_
  intro W base args ds gs before hval hW _ _ _ hL _ _
  exact contract H enc W base args ds gs before hval hW hL

theorem closed : joinedFacts Tryz.prog 3 Tryz.f3 (OpenSpec.ofChange Rows.semanticsGroundingsSpec).bare Rows.semanticsGroundingsRow = true := by
  unfold joinedFacts
  rw [fIn, fUn, fRe, fNa]
  kernel_rfl

theorem said : Rows.SemanticsGroundingsSaid :=
  OpenClaim.holds_of_cond 3 Tryz.f3 rfl rfl rfl rfl rfl rfl rfl ⟨rfl, rfl, rfl, rfl, rfl⟩ rfl rfl rfl rfl rfl (by kernel_rfl) Tryz.func3 closed
    (of_decide_eq_true (by kernel_rfl)) (by unfold Func.isWrapper; first | (rw [if_pos (by decide +kernel)]; kernel_rfl) | (rw [if_neg (by decide +kernel)]; exact ⟨rfl, rfl⟩))
    (fun os started H enc _ F => by rw [OpenClaim.pre_eq_preRow]; exact lifted os started H enc F)

theorem plain (f : FuncId) (fn : Func) (hf : Tryz.pinned.checked.prog.funcNamed Rows.semanticsGroundingsRow.func = some f) (hfn : Tryz.pinned.checked.prog.funcs[f]? = some fn) :
    false = Tryz.pinned.checked.prog.looks [] ∧ ∀ (j : Nat) t, fn.params[j]? = some t → Tryz.pinned.checked.prog.wantsStandIn t = false := by
  obtain rfl : f = 3 := Option.some.inj ((show Tryz.prog.funcNamed Rows.semanticsGroundingsRow.func = some 3 by kernel_rfl).symm.trans hf) |>.symm
  obtain rfl : fn = Tryz.f3 := (Option.some.inj (Tryz.func3.symm.trans hfn)).symm
  refine ⟨by kernel_rfl, fun j t ht => ?_⟩
  rw [Tryz.params3] at ht
  have hm := Array.mem_of_getElem? ht
  simp at hm
  rcases hm with rfl
  · exact (show Tryz.prog.wantsStandIn 5 = false by kernel_rfl)

/- no function of the translation holds a go statement: so no closure need be reckoned -/
theorem noGo : Tryz.prog.funcs.any Func.goes = false := by kernel_rfl
theorem goes_no (func : String) : Tryz.prog.goesAt .entering func = false := by
  have h1 : ∀ g : Nat, (Tryz.prog.funcs[g]?).any Func.goes = false := by
    intro g
    cases hg : Tryz.prog.funcs[g]? with
    | none => rfl
    | some fn =>
      have hm := Array.mem_of_getElem? hg
      have := noGo
      rw [Array.any_eq_false'] at this
      simpa using this fn hm
  have h2 : ∀ f, Tryz.prog.goes f = false := by
    intro f
    unfold Program.goes
    rw [noGo, Bool.and_false, Bool.or_false]
    rw [List.any_eq_false]
    intro g _
    simp [h1 g]
  unfold Program.goesAt Program.goesFrom
  rw [Bool.or_false]
  cases Tryz.prog.funcNamed func with
  | none => rfl
  | some f => simpa using h2 f

theorem card : Rows.SemanticsGroundingsCardSaid :=
  Claim7.holds_tied_plain_at .later [] _ _ _ _ said (fun _ h => by cases h) (by kernel_rfl) (fun _ h => by cases h) semanticsGroundings_row_tie rfl ⟨rfl, rfl⟩ (by kernel_rfl) rfl plain (goes_no _).symm
#print axioms card
end Go.Proofs.YtjmjeeieakilfaaGreatDoor.semanticsGroundings
