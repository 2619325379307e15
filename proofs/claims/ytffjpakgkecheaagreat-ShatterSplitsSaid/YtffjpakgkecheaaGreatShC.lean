/- Rules for walking through code in which what comes behind stays shut. -/
import Derived.Test.YtffjpakgkecheaaGreatShB
set_option linter.all false
namespace Go.Vse
variable [Globs]
section
variable {pr : Pr}
def sq (pr : Pr) (b : C) (Q : Ex → St → Prop) (x : Ex) (s : St) : Prop := match x with
 | .nrm => wpC pr b s Q
 | x => Q x s
def kb (id : Nat) (Q : Ex → St → Prop) (x : Ex) (s : St) : Prop := match x with
 | .exit i => if i = id then Q .nrm s else Q (.exit i) s
 | x => Q x s
@[congr] theorem sq_congr {b : C} {Q : Ex → St → Prop} {x : Ex} {s : St} : sq pr b Q x s = sq pr b Q x s := rfl
@[congr] theorem kb_congr {id : Nat} {Q : Ex → St → Prop} {x : Ex} {s : St} : kb id Q x s = kb id Q x s := rfl
theorem k_seq {a b : C} {s : St} {Q : Ex → St → Prop} : wpC pr (.seq a b) s Q = wpC pr a s (sq pr b Q) := rfl
theorem k_blk {id : Nat} {c : C} {s : St} {Q : Ex → St → Prop} : wpC pr (.blk id c) s Q = wpC pr c s (kb id Q) := rfl
theorem sq_nrm {b : C} {Q : Ex → St → Prop} {s : St} : sq pr b Q .nrm s = wpC pr b s Q := rfl
theorem sq_ret {b : C} {Q : Ex → St → Prop} {s : St} : sq pr b Q .ret s = Q .ret s := rfl
theorem sq_exit {b : C} {Q : Ex → St → Prop} {s : St} {i : Nat} : sq pr b Q (.exit i) s = Q (.exit i) s := rfl
theorem kb_nrm {id : Nat} {Q : Ex → St → Prop} {s : St} : kb id Q .nrm s = Q .nrm s := rfl
theorem kb_ret {id : Nat} {Q : Ex → St → Prop} {s : St} : kb id Q .ret s = Q .ret s := rfl
theorem kb_exit {id : Nat} {Q : Ex → St → Prop} {s : St} {i : Nat} : kb id Q (.exit i) s = if i = id then Q .nrm s else Q (.exit i) s := rfl
theorem k_reg {ops : List Op} {s : St} {Q : Ex → St → Prop} : wpC pr (.reg ops) s Q = wpO pr ops s (Q .nrm) := rfl
def aB (pr : Pr) (f : Nat) (fs : List F) (k : F → Prop) : Prop := ∃ x, Ans pr f fs x ∧ k x
@[congr] theorem aB_congr {f : Nat} {fs fs' : List F} {k : F → Prop} (h : fs = fs') : aB pr f fs k = aB pr f fs' k := by rw [h]
theorem Ans.uniq {f : Nat} {fs : List F} {x y : F} (h1 : Ans pr f fs x) (h2 : Ans pr f fs y) : x = y := by
 obtain ⟨q, rd, ⟨n, hn⟩, e1⟩ := h1
 obtain ⟨q', rd', ⟨m, hm⟩, e2⟩ := h2
 have a : evFn pr (Nat.max n m) f (F.dL fs) .e 0 = some q := hn (Nat.max n m) (Nat.le_max_left ..)
 have b : evFn pr (Nat.max n m) f (F.dL fs) .e 0 = some q' := hm (Nat.max n m) (Nat.le_max_right ..)
 rw [a] at b
 cases b
 rw [e1] at e2
 cases e2
 rfl
theorem aB_iff {f : Nat} {fs : List F} {y : F} (h : Ans pr f fs y) {k : F → Prop} : aB pr f fs k ↔ k y :=
 ⟨fun ⟨x, hx, hk⟩ => by rw [Ans.uniq h hx]; exact hk, fun hk => ⟨y, h, hk⟩⟩
theorem z_callp {l : List Op} {s : St} {Q : St → Prop} {dst : Option Nat} {f : Nat} {args : List A} : wpO pr (⟨dst, none, .callp f args⟩ :: l) s Q ↔ oB (mapO (opnd s.tm) args) fun ds => oB (frzArgs s.h.get ds) fun y => aB pr f y.1 fun x =>
  wrOk s.c (roMarks s.h.get y.2) = true ∧ wpO pr l (s.aft dst x.d (roMarks s.h.get y.2) s.c) Q := y_callp
theorem z_ecallp {l : List (Op × Nat)} {s : St} {Q : St → Prop} {dst : Option Nat} {L : List (List Nat × List Nat)} {mask f : Nat} {args : List A} : wpE pr L ((⟨dst, none, .callp f args⟩, mask) :: l) s Q ↔ oB (mapO (opnd s.tm) args) fun ds => oB (frzArgs s.h.get ds) fun y => aB pr f y.1 fun x => wrOk s.c (roMarks s.h.get y.2) = true ∧
      chkM mask L y.2 ((roMarks s.h.get y.2).map (·.1)) ∧ wpE pr (L ++ [(y.2, (roMarks s.h.get y.2).map (·.1))]) l (s.ae dst x.d (roMarks s.h.get y.2) s.c) Q := e_callp
theorem loopI {c : C} {Q : Ex → St → Prop} (I : Nat → St → Prop) (hstep : ∀ k s, I k s → wpC pr c s (fun x s' => match x with
  | .nrm => ∃ k', k' < k ∧ I k' s'
  | x => Q x s')) (k : Nat) (s : St) (h : I k s) : wpC pr (.loop c) s Q := wpLoop I hstep k s h
def lp (I : Nat → St → Prop) (k : Nat) (Q : Ex → St → Prop) (x : Ex) (s : St) : Prop := match x with
 | .nrm => ∃ k', k' < k ∧ I k' s
 | x => Q x s
@[congr] theorem lp_congr {I : Nat → St → Prop} {k : Nat} {Q : Ex → St → Prop} {x : Ex} {s : St} : lp I k Q x s = lp I k Q x s := rfl
theorem lp_nrm {I : Nat → St → Prop} {k : Nat} {Q : Ex → St → Prop} {s : St} : lp I k Q .nrm s = ∃ k', k' < k ∧ I k' s := rfl
theorem lp_ret {I : Nat → St → Prop} {k : Nat} {Q : Ex → St → Prop} {s : St} : lp I k Q .ret s = Q .ret s := rfl
theorem lp_exit {I : Nat → St → Prop} {k : Nat} {Q : Ex → St → Prop} {s : St} {i : Nat} : lp I k Q (.exit i) s = Q (.exit i) s := rfl
theorem loopL {c : C} {Q : Ex → St → Prop} (I : Nat → St → Prop) (hstep : ∀ k s, I k s → wpC pr c s (lp I k Q)) (k : Nat) (s : St) (h : I k s) : wpC pr (.loop c) s Q := wpLoop I hstep k s h
theorem wp_gen {c : C} {S : St} {Q : Ex → St → Prop} (h : ∀ s, s = S → wpC pr c s Q) : wpC pr c S Q := h S rfl
theorem eqF {a b : Nat} (h : a < b ∨ b < a) : (a = b) = False := by simp; omega
theorem ltT {a b : Nat} (h : a < b) : (a < b) = True := by simp [h]
end
end Go.Vse
