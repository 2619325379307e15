/- Functions of which only a part of the answer is said; reading a field of a value. -/
import Derived.Test.YtffjpakgkecheaaGreatShF
set_option linter.all false
namespace Go.Vse
variable [Globs]
def endE (res : List Rv) (P : F → Prop) (x : Ex) (s : St) : Prop :=
 (match x with | .exit _ => False | _ => True) ∧ ∃ d, resD s res = some d ∧ ∃ y rd, frz s.h.get 12 d = some (y, rd) ∧ P y
theorem ansE {pr : Pr} {f : Nat} {fn : Fn} (hf : pr.fn f = some fn) {fs : List F} {P : F → Prop} (hw : wpC pr fn.body (st0 (F.dL fs) .e 0) (endE fn.res P)) : ∃ y, P y ∧ Ans pr f fs y := by
 obtain ⟨x, s, ⟨hx, d, hd, y, rd, hz, hP⟩, ev⟩ := wpC_ok _ _ _ hw
 refine ⟨y, hP, if Nat.beq s.lw 0 && d.isF then ⟨d, .e, 0, 0, s.mx⟩ else ⟨d, s.h, s.c, s.lw, s.mx⟩, rd, ?_, ?_⟩
 ·have key : EV fun m => runFn (evC (evFn pr m) m) fn (F.dL fs) .e 0 = some (if Nat.beq s.lw 0 && d.isF then ⟨d, .e, 0, 0, s.mx⟩ else ⟨d, s.h, s.c, s.lw, s.mx⟩) := by
   refine ev.mono fun m hm => ?_
   unfold runFn
   unfold st0 at hm
   rw [hm]
   cases x with
   | exit i => exact hx.elim
   | nrm => simp only [hd]; split <;> rfl
   | ret => simp only [hd]; split <;> rfl
  obtain ⟨N, hN⟩ := key
  refine ⟨N + 1, fun m hm => ?_⟩
  obtain ⟨m, rfl⟩ : ∃ m', m = m' + 1 := ⟨m - 1, by omega⟩
  simp only [evFn, hf]
  exact hN m (by omega)
 ·split
  ·rename_i hb
   simp only [Bool.and_eq_true] at hb
   have hr := frz_isF 12 d y rd hb.2 hz
   subst hr
   exact frz_local 12 d y [] hz fun id hid => by simp at hid
  ·exact hz
theorem endE_r {res : List Rv} {P : F → Prop} {s : St} : endE res P .ret s ↔ oB (resD s res) fun d => oB (frz s.h.get 12 d) fun p => P p.1 := by
 simp only [endE, true_and, oB]
 cases resD s res with
 | none => simp
 | some d =>
  simp only [Option.some.injEq, exists_eq_left']
  cases frz s.h.get 12 d with
  | none => simp
  | some p =>
   obtain ⟨a, b⟩ := p
   simp only [Option.some.injEq, Prod.mk.injEq]
   exact ⟨fun ⟨y, rd, ⟨e1, e2⟩, h⟩ => by rw [e1]; exact h, fun h => ⟨a, b, ⟨rfl, rfl⟩, h⟩⟩
theorem endE_n {res : List Rv} {P : F → Prop} {s : St} : endE res P .nrm s ↔ oB (resD s res) fun d => oB (frz s.h.get 12 d) fun p => P p.1 := by
 rw [← endE_r]; rfl
omit [Globs] in
theorem fza (h : Nat → Option Ob) (l : List D) : frzArgs h l = mapFr (frz h 12) l := rfl
omit [Globs] in
theorem ne_up {a b : Nat} (h : a < b) : (a = b) = False := by simp; omega
omit [Globs] in
theorem ne_dn {a b : Nat} (h : b < a) : (a = b) = False := by simp; omega
omit [Globs] in
theorem lt_s {a b : Nat} (h : a < b) : (a < b + 1) = True := by simp; omega
omit [Globs] in
theorem oi_n (d : Nat) : optIdx d none = some d := rfl
omit [Globs] in
theorem oi_s (d : Nat) (x : D) : optIdx d (some x) = toIdx x := rfl
omit [Globs] in
theorem sb_n1 {es : Nat} {h : Nat → Option Ob} : sliceB es h (.f .nils) none (some (.f (.i .i64 0))) none = some (.f .nils, []) := rfl
omit [Globs] in
theorem sb_n2 {es : Nat} {h : Nat → Option Ob} : sliceB es h (.f .nils) (some (.f (.i .i64 0))) none none = some (.f .nils, []) := rfl
omit [Globs] in
theorem sb_fsl {es es' : Nat} {h : Nat → Option Ob} {els : List (List F)} {lo hi : Option D} : sliceB es h (.f (.sl es' els)) lo hi none = om (optIdx 0 lo) fun l => om (optIdx els.length hi) fun r =>
  if es = es' ∧ l ≤ r ∧ r ≤ els.length then some (.f (.sl es ((els.drop l).take (r - l))), []) else none := by
 simp only [sliceB, om]
 cases optIdx 0 lo with
 | none => rfl
 | some l => simp only [Option.bind_some]; cases optIdx els.length hi <;> rfl
section
variable {pr : Pr} {s : St} {Q : St → Prop} {dst : Option Nat} {L : List (List Nat × List Nat)} {mask : Nat}
theorem o_fld {l : List Op} {g : Bool} {off n : Nat} {x : A} : wpO pr (⟨dst, none, .fld g off n x⟩ :: l) s Q ↔ oB (((O.fld g off n x).res (opnd s.tm)).bind (opv s.h.get s.c)) fun r => wrOk r.c r.wr = true ∧ wpO pr l (s.aft dst r.d r.wr r.c) Q := o_iff rfl
theorem e_fld {l : List (Op × Nat)} {g : Bool} {off n : Nat} {x : A} : wpE pr L ((⟨dst, none, .fld g off n x⟩, mask) :: l) s Q ↔ oB (((O.fld g off n x).res (opnd s.tm)).bind (opv s.h.get s.c)) fun r => wrOk r.c r.wr = true ∧
    chkM mask L r.rd (r.wr.map (·.1)) ∧ wpE pr (L ++ [(r.rd, r.wr.map (·.1))]) l (s.ae dst r.d r.wr r.c) Q := e_iff rfl
omit [Globs] in
theorem v_fld (h : Nat → Option Ob) (c : Nat) (g : Bool) (off n : Nat) (cs : List D) : opv h c (.fld g off n (.ag cs)) = om (partD g off n cs) fun d => some { d, c } := by
 simp only [opv, om, okD]
 cases partD g off n cs <;> rfl
end
theorem wl_gen {pr : Pr} {c : C} {S : St} {Q : Ex → St → Prop} (P : St → Prop) (h1 : P S) (h2 : ∀ s, P s → WL pr c s Q) : WL pr c S Q := h2 S h1
end Go.Vse
