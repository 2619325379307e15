/- More rules for walking through code at unknown inputs; how queries, assignments and relations lie in memory. -/
import Derived.Test.YtffjpakgkecheaaGreatVe
import Derived.Test.YtffjpakgkecheaaGreatShA
set_option linter.all false
namespace Go.Vse
variable [Globs]
section
variable {pr : Pr} {s : St} {Q : St → Prop} {dst : Option Nat} {L : List (List Nat × List Nat)} {mask : Nat}
theorem e_ext {l : List (Op × Nat)} {x : A} {i : Nat} : wpE pr L ((⟨dst, none, .ext x i⟩, mask) :: l) s Q ↔ oB (((O.ext x i).res (opnd s.tm)).bind (opv s.h.get s.c)) fun r => wrOk r.c r.wr = true ∧
    chkM mask L r.rd (r.wr.map (·.1)) ∧ wpE pr (L ++ [(r.rd, r.wr.map (·.1))]) l (s.ae dst r.d r.wr r.c) Q := e_iff rfl
theorem e_un {l : List (Op × Nat)} {x : A} {op : UnOp} : wpE pr L ((⟨dst, none, .un op x⟩, mask) :: l) s Q ↔ oB (((O.un op x).res (opnd s.tm)).bind (opv s.h.get s.c)) fun r => wrOk r.c r.wr = true ∧
    chkM mask L r.rd (r.wr.map (·.1)) ∧ wpE pr (L ++ [(r.rd, r.wr.map (·.1))]) l (s.ae dst r.d r.wr r.c) Q := e_iff rfl
theorem e_eqa {l : List (Op × Nat)} {ks : List Nat} {ne : Bool} {x y : A} : wpE pr L ((⟨dst, none, .eqa ks ne x y⟩, mask) :: l) s Q ↔ oB (((O.eqa ks ne x y).res (opnd s.tm)).bind (opv s.h.get s.c)) fun r => wrOk r.c r.wr = true ∧
    chkM mask L r.rd (r.wr.map (·.1)) ∧ wpE pr (L ++ [(r.rd, r.wr.map (·.1))]) l (s.ae dst r.d r.wr r.c) Q := e_iff rfl
theorem e_app {l : List (Op × Nat)} {es byt : Nat} {x y : A} : wpE pr L ((⟨dst, none, .app es byt x y⟩, mask) :: l) s Q ↔ oB (((O.app es byt x y).res (opnd s.tm)).bind (opv s.h.get s.c)) fun r => wrOk r.c r.wr = true ∧
    chkM mask L r.rd (r.wr.map (·.1)) ∧ wpE pr (L ++ [(r.rd, r.wr.map (·.1))]) l (s.ae dst r.d r.wr r.c) Q := e_iff rfl
theorem e_bsl {l : List (Op × Nat)} {es m : Nat} {z : List F} {ps : List (Nat × A)} : wpE pr L ((⟨dst, none, .bsl es z m ps⟩, mask) :: l) s Q ↔ oB (((O.bsl es z m ps).res (opnd s.tm)).bind (opv s.h.get s.c)) fun r => wrOk r.c r.wr = true ∧
    chkM mask L r.rd (r.wr.map (·.1)) ∧ wpE pr (L ++ [(r.rd, r.wr.map (·.1))]) l (s.ae dst r.d r.wr r.c) Q := e_iff rfl
theorem e_bsf {l : List (Op × Nat)} {es m : Nat} {z : List F} {ps : List (Nat × A)} : wpE pr L ((⟨dst, none, .bsf es z m ps⟩, mask) :: l) s Q ↔ oB (((O.bsf es z m ps).res (opnd s.tm)).bind (opv s.h.get s.c)) fun r => wrOk r.c r.wr = true ∧
    chkM mask L r.rd (r.wr.map (·.1)) ∧ wpE pr (L ++ [(r.rd, r.wr.map (·.1))]) l (s.ae dst r.d r.wr r.c) Q := e_iff rfl
theorem e_slc {l : List (Op × Nat)} {es : Nat} {x : A} {lo hi mx : Option A} : wpE pr L ((⟨dst, none, .slc es x lo hi mx⟩, mask) :: l) s Q ↔ oB (((O.slc es x lo hi mx).res (opnd s.tm)).bind (opv s.h.get s.c)) fun r => wrOk r.c r.wr = true ∧
    chkM mask L r.rd (r.wr.map (·.1)) ∧ wpE pr (L ++ [(r.rd, r.wr.map (·.1))]) l (s.ae dst r.d r.wr r.c) Q := e_iff rfl
theorem e_cvi {l : List (Op × Nat)} {k : IntKind} {x : A} : wpE pr L ((⟨dst, none, .cvi k x⟩, mask) :: l) s Q ↔ oB (((O.cvi k x).res (opnd s.tm)).bind (opv s.h.get s.c)) fun r => wrOk r.c r.wr = true ∧
    chkM mask L r.rd (r.wr.map (·.1)) ∧ wpE pr (L ++ [(r.rd, r.wr.map (·.1))]) l (s.ae dst r.d r.wr r.c) Q := e_iff rfl
theorem o_eqa {l : List Op} {ks : List Nat} {ne : Bool} {x y : A} : wpO pr (⟨dst, none, .eqa ks ne x y⟩ :: l) s Q ↔ oB (((O.eqa ks ne x y).res (opnd s.tm)).bind (opv s.h.get s.c)) fun r => wrOk r.c r.wr = true ∧ wpO pr l (s.aft dst r.d r.wr r.c) Q := o_iff rfl
theorem o_app {l : List Op} {es byt : Nat} {x y : A} : wpO pr (⟨dst, none, .app es byt x y⟩ :: l) s Q ↔ oB (((O.app es byt x y).res (opnd s.tm)).bind (opv s.h.get s.c)) fun r => wrOk r.c r.wr = true ∧ wpO pr l (s.aft dst r.d r.wr r.c) Q := o_iff rfl
theorem o_bsl {l : List Op} {es m : Nat} {z : List F} {ps : List (Nat × A)} : wpO pr (⟨dst, none, .bsl es z m ps⟩ :: l) s Q ↔ oB (((O.bsl es z m ps).res (opnd s.tm)).bind (opv s.h.get s.c)) fun r => wrOk r.c r.wr = true ∧ wpO pr l (s.aft dst r.d r.wr r.c) Q := o_iff rfl
theorem o_bsf {l : List Op} {es m : Nat} {z : List F} {ps : List (Nat × A)} : wpO pr (⟨dst, none, .bsf es z m ps⟩ :: l) s Q ↔ oB (((O.bsf es z m ps).res (opnd s.tm)).bind (opv s.h.get s.c)) fun r => wrOk r.c r.wr = true ∧ wpO pr l (s.aft dst r.d r.wr r.c) Q := o_iff rfl
theorem o_slc {l : List Op} {es : Nat} {x : A} {lo hi mx : Option A} : wpO pr (⟨dst, none, .slc es x lo hi mx⟩ :: l) s Q ↔ oB (((O.slc es x lo hi mx).res (opnd s.tm)).bind (opv s.h.get s.c)) fun r => wrOk r.c r.wr = true ∧ wpO pr l (s.aft dst r.d r.wr r.c) Q := o_iff rfl
theorem o_cvi {l : List Op} {k : IntKind} {x : A} : wpO pr (⟨dst, none, .cvi k x⟩ :: l) s Q ↔ oB (((O.cvi k x).res (opnd s.tm)).bind (opv s.h.get s.c)) fun r => wrOk r.c r.wr = true ∧ wpO pr l (s.aft dst r.d r.wr r.c) Q := o_iff rfl
theorem c_round {c : C} {Q : Ex → St → Prop} (h : wpC pr c s fun x s' => match x with
  | .nrm => wpC pr (.loop c) s' Q
  | x => Q x s') : wpC pr (.loop c) s Q := by
 obtain ⟨x, s1, hq, ev⟩ := wpC_ok c s _ h
 cases x with
 | nrm =>
  obtain ⟨x2, s2, m, h2, e2⟩ := hq
  exact ⟨x2, s2, m + 1, h2, (ev.and e2).mono fun n ⟨p, q⟩ => by simp only [iter, p]; exact q⟩
 | exit i => exact ⟨.exit i, s1, 1, hq, ev.mono fun n p => by simp only [iter, p]⟩
 | ret => exact ⟨.ret, s1, 1, hq, ev.mono fun n p => by simp only [iter, p]⟩
end
def slc (es : Nat) (l : List (List F)) : F := match l with
 | [] => .nils
 | _ => .sl es l
theorem len_nils : lenB (.f .nils) = some 0 := rfl
theorem len_fsl (es : Nat) (els : List (List F)) : lenB (.f (.sl es els)) = some els.length := rfl
theorem len_sl (id off len es lim : Nat) (ex : Bool) : lenB (.sl id off len es lim ex) = some len := rfl
theorem ia_fsl (es es' : Nat) (els : List (List F)) (i : Nat) : iaB es (.f (.sl es' els)) i = if es = es' then (els[i]?).map D.fptr else none := rfl
theorem ia_sl (es id off m es' lim : Nat) (ex : Bool) (i : Nat) : iaB es (.sl id off m es' lim ex) i = if es = es' ∧ i < m then some (.ptr id es (off + i) 0) else none := rfl
theorem slc_d (es : Nat) (l : List (List F)) : (slc es l).d = .f (slc es l) := by cases l <;> rfl
theorem slc_len (es : Nat) (l : List (List F)) : lenB (.f (slc es l)) = some l.length := by cases l <;> rfl
theorem slc_ia (es : Nat) (l : List (List F)) (n : Nat) : iaB es (.f (slc es l)) n = l[n]?.map D.fptr := by cases l <;> simp [slc, iaB]
theorem slc_nil (es : Nat) : slc es [] = .nils := rfl
theorem slc_cons (es : Nat) (x : List F) (l : List (List F)) : slc es (x :: l) = .sl es (x :: l) := rfl
theorem sl_of_slc {es : Nat} {l : List (List F)} (h : l ≠ []) : F.sl es l = slc es l := by
 cases l with
 | nil => exact absurd rfl h
 | cons => rfl
theorem bin_sls (a b : List UInt8) : binF .lss (.s a) (.s b) = some (.b (Go.Op.bytesLess a b)) := rfl
theorem bin_sgt (a b : List UInt8) : binF .gtr (.s a) (.s b) = some (.b (!(Go.Op.bytesLess a b || a == b))) := rfl
theorem bin_seq (a b : List UInt8) : binF .eql (.s a) (.s b) = some (.b (a == b)) := rfl
theorem bin_sne (a b : List UInt8) : binF .neq (.s a) (.s b) = some (.b (!(a == b))) := rfl
theorem app_ex {es byt c id ro : Nat} {h : Nat → Option Ob} {els new : List (List D)} {rd : List Nat} (ho : h id = some (.arr es ro els)) (h0 : new.length ≠ 0) (h1 : new.length ≤ maxBytes) (h2 : new.length * byt ≤ maxBytes) :
  appendB es byt h c (.sl id 0 0 es 0 true) new rd = some { d := .sl c 0 new.length es new.length false, rd := id :: rd, wr := [(c, some (.arr es 0 new))], c := c + 1 } := by
 unfold appendB
 rw [if_neg h0]
 have hn : ¬ (new = []) := fun e => h0 (by simp [e])
 simp [ho, hn, h1, h2]
theorem app_none {es byt c : Nat} {h : Nat → Option Ob} {id off len lim : Nat} {ex : Bool} {rd : List Nat} :
  appendB es byt h c (.sl id off len es lim ex) [] rd = some { d := .sl id off len es lim ex, rd, c } := by
 unfold appendB
 simp
theorem appB_nils {es byt c : Nat} {h : Nat → Option Ob} {new : List (List D)} {rd : List Nat} : appendB es byt h c (.f .nils) new rd = if new.length = 0 then some { d := .f .nils, rd, c } else
  if new.length ≤ maxBytes ∧ new.length * byt ≤ maxBytes then some { d := .sl c 0 new.length es new.length false, rd, wr := [(c, some (.arr es 0 new))], c := c + 1 } else none := rfl
theorem appB_fsl {es byt c es' : Nat} {els : List (List F)} {h : Nat → Option Ob} {new : List (List D)} {rd : List Nat} : appendB es byt h c (.f (.sl es' els)) new rd = if new.length = 0 then some { d := .f (.sl es' els), rd, c } else none := rfl
theorem appB_sl {es byt c id off len es' lim : Nat} {ex : Bool} {h : Nat → Option Ob} {new : List (List D)} {rd : List Nat} : appendB es byt h c (.sl id off len es' lim ex) new rd = if new.length = 0 then some { d := .sl id off len es' lim ex, rd, c } else
    match h id with
    | some (.arr es'' ro els) => if es = es' ∧ es' = es'' ∧ off + len ≤ els.length then
        if off + len + new.length ≤ lim then
          if off + len + new.length ≤ els.length ∧ ro ≤ off + len ∧ okHd els (els.take (off + len) ++ new ++ els.drop (off + len + new.length)) = true then
            some { d := .sl id off (len + new.length) es lim ex, rd := id :: rd,
                   wr := [(id, some (.arr es ro (els.take (off + len) ++ new ++ els.drop (off + len + new.length))))], c }
          else none
        else if len + new.length ≤ maxBytes ∧ (len + new.length) * byt ≤ maxBytes then
          if ex then
            some { d := .sl c 0 (len + new.length) es (len + new.length) false, rd := id :: rd,
                   wr := [(c, some (.arr es 0 ((els.drop off).take len ++ new)))], c := c + 1 }
          else if off = 0 ∧ len = els.length ∧ ro ≤ len then
            some { d := .sl c 0 (off + len + new.length) es (off + len + new.length) false, rd := id :: rd, wr := [(id, none), (c, some (.arr es ro (els ++ new)))], c := c + 1 }
          else if off = 0 ∧ ro ≤ len ∧ els.length ≤ off + len + new.length ∧ okHd els (els.take len ++ new) = true then
            some { d := .sl c 0 (off + len + new.length) es (off + len + new.length) false, rd := id :: rd, wr := [(id, none), (c, some (.arr es ro (els.take len ++ new)))], c := c + 1 }
          else none
        else none
      else none
    | _ => none := rfl
theorem leMax {n : Nat} (h : n ≤ 1000000000) : (n ≤ maxBytes) = True := by
 have : n ≤ 140737488355328 := by omega
 simpa [maxBytes] using this
theorem leF {a b : Nat} (h : b < a) : (a ≤ b) = False := by simp; exact h
theorem fz10_sl (h : Nat → Option Ob) (id off len es lim : Nat) (ex : Bool) : frz h 10 (.sl id off len es lim ex) = match h id with
   | some (.arr es' _ els) => if es = es' ∧ off + len ≤ els.length then
     match mapFrr (frz h 9) ((els.drop off).take len) with
     | some (l, r) => some (.sl es l, id :: r)
     | none => none
    else none
   | _ => none := rfl
theorem fz9_sl (h : Nat → Option Ob) (id off len es lim : Nat) (ex : Bool) : frz h 9 (.sl id off len es lim ex) = match h id with
   | some (.arr es' _ els) => if es = es' ∧ off + len ≤ els.length then
     match mapFrr (frz h 8) ((els.drop off).take len) with
     | some (l, r) => some (.sl es l, id :: r)
     | none => none
    else none
   | _ => none := rfl
theorem fz10_ag (h : Nat → Option Ob) (cs : List D) : frz h 10 (.ag cs) = match mapFr (frz h 9) cs with | some (l, r) => some (.ag l, r) | none => none := rfl
theorem fz9_f (h : Nat → Option Ob) (x : F) : frz h 9 (.f x) = some (x, []) := rfl
theorem fz8_f (h : Nat → Option Ob) (x : F) : frz h 8 (.f x) = some (x, []) := rfl
theorem frr_nil (f : D → Option (F × List Nat)) : mapFrr f [] = some ([], []) := rfl
theorem frr_cons (f : D → Option (F × List Nat)) (x : List D) (l : List (List D)) : mapFrr f (x :: l) = match mapFr f x with
  | none => none
  | some (y, r) => match mapFrr f l with
   | none => none
   | some (m, r') => some (y :: m, r ++ r') := rfl
theorem frr_app (f : D → Option (F × List Nat)) : ∀ a b : List (List D), mapFrr f (a ++ b) = match mapFrr f a with
  | none => none
  | some (y, r) => match mapFrr f b with
   | none => none
   | some (m, r') => some (y ++ m, r ++ r')
 | [], b => by
  simp only [List.nil_append, frr_nil]
  cases mapFrr f b with
  | none => rfl
  | some p => simp
 | x :: a, b => by
  simp only [List.cons_append, frr_cons, frr_app f a b]
  cases mapFr f x with
  | none => rfl
  | some p =>
   cases mapFrr f a with
   | none => rfl
   | some q =>
    cases mapFrr f b with
    | none => rfl
    | some w => simp
theorem frr_1 {α : Type} (h : Nat → Option Ob) (k : Nat) (g : α → F) : ∀ l : List α, mapFrr (frz h (k + 1)) (l.map fun a => [D.f (g a)]) = some (l.map fun a => [g a], [])
 | [] => rfl
 | a :: l => by
  have e : mapFr (frz h (k + 1)) [D.f (g a)] = some ([g a], []) := rfl
  simp only [List.map_cons, frr_cons, frr_1 h k g l, e]; rfl
theorem frr_3 {α : Type} (h : Nat → Option Ob) (k : Nat) (g1 g2 g3 : α → F) : ∀ l : List α, mapFrr (frz h (k + 1)) (l.map fun a => [D.f (g1 a), D.f (g2 a), D.f (g3 a)]) = some (l.map fun a => [g1 a, g2 a, g3 a], [])
 | [] => rfl
 | a :: l => by
  have e : mapFr (frz h (k + 1)) [D.f (g1 a), D.f (g2 a), D.f (g3 a)] = some ([g1 a, g2 a, g3 a], []) := rfl
  simp only [List.map_cons, frr_cons, frr_3 h k g1 g2 g3 l, e]; rfl
theorem frr_F (h : Nat → Option Ob) (k : Nat) : ∀ l : List (List F), mapFrr (frz h (k + 1)) (l.map fun a => a.map D.f) = some (l, [])
 | [] => rfl
 | a :: l => by
  have e : ∀ x : List F, mapFr (frz h (k + 1)) (x.map D.f) = some (x, []) := by
   intro x
   induction x with
   | nil => rfl
   | cons y x ih => simp only [List.map_cons, mapFr, ih]; rfl
  simp only [List.map_cons, frr_cons, frr_F h k l, e]; rfl
namespace Sm
def vF (n : Int) : List F := [.i .i64 1, .i .i64 n, .s []]
def zF : List F := [.i .i64 0, .i .i64 0, .s []]
def tmF : Trm → List F
 | .var s => [.s s, .i .i64 0, .i .i64 0, .s []]
 | .cst n => [.s [], .i .i64 1, .i .i64 n, .s []]
def atF (a : Atm) : List F := [.s a.r, .b a.neg, slc 4 (a.ts.map tmF)]
def cmF (k : Cm) : List F := .i .i64 k.op :: (tmF k.l ++ tmF k.r)
def cqF (c : CQ) : List F := [slc 3 (c.as.map atF), slc 9 (c.cs.map cmF)]
def valsF (l : List Int) : F := slc 3 (l.map vF)
def strsF (l : List Str) : F := slc 1 (l.map fun s => [.s s])
def envF (e : Env) : List F := [strsF (e.map (·.1)), valsF (e.map (·.2))]
structure Rl where
 nm : Str
 ce : Bool
 co : F
 tu : List (List Int × List F)
def tuF (t : List Int × List F) : List F := valsF t.1 :: t.2
def rlF (r : Rl) : List F := [.s r.nm, .b r.ce, r.co, slc 4 (r.tu.map tuF)]
def rels (l : List Rl) : Rels := l.map fun r => (r.nm, r.tu.map (·.1))
def rowsF (l : List Int) : F := slc 1 (l.map fun v => [valsF [v]])
def TmOk : Trm → Prop
 | .var s => s ≠ []
 | .cst _ => True
end Sm
end Go.Vse
