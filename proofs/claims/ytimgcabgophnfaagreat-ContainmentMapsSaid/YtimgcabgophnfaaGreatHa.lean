/- Matching of conjunctive queries over relations of integers, as plain functions; what splitting a query by a constant does to its answers. -/
import Derived.Test.YtimgcabgophnfaaGreatVe
set_option linter.all false
section
namespace Go.Vse.Sm
abbrev Str := List UInt8
inductive Trm where
 | var (s : Str)
 | cst (n : Int)
 deriving DecidableEq
structure Atm where
 r : Str
 neg : Bool
 ts : List Trm
structure Cm where
 op : Int
 l : Trm
 r : Trm
structure CQ where
 as : List Atm
 cs : List Cm
 ne : Bool := false
abbrev Env := List (Str × Int)
def lk : Env → Str → Option Int
 | [],_ => none
 | (n,v) :: e,s => if n = s then some v else lk e s
def gtm (e : Env) : Trm → Option Int
 | .cst n => some n
 | .var s => lk e s
def bnd (e : Env) (t : Trm) (v : Int) : Env × Bool :=
 match gtm e t with
 | some w => (e,decide (v = w))
 | none => match t with
  | .var s => (e ++ [(s,v)],true)
  | .cst _ => (e,true)
def zFK : Env → List Trm → List Int → Env × Bool
 | e,t :: ts,v :: vs => if (bnd e t v).2 then zFK (bnd e t v).1 ts vs else bnd e t v
 | e,_,_ => (e,true)
def fits (e : Env) (a : Atm) (vs : List Int) : Env × Bool :=
 if a.ts.length = vs.length then zFK e a.ts vs else (e,false)
def zx8 (op a b : Int) : Bool :=
 if op = 1 then decide (a = b) else if op = 2 then decide (a ≠ b) else if op = 3 then decide (a < b) else decide (op = 4) && decide (a ≤ b)
inductive Asc : List Int → Prop
 | nil : Asc []
 | cons {v : Int} {l : List Int} : (∀ w ∈ l,v < w) → Asc l → Asc (v :: l)
def sTm (x : Str) (k : Int) : Trm → Trm
 | .var s => if s = x then .cst k else .var s
 | .cst n => .cst n
def sAt (x : Str) (k : Int) (a : Atm) : Atm := { r := a.r,neg := a.neg,ts := a.ts.map (sTm x k) }
def sCm (x : Str) (k : Int) (m : Cm) : Cm := { op := m.op,l := sTm x k m.l,r := sTm x k m.r }
def sub (c : CQ) (x : Str) (k : Int) : CQ := { as := c.as.map (sAt x k),cs := c.cs.map (sCm x k) }
def del (x : Str) : Env → Env
 | [] => []
 | (n,v) :: e => if n = x then del x e else (n,v) :: del x e
end Go.Vse.Sm
end
section
namespace Go.Vse
variable [Globs]
section
variable {pr : Pr} {s : St} {Q : St → Prop} {dst : Option Nat} {L : List (List Nat × List Nat)} {mask : Nat}
theorem zGC {l : List (Op × Nat)} {x : A} {i : Nat} : wpE pr L ((⟨dst,none,.ext x i⟩,mask) :: l) s Q ↔ oB (((O.ext x i).res (zad s.tm)).bind (opv s.h.get s.c)) fun r => zat r.c r.wr = true ∧
    zcX mask L r.rd (r.wr.map (·.1)) ∧ wpE pr (L ++ [(r.rd,r.wr.map (·.1))]) l (s.ae dst r.d r.wr r.c) Q := zcz rfl
theorem e_un {l : List (Op × Nat)} {x : A} {op : UnOp} : wpE pr L ((⟨dst,none,.un op x⟩,mask) :: l) s Q ↔ oB (((O.un op x).res (zad s.tm)).bind (opv s.h.get s.c)) fun r => zat r.c r.wr = true ∧
    zcX mask L r.rd (r.wr.map (·.1)) ∧ wpE pr (L ++ [(r.rd,r.wr.map (·.1))]) l (s.ae dst r.d r.wr r.c) Q := zcz rfl
theorem zET {l : List (Op × Nat)} {ks : List Nat} {ne : Bool} {x y : A} : wpE pr L ((⟨dst,none,.eqa ks ne x y⟩,mask) :: l) s Q ↔ oB (((O.eqa ks ne x y).res (zad s.tm)).bind (opv s.h.get s.c)) fun r => zat r.c r.wr = true ∧
    zcX mask L r.rd (r.wr.map (·.1)) ∧ wpE pr (L ++ [(r.rd,r.wr.map (·.1))]) l (s.ae dst r.d r.wr r.c) Q := zcz rfl
theorem zGa {l : List (Op × Nat)} {es byt : Nat} {x y : A} : wpE pr L ((⟨dst,none,.app es byt x y⟩,mask) :: l) s Q ↔ oB (((O.app es byt x y).res (zad s.tm)).bind (opv s.h.get s.c)) fun r => zat r.c r.wr = true ∧
    zcX mask L r.rd (r.wr.map (·.1)) ∧ wpE pr (L ++ [(r.rd,r.wr.map (·.1))]) l (s.ae dst r.d r.wr r.c) Q := zcz rfl
theorem zFR {l : List (Op × Nat)} {es m : Nat} {z : List F} {ps : List (Nat × A)} : wpE pr L ((⟨dst,none,.bsl es z m ps⟩,mask) :: l) s Q ↔ oB (((O.bsl es z m ps).res (zad s.tm)).bind (opv s.h.get s.c)) fun r => zat r.c r.wr = true ∧
    zcX mask L r.rd (r.wr.map (·.1)) ∧ wpE pr (L ++ [(r.rd,r.wr.map (·.1))]) l (s.ae dst r.d r.wr r.c) Q := zcz rfl
theorem zFJ {l : List (Op × Nat)} {es m : Nat} {z : List F} {ps : List (Nat × A)} : wpE pr L ((⟨dst,none,.bsf es z m ps⟩,mask) :: l) s Q ↔ oB (((O.bsf es z m ps).res (zad s.tm)).bind (opv s.h.get s.c)) fun r => zat r.c r.wr = true ∧
    zcX mask L r.rd (r.wr.map (·.1)) ∧ wpE pr (L ++ [(r.rd,r.wr.map (·.1))]) l (s.ae dst r.d r.wr r.c) Q := zcz rfl
theorem zEM {l : List (Op × Nat)} {es : Nat} {x : A} {lo hi mx : Option A} : wpE pr L ((⟨dst,none,.slc es x lo hi mx⟩,mask) :: l) s Q ↔ oB (((O.slc es x lo hi mx).res (zad s.tm)).bind (opv s.h.get s.c)) fun r => zat r.c r.wr = true ∧
    zcX mask L r.rd (r.wr.map (·.1)) ∧ wpE pr (L ++ [(r.rd,r.wr.map (·.1))]) l (s.ae dst r.d r.wr r.c) Q := zcz rfl
theorem zFX {l : List (Op × Nat)} {k : IntKind} {x : A} : wpE pr L ((⟨dst,none,.cvi k x⟩,mask) :: l) s Q ↔ oB (((O.cvi k x).res (zad s.tm)).bind (opv s.h.get s.c)) fun r => zat r.c r.wr = true ∧
    zcX mask L r.rd (r.wr.map (·.1)) ∧ wpE pr (L ++ [(r.rd,r.wr.map (·.1))]) l (s.ae dst r.d r.wr r.c) Q := zcz rfl
theorem zFM {l : List Op} {ks : List Nat} {ne : Bool} {x y : A} : wpO pr (⟨dst,none,.eqa ks ne x y⟩ :: l) s Q ↔ oB (((O.eqa ks ne x y).res (zad s.tm)).bind (opv s.h.get s.c)) fun r => zat r.c r.wr = true ∧ wpO pr l (s.aft dst r.d r.wr r.c) Q := zez rfl
theorem zGn {l : List Op} {es byt : Nat} {x y : A} : wpO pr (⟨dst,none,.app es byt x y⟩ :: l) s Q ↔ oB (((O.app es byt x y).res (zad s.tm)).bind (opv s.h.get s.c)) fun r => zat r.c r.wr = true ∧ wpO pr l (s.aft dst r.d r.wr r.c) Q := zez rfl
theorem zFO {l : List Op} {es m : Nat} {z : List F} {ps : List (Nat × A)} : wpO pr (⟨dst,none,.bsl es z m ps⟩ :: l) s Q ↔ oB (((O.bsl es z m ps).res (zad s.tm)).bind (opv s.h.get s.c)) fun r => zat r.c r.wr = true ∧ wpO pr l (s.aft dst r.d r.wr r.c) Q := zez rfl
theorem zGc {l : List Op} {es m : Nat} {z : List F} {ps : List (Nat × A)} : wpO pr (⟨dst,none,.bsf es z m ps⟩ :: l) s Q ↔ oB (((O.bsf es z m ps).res (zad s.tm)).bind (opv s.h.get s.c)) fun r => zat r.c r.wr = true ∧ wpO pr l (s.aft dst r.d r.wr r.c) Q := zez rfl
theorem zHi {l : List Op} {es : Nat} {x : A} {lo hi mx : Option A} : wpO pr (⟨dst,none,.slc es x lo hi mx⟩ :: l) s Q ↔ oB (((O.slc es x lo hi mx).res (zad s.tm)).bind (opv s.h.get s.c)) fun r => zat r.c r.wr = true ∧ wpO pr l (s.aft dst r.d r.wr r.c) Q := zez rfl
theorem zFB {l : List Op} {k : IntKind} {x : A} : wpO pr (⟨dst,none,.cvi k x⟩ :: l) s Q ↔ oB (((O.cvi k x).res (zad s.tm)).bind (opv s.h.get s.c)) fun r => zat r.c r.wr = true ∧ wpO pr l (s.aft dst r.d r.wr r.c) Q := zez rfl
theorem zJ0 {c : C} {Q : Ex → St → Prop} (h : wpC pr c s fun x s' => match x with
  | .nrm => wpC pr (.loop c) s' Q
  | x => Q x s') : wpC pr (.loop c) s Q := by
 obtain ⟨x,s1,hq,ev⟩ := zfg c s _ h;cases x with
 | nrm =>
  obtain ⟨x2,s2,m,h2,e2⟩ := hq;exact ⟨x2,s2,m + 1,h2,(ev.and e2).mono fun n ⟨p,q⟩ => by simp only [iter,p]; exact q⟩
 | exit i => exact ⟨.exit i,s1,1,hq,ev.mono fun n p => by simp only [iter,p]⟩
 | ret => exact ⟨.ret,s1,1,hq,ev.mono fun n p => by simp only [iter,p]⟩
end
def slc (es : Nat) (l : List (List F)) : F := match l with
 | [] => .nils
 | _ => .sl es l
theorem zsb : zcp (.f .nils) = some 0 := rfl
theorem zwo (es : Nat) (els : List (List F)) : zcp (.f (.sl es els)) = some els.length := rfl
theorem zBp (id off len es lim : Nat) (ex : Bool) : zcp (.sl id off len es lim ex) = some len := rfl
theorem zzy (es es' : Nat) (els : List (List F)) (i : Nat) : iaB es (.f (.sl es' els)) i = if es = es' then (els[i]?).map D.fptr else none := rfl
theorem zHX (es id off m es' lim : Nat) (ex : Bool) (i : Nat) : iaB es (.sl id off m es' lim ex) i = if es = es' ∧ i < m then some (.ptr id es (off + i) 0) else none := rfl
theorem zjq (es : Nat) (l : List (List F)) : (slc es l).d = .f (slc es l) := by cases l <;> rfl
theorem zgR (es : Nat) (l : List (List F)) : zcp (.f (slc es l)) = some l.length := by cases l <;> rfl
theorem zij (es : Nat) (l : List (List F)) (n : Nat) : iaB es (.f (slc es l)) n = l[n]?.map D.fptr := by cases l <;> simp [slc,iaB]
theorem zfx {es : Nat} {l : List (List F)} (h : l ≠ []) : F.sl es l = slc es l := by
 cases l with
 | nil => exact absurd rfl h
 | cons => rfl
theorem zuJ (a b : List UInt8) : zbR .lss (.s a) (.s b) = some (.b (Go.Op.bytesLess a b)) := rfl
theorem zvX (a b : List UInt8) : zbR .gtr (.s a) (.s b) = some (.b (!(Go.Op.bytesLess a b || a == b))) := rfl
theorem zuC (a b : List UInt8) : zbR .eql (.s a) (.s b) = some (.b (a == b)) := rfl
theorem zva (a b : List UInt8) : zbR .neq (.s a) (.s b) = some (.b (!(a == b))) := rfl
theorem zJq {es byt c id off len es' lim : Nat} {ex : Bool} {h : Nat → Option Ob} {new : List (List D)} {rd : List Nat} : zbY es byt h c (.sl id off len es' lim ex) new rd = if new.length = 0 then some { d := .sl id off len es' lim ex,rd,c } else
    match h id with
    | some (.arr es'' ro els) => if es = es' ∧ es' = es'' ∧ off + len ≤ els.length then
        if off + len + new.length ≤ lim then
          if off + len + new.length ≤ els.length ∧ ro ≤ off + len ∧ zd8 els (els.take (off + len) ++ new ++ els.drop (off + len + new.length)) = true then
            some { d := .sl id off (len + new.length) es lim ex,rd := id :: rd,
                   wr := [(id,some (.arr es ro (els.take (off + len) ++ new ++ els.drop (off + len + new.length))))],c }
          else none
        else if len + new.length ≤ zak ∧ (len + new.length) * byt ≤ zak then
          if ex then
            some { d := .sl c 0 (len + new.length) es (len + new.length) false,rd := id :: rd,
                   wr := [(c,some (.arr es 0 ((els.drop off).take len ++ new)))],c := c + 1 }
          else if off = 0 ∧ len = els.length ∧ ro ≤ len then
            some { d := .sl c 0 (off + len + new.length) es (off + len + new.length) false,rd := id :: rd,wr := [(id,none),(c,some (.arr es ro (els ++ new)))],c := c + 1 }
          else if off = 0 ∧ ro ≤ len ∧ els.length ≤ off + len + new.length ∧ zd8 els (els.take len ++ new) = true then
            some { d := .sl c 0 (off + len + new.length) es (off + len + new.length) false,rd := id :: rd,wr := [(id,none),(c,some (.arr es ro (els.take len ++ new)))],c := c + 1 }
          else none
        else none
      else none
    | _ => none := rfl
theorem zaV {n : Nat} (h : n ≤ 1000000000) : (n ≤ zak) = True := by
 have : n ≤ 140737488355328 := by omega
 simpa [zak] using this
theorem leF {a b : Nat} (h : b < a) : (a ≤ b) = False := by simp; exact h
theorem zJv (f : D → Option (F × List Nat)) : zaT f [] = some ([],[]) := rfl
theorem zmM (f : D → Option (F × List Nat)) (x : List D) (l : List (List D)) : zaT f (x :: l) = match zbl f x with
  | none => none
  | some (y,r) => match zaT f l with
   | none => none
   | some (m,r') => some (y :: m,r ++ r') := rfl
theorem zvY (f : D → Option (F × List Nat)) : ∀ a b : List (List D),zaT f (a ++ b) = match zaT f a with
  | none => none
  | some (y,r) => match zaT f b with
   | none => none
   | some (m,r') => some (y ++ m,r ++ r')
 | [],b => by
  simp only [List.nil_append,zJv];cases zaT f b with
  | none => rfl
  | some p => simp
 | x :: a,b => by
  simp only [List.cons_append,zmM,zvY f a b];cases zbl f x with
  | none => rfl
  | some p =>
   cases zaT f a with
   | none => rfl
   | some q =>
    cases zaT f b with
    | none => rfl
    | some w => simp
theorem zwG {α : Type} (h : Nat → Option Ob) (k : Nat) (g : α → F) : ∀ l : List α,zaT (frz h (k + 1)) (l.map fun a => [D.f (g a)]) = some (l.map fun a => [g a],[])
 | [] => rfl
 | a :: l => by
  have e : zbl (frz h (k + 1)) [D.f (g a)] = some ([g a],[]) := rfl;simp only [List.map_cons,zmM,zwG h k g l,e]; rfl
theorem zx3 (h : Nat → Option Ob) (k : Nat) : ∀ l : List (List F),zaT (frz h (k + 1)) (l.map fun a => a.map D.f) = some (l,[])
 | [] => rfl
 | a :: l => by
  have e : ∀ x : List F,zbl (frz h (k + 1)) (x.map D.f) = some (x,[]) := by
   intro x
   induction x with
   | nil => rfl
   | cons y x ih => simp only [List.map_cons,zbl,ih]; rfl
  simp only [List.map_cons,zmM,zx3 h k l,e]; rfl
namespace Sm
def vF (n : Int) : List F := [.i .i64 1,.i .i64 n,.s []]
def tmF : Trm → List F
 | .var s => [.s s,.i .i64 0,.i .i64 0,.s []]
 | .cst n => [.s [],.i .i64 1,.i .i64 n,.s []]
def atF (a : Atm) : List F := [.s a.r,.b a.neg,slc 4 (a.ts.map tmF)]
def cmF (k : Cm) : List F := .i .i64 k.op :: (tmF k.l ++ tmF k.r)
def csF (c : CQ) : F := if c.ne = true ∧ c.cs = [] then .sl 9 [] else slc 9 (c.cs.map cmF)
def cqF (c : CQ) : List F := [slc 3 (c.as.map atF),csF c]
def za1 (l : List Str) : F := slc 1 (l.map fun s => [.s s])
structure Rl where
 nm : Str
 ce : Bool
 co : F
 tu : List (List Int × List F)
def zau : Trm → Prop
 | .var s => s ≠ []
 | .cst _ => True
end Sm
end Go.Vse
end
section
namespace Go.Vse
variable [Globs]
section
variable {pr : Pr}
def sq (pr : Pr) (b : C) (Q : Ex → St → Prop) (x : Ex) (s : St) : Prop := match x with
 | .nrm => wpC pr b s Q
 | x => Q x s
def kb (id : Nat) (Q : Ex → St → Prop) (x : Ex) (s : St) : Prop := match x with
 | .exit i => if i = id then Q .nrm s else Q (.exit i) s
 | x => Q x s
@[congr] theorem sq_congr {b : C} {Q : Ex → St → Prop} {x : Ex} {s : St} : sq pr b Q x s = sq pr b Q x s := rfl
@[congr] theorem kb_congr {id : Nat} {Q : Ex → St → Prop} {x : Ex} {s : St} : kb id Q x s = kb id Q x s := rfl
theorem zFu {a b : C} {s : St} {Q : Ex → St → Prop} : wpC pr (.seq a b) s Q = wpC pr a s (sq pr b Q) := rfl
theorem zEX {id : Nat} {c : C} {s : St} {Q : Ex → St → Prop} : wpC pr (.blk id c) s Q = wpC pr c s (kb id Q) := rfl
theorem zoF {b : C} {Q : Ex → St → Prop} {s : St} : sq pr b Q .nrm s = wpC pr b s Q := rfl
theorem zBu {b : C} {Q : Ex → St → Prop} {s : St} : sq pr b Q .ret s = Q .ret s := rfl
theorem zvN {b : C} {Q : Ex → St → Prop} {s : St} {i : Nat} : sq pr b Q (.exit i) s = Q (.exit i) s := rfl
theorem zBD {id : Nat} {Q : Ex → St → Prop} {s : St} : kb id Q .nrm s = Q .nrm s := rfl
theorem zB1 {id : Nat} {Q : Ex → St → Prop} {s : St} : kb id Q .ret s = Q .ret s := rfl
theorem zlP {id : Nat} {Q : Ex → St → Prop} {s : St} {i : Nat} : kb id Q (.exit i) s = if i = id then Q .nrm s else Q (.exit i) s := rfl
theorem k_reg {ops : List Op} {s : St} {Q : Ex → St → Prop} : wpC pr (.reg ops) s Q = wpO pr ops s (Q .nrm) := rfl
def aB (pr : Pr) (f : Nat) (fs : List F) (k : F → Prop) : Prop := ∃ x,Ans pr f fs x ∧ k x
@[congr] theorem aB_congr {f : Nat} {fs fs' : List F} {k : F → Prop} (h : fs = fs') : aB pr f fs k = aB pr f fs' k := by rw [h]
theorem Ans.uniq {f : Nat} {fs : List F} {x y : F} (h1 : Ans pr f fs x) (h2 : Ans pr f fs y) : x = y := by
 obtain ⟨q,rd,⟨n,hn⟩,e1⟩ := h1;obtain ⟨q',rd',⟨m,hm⟩,e2⟩ := h2;have a : zcN pr (Nat.max n m) f (F.dL fs) .e 0 = some q := hn (Nat.max n m) (Nat.le_max_left ..);have b : zcN pr (Nat.max n m) f (F.dL fs) .e 0 = some q' := hm (Nat.max n m) (Nat.le_max_right ..);rw [a] at b;cases b;rw [e1] at e2;cases e2;rfl
theorem zav {f : Nat} {fs : List F} {y : F} (h : Ans pr f fs y) {k : F → Prop} : aB pr f fs k ↔ k y :=
 ⟨fun ⟨x,hx,hk⟩ => by rw [Ans.uniq h hx]; exact hk,fun hk => ⟨y,h,hk⟩⟩
def lp (I : Nat → St → Prop) (k : Nat) (Q : Ex → St → Prop) (x : Ex) (s : St) : Prop := match x with
 | .nrm => ∃ k',k' < k ∧ I k' s
 | x => Q x s
@[congr] theorem lp_congr {I : Nat → St → Prop} {k : Nat} {Q : Ex → St → Prop} {x : Ex} {s : St} : lp I k Q x s = lp I k Q x s := rfl
theorem zcC {I : Nat → St → Prop} {k : Nat} {Q : Ex → St → Prop} {s : St} : lp I k Q .nrm s = ∃ k',k' < k ∧ I k' s := rfl
theorem zBx {I : Nat → St → Prop} {k : Nat} {Q : Ex → St → Prop} {s : St} : lp I k Q .ret s = Q .ret s := rfl
theorem zuF {I : Nat → St → Prop} {k : Nat} {Q : Ex → St → Prop} {s : St} {i : Nat} : lp I k Q (.exit i) s = Q (.exit i) s := rfl
theorem ltT {a b : Nat} (h : a < b) : (a < b) = True := by simp [h]
end
end Go.Vse
end
section
namespace Go.Vse
variable [Globs]
section
variable {pr : Pr}
theorem loopQ {c : C} {Q : Ex → St → Prop} (I : Nat → St → Prop) (R : Ex → St → Prop) (hstep : ∀ k s,I k s → wpC pr c s (lp I k R)) (k : Nat) (s : St) (h : I k s) (hQ : ∀ x s,R x s → Q x s) : wpC pr (.loop c) s Q := by
 have hl : wpC pr (.loop c) s R := zLB I hstep k s h;unfold wpC at hl ⊢;obtain ⟨x,s',m,hr,e⟩ := hl;exact ⟨x,s',m,hQ x s' hr,e⟩
theorem zd2 {P Q : St → Prop} {S : St} (h1 : P S) (h2 : ∀ s,P s → Q s) : Q S := h2 S h1
theorem zBh {es es' : Nat} {h : Nat → Option Ob} {els : List (List F)} : elemsOf es h (.f (.sl es' els)) = if es = es' then some (els.map (·.map D.f),[]) else none := rfl
theorem zvS {es : Nat} {h : Nat → Option Ob} : elemsOf es h (.f .nils) = some ([],[]) := rfl
theorem zrO {es : Nat} (l : List (List F)) (a b : Nat) (h1 : a ≤ b) (h2 : b ≤ l.length) : ∃ x : F,x.d = .f x ∧ (∀ h : Nat → Option Ob,sliceB es h (.f (slc es l)) (some (.f (.i .i64 a))) (some (.f (.i .i64 b))) none = some (.f x,[])) ∧
  (a = 0 → ∀ h : Nat → Option Ob,sliceB es h (.f (slc es l)) none (some (.f (.i .i64 b))) none = some (.f x,[])) ∧
  (b = l.length → ∀ h : Nat → Option Ob,sliceB es h (.f (slc es l)) (some (.f (.i .i64 a))) none none = some (.f x,[])) ∧
  (∀ h : Nat → Option Ob,elemsOf es h (.f x) = some (((l.drop a).take (b - a)).map (·.map D.f),[])) := by
 cases l with
 | nil =>
  simp at h2;subst h2;have : a = 0 := by omega
  subst this;exact ⟨.nils,rfl,fun h => rfl,fun _ h => rfl,fun _ h => rfl,fun h => rfl⟩
 | cons w l =>
  refine ⟨.sl es (((w :: l).drop a).take (b - a)),rfl,?_,?_,?_,?_⟩
  ·intro h;have h2' : b ≤ l.length + 1 := by simpa using h2
   simp [slc,sliceB,zbd,zbX,h1,h2']
  ·intro ha h;subst ha;have h2' : b ≤ l.length + 1 := by simpa using h2
   simp [slc,sliceB,zbd,zbX,h2']
  ·intro hb h;subst hb;have h1' : a ≤ l.length + 1 := by simpa using h1
   simp [slc,sliceB,zbd,zbX,h1']
  ·intro h;simp [elemsOf]
end
end Go.Vse
end
section
namespace Go.Vse
def om {α β : Type} (o : Option α) (k : α → Option β) : Option β := o.bind k
@[congr] theorem om_congr {α β : Type} {o o' : Option α} {k : α → Option β} (h : o = o') : om o k = om o' k := by rw [h]
theorem zlD {α β : Type} (a : α) (k : α → Option β) : om (some a) k = k a := rfl
theorem mo_n {α β : Type} (f : α → Option β) : zas f [] = some [] := rfl
theorem mo_c {α β : Type} (f : α → Option β) (x : α) (l : List α) : zas f (x :: l) = om (f x) fun y => om (zas f l) fun m => some (y :: m) := by
 simp only [zas,om];cases f x with
 | none => rfl
 | some y => cases zas f l <;> rfl
theorem oo_n {α β : Type} (f : α → Option β) : zcM f none = some none := rfl
theorem oo_s {α β : Type} (f : α → Option β) (x : α) : zcM f (some x) = om (f x) fun y => some (some y) := by
 simp only [zcM,om];cases f x <;> rfl
theorem fr_n (f : D → Option (F × List Nat)) : zbl f [] = some ([],[]) := rfl
theorem fr_c (f : D → Option (F × List Nat)) (d : D) (l : List D) : zbl f (d :: l) = om (f d) fun p => om (zbl f l) fun q => some (p.1 :: q.1,p.2 ++ q.2) := by
 simp only [zbl,om];cases f d with
 | none => rfl
 | some y => cases zbl f l <;> rfl
theorem zHZ (f : D → Option (F × List Nat)) : zaT f [] = some ([],[]) := rfl
theorem zEU (f : D → Option (F × List Nat)) (d : List D) (l : List (List D)) : zaT f (d :: l) = om (zbl f d) fun p => om (zaT f l) fun q => some (p.1 :: q.1,p.2 ++ q.2) := by
 simp only [zaT,om];cases zbl f d with
 | none => rfl
 | some y => cases zaT f l <;> rfl
theorem zHq [Globs] (f : D → Option (F × List Nat)) (a b : List (List D)) : zaT f (a ++ b) = om (zaT f a) fun p => om (zaT f b) fun q => some (p.1 ++ q.1,p.2 ++ q.2) := by
 rw [zvY];simp only [om];cases zaT f a with
 | none => rfl
 | some y => cases zaT f b <;> rfl
def fzS (h : Nat → Option Ob) (k id off len es : Nat) : Ob → Option (F × List Nat)
 | .arr es' _ els => if es = es' ∧ off + len ≤ els.length then om (zaT (frz h k) ((els.drop off).take len)) fun p => some (.sl es p.1,id :: p.2) else none
 | _ => none
theorem zlM {h : Nat → Option Ob} {k id off len es es' ro : Nat} {els : List (List D)} : fzS h k id off len es (.arr es' ro els) = if es = es' ∧ off + len ≤ els.length then om (zaT (frz h k) ((els.drop off).take len)) fun p => some (.sl es p.1,id :: p.2) else none := rfl
theorem zlG (h : Nat → Option Ob) (k id off len es lim : Nat) (ex : Bool) : frz h (k + 1) (.sl id off len es lim ex) = om (h id) (fzS h k id off len es) := by
 simp only [frz,om];cases h id with
 | none => rfl
 | some o =>
  cases o with
  | arr es' ro els =>
   simp only [Option.bind_some,fzS];split
   ·cases zaT (frz h k) ((els.drop off).take len) <;> rfl
   ·rfl
  | _ => rfl
theorem znB (h : Nat → Option Ob) (k : Nat) (cs : List D) : frz h (k + 1) (.ag cs) = om (zbl (frz h k) cs) fun p => some (.ag p.1,p.2) := by
 simp only [frz,om];cases zbl (frz h k) cs <;> rfl
theorem zIt (h : Nat → Option Ob) (k : Nat) (cs : List D) : frz h (k + 1) (.tu cs) = om (zbl (frz h k) cs) fun p => some (.tu p.1,p.2) := by
 simp only [frz,om];cases zbl (frz h k) cs <;> rfl
theorem f12f (h : Nat → Option Ob) (x : F) : frz h 12 (.f x) = some (x,[]) := rfl
theorem f11f (h : Nat → Option Ob) (x : F) : frz h 11 (.f x) = some (x,[]) := rfl
theorem f10f (h : Nat → Option Ob) (x : F) : frz h 10 (.f x) = some (x,[]) := rfl
theorem f9f (h : Nat → Option Ob) (x : F) : frz h 9 (.f x) = some (x,[]) := rfl
theorem f8f (h : Nat → Option Ob) (x : F) : frz h 8 (.f x) = some (x,[]) := rfl
theorem f12a (h : Nat → Option Ob) (cs : List D) : frz h 12 (.ag cs) = om (zbl (frz h 11) cs) fun p => some (.ag p.1,p.2) := znB h 11 cs
theorem f11a (h : Nat → Option Ob) (cs : List D) : frz h 11 (.ag cs) = om (zbl (frz h 10) cs) fun p => some (.ag p.1,p.2) := znB h 10 cs
theorem f10a (h : Nat → Option Ob) (cs : List D) : frz h 10 (.ag cs) = om (zbl (frz h 9) cs) fun p => some (.ag p.1,p.2) := znB h 9 cs
theorem f9a (h : Nat → Option Ob) (cs : List D) : frz h 9 (.ag cs) = om (zbl (frz h 8) cs) fun p => some (.ag p.1,p.2) := znB h 8 cs
theorem f12t (h : Nat → Option Ob) (cs : List D) : frz h 12 (.tu cs) = om (zbl (frz h 11) cs) fun p => some (.tu p.1,p.2) := zIt h 11 cs
theorem f12s (h : Nat → Option Ob) (id off len es lim : Nat) (ex : Bool) : frz h 12 (.sl id off len es lim ex) = om (h id) (fzS h 11 id off len es) := zlG ..
theorem f11s (h : Nat → Option Ob) (id off len es lim : Nat) (ex : Bool) : frz h 11 (.sl id off len es lim ex) = om (h id) (fzS h 10 id off len es) := zlG ..
theorem f10s (h : Nat → Option Ob) (id off len es lim : Nat) (ex : Bool) : frz h 10 (.sl id off len es lim ex) = om (h id) (fzS h 9 id off len es) := zlG ..
theorem f9s (h : Nat → Option Ob) (id off len es lim : Nat) (ex : Bool) : frz h 9 (.sl id off len es lim ex) = om (h id) (fzS h 8 id off len es) := zlG ..
def ldO (g : Bool) (n id es i j : Nat) : Ob → Option (D × List Nat)
 | .arr es' _ els => if es = es' then om els[i]? fun el => om (zcx g j n el) fun d => some (d,[id]) else none
 | _ => none
theorem zu7 {g : Bool} {n id es i j es' ro : Nat} {els : List (List D)} : ldO g n id es i j (.arr es' ro els) = if es = es' then om els[i]? fun el => om (zcx g j n el) fun d => some (d,[id]) else none := rfl
theorem ld_p {g : Bool} {n : Nat} {h : Nat → Option Ob} {id es i j : Nat} : zb6 g n h (.ptr id es i j) = om (h id) (ldO g n id es i j) := by
 simp only [zb6,om];cases h id with
 | none => rfl
 | some o =>
  cases o with
  | arr es' ro els =>
   simp only [Option.bind_some,ldO];split
   ·simp only [om];cases els[i]? with
    | none => rfl
    | some el => simp only [Option.bind_some]; cases zcx g j n el <;> rfl
   ·rfl
  | _ => rfl
theorem zH8 {g : Bool} {n : Nat} {h : Nat → Option Ob} {cs : List F} : zb6 g n h (.fptr cs) = om (zhb g n cs) fun d => some (d,[]) := by
 simp only [zb6,om];cases zhb g n cs <;> rfl
theorem pF_t {n : Nat} {cs : List F} : zhb true n cs = if n ≤ cs.length then some (.ag ((cs.take n).map D.f)) else none := rfl
theorem pF_f {n : Nat} {cs : List F} : zhb false n cs = om cs[0]? fun x => some (.f x) := by
 simp only [zhb,om];cases cs[0]? <;> rfl
theorem pD_t {o n : Nat} {cs : List D} : zcx true o n cs = if o + n ≤ cs.length then some (.ag ((cs.drop o).take n)) else none := rfl
theorem pD_f {o n : Nat} {cs : List D} : zcx false o n cs = cs[o]? := rfl
def stO (n id es i j : Nat) (v : D) : Ob → Option (Nat × Ob)
 | .arr es' ro els => if es = es' ∧ ro ≤ i then om els[i]? fun el => om v.cells fun cs => if cs.length = n then om (over el j cs) fun el' => if zd8 els (els.set i el') = true then some (id,.arr es ro (els.set i el')) else none else none else none
 | _ => none
theorem zuv {n id es i j es' ro : Nat} {v : D} {els : List (List D)} : stO n id es i j v (.arr es' ro els) = if es = es' ∧ ro ≤ i then om els[i]? fun el => om v.cells fun cs => if cs.length = n then om (over el j cs) fun el' => if zd8 els (els.set i el') = true then some (id,.arr es ro (els.set i el')) else none else none else none := rfl
theorem st_p {n : Nat} {h : Nat → Option Ob} {id es i j : Nat} {v : D} : zdR n h (.ptr id es i j) v = om (h id) (stO n id es i j v) := by
 simp only [zdR,om];cases h id with
 | none => rfl
 | some o =>
  cases o with
  | arr es' ro els =>
   simp only [Option.bind_some,stO];split
   ·simp only [om];cases els[i]? with
    | none => rfl
    | some el =>
     simp only [Option.bind_some];cases v.cells with
     | none => rfl
     | some cs =>
      simp only [Option.bind_some];split
      ·cases over el j cs with
       | none => rfl
       | some el' => rfl
      ·rfl
   ·rfl
  | _ => rfl
theorem zvq (x y : List (List D)) : zd8 x y = (!hd8 x || hd8 y) := rfl
theorem h8_i (n : Int) (l : List (List D)) : hd8 ([.f (.i .u8 n)] :: l) = true := rfl
theorem zAG : hd8 [] = false := rfl
theorem zy5 (a b : D) (c : List D) (l : List (List D)) : hd8 ((a :: b :: c) :: l) = false := by
 unfold hd8;split
 ·rename_i h; simp at h
 ·rfl
theorem zzN (n : Int) (l : List (List D)) : hd8 ([.f (.i .i64 n)] :: l) = false := rfl
theorem h8_b (n : Bool) (l : List (List D)) : hd8 ([.f (.b n)] :: l) = false := rfl
theorem h8_s (n : List UInt8) (l : List (List D)) : hd8 ([.f (.s n)] :: l) = false := rfl
theorem zuD (l : List (List D)) : hd8 ([.f .nils] :: l) = false := rfl
theorem zzS (e : Nat) (x : List (List F)) (l : List (List D)) : hd8 ([.f (.sl e x)] :: l) = false := rfl
theorem zFT (a b c d e : Nat) (x : Bool) (l : List (List D)) : hd8 ([.sl a b c d e x] :: l) = false := rfl
theorem zzY (a b c d : Nat) (l : List (List D)) : hd8 ([.ptr a b c d] :: l) = false := rfl
theorem zFD (cs : List D) : (D.ag cs).cells = some cs := rfl
theorem ce_i (k : IntKind) (n : Int) : (D.f (.i k n)).cells = some [.f (.i k n)] := rfl
theorem ce_b (b : Bool) : (D.f (.b b)).cells = some [.f (.b b)] := rfl
theorem ce_s (l : List UInt8) : (D.f (.s l)).cells = some [.f (.s l)] := rfl
theorem zv2 : (D.f .nils).cells = some [.f .nils] := rfl
theorem zzd (e : Nat) (l : List (List F)) : (D.f (.sl e l)).cells = some [.f (.sl e l)] := rfl
theorem zly (e : Nat) (l : List (List F)) : (D.f (slc e l)).cells = some [.f (slc e l)] := by cases l <;> rfl
theorem zIm (a b c d e : Nat) (x : Bool) : (D.sl a b c d e x).cells = some [.sl a b c d e x] := rfl
theorem zBL (a b c d : Nat) : (D.ptr a b c d).cells = some [.ptr a b c d] := rfl
theorem zvI (x : List F) : (D.fptr x).cells = some [.fptr x] := rfl
theorem d_ag (cs : List F) : (F.ag cs).d = .ag (F.dL cs) := rfl
theorem d_tu (cs : List F) : (F.tu cs).d = .tu (F.dL cs) := rfl
theorem d_i (k : IntKind) (n : Int) : (F.i k n).d = .f (.i k n) := rfl
theorem d_b (b : Bool) : (F.b b).d = .f (.b b) := rfl
theorem d_s (l : List UInt8) : (F.s l).d = .f (.s l) := rfl
theorem zzI : (F.nils).d = .f .nils := rfl
theorem d_un : (F.un).d = .f .un := rfl
theorem d_sl (e : Nat) (l : List (List F)) : (F.sl e l).d = .f (.sl e l) := rfl
theorem dl_n : F.dL [] = [] := rfl
theorem dl_c (x : F) (l : List F) : F.dL (x :: l) = x.d :: F.dL l := rfl
theorem ti_i (k : IntKind) (n : Int) : zbX (.f (.i k n)) = if 0 ≤ n then some n.toNat else none := rfl
theorem fa_p (o id es i j : Nat) : faB o (.ptr id es i j) = some (.ptr id es i (j + o)) := rfl
theorem fa_f (o : Nat) (cs : List F) : faB o (.fptr cs) = some (.fptr (cs.drop o)) := rfl
theorem ov (cs : List D) (o : Nat) (new : List D) : over cs o new = if o + new.length ≤ cs.length then some (cs.take o ++ new ++ cs.drop (o + new.length)) else none := rfl
theorem fb_n (cs : List D) : zdq cs [] = some cs := rfl
theorem fb_c (cs : List D) (o n : Nat) (d : D) (l : List (Nat × Nat × D)) : zdq cs ((o,n,d) :: l) = om d.cells fun x => if x.length = n then om (over cs o x) fun y => zdq y l else none := by
 simp only [zdq,om];cases d.cells with
 | none => rfl
 | some x =>
  simp only [Option.bind_some];split
  ·cases over cs o x <;> rfl
  ·rfl
theorem fe_n (es : Nat) (els : List (List D)) : zdZ es els [] = some els := rfl
theorem fe_c (es : Nat) (els : List (List D)) (i : Nat) (d : D) (l : List (Nat × D)) : zdZ es els ((i,d) :: l) = om d.cells fun cs => if cs.length = es ∧ i < els.length then zdZ es (els.set i cs) l else none := by
 simp only [zdZ,om];cases d.cells with
 | none => rfl
 | some x => rfl
theorem zDt (h : T Ob) : wrT h [] = h := rfl
theorem zDJ (h : T Ob) (id : Nat) (ob : Ob) (l : List (Nat × Option Ob)) : wrT h ((id,some ob) :: l) = wrT (h.set id ob) l := rfl
theorem zEq (h : T Ob) (id : Nat) (l : List (Nat × Option Ob)) : wrT h ((id,none) :: l) = wrT (h.del id) l := rfl
theorem wo_n (c : Nat) : zat c [] = true := rfl
theorem wo_c (c id : Nat) (o : Option Ob) (l : List (Nat × Option Ob)) : zat c ((id,o) :: l) = (Nat.blt id c && zat c l) := rfl
def roO (h : Nat → Option Ob) (id : Nat) (l : List Nat) : Option Ob → List (Nat × Option Ob)
 | some (.arr es ro els) => if els.length ≤ ro then zaF h l else (id,some (.arr es els.length els)) :: zaF h l
 | _ => zaF h l
theorem ro_n (h : Nat → Option Ob) : zaF h [] = [] := rfl
theorem ro_c (h : Nat → Option Ob) (id : Nat) (l : List Nat) : zaF h (id :: l) = roO h id l (h id) := by
 simp only [zaF,roO];cases h id with
 | none => rfl
 | some o => cases o <;> rfl
theorem zz3 (h : Nat → Option Ob) (id : Nat) (l : List Nat) (es ro : Nat) (els : List (List D)) : roO h id l (some (.arr es ro els)) = if els.length ≤ ro then zaF h l else (id,some (.arr es els.length els)) :: zaF h l := rfl
structure WD [Globs] (pr : Pr) (ops : List (Op × Nat)) (s : St) (Q : Ex → St → Prop) : Prop where
 out : wpC pr (.dreg ops) s Q
theorem zBM [Globs] {pr : Pr} {ops : List (Op × Nat)} {s : St} {Q : Ex → St → Prop} : wpC pr (.dreg ops) s Q = WD pr ops s Q := propext ⟨fun h => ⟨h⟩,fun h => h.out⟩
theorem zaC [Globs] {pr : Pr} {ops : List (Op × Nat)} {s : St} {Q : Ex → St → Prop} (h : wpE pr [] ops s (Q .nrm)) : WD pr ops s Q := ⟨zMx h⟩
theorem zG3 (h : Nat → Option Ob) (c : Nat) (cs : List D) (i : Nat) : opv h c (.ext (.tu cs) i) = om cs[i]? fun d => some { d,c } := by
 simp only [opv,om,okD];cases cs[i]? <;> rfl
theorem zG9 (h : Nat → Option Ob) (c : Nat) (b : Bool) : opv h c (.un .not (.f (.b b))) = some { d := .f (.b !b),c } := rfl
theorem zGJ (h : Nat → Option Ob) (c : Nat) (ks : List Nat) (ne : Bool) (a b : List D) : opv h c (.eqa ks ne (.ag a) (.ag b)) = om (zbh ks a b) fun t => some { d := .f (.b (if ne then !t else t)),c } := by
 simp only [opv,om,okF];cases zbh ks a b <;> rfl
theorem zys (h : Nat → Option Ob) (c : Nat) (k k' : IntKind) (n : Int) : opv h c (.cvi k (.f (.i k' n))) = some { d := .f (.i k (k.wrap n)),c } := rfl
theorem zIb (h : Nat → Option Ob) (c es : Nat) (x : D) (lo hi mx : Option D) : opv h c (.slc es x lo hi mx) = om (sliceB es h x lo hi mx) fun p => some { d := p.1,rd := p.2,c } := by
 simp only [opv,om];cases sliceB es h x lo hi mx <;> rfl
theorem zF9 (h : Nat → Option Ob) (c es byt : Nat) (s x : D) : opv h c (.app es byt s x) = om (elemsOf es h x) fun p => zbY es byt h c s p.1 p.2 := by
 simp only [opv,om];cases elemsOf es h x <;> rfl
theorem zIh (h : Nat → Option Ob) (c es m : Nat) (z : List F) (ps : List (Nat × D)) : opv h c (.bsl es z m ps) = om (zdZ es (List.replicate m (z.map D.f)) ps) fun els => some { d := .sl c 0 m es m true,wr := [(c,some (.arr es 0 els))],c := c + 1 } := by
 simp only [opv,om];cases zdZ es (List.replicate m (z.map D.f)) ps <;> rfl
def zCO (c es m : Nat) (els : List (List D)) : Option (List (List F)) → Option Rs
 | some fs => some { d := .f (.sl es fs),c }
 | none => some { d := .sl c 0 m es m true,wr := [(c,some (.arr es 0 els))],c := c + 1 }
theorem zAj (c es m : Nat) (els : List (List D)) (fs : List (List F)) : zCO c es m els (some fs) = some { d := .f (.sl es fs),c } := rfl
theorem zzg (c es m : Nat) (els : List (List D)) : zCO c es m els none = some { d := .sl c 0 m es m true,wr := [(c,some (.arr es 0 els))],c := c + 1 } := rfl
theorem zGR (h : Nat → Option Ob) (c es m : Nat) (z : List F) (ps : List (Nat × D)) : opv h c (.bsf es z m ps) = om (zdZ es (List.replicate m (z.map D.f)) ps) fun els => zCO c es m els (zeu els) := by
 simp only [opv,om,okF];cases zdZ es (List.replicate m (z.map D.f)) ps with
 | none => rfl
 | some els => simp only [Option.bind_some]; cases zeu els <;> rfl
theorem fc_n : zdG [] = some [] := rfl
theorem fc_f (x : F) (l : List D) : zdG (.f x :: l) = om (zdG l) fun m => some (x :: m) := by
 simp only [zdG,om];cases zdG l <;> rfl
theorem zHd (a b c d e : Nat) (x : Bool) (l : List D) : zdG (.sl a b c d e x :: l) = none := rfl
theorem fw_n : zeu [] = some [] := rfl
theorem fw_c (x : List D) (l : List (List D)) : zeu (x :: l) = om (zdG x) fun y => om (zeu l) fun m => some (y :: m) := by
 simp only [zeu,om];cases zdG x with
 | none => rfl
 | some y => cases zeu l <;> rfl
def elO (es id off len es' : Nat) : Ob → Option (List (List D) × List Nat)
 | .arr es'' _ els => if es = es' ∧ es' = es'' ∧ off + len ≤ els.length then some ((els.drop off).take len,[id]) else none
 | _ => none
theorem zu9 {es id off len es' es'' ro : Nat} {els : List (List D)} : elO es id off len es' (.arr es'' ro els) = if es = es' ∧ es' = es'' ∧ off + len ≤ els.length then some ((els.drop off).take len,[id]) else none := rfl
theorem zFC {es id off len es' lim : Nat} {ex : Bool} {h : Nat → Option Ob} : elemsOf es h (.sl id off len es' lim ex) = om (h id) (elO es id off len es') := by
 simp only [elemsOf,om];cases h id with
 | none => rfl
 | some o => cases o <;> rfl
theorem zBv {es es' : Nat} {h : Nat → Option Ob} {l : List (List F)} (he : es = es') : elemsOf es h (.f (slc es' l)) = some (l.map (·.map D.f),[]) := by
 subst he;cases l with
 | nil => rfl
 | cons x l => simp [slc,elemsOf]
def apO (es byt c id off len es' lim : Nat) (ex : Bool) (new : List (List D)) (rd : List Nat) : Ob → Option Rs
  | .arr es'' ro els => if es = es' ∧ es' = es'' ∧ off + len ≤ els.length then
        if off + len + new.length ≤ lim then
          if off + len + new.length ≤ els.length ∧ ro ≤ off + len ∧ zd8 els (els.take (off + len) ++ new ++ els.drop (off + len + new.length)) = true then
            some { d := .sl id off (len + new.length) es lim ex,rd := id :: rd,
                   wr := [(id,some (.arr es ro (els.take (off + len) ++ new ++ els.drop (off + len + new.length))))],c }
          else none
        else if len + new.length ≤ zak ∧ (len + new.length) * byt ≤ zak then
          if ex = true then
            some { d := .sl c 0 (len + new.length) es (len + new.length) false,rd := id :: rd,
                   wr := [(c,some (.arr es 0 ((els.drop off).take len ++ new)))],c := c + 1 }
          else if off = 0 ∧ len = els.length ∧ ro ≤ len then
            some { d := .sl c 0 (off + len + new.length) es (off + len + new.length) false,rd := id :: rd,wr := [(id,none),(c,some (.arr es ro (els ++ new)))],c := c + 1 }
          else if off = 0 ∧ ro ≤ len ∧ els.length ≤ off + len + new.length ∧ zd8 els (els.take len ++ new) = true then
            some { d := .sl c 0 (off + len + new.length) es (off + len + new.length) false,rd := id :: rd,wr := [(id,none),(c,some (.arr es ro (els.take len ++ new)))],c := c + 1 }
          else none
        else none
      else none
  | _ => none
theorem zgE {es byt c : Nat} {h : Nat → Option Ob} {new : List (List D)} {rd : List Nat} : zbY es byt h c (.f .nils) new rd = if new.length = 0 then some { d := .f .nils,rd,c } else
  if new.length ≤ zak ∧ new.length * byt ≤ zak then some { d := .sl c 0 new.length es new.length false,rd,wr := [(c,some (.arr es 0 new))],c := c + 1 } else none := rfl
theorem zjX [Globs] {es byt c id off len es' lim : Nat} {ex : Bool} {h : Nat → Option Ob} {new : List (List D)} {rd : List Nat} : zbY es byt h c (.sl id off len es' lim ex) new rd =
  if new.length = 0 then some { d := .sl id off len es' lim ex,rd,c } else om (h id) (apO es byt c id off len es' lim ex new rd) := by
 rw [zJq];split
 ·rfl
 ·simp only [om];cases h id with
  | none => rfl
  | some o => cases o <;> rfl
theorem rd_1 (s : St) (v : Rv) : resD s [v] = resV s v := by
 simp only [resD,zas];cases resV s v <;> rfl
theorem rd_2 (s : St) (v w : Rv) : resD s [v,w] = om (resV s v) fun x => om (resV s w) fun y => some (.tu [x,y]) := by
 simp only [resD,zas,om];cases resV s v with
 | none => rfl
 | some x => cases resV s w <;> rfl
theorem rv_t (s : St) (n : Nat) : resV s (.t n) = s.tm.get n := rfl
theorem rv_c (s : St) (n sz : Nat) (g : Bool) : resV s (.cell n g sz) = om (s.tm.get n) fun p => om (zb6 g sz s.h.get p) fun y => some y.1 := by
 simp only [resV,om];cases s.tm.get n with
 | none => rfl
 | some p => simp only [Option.bind_some]; cases zb6 g sz s.h.get p <;> rfl
theorem zsj {res : List Rv} {y : F} {s : St} : zjw res y .ret s ↔ oB (resD s res) fun d => oB (frz s.h.get 12 d) fun p => p.1 = y := by
 simp only [zjw,true_and,oB];cases resD s res with
 | none => simp
 | some d =>
  simp only [Option.some.injEq,exists_eq_left'];cases frz s.h.get 12 d with
  | none => simp
  | some p => obtain ⟨a,b⟩ := p; simp
theorem zB8 {res : List Rv} {y : F} {s : St} : zjw res y .nrm s ↔ oB (resD s res) fun d => oB (frz s.h.get 12 d) fun p => p.1 = y := by
 rw [← zsj]; rfl
end Go.Vse
end
section
namespace Go.Vse
def Grow (h : T Ob) (lo c es : Nat) (d : D) (els : List (List D)) : Prop :=
 (d = .f .nils ∧ els = []) ∨ ∃ id,d = .sl id 0 els.length es els.length false ∧ els ≠ [] ∧ h.get id = some (.arr es 0 els) ∧ lo ≤ id ∧ id < c
theorem Grow.nil {h : T Ob} {lo c es : Nat} : Grow h lo c es (.f .nils) [] := .inl ⟨rfl,rfl⟩
theorem zEx [Globs] {h : T Ob} {lo c es byt : Nat} {d : D} {els new : List (List D)} {rd : List Nat} (hg : Grow h lo c es d els) (hlo : lo ≤ c) (hlen : els.length + new.length ≤ 1000000) (hb : byt ≤ 1000) :
  ∃ r,zbY es byt h.get c d new rd = some r ∧ zat r.c r.wr = true ∧ Grow (wrT h r.wr) lo r.c es r.d (els ++ new) ∧ c ≤ r.c ∧ ∀ id,id < lo → (wrT h r.wr).get id = h.get id := by
 have hm : ∀ n,n ≤ 1000000 → n ≤ zak := fun n hn => by have := zaV (n := n) (by omega); simpa using this
 have hmb : ∀ n,n ≤ 1000000 → n * byt ≤ zak := fun n hn => by
  have : n * byt ≤ 1000000 * 1000 := Nat.mul_le_mul hn hb;have h2 := zaV (n := n * byt) (by omega);simpa using h2
 by_cases h0 : new.length = 0
 ·have hn : new = [] := List.length_eq_zero_iff.1 h0;subst hn;rcases hg with ⟨rfl,rfl⟩ | ⟨id,rfl,he,ho,hl,hc⟩
  ·exact ⟨{ d := .f .nils,rd,c },by rw [zgE]; simp,rfl,.inl ⟨rfl,rfl⟩,Nat.le_refl _,fun _ _ => rfl⟩
  ·exact ⟨{ d := .sl id 0 els.length es els.length false,rd,c },by rw [zjX]; simp,rfl,.inr ⟨id,by simp,by simpa using he,by simpa [wrT] using ho,hl,hc⟩,Nat.le_refl _,fun _ _ => rfl⟩
 ·rcases hg with ⟨rfl,rfl⟩ | ⟨id,rfl,he,ho,hl,hc⟩
  ·refine ⟨{ d := .sl c 0 new.length es new.length false,rd,wr := [(c,some (.arr es 0 new))],c := c + 1 },?_,?_,.inr ⟨c,rfl,?_,?_,hlo,by simp⟩,by simp,?_⟩
   ·rw [zgE,if_neg h0,if_pos ⟨hm _ (by simpa using hlen),hmb _ (by simpa using hlen)⟩]
   ·simp [zat,Nat.blt_eq]
   ·simpa using fun e => h0 (by simp [e])
   ·simp [wrT,T.zab]
   ·intro i hi;have : i ≠ c := by omega
    simp [wrT,T.zab,this]
  ·refine ⟨{ d := .sl c 0 (els.length + new.length) es (els.length + new.length) false,rd := id :: rd,wr := [(id,none),(c,some (.arr es 0 (els ++ new)))],c := c + 1 },?_,?_,.inr ⟨c,by simp,?_,?_,hlo,by simp⟩,by simp,?_⟩
   ·rw [zjX,if_neg h0,ho];have h1 : ¬ (0 + els.length + new.length ≤ els.length) := by omega
    have h2 := hm (els.length + new.length) hlen;have h3 := hmb (els.length + new.length) hlen;simp [om,apO,h1,h2,h3];omega
   ·simp [zat,Nat.blt_eq]; omega
   ·simp [he]
   ·simp [wrT,T.zab]
   ·intro i hi;have h1 : i ≠ c := by omega
    have h2 : i ≠ id := by omega
    simp [wrT,T.zab,T.zeQ,h1,h2]
theorem zJO {h h' : T Ob} {lo c c' es : Nat} {d : D} {els : List (List D)} (hg : Grow h lo c es d els) (hh : ∀ id,id < c → h'.get id = h.get id) (hc : c ≤ c') : Grow h' lo c' es d els := by
 rcases hg with ⟨rfl,rfl⟩ | ⟨id,rfl,he,ho,hl,hlt⟩
 ·exact .inl ⟨rfl,rfl⟩
 ·exact .inr ⟨id,rfl,he,by rw [hh id hlt]; exact ho,hl,by omega⟩
theorem zIW [Globs] {h : T Ob} {lo c es byt : Nat} {d : D} {els new : List (List D)} {rd : List Nat} {K : Rs → Prop} (hg : Grow h lo c es d els) (hlo : lo ≤ c) (hlen : els.length + new.length ≤ 1000000) (hb : byt ≤ 1000)
  (hK : ∀ r : Rs,zat r.c r.wr = true → Grow (wrT h r.wr) lo r.c es r.d (els ++ new) → c ≤ r.c → (∀ id,id < lo → (wrT h r.wr).get id = h.get id) → K r) : oB (zbY es byt h.get c d new rd) K := by
 obtain ⟨r,h1,h2,h3,h4,h5⟩ := zEx (byt := byt) (rd := rd) hg hlo hlen hb;rw [h1];exact hK r h2 h3 h4 h5
section
variable [Globs] {pr : Pr}
structure WL (pr : Pr) (c : C) (s : St) (Q : Ex → St → Prop) : Prop where
 out : wpC pr (.loop c) s Q
def rn (pr : Pr) (c : C) (Q : Ex → St → Prop) (x : Ex) (s : St) : Prop := match x with
 | .nrm => WL pr c s Q
 | x => Q x s
theorem zzs {c : C} {Q : Ex → St → Prop} {s : St} : rn pr c Q .nrm s = WL pr c s Q := rfl
theorem zB3 {c : C} {Q : Ex → St → Prop} {s : St} : rn pr c Q .ret s = Q .ret s := rfl
theorem zuq {c : C} {Q : Ex → St → Prop} {s : St} {i : Nat} : rn pr c Q (.exit i) s = Q (.exit i) s := rfl
theorem round {c : C} {s : St} {Q : Ex → St → Prop} (h : wpC pr c s (rn pr c Q)) : WL pr c s Q := by
 refine ⟨zJ0 ?_⟩;have e : rn pr c Q = fun x s' => match x with
  | .nrm => wpC pr (.loop c) s' Q
  | x => Q x s' := by
  funext x s'
  cases x with
  | nrm => exact propext ⟨fun h => h.out,fun h => ⟨h⟩⟩
  | ret => rfl
  | exit i => rfl
 rw [e] at h; exact h
theorem zB5 {c : C} {s : St} {Q : Ex → St → Prop} : wpC pr (.loop c) s Q = WL pr c s Q := propext ⟨fun h => ⟨h⟩,fun h => h.out⟩
theorem zdi {c : C} {Q : Ex → St → Prop} (I : Nat → St → Prop) (R : Ex → St → Prop) (hstep : ∀ k s,I k s → wpC pr c s (lp I k R)) (k : Nat) (s : St) (h : I k s) (hQ : ∀ x s,R x s → Q x s) : WL pr c s Q := ⟨loopQ I R hstep k s h hQ⟩
end
end Go.Vse
end
section
namespace Go.Vse
variable [Globs]
def zEe (res : List Rv) (P : F → Prop) (x : Ex) (s : St) : Prop :=
 (match x with | .exit _ => False | _ => True) ∧ ∃ d,resD s res = some d ∧ ∃ y rd,frz s.h.get 12 d = some (y,rd) ∧ P y
theorem zth {res : List Rv} {P : F → Prop} {s : St} : zEe res P .ret s ↔ oB (resD s res) fun d => oB (frz s.h.get 12 d) fun p => P p.1 := by
 simp only [zEe,true_and,oB];cases resD s res with
 | none => simp
 | some d =>
  simp only [Option.some.injEq,exists_eq_left'];cases frz s.h.get 12 d with
  | none => simp
  | some p =>
   obtain ⟨a,b⟩ := p;simp only [Option.some.injEq,Prod.mk.injEq];exact ⟨fun ⟨y,rd,⟨e1,e2⟩,h⟩ => by rw [e1]; exact h,fun h => ⟨a,b,⟨rfl,rfl⟩,h⟩⟩
theorem zAq {res : List Rv} {P : F → Prop} {s : St} : zEe res P .nrm s ↔ oB (resD s res) fun d => oB (frz s.h.get 12 d) fun p => P p.1 := by
 rw [← zth]; rfl
omit [Globs] in
theorem fza (h : Nat → Option Ob) (l : List D) : zdf h l = zbl (frz h 12) l := rfl
omit [Globs] in
omit [Globs] in
omit [Globs] in
omit [Globs] in
theorem oi_n (d : Nat) : zbd d none = some d := rfl
omit [Globs] in
theorem oi_s (d : Nat) (x : D) : zbd d (some x) = zbX x := rfl
omit [Globs] in
theorem zEW {es : Nat} {h : Nat → Option Ob} : sliceB es h (.f .nils) none (some (.f (.i .i64 0))) none = some (.f .nils,[]) := rfl
omit [Globs] in
theorem zHr {es : Nat} {h : Nat → Option Ob} : sliceB es h (.f .nils) (some (.f (.i .i64 0))) none none = some (.f .nils,[]) := rfl
omit [Globs] in
theorem zAD {es es' : Nat} {h : Nat → Option Ob} {els : List (List F)} {lo hi : Option D} : sliceB es h (.f (.sl es' els)) lo hi none = om (zbd 0 lo) fun l => om (zbd els.length hi) fun r =>
  if es = es' ∧ l ≤ r ∧ r ≤ els.length then some (.f (.sl es ((els.drop l).take (r - l))),[]) else none := by
 simp only [sliceB,om];cases zbd 0 lo with
 | none => rfl
 | some l => simp only [Option.bind_some]; cases zbd els.length hi <;> rfl
section
variable {pr : Pr} {s : St} {Q : St → Prop} {dst : Option Nat} {L : List (List Nat × List Nat)} {mask : Nat}
theorem zGL {l : List Op} {g : Bool} {off n : Nat} {x : A} : wpO pr (⟨dst,none,.fld g off n x⟩ :: l) s Q ↔ oB (((O.fld g off n x).res (zad s.tm)).bind (opv s.h.get s.c)) fun r => zat r.c r.wr = true ∧ wpO pr l (s.aft dst r.d r.wr r.c) Q := zez rfl
theorem zGp {l : List (Op × Nat)} {g : Bool} {off n : Nat} {x : A} : wpE pr L ((⟨dst,none,.fld g off n x⟩,mask) :: l) s Q ↔ oB (((O.fld g off n x).res (zad s.tm)).bind (opv s.h.get s.c)) fun r => zat r.c r.wr = true ∧
    zcX mask L r.rd (r.wr.map (·.1)) ∧ wpE pr (L ++ [(r.rd,r.wr.map (·.1))]) l (s.ae dst r.d r.wr r.c) Q := zcz rfl
omit [Globs] in
theorem zH0 (h : Nat → Option Ob) (c : Nat) (g : Bool) (off n : Nat) (cs : List D) : opv h c (.fld g off n (.ag cs)) = om (zcx g off n cs) fun d => some { d,c } := by
 simp only [opv,om,okD];cases zcx g off n cs <;> rfl
end
end Go.Vse
end
section
namespace Go.Vse
set_option maxRecDepth 100000
theorem ob_s {α β : Type} (a : α) (f : α → Option β) : (some a).bind f = f a := rfl
theorem ob_m {α β : Type} (a : α) (f : α → β) : (some a).map f = some (f a) := rfl
theorem ob_b {α β : Type} (a : Option α) (f : α → Option β) : (a >>= f) = a.bind f := rfl
theorem cm_n {m : Nat} {rd wr : List Nat} : zcX m [] rd wr = True := rfl
theorem cm_c {m : Nat} {r w : List Nat} {L : List (List Nat × List Nat)} {rd wr : List Nat} : zcX m ((r,w) :: L) rd wr = ((m % 2 = 1 → zcL rd w ∧ zcL wr w ∧ zcL wr r) ∧ zcX (m / 2) L rd wr) := rfl
theorem fn_n (f : Nat) : fnD f [] = .f (.fn f) := rfl
theorem fn_c (f : Nat) (x : D) (l : List D) : fnD f (x :: l) = .fn f [] (x :: l) := rfl
theorem zzT (f : A → Option D) (x : A) (i : Nat) : O.res f (.ext x i) = (f x).bind fun y => some (.ext y i) := rfl
theorem zHJ (f : A → Option D) (op : UnOp) (x : A) : O.res f (.un op x) = (f x).bind fun y => some (.un op y) := rfl
theorem zzz (f : A → Option D) (k : IntKind) (x : A) : O.res f (.cvi k x) = (f x).bind fun y => some (.cvi k y) := rfl
theorem zBs (f : A → Option D) (ks : List Nat) (ne : Bool) (x y : A) : O.res f (.eqa ks ne x y) = (f x).bind fun a => (f y).bind fun b => some (.eqa ks ne a b) := rfl
theorem zBy (f : A → Option D) (es b : Nat) (x y : A) : O.res f (.app es b x y) = (f x).bind fun a => (f y).bind fun c => some (.app es b a c) := rfl
theorem zAd (f : A → Option D) (g : Bool) (o n : Nat) (x : A) : O.res f (.fld g o n x) = (f x).bind fun y => some (.fld g o n y) := rfl
theorem zzj (f : A → Option D) (es : Nat) (x : A) (a b c : Option A) : O.res f (.slc es x a b c) = (f x).bind fun y => (zcM f a).bind fun a => (zcM f b).bind fun b => (zcM f c).bind fun c => some (.slc es y a b c) := rfl
theorem zA3 (f : A → Option D) (es : Nat) (z : List F) (m : Nat) (ps : List (Nat × A)) : O.res f (.bsl es z m ps) = (zas (fun p : Nat × A => (f p.2).bind fun y => some (p.1,y)) ps).bind fun qs => some (.bsl es z m qs) := rfl
theorem zBi (f : A → Option D) (es : Nat) (z : List F) (m : Nat) (ps : List (Nat × A)) : O.res f (.bsf es z m ps) = (zas (fun p : Nat × A => (f p.2).bind fun y => some (p.1,y)) ps).bind fun qs => some (.bsf es z m qs) := rfl
def fw (l : List F) : List F := l
theorem fw_e (l : List F) : fw l = l := rfl
theorem zwe [Globs] {pr : Pr} {l : List Op} {s : St} {Q : St → Prop} {dst : Option Nat} {f : Nat} {args : List A} : wpO pr (⟨dst,none,.callp f args⟩ :: l) s Q ↔ oB (zas (zad s.tm) args) fun ds => oB (zdf s.h.get ds) fun y => aB pr f (fw y.1) fun x =>
  zat s.c (zaF s.h.get y.2) = true ∧ wpO pr l (s.aft dst x.d (zaF s.h.get y.2) s.c) Q := zIL
theorem zsJ [Globs] {pr : Pr} {l : List (Op × Nat)} {s : St} {Q : St → Prop} {dst : Option Nat} {L : List (List Nat × List Nat)} {mask f : Nat} {args : List A} : wpE pr L ((⟨dst,none,.callp f args⟩,mask) :: l) s Q ↔ oB (zas (zad s.tm) args) fun ds => oB (zdf s.h.get ds) fun y => aB pr f (fw y.1) fun x => zat s.c (zaF s.h.get y.2) = true ∧
    zcX mask L y.2 ((zaF s.h.get y.2).map (·.1)) ∧ wpE pr (L ++ [(y.2,(zaF s.h.get y.2).map (·.1))]) l (s.ae dst x.d (zaF s.h.get y.2) s.c) Q := zKr
section
variable [Globs] {pr : Pr} {s : St} {Q : St → Prop} {dst : Option Nat} {L : List (List Nat × List Nat)} {mask : Nat}
theorem zGl {l : List Op} {ne : Bool} {x y : A} : wpO pr (⟨dst,none,.eqb ne x y⟩ :: l) s Q ↔ oB (((O.eqb ne x y).res (zad s.tm)).bind (opv s.h.get s.c)) fun r => zat r.c r.wr = true ∧ wpO pr l (s.aft dst r.d r.wr r.c) Q := zez rfl
theorem zHP {l : List (Op × Nat)} {kd : Nat} {ne : Bool} {x y : A} : wpE pr L ((⟨dst,none,.eqn kd ne x y⟩,mask) :: l) s Q ↔ oB (((O.eqn kd ne x y).res (zad s.tm)).bind (opv s.h.get s.c)) fun r => zat r.c r.wr = true ∧ zcX mask L r.rd (r.wr.map (·.1)) ∧ wpE pr (L ++ [(r.rd,r.wr.map (·.1))]) l (s.ae dst r.d r.wr r.c) Q := zcz rfl
theorem zGS {l : List Op} {kd : Nat} {ne : Bool} {x y : A} : wpO pr (⟨dst,none,.eqn kd ne x y⟩ :: l) s Q ↔ oB (((O.eqn kd ne x y).res (zad s.tm)).bind (opv s.h.get s.c)) fun r => zat r.c r.wr = true ∧ wpO pr l (s.aft dst r.d r.wr r.c) Q := zez rfl
theorem zE8 {l : List (Op × Nat)} {es b : Nat} {z : List F} {x y : A} : wpE pr L ((⟨dst,none,.mks es b z x y⟩,mask) :: l) s Q ↔ oB (((O.mks es b z x y).res (zad s.tm)).bind (opv s.h.get s.c)) fun r => zat r.c r.wr = true ∧ zcX mask L r.rd (r.wr.map (·.1)) ∧ wpE pr (L ++ [(r.rd,r.wr.map (·.1))]) l (s.ae dst r.d r.wr r.c) Q := zcz rfl
theorem zEN {l : List Op} {es b : Nat} {z : List F} {x y : A} : wpO pr (⟨dst,none,.mks es b z x y⟩ :: l) s Q ↔ oB (((O.mks es b z x y).res (zad s.tm)).bind (opv s.h.get s.c)) fun r => zat r.c r.wr = true ∧ wpO pr l (s.aft dst r.d r.wr r.c) Q := zez rfl
theorem e_mm {l : List (Op × Nat)} {mx : Bool} {x y : A} : wpE pr L ((⟨dst,none,.mm mx x y⟩,mask) :: l) s Q ↔ oB (((O.mm mx x y).res (zad s.tm)).bind (opv s.h.get s.c)) fun r => zat r.c r.wr = true ∧ zcX mask L r.rd (r.wr.map (·.1)) ∧ wpE pr (L ++ [(r.rd,r.wr.map (·.1))]) l (s.ae dst r.d r.wr r.c) Q := zcz rfl
theorem o_mm {l : List Op} {mx : Bool} {x y : A} : wpO pr (⟨dst,none,.mm mx x y⟩ :: l) s Q ↔ oB (((O.mm mx x y).res (zad s.tm)).bind (opv s.h.get s.c)) fun r => zat r.c r.wr = true ∧ wpO pr l (s.aft dst r.d r.wr r.c) Q := zez rfl
end
theorem zAX (f : A → Option D) (ne : Bool) (x y : A) : O.res f (.eqb ne x y) = (f x).bind fun a => (f y).bind fun b => some (.eqb ne a b) := rfl
theorem zAi (f : A → Option D) (kd : Nat) (ne : Bool) (x y : A) : O.res f (.eqn kd ne x y) = (f x).bind fun a => (f y).bind fun b => some (.eqn kd ne a b) := rfl
theorem zz0 (f : A → Option D) (es b : Nat) (z : List F) (x y : A) : O.res f (.mks es b z x y) = (f x).bind fun a => (f y).bind fun c => some (.mks es b z a c) := rfl
theorem zHj (f : A → Option D) (mx : Bool) (x y : A) : O.res f (.mm mx x y) = (f x).bind fun a => (f y).bind fun c => some (.mm mx a c) := rfl
theorem zIv (h : Nat → Option Ob) (c : Nat) (ne p q : Bool) : opv h c (.eqb ne (.f (.b p)) (.f (.b q))) = some { d := .f (.b (if ne then !(p == q) else p == q)),c } := rfl
theorem v_mm (h : Nat → Option Ob) (c : Nat) (mx : Bool) (k : IntKind) (a b : Int) : opv h c (.mm mx (.f (.i k a)) (.f (.i k b))) = some { d := .f (.i k (if mx then (if b > a then b else a) else (if b < a then b else a))),c } := by simp [opv,okF]
def rulA [Globs] :=
 And.intro @zFu (And.intro @k_reg (And.intro @zBM (And.intro @zB5 (And.intro @zzs (And.intro @zB3 (And.intro @zuq (And.intro @zEX (And.intro @zoF (And.intro @zBu (And.intro @zvN (And.intro @zBD (And.intro @zB1 (And.intro @zlP (And.intro @zBx (And.intro @zuF (And.intro @zIj (And.intro @zAC (And.intro @zBq (And.intro @zEJ (And.intro @zG6 (And.intro @y_mv (And.intro @zBH (And.intro @y_ld (And.intro @zGZ (And.intro @zGA (And.intro @zH1 (And.intro @y_fa (And.intro @zHY (And.intro @zHv (And.intro @y_st (And.intro @y_ia (And.intro @zHm (And.intro @zFi (And.intro @zwe (And.intro @zAR (And.intro @zvb (And.intro @zGj (And.intro @e_mv (And.intro @zCf (And.intro @e_ld (And.intro @zIe (And.intro @zFV (And.intro @e_len (And.intro @e_fa (And.intro @e_ia (And.intro @zHI (And.intro @zGr (And.intro @e_st (And.intro @zsJ (And.intro @zuW (And.intro @zGT (And.intro @zBr (And.intro @ztj (And.intro @zqe (And.intro @zdD (And.intro @zyH (And.intro @zCJ (And.intro @zCn (And.intro @zyy (And.intro @zy6 (And.intro @zC7 (And.intro @zDD (And.intro @zyc (And.intro @zyB (And.intro @zCo (And.intro @zEr (And.intro @zyK (And.intro @zwx (And.intro @zAy (And.intro @zB6 (And.intro @zHA (And.intro @zFx (And.intro @zvG (And.intro @zzi (And.intro @zuE (And.intro @zyR (And.intro @zCM (And.intro @zDv (And.intro @zxJ (And.intro @zr4 (And.intro @zyM (And.intro @zw1 (And.intro @zsa (And.intro @zk6 (And.intro @zp9 (And.intro @T.zab (And.intro @T.zeQ (And.intro @T.zqP (And.intro @fza (And.intro @zvJ (And.intro @zuP (And.intro @zwi (And.intro @zun (And.intro @zv5 (And.intro @zuB (And.intro @zvv (And.intro @zu1 (And.intro @zuJ (And.intro @zvX (And.intro @zuC (And.intro @zva (And.intro @zGC (And.intro @e_un (And.intro @zET (And.intro @zGa (And.intro @zFR (And.intro @zFJ (And.intro @zEM (And.intro @zFX (And.intro @zFM (And.intro @zGn (And.intro @zFO (And.intro @zGc (And.intro @zHi (And.intro @zFB (And.intro @zjq (And.intro @zgR (And.intro @zij (And.intro @zsb (And.intro @zwo (And.intro @zBp (And.intro @zzy (And.intro @zHX (And.intro @zlD (And.intro @mo_n (And.intro @mo_c (And.intro @oo_n (And.intro @oo_s (And.intro @fr_n (And.intro @fr_c (And.intro @zHZ (And.intro @zEU (And.intro @zHq (And.intro @zlM (And.intro @f12f (And.intro @f11f (And.intro @f10f (And.intro @f9f (And.intro @f8f (And.intro @f12a (And.intro @f11a (And.intro @f10a (And.intro @f9a (And.intro @f12t (And.intro @f12s (And.intro @f11s (And.intro @f10s (And.intro @f9s (And.intro @zu7 (And.intro @ld_p (And.intro @zH8 (And.intro @pF_t (And.intro @pF_f (And.intro @pD_t (And.intro @pD_f (And.intro @zuv (And.intro @st_p (And.intro @zvq (And.intro @h8_i (And.intro @zAG (And.intro @zy5 (And.intro @zzN (And.intro @h8_b (And.intro @h8_s (And.intro @zuD (And.intro @zzS (And.intro @zFT (And.intro @zzY (And.intro @zFD (And.intro @ce_i (And.intro @ce_b (And.intro @ce_s (And.intro @zv2 (And.intro @zzd (And.intro @zly (And.intro @zIm (And.intro @zBL (And.intro @zvI (And.intro @d_ag (And.intro @d_tu (And.intro @d_i (And.intro @d_b (And.intro @d_s (And.intro @zzI (And.intro @d_un (And.intro @d_sl (And.intro @dl_n (And.intro @dl_c (And.intro @ti_i (And.intro @fa_p (And.intro @fa_f (And.intro @ov (And.intro @fb_n (And.intro @fb_c (And.intro @fe_n (And.intro @fe_c (And.intro @zDt (And.intro @zDJ (And.intro @zEq (And.intro @wo_n (And.intro @wo_c (And.intro @ro_n (And.intro @ro_c (And.intro @zz3 (And.intro @zG3 (And.intro @zG9 (And.intro @zGJ (And.intro @zys (And.intro @zIb (And.intro @zF9 (And.intro @zIh (And.intro @zGR (And.intro @zAj (And.intro @zzg (And.intro @fc_n (And.intro @fc_f (And.intro @zHd (And.intro @fw_n (And.intro @fw_c (And.intro @zvS (And.intro @zBh (And.intro @zu9 (And.intro @zFC (And.intro @zgE (And.intro @zjX (And.intro @rd_1 (And.intro @rd_2 (And.intro @rv_t (And.intro @rv_c (And.intro @zsj (And.intro @zB8 (And.intro @zth (And.intro @zAq (And.intro @zGL (And.intro @zGp (And.intro @zH0 (And.intro @oi_n (And.intro @oi_s (And.intro @zEW (And.intro @zHr (And.intro @zAD (And.intro @zGl (And.intro @zHP (And.intro @zGS (And.intro @zE8 (And.intro @zEN (And.intro @e_mm (And.intro @o_mm (And.intro @zAX (And.intro @zAi (And.intro @zz0 (And.intro @zHj (And.intro @zIv (And.intro @v_mm (And.intro @fw_e (And.intro @ob_s (And.intro @ob_m (And.intro @ob_b (And.intro @cm_n (And.intro @cm_c (And.intro @fn_n (And.intro @fn_c (And.intro @zzT (And.intro @zHJ (And.intro @zzz (And.intro @zBs (And.intro @zBy (And.intro @zAd (And.intro @zzj (And.intro @zA3 (@zBi)))))))))))))))))))))))))))))))))))))))))))))))))))))))))))))))))))))))))))))))))))))))))))))))))))))))))))))))))))))))))))))))))))))))))))))))))))))))))))))))))))))))))))))))))))))))))))))))))))))))))))))))))))))))))))))))))))))))))))))))))))))))))))))))))))))))))))))))
def rulN [Globs] :=
 And.intro @zFu (And.intro @k_reg (And.intro @zBM (And.intro @zB5 (And.intro @zzs (And.intro @zB3 (And.intro @zuq (And.intro @zEX (And.intro @zoF (And.intro @zBu (And.intro @zvN (And.intro @zBD (And.intro @zB1 (And.intro @zlP (And.intro @zBx (And.intro @zuF (And.intro @zIj (And.intro @zAC (And.intro @zBq (And.intro @zEJ (And.intro @zG6 (And.intro @y_mv (And.intro @zBH (And.intro @y_ld (And.intro @zGZ (And.intro @zGA (And.intro @zH1 (And.intro @y_fa (And.intro @zHY (And.intro @zHv (And.intro @y_st (And.intro @y_ia (And.intro @zHm (And.intro @zFi (And.intro @zwe (And.intro @zAR (And.intro @zvb (And.intro @zGj (And.intro @e_mv (And.intro @zCf (And.intro @e_ld (And.intro @zIe (And.intro @zFV (And.intro @e_len (And.intro @e_fa (And.intro @e_ia (And.intro @zHI (And.intro @zGr (And.intro @e_st (And.intro @zsJ (And.intro @zuW (And.intro @zGT (And.intro @zBr (And.intro @ztj (And.intro @zqe (And.intro @zdD (And.intro @zyH (And.intro @zCJ (And.intro @zCn (And.intro @zyy (And.intro @zy6 (And.intro @zC7 (And.intro @zDD (And.intro @zyc (And.intro @zyB (And.intro @zCo (And.intro @zEr (And.intro @zyK (And.intro @zwx (And.intro @zAy (And.intro @zB6 (And.intro @zHA (And.intro @zFx (And.intro @zvG (And.intro @zzi (And.intro @zuE (And.intro @zyR (And.intro @zCM (And.intro @zDv (And.intro @zxJ (And.intro @zr4 (And.intro @zyM (And.intro @zw1 (And.intro @zsa (And.intro @zk6 (And.intro @zp9 (And.intro @T.zab (And.intro @T.zeQ (And.intro @T.zqP (And.intro @fza (And.intro @zvJ (And.intro @zuP (And.intro @zwi (And.intro @zun (And.intro @zv5 (And.intro @zuB (And.intro @zvv (And.intro @zu1 (And.intro @zuJ (And.intro @zvX (And.intro @zuC (And.intro @zva (And.intro @zGC (And.intro @e_un (And.intro @zET (And.intro @zGa (And.intro @zFR (And.intro @zFJ (And.intro @zEM (And.intro @zFX (And.intro @zFM (And.intro @zGn (And.intro @zFO (And.intro @zGc (And.intro @zHi (And.intro @zFB (And.intro @zjq (And.intro @zgR (And.intro @zij (And.intro @zsb (And.intro @zwo (And.intro @zBp (And.intro @zzy (And.intro @zHX (And.intro @zlD (And.intro @mo_n (And.intro @mo_c (And.intro @oo_n (And.intro @oo_s (And.intro @fr_n (And.intro @fr_c (And.intro @zHZ (And.intro @zEU (And.intro @zHq (And.intro @zlM (And.intro @f12f (And.intro @f11f (And.intro @f10f (And.intro @f9f (And.intro @f8f (And.intro @f12a (And.intro @f11a (And.intro @f10a (And.intro @f9a (And.intro @f12t (And.intro @f12s (And.intro @f11s (And.intro @f10s (And.intro @f9s (And.intro @zu7 (And.intro @ld_p (And.intro @zH8 (And.intro @pF_t (And.intro @pF_f (And.intro @pD_t (And.intro @pD_f (And.intro @zuv (And.intro @st_p (And.intro @zvq (And.intro @h8_i (And.intro @zAG (And.intro @zy5 (And.intro @zzN (And.intro @h8_b (And.intro @h8_s (And.intro @zuD (And.intro @zzS (And.intro @zFT (And.intro @zzY (And.intro @zFD (And.intro @ce_i (And.intro @ce_b (And.intro @ce_s (And.intro @zv2 (And.intro @zzd (And.intro @zly (And.intro @zIm (And.intro @zBL (And.intro @zvI (And.intro @d_ag (And.intro @d_tu (And.intro @d_i (And.intro @d_b (And.intro @d_s (And.intro @zzI (And.intro @d_un (And.intro @d_sl (And.intro @dl_n (And.intro @dl_c (And.intro @ti_i (And.intro @fa_p (And.intro @fa_f (And.intro @ov (And.intro @fb_n (And.intro @fb_c (And.intro @fe_n (And.intro @fe_c (And.intro @zDt (And.intro @zDJ (And.intro @zEq (And.intro @wo_n (And.intro @wo_c (And.intro @ro_n (And.intro @ro_c (And.intro @zz3 (And.intro @zG3 (And.intro @zG9 (And.intro @zGJ (And.intro @zys (And.intro @zIb (And.intro @zF9 (And.intro @zIh (And.intro @zGR (And.intro @zAj (And.intro @zzg (And.intro @fc_n (And.intro @fc_f (And.intro @zHd (And.intro @fw_n (And.intro @fw_c (And.intro @zvS (And.intro @zBh (And.intro @zu9 (And.intro @zFC (And.intro @rd_1 (And.intro @rd_2 (And.intro @rv_t (And.intro @rv_c (And.intro @zsj (And.intro @zB8 (And.intro @zth (And.intro @zAq (And.intro @zGL (And.intro @zGp (And.intro @zH0 (And.intro @oi_n (And.intro @oi_s (And.intro @zEW (And.intro @zHr (And.intro @zAD (And.intro @zGl (And.intro @zHP (And.intro @zGS (And.intro @zE8 (And.intro @zEN (And.intro @e_mm (And.intro @o_mm (And.intro @zAX (And.intro @zAi (And.intro @zz0 (And.intro @zHj (And.intro @zIv (And.intro @v_mm (And.intro @fw_e (And.intro @ob_s (And.intro @ob_m (And.intro @ob_b (And.intro @cm_n (And.intro @cm_c (And.intro @fn_n (And.intro @fn_c (And.intro @zzT (And.intro @zHJ (And.intro @zzz (And.intro @zBs (And.intro @zBy (And.intro @zAd (And.intro @zzj (And.intro @zA3 (@zBi)))))))))))))))))))))))))))))))))))))))))))))))))))))))))))))))))))))))))))))))))))))))))))))))))))))))))))))))))))))))))))))))))))))))))))))))))))))))))))))))))))))))))))))))))))))))))))))))))))))))))))))))))))))))))))))))))))))))))))))))))))))))))))))))))))))))))))))
end Go.Vse
end
section
set_option linter.all false
namespace Go.Vse
variable [Globs]
section
variable {pr : Pr} {α σ ρ : Type}
def nxF (J : Nat → St → Prop) (R1 : Nat → Ex → St → Prop) (hit : Prop) (n : Nat) (x : Ex) (s : St) : Prop := match x with
 | .nrm => ¬ hit ∧ J (n + 1) s
 | x => hit ∧ R1 n x s
theorem zHD {J : Nat → St → Prop} {R1 : Nat → Ex → St → Prop} {hit : Prop} {n : Nat} {s : St} : nxF J R1 hit n .nrm s = (¬ hit ∧ J (n + 1) s) := rfl
theorem zIl {J : Nat → St → Prop} {R1 : Nat → Ex → St → Prop} {hit : Prop} {n : Nat} {s : St} : nxF J R1 hit n .ret s = (hit ∧ R1 n .ret s) := rfl
theorem zHp {J : Nat → St → Prop} {R1 : Nat → Ex → St → Prop} {hit : Prop} {n i : Nat} {s : St} : nxF J R1 hit n (.exit i) s = (hit ∧ R1 n (.exit i) s) := rfl
def nxE (R : Ex → St → Prop) (x : Ex) (s : St) : Prop := match x with
 | .nrm => False
 | x => R x s
theorem zIi {R : Ex → St → Prop} {s : St} : nxE R .nrm s = False := rfl
theorem zG4 {R : Ex → St → Prop} {s : St} : nxE R .ret s = R .ret s := rfl
theorem zHb {R : Ex → St → Prop} {i : Nat} {s : St} : nxE R (.exit i) s = R (.exit i) s := rfl
theorem znw {c : C} {Q : Ex → St → Prop} (I : Nat → St → Prop) (hstep : ∀ k s,I k s → ∃ P : Ex → St → Prop,wpC pr c s P ∧ ∀ x s',P x s' → lp I k Q x s') : ∀ (k : Nat) (s : St),I k s → wpC pr (.loop c) s Q := by
 intro k
 induction k using Nat.strongRecOn with
 | ind k ih =>
  intro s hI;obtain ⟨P,hw,hP⟩ := hstep k s hI;obtain ⟨x,s1,hq,ev⟩ := zfg c s _ hw;have hq := hP x s1 hq;cases x with
  | nrm =>
   obtain ⟨k',hlt,hI'⟩ := hq;obtain ⟨x2,s2,m,h2,e2⟩ := ih k' hlt s1 hI';exact ⟨x2,s2,m + 1,h2,(ev.and e2).mono fun n ⟨p,q⟩ => by simp only [iter,p]; exact q⟩
  | exit i => exact ⟨.exit i,s1,1,hq,ev.mono fun n p => by simp only [iter,p]⟩
  | ret => exact ⟨.ret,s1,1,hq,ev.mono fun n p => by simp only [iter,p]⟩
theorem zes {c : C} {Q : Ex → St → Prop} (l : List α) (p : α → Bool) (J : Nat → St → Prop) (R0 : Ex → St → Prop) (R1 : Nat → Ex → St → Prop)
  (hb : ∀ n s (h : n < l.length),J n s → wpC pr c s (nxF J R1 (p l[n] = true) n))
  (he : ∀ s,J l.length s → wpC pr c s (nxE R0)) (s : St) (h0 : J 0 s)
  (q0 : (∀ a ∈ l,p a = false) → ∀ x s,R0 x s → Q x s) (q1 : ∀ n (h : n < l.length),p l[n] = true → (∀ m (h' : m < n),p (l[m]'(by omega)) = false) → ∀ x s,R1 n x s → Q x s) : WL pr c s Q := by
 refine ⟨znw (fun k s => ∃ n,n ≤ l.length ∧ k = l.length - n ∧ J n s ∧ ∀ m (h : m < n) (h' : m < l.length),p l[m] = false) ?_ l.length s ⟨0,Nat.zero_le _,rfl,h0,fun m h => by omega⟩⟩;rintro k s ⟨n,hn,rfl,hJ,hA⟩
 by_cases hlt : n < l.length
 ·refine ⟨_,hb n s hlt hJ,fun x s' hx => ?_⟩;cases x with
  | nrm =>
   refine ⟨l.length - (n + 1),by omega,n + 1,by omega,rfl,hx.2,fun m hm h' => ?_⟩
   by_cases hmn : m < n
   ·exact hA m hmn h'
   ·have : m = n := by omega
    subst this;simpa using hx.1
  | ret => exact q1 n hlt hx.1 (fun m h => hA m h (by omega)) _ _ hx.2
  | exit i => exact q1 n hlt hx.1 (fun m h => hA m h (by omega)) _ _ hx.2
 ·have : n = l.length := by omega
  subst this;have hq := q0 fun a ha => by
   obtain ⟨m,hm,rfl⟩ := List.mem_iff_getElem.1 ha;exact hA m hm hm
  refine ⟨_,he s hJ,fun x s' hx => ?_⟩;cases x with
  | nrm => exact hx.elim
  | ret => exact hq _ _ hx
  | exit i => exact hq _ _ hx
omit [Globs] in
theorem zr8 : ∀ (l : List α) (p : α → Bool) (n : Nat) (h : n < l.length),p l[n] = true → (∀ m (h' : m < n),p (l[m]'(by omega)) = false) → l.find? p = some l[n]
 | [],_,_,h,_,_ => by simp at h
 | a :: l,p,0,h,h1,_ => by simp at h1; simp [h1]
 | a :: l,p,n + 1,h,h1,h2 => by
  have h0 : p a = false := h2 0 (by omega);simp only [List.find?_cons,h0];exact zr8 l p n (by simpa using h) (by simpa using h1) fun m hm => by simpa using h2 (m + 1) (by omega)
omit [Globs] in
theorem zpa {l : List α} {p : α → Bool} {n : Nat} (h : n < l.length) (h1 : p l[n] = true) : l.any p = true := List.any_eq_true.2 ⟨l[n],List.getElem_mem h,h1⟩
omit [Globs] in
theorem zrm {l : List α} {p : α → Bool} (h : ∀ a ∈ l,p a = false) : l.any p = false := by simpa using h
omit [Globs] in
theorem zJt {l : List α} {p : α → Bool} (h : ∀ a ∈ l,p a = false) : l.find? p = none := by simpa using h
def nxG (J : Nat → σ → St → Prop) (n : Nat) (b : σ) (x : Ex) (s : St) : Prop := match x with
 | .nrm => J (n + 1) b s
 | _ => False
theorem zIr {J : Nat → σ → St → Prop} {n : Nat} {b : σ} {s : St} : nxG J n b .nrm s = J (n + 1) b s := rfl
theorem zeW {c : C} {Q : Ex → St → Prop} (l : List α) (f : σ → α → σ) (a0 : σ) (J : Nat → σ → St → Prop) (R : Ex → St → Prop)
  (hb : ∀ n a s (h : n < l.length),a = (l.take n).foldl f a0 → J n a s → wpC pr c s (nxG J n (f a l[n])))
  (he : ∀ s,J l.length (l.foldl f a0) s → wpC pr c s (nxE R)) (s : St) (h0 : J 0 a0 s) (hq : ∀ x s,R x s → Q x s) : WL pr c s Q := by
 refine ⟨znw (fun k s => ∃ n,n ≤ l.length ∧ k = l.length - n ∧ J n ((l.take n).foldl f a0) s) ?_ l.length s ⟨0,Nat.zero_le _,rfl,by simpa using h0⟩⟩;rintro k s ⟨n,hn,rfl,hJ⟩
 by_cases hlt : n < l.length
 ·refine ⟨_,hb n _ s hlt rfl hJ,fun x s' hx => ?_⟩;cases x with
  | nrm =>
   refine ⟨l.length - (n + 1),by omega,n + 1,by omega,rfl,?_⟩;rw [List.take_add_one,List.getElem?_eq_getElem hlt,Option.toList_some,List.foldl_append];exact hx
  | ret => exact hx.elim
  | exit i => exact hx.elim
 ·have : n = l.length := by omega
  subst this;rw [List.take_length] at hJ;refine ⟨_,he s hJ,fun x s' hx => ?_⟩;cases x with
  | nrm => exact hx.elim
  | ret => exact hq _ _ hx
  | exit i => exact hq _ _ hx
def nxI (J : Nat → St → Prop) (n : Nat) (x : Ex) (s : St) : Prop := match x with
 | .nrm => J (n + 1) s
 | _ => False
theorem zFE {J : Nat → St → Prop} {n : Nat} {s : St} : nxI J n .nrm s = J (n + 1) s := rfl
theorem zgu {c : C} {Q : Ex → St → Prop} (len : Nat) (J : Nat → St → Prop) (R : Ex → St → Prop)
  (hb : ∀ n s,n < len → J n s → wpC pr c s (nxI J n)) (he : ∀ s,J len s → wpC pr c s (nxE R)) (s : St) (h0 : J 0 s) (hq : ∀ x s,R x s → Q x s) : WL pr c s Q := by
 refine ⟨znw (fun k s => ∃ n,n ≤ len ∧ k = len - n ∧ J n s) ?_ len s ⟨0,Nat.zero_le _,rfl,h0⟩⟩;rintro k s ⟨n,hn,rfl,hJ⟩
 by_cases hlt : n < len
 ·refine ⟨_,hb n s hlt hJ,fun x s' hx => ?_⟩;cases x with
  | nrm => exact ⟨len - (n + 1),by omega,n + 1,by omega,rfl,hx⟩
  | ret => exact hx.elim
  | exit i => exact hx.elim
 ·have : n = len := by omega
  subst this;refine ⟨_,he s hJ,fun x s' hx => ?_⟩;cases x with
  | nrm => exact hx.elim
  | ret => exact hq _ _ hx
  | exit i => exact hq _ _ hx
def zcG (f : σ → α → σ ⊕ ρ) : σ → List α → σ ⊕ ρ
 | a,[] => .inl a
 | a,x :: l => match f a x with
  | .inl b => zcG f b l
  | .inr r => .inr r
theorem zIy (f : σ → α → σ ⊕ ρ) (a : σ) : zcG f a [] = .inl a := rfl
theorem zgO (f : σ → α → σ ⊕ ρ) (a : σ) (x : α) (l : List α) : zcG f a (x :: l) = (match f a x with | .inl b => zcG f b l | .inr r => .inr r) := rfl
def nxH (J : Nat → σ → St → Prop) (R : ρ → Ex → St → Prop) (n : Nat) (b : σ ⊕ ρ) (x : Ex) (s : St) : Prop := match x with
 | .nrm => ∃ a,b = .inl a ∧ J (n + 1) a s
 | x => ∃ r,b = .inr r ∧ R r x s
theorem zHW {J : Nat → σ → St → Prop} {R : ρ → Ex → St → Prop} {n : Nat} {b : σ ⊕ ρ} {s : St} : nxH J R n b .nrm s = ∃ a,b = .inl a ∧ J (n + 1) a s := rfl
theorem zIp {J : Nat → σ → St → Prop} {R : ρ → Ex → St → Prop} {n : Nat} {b : σ ⊕ ρ} {s : St} : nxH J R n b .ret s = ∃ r,b = .inr r ∧ R r .ret s := rfl
theorem zEC {J : Nat → σ → St → Prop} {R : ρ → Ex → St → Prop} {n i : Nat} {b : σ ⊕ ρ} {s : St} : nxH J R n b (.exit i) s = ∃ r,b = .inr r ∧ R r (.exit i) s := rfl
theorem zs8 {c : C} {Q : Ex → St → Prop} (l : List α) (f : σ → α → σ ⊕ ρ) (a0 : σ) (J : Nat → σ → St → Prop) (R0 : σ → Ex → St → Prop) (R1 : ρ → Ex → St → Prop)
  (hb : ∀ n a s (h : n < l.length),J n a s → wpC pr c s (nxH J R1 n (f a l[n])))
  (he : ∀ a s,J l.length a s → wpC pr c s (nxE (R0 a))) (s : St) (h0 : J 0 a0 s) (q0 : ∀ a,zcG f a0 l = .inl a → ∀ x s,R0 a x s → Q x s) (q1 : ∀ r,zcG f a0 l = .inr r → ∀ x s,R1 r x s → Q x s) : WL pr c s Q := by
 refine ⟨znw (fun k s => ∃ n a,n ≤ l.length ∧ k = l.length - n ∧ J n a s ∧ zcG f a0 l = zcG f a (l.drop n)) ?_ l.length s ⟨0,a0,Nat.zero_le _,rfl,h0,rfl⟩⟩;rintro k s ⟨n,a,hn,rfl,hJ,hA⟩
 by_cases hlt : n < l.length
 ·rw [List.drop_eq_getElem_cons hlt] at hA;rw [zgO] at hA;refine ⟨_,hb n a s hlt hJ,fun x s' hx => ?_⟩;cases x with
  | nrm =>
   obtain ⟨b,hf,hJ'⟩ := hx;rw [hf] at hA;exact ⟨l.length - (n + 1),by omega,n + 1,b,by omega,rfl,hJ',hA⟩
  | ret =>
   obtain ⟨r,hf,hr⟩ := hx;rw [hf] at hA;exact q1 r hA _ _ hr
  | exit i =>
   obtain ⟨r,hf,hr⟩ := hx;rw [hf] at hA;exact q1 r hA _ _ hr
 ·have : n = l.length := by omega
  subst this;rw [List.drop_length,zIy] at hA;refine ⟨_,he a s hJ,fun x s' hx => ?_⟩;cases x with
  | nrm => exact hx.elim
  | ret => exact q0 a hA _ _ hx
  | exit i => exact q0 a hA _ _ hx
def nxS {β : Type} (J : Nat → St → Prop) (R : β → Ex → St → Prop) (n : Nat) (b : Option β) (x : Ex) (s : St) : Prop := match x with
 | .nrm => b = none ∧ J (n + 1) s
 | x => ∃ r,b = some r ∧ R r x s
theorem zGI {β : Type} {J : Nat → St → Prop} {R : β → Ex → St → Prop} {n : Nat} {b : Option β} {s : St} : nxS J R n b .nrm s = (b = none ∧ J (n + 1) s) := rfl
theorem zHo {β : Type} {J : Nat → St → Prop} {R : β → Ex → St → Prop} {n : Nat} {b : Option β} {s : St} : nxS J R n b .ret s = ∃ r,b = some r ∧ R r .ret s := rfl
theorem zFk {β : Type} {J : Nat → St → Prop} {R : β → Ex → St → Prop} {n i : Nat} {b : Option β} {s : St} : nxS J R n b (.exit i) s = ∃ r,b = some r ∧ R r (.exit i) s := rfl
theorem zE6 {β : Type} {c : C} {Q : Ex → St → Prop} (l : List α) (g : α → Option β) (J : Nat → St → Prop) (R0 : Ex → St → Prop) (R1 : β → Ex → St → Prop)
  (hb : ∀ n s (h : n < l.length),J n s → wpC pr c s (nxS J R1 n (g l[n])))
  (he : ∀ s,J l.length s → wpC pr c s (nxE R0)) (s : St) (h0 : J 0 s) (q0 : l.findSome? g = none → ∀ x s,R0 x s → Q x s) (q1 : ∀ r,l.findSome? g = some r → ∀ x s,R1 r x s → Q x s) : WL pr c s Q := by
 refine ⟨znw (fun k s => ∃ n,n ≤ l.length ∧ k = l.length - n ∧ J n s ∧ l.findSome? g = (l.drop n).findSome? g) ?_ l.length s ⟨0,Nat.zero_le _,rfl,h0,rfl⟩⟩;rintro k s ⟨n,hn,rfl,hJ,hA⟩
 by_cases hlt : n < l.length
 ·rw [List.drop_eq_getElem_cons hlt,List.findSome?_cons] at hA;refine ⟨_,hb n s hlt hJ,fun x s' hx => ?_⟩;cases x with
  | nrm =>
   rw [hx.1] at hA;exact ⟨l.length - (n + 1),by omega,n + 1,by omega,rfl,hx.2,hA⟩
  | ret =>
   obtain ⟨r,hf,hr⟩ := hx;rw [hf] at hA;exact q1 r hA _ _ hr
  | exit i =>
   obtain ⟨r,hf,hr⟩ := hx;rw [hf] at hA;exact q1 r hA _ _ hr
 ·have : n = l.length := by omega
  subst this;rw [List.drop_length] at hA;refine ⟨_,he s hJ,fun x s' hx => ?_⟩;cases x with
  | nrm => exact hx.elim
  | ret => exact q0 hA _ _ hx
  | exit i => exact q0 hA _ _ hx
end
def Held (h : T Ob) (lo c es : Nat) (d : D) (els : List (List D)) : Prop :=
 (d = .f .nils ∧ els = []) ∨ ∃ id ro,d = .sl id 0 els.length es els.length false ∧ els ≠ [] ∧ h.get id = some (.arr es ro els) ∧ lo ≤ id ∧ id < c
omit [Globs] in
theorem Grow.held {h : T Ob} {lo c es : Nat} {d : D} {els : List (List D)} (hg : Grow h lo c es d els) : Held h lo c es d els := by
 rcases hg with h | ⟨id,h1,h2,h3,h4,h5⟩
 ·exact .inl h
 ·exact .inr ⟨id,0,h1,h2,h3,h4,h5⟩
omit [Globs] in
theorem zxe {h : T Ob} {lo c es : Nat} {d : D} {els : List (List D)} (hg : Grow h lo c es d els) : d.cells = some [d] := by
 rcases hg with ⟨rfl,_⟩ | ⟨id,rfl,_⟩ <;> rfl
omit [Globs] in
theorem zvK {h h' : T Ob} {lo c es : Nat} {d : D} {els : List (List D)} (hg : Grow h lo c es d els) (hh : ∀ id,lo ≤ id → h'.get id = h.get id) : Grow h' lo c es d els := by
 rcases hg with h | ⟨id,h1,h2,h3,h4,h5⟩
 ·exact .inl h
 ·exact .inr ⟨id,h1,h2,by rw [hh id h4]; exact h3,h4,h5⟩
def rR [Globs] := And.intro rulA (And.intro @zFE (And.intro @Function.comp_def.{1,1,1} (And.intro @Nat.blt_eq (And.intro @zHD (And.intro @zIl (And.intro @zHp (And.intro @zIi (And.intro @zG4 (And.intro @zHb (And.intro @zIr (And.intro @zHW (And.intro @zIp (And.intro @zEC (And.intro @zGI (And.intro @zHo (And.intro @zFk (And.intro @apO.eq_1 (@apO.eq_2))))))))))))))))))
end Go.Vse
end
