/- Matching of conjunctive queries over relations of integers, as plain functions; what splitting a query by a constant does to its answers. -/
set_option linter.all false
namespace Go.Vse.Sm
abbrev Str := List UInt8
inductive Trm where
 | var (s : Str)
 | cst (n : Int)
 deriving DecidableEq
structure Atm where
 r : Str
 neg : Bool
 ts : List Trm
structure Cm where
 op : Int
 l : Trm
 r : Trm
structure CQ where
 as : List Atm
 cs : List Cm
abbrev Env := List (Str × Int)
abbrev Rels := List (Str × List (List Int))
def lk : Env → Str → Option Int
 | [], _ => none
 | (n, v) :: e, s => if n = s then some v else lk e s
def gtm (e : Env) : Trm → Option Int
 | .cst n => some n
 | .var s => lk e s
def bnd (e : Env) (t : Trm) (v : Int) : Env × Bool :=
 match gtm e t with
 | some w => (e, decide (v = w))
 | none => match t with
  | .var s => (e ++ [(s, v)], true)
  | .cst _ => (e, true)
def fitsL : Env → List Trm → List Int → Env × Bool
 | e, t :: ts, v :: vs => if (bnd e t v).2 then fitsL (bnd e t v).1 ts vs else bnd e t v
 | e, _, _ => (e, true)
def fits (e : Env) (a : Atm) (vs : List Int) : Env × Bool :=
 if a.ts.length = vs.length then fitsL e a.ts vs else (e, false)
def tups : Rels → Str → List (List Int)
 | [], _ => []
 | (n, t) :: l, s => if n = s then t else tups l s
def cmpI (op a b : Int) : Bool :=
 if op = 1 then decide (a = b) else if op = 2 then decide (a ≠ b) else if op = 3 then decide (a < b) else decide (op = 4) && decide (a ≤ b)
def cmOk (e : Env) (k : Cm) : Bool :=
 match gtm e k.l, gtm e k.r with
 | some a, some b => cmpI k.op a b
 | _, _ => false
def hits (e : Env) (a : Atm) (vs : List Int) : Bool := (fits e a vs).2 && decide ((fits e a vs).1.length = e.length)
def negOk (l : Rels) (e : Env) (a : Atm) : Bool := !a.neg || (tups l a.r).all fun vs => !hits e a vs
def passes (l : Rels) (c : CQ) (e : Env) : Bool := c.cs.all (cmOk e) && c.as.all (negOk l e)
def extend (l : Rels) (c : CQ) : List Atm → Env → List Env
 | [], e => if passes l c e then [e] else []
 | a :: as, e => if a.neg then extend l c as e else (tups l a.r).flatMap fun vs => if (fits e a vs).2 then extend l c as (fits e a vs).1 else []
def ins : List Int → Int → List Int
 | [], v => [v]
 | w :: l, v => if w < v then w :: ins l v else if w = v then w :: l else v :: w :: l
def rowsOf (x : Str) : List Env → List Int → List Int
 | [], out => out
 | e :: l, out => rowsOf x l (match lk e x with | some v => ins out v | none => out)
def insAll : List Int → List Int → List Int
 | [], out => out
 | v :: l, out => insAll l (ins out v)
def evalOne (l : Rels) (c : CQ) (x : Str) : List Int := insAll (rowsOf x (extend l c c.as []) []) []
def holdsOne (l : Rels) (c : CQ) : Bool := !(extend l c c.as []).isEmpty
inductive Asc : List Int → Prop
 | nil : Asc []
 | cons {v : Int} {l : List Int} : (∀ w ∈ l, v < w) → Asc l → Asc (v :: l)
theorem mem_ins (y v : Int) : ∀ l, y ∈ ins l v ↔ y = v ∨ y ∈ l
 | [] => by simp [ins]
 | w :: l => by
  unfold ins
  split
  ·simp only [List.mem_cons, mem_ins y v l]
   constructor
   ·rintro (h | h | h)
    ·exact .inr (.inl h)
    ·exact .inl h
    ·exact .inr (.inr h)
   ·rintro (h | h | h)
    ·exact .inr (.inl h)
    ·exact .inl h
    ·exact .inr (.inr h)
  ·split
   ·rename_i h; subst h; simp
   ·simp
theorem asc_ins (v : Int) : ∀ l, Asc l → Asc (ins l v)
 | [], _ => .cons (by simp) .nil
 | w :: l, h => by
  cases h with
  | cons h1 h2 =>
   unfold ins
   split
   ·rename_i hlt
    refine .cons ?_ (asc_ins v l h2)
    intro y hy
    rcases (mem_ins y v l).1 hy with rfl | hy
    ·exact hlt
    ·exact h1 y hy
   ·rename_i hlt
    split
    ·exact .cons h1 h2
    ·rename_i hne
     refine .cons ?_ (.cons h1 h2)
     intro y hy
     rcases List.mem_cons.1 hy with rfl | hy
     ·omega
     ·have := h1 y hy; omega
theorem len_ins (v : Int) : ∀ l, v ∉ l → (ins l v).length = l.length + 1
 | [], _ => rfl
 | w :: l, h => by
  unfold ins
  simp only [List.mem_cons, not_or] at h
  split
  ·simp [len_ins v l h.2]
  ·split
   ·rename_i e; exact absurd e.symm h.1
   ·simp
theorem asc_eq : ∀ (l m : List Int), Asc l → Asc m → (∀ y, y ∈ l ↔ y ∈ m) → l = m
 | [], [], _, _, _ => rfl
 | [], y :: m, _, _, h => by have := (h y).2 (by simp); simp at this
 | y :: l, [], _, _, h => by have := (h y).1 (by simp); simp at this
 | x :: l, y :: m, .cons h1 h2, .cons h3 h4, h => by
  have hxy : x = y := by
   have hx := (h x).1 (by simp)
   have hy := (h y).2 (by simp)
   rcases List.mem_cons.1 hx with e | hx
   ·exact e
   ·rcases List.mem_cons.1 hy with e | hy
    ·exact e.symm
    ·have := h1 y hy
     have := h3 x hx
     omega
  subst hxy
  congr 1
  refine asc_eq l m h2 h4 fun z => ?_
  constructor
  ·intro hz
   rcases List.mem_cons.1 ((h z).1 (List.mem_cons_of_mem _ hz)) with rfl | hz'
   ·have := h1 z hz; omega
   ·exact hz'
  ·intro hz
   rcases List.mem_cons.1 ((h z).2 (List.mem_cons_of_mem _ hz)) with rfl | hz'
   ·have := h3 z hz; omega
   ·exact hz'
theorem mem_rows (x : Str) (y : Int) : ∀ (l : List Env) (out : List Int), y ∈ rowsOf x l out ↔ y ∈ out ∨ ∃ e ∈ l, lk e x = some y
 | [], out => by simp [rowsOf]
 | e :: l, out => by
  unfold rowsOf
  rw [mem_rows x y l]
  cases he : lk e x with
  | none => simp [he]
  | some v =>
   simp only [mem_ins, List.mem_cons, exists_eq_or_imp, he, Option.some.injEq]
   constructor
   ·rintro ((h | h) | h)
    ·exact .inr (.inl h.symm)
    ·exact .inl h
    ·exact .inr (.inr h)
   ·rintro (h | h | h)
    ·exact .inl (.inr h)
    ·exact .inl (.inl h.symm)
    ·exact .inr h
theorem asc_rows (x : Str) : ∀ (l : List Env) (out : List Int), Asc out → Asc (rowsOf x l out)
 | [], _, h => h
 | e :: l, out, h => by
  unfold rowsOf
  refine asc_rows x l _ ?_
  split
  ·exact asc_ins _ _ h
  ·exact h
theorem mem_insAll (y : Int) : ∀ (l out : List Int), y ∈ insAll l out ↔ y ∈ l ∨ y ∈ out
 | [], out => by simp [insAll]
 | v :: l, out => by
  unfold insAll
  rw [mem_insAll y l, mem_ins]
  simp only [List.mem_cons]
  constructor
  ·rintro (h | h | h)
   ·exact .inl (.inr h)
   ·exact .inl (.inl h)
   ·exact .inr h
  ·rintro ((h | h) | h)
   ·exact .inr (.inl h)
   ·exact .inl h
   ·exact .inr (.inr h)
theorem asc_insAll : ∀ (l out : List Int), Asc out → Asc (insAll l out)
 | [], _, h => h
 | v :: l, out, h => by unfold insAll; exact asc_insAll l _ (asc_ins v out h)
theorem mem_eval (l : Rels) (c : CQ) (x : Str) (y : Int) : y ∈ evalOne l c x ↔ ∃ e ∈ extend l c c.as [], lk e x = some y := by
 unfold evalOne
 rw [mem_insAll, mem_rows]
 simp
theorem asc_eval (l : Rels) (c : CQ) (x : Str) : Asc (evalOne l c x) := asc_insAll _ _ .nil
def more (c : CQ) (x : Str) (k : Int) : CQ := { as := c.as, cs := c.cs ++ [⟨2, .var x, .cst k⟩] }
def dif (x : Str) (k : Int) (e : Env) : Bool := match lk e x with
 | some v => decide (v ≠ k)
 | none => false
theorem passes_more (l : Rels) (c : CQ) (x : Str) (k : Int) (e : Env) : passes l (more c x k) e = (passes l c e && dif x k e) := by
 have h : cmOk e ⟨2, .var x, .cst k⟩ = dif x k e := by
  unfold cmOk dif
  simp only [gtm]
  cases lk e x with
  | none => rfl
  | some v => simp [cmpI]
 unfold passes more
 simp only [List.all_append, List.all_cons, List.all_nil, Bool.and_true, h]
 cases c.cs.all (cmOk e) <;> cases dif x k e <;> cases c.as.all (negOk l e) <;> rfl
theorem extend_more (l : Rels) (c : CQ) (x : Str) (k : Int) : ∀ (as : List Atm) (e : Env), extend l (more c x k) as e = (extend l c as e).filter (dif x k)
 | [], e => by
  unfold extend
  rw [passes_more]
  cases passes l c e <;> cases hd : dif x k e <;> simp [hd]
 | a :: as, e => by
  unfold extend
  split
  ·exact extend_more l c x k as e
  ·rw [List.filter_flatMap]
   congr 1
   funext vs
   split
   ·exact extend_more l c x k as _
   ·rfl
theorem mem_more (l : Rels) (c : CQ) (x : Str) (k y : Int) : y ∈ evalOne l (more c x k) x ↔ y ∈ evalOne l c x ∧ y ≠ k := by
 rw [mem_eval, mem_eval]
 show (∃ e ∈ extend l (more c x k) c.as [], _) ↔ _
 rw [extend_more]
 constructor
 ·rintro ⟨e, he, hy⟩
  rw [List.mem_filter] at he
  refine ⟨⟨e, he.1, hy⟩, ?_⟩
  have := he.2
  unfold dif at this
  rw [hy] at this
  simpa using this
 ·rintro ⟨⟨e, he, hy⟩, hk⟩
  refine ⟨e, List.mem_filter.2 ⟨he, ?_⟩, hy⟩
  unfold dif
  rw [hy]
  simpa using hk
def sTm (x : Str) (k : Int) : Trm → Trm
 | .var s => if s = x then .cst k else .var s
 | .cst n => .cst n
def sAt (x : Str) (k : Int) (a : Atm) : Atm := { r := a.r, neg := a.neg, ts := a.ts.map (sTm x k) }
def sCm (x : Str) (k : Int) (m : Cm) : Cm := { op := m.op, l := sTm x k m.l, r := sTm x k m.r }
def sub (c : CQ) (x : Str) (k : Int) : CQ := { as := c.as.map (sAt x k), cs := c.cs.map (sCm x k) }
def del (x : Str) : Env → Env
 | [] => []
 | (n, v) :: e => if n = x then del x e else (n, v) :: del x e
theorem del_app (x : Str) : ∀ (e f : Env), del x (e ++ f) = del x e ++ del x f
 | [], f => rfl
 | (n, v) :: e, f => by
  simp only [List.cons_append, del]
  split
  ·exact del_app x e f
  ·rw [del_app x e f]; rfl
theorem lk_del {x s : Str} (h : s ≠ x) : ∀ e, lk (del x e) s = lk e s
 | [] => rfl
 | (n, v) :: e => by
  unfold del
  split
  ·rename_i hn
   subst hn
   rw [lk_del h e]
   show lk e s = if n = s then some v else lk e s
   rw [if_neg (fun e => h e.symm)]
  ·unfold lk
   rw [lk_del h e]
theorem lk_app (s : Str) : ∀ (e f : Env), lk (e ++ f) s = match lk e s with | some v => some v | none => lk f s
 | [], f => by simp [lk]
 | (n, v) :: e, f => by
  simp only [List.cons_append, lk]
  split
  ·rfl
  ·exact lk_app s e f
theorem fitsL_app : ∀ (ts : List Trm) (vs : List Int) (e : Env), ∃ f, (fitsL e ts vs).1 = e ++ f ∧ ∀ s, lk e s ≠ none → ∀ p ∈ f, p.1 ≠ s
 | [], vs, e => ⟨[], by simp [fitsL]⟩
 | t :: ts, [], e => ⟨[], by simp [fitsL]⟩
 | t :: ts, v :: vs, e => by
  have hb : ∃ f, (bnd e t v).1 = e ++ f ∧ ∀ s, lk e s ≠ none → ∀ p ∈ f, p.1 ≠ s := by
   unfold bnd
   cases hg : gtm e t with
   | some w => exact ⟨[], by simp⟩
   | none =>
    cases t with
    | cst n => exact ⟨[], by simp⟩
    | var s =>
     refine ⟨[(s, v)], rfl, fun s' hs' p hp => ?_⟩
     simp at hp
     subst hp
     rintro rfl
     exact hs' hg
  obtain ⟨f, hf, hn⟩ := hb
  unfold fitsL
  split
  ·obtain ⟨f2, hf2, hn2⟩ := fitsL_app ts vs (bnd e t v).1
   refine ⟨f ++ f2, by rw [hf2, hf, List.append_assoc], fun s hs p hp => ?_⟩
   rcases List.mem_append.1 hp with hp | hp
   ·exact hn s hs p hp
   ·refine hn2 s ?_ p hp
    rw [hf, lk_app]
    cases he : lk e s with
    | none => exact absurd he hs
    | some v => simp
  ·exact ⟨f, hf, hn⟩
theorem fitsL_keep {x : Str} {v : Int} {ts : List Trm} {vs : List Int} {e : Env} (h : lk e x = some v) : lk (fitsL e ts vs).1 x = some v := by
 obtain ⟨f, hf, _⟩ := fitsL_app ts vs e
 rw [hf, lk_app, h]
def Cpt (x : Str) (k : Int) (e : Env) : Prop := lk e x = none ∨ lk e x = some k
theorem lk_x_del (x : Str) : ∀ e, lk (del x e) x = none
 | [] => rfl
 | (n, v) :: e => by
  unfold del
  split
  ·exact lk_x_del x e
  ·rename_i h
   unfold lk
   rw [if_neg h]
   exact lk_x_del x e
theorem fitsL_sub (x : Str) (k : Int) : ∀ (ts : List Trm) (vs : List Int) (e : Env), Cpt x k e →
  ((fitsL (del x e) (ts.map (sTm x k)) vs).2 = true ↔ (fitsL e ts vs).2 = true ∧ Cpt x k (fitsL e ts vs).1) ∧
  ((fitsL e ts vs).2 = true → Cpt x k (fitsL e ts vs).1 → (fitsL (del x e) (ts.map (sTm x k)) vs).1 = del x (fitsL e ts vs).1)
 | [], vs, e, hc => by simp [fitsL, hc]
 | t :: ts, [], e, hc => by simp [fitsL, hc]
 | t :: ts, v :: vs, e, hc => by
  have step : ∀ (e1 : Env) , bnd e t v = (e1, true) → bnd (del x e) (sTm x k t) v = (del x e1, true) → Cpt x k e1 →
    ((fitsL (del x e) ((t :: ts).map (sTm x k)) (v :: vs)).2 = true ↔ (fitsL e (t :: ts) (v :: vs)).2 = true ∧ Cpt x k (fitsL e (t :: ts) (v :: vs)).1) ∧
    ((fitsL e (t :: ts) (v :: vs)).2 = true → Cpt x k (fitsL e (t :: ts) (v :: vs)).1 → (fitsL (del x e) ((t :: ts).map (sTm x k)) (v :: vs)).1 = del x (fitsL e (t :: ts) (v :: vs)).1) := by
   intro e1 h1 h2 h3
   simp only [List.map_cons, fitsL, h1, h2, if_true]
   exact fitsL_sub x k ts vs e1 h3
  have stop : ∀ (e1 e2 : Env), bnd e t v = (e1, false) → bnd (del x e) (sTm x k t) v = (e2, false) →
    ((fitsL (del x e) ((t :: ts).map (sTm x k)) (v :: vs)).2 = true ↔ (fitsL e (t :: ts) (v :: vs)).2 = true ∧ Cpt x k (fitsL e (t :: ts) (v :: vs)).1) ∧
    ((fitsL e (t :: ts) (v :: vs)).2 = true → Cpt x k (fitsL e (t :: ts) (v :: vs)).1 → (fitsL (del x e) ((t :: ts).map (sTm x k)) (v :: vs)).1 = del x (fitsL e (t :: ts) (v :: vs)).1) := by
   intro e1 e2 h1 h2
   simp [List.map_cons, fitsL, h1, h2]
  cases t with
  | cst n =>
   by_cases hv : v = n
   ·exact step e (by simp [bnd, gtm, hv]) (by simp [bnd, gtm, sTm, hv]) hc
   ·exact stop e (del x e) (by simp [bnd, gtm, hv]) (by simp [bnd, gtm, sTm, hv])
  | var s =>
   by_cases hs : s = x
   ·subst hs
    rcases hc with hc | hc
    ·by_cases hv : v = k
     ·refine step (e ++ [(s, v)]) (by simp [bnd, gtm, hc]) ?_ ?_
      ·simp [bnd, gtm, sTm, hv, del_app, del]
      ·right; rw [lk_app, hc]; simp [lk, hv]
     ·
      have e1 : bnd e (.var s) v = (e ++ [(s, v)], true) := by simp [bnd, gtm, hc]
      have e2 : bnd (del s e) (sTm s k (.var s)) v = (del s e, false) := by simp [bnd, gtm, sTm, hv]
      have hk : lk (fitsL (e ++ [(s, v)]) ts vs).1 s = some v := fitsL_keep (by rw [lk_app, hc]; simp [lk])
      simp only [List.map_cons, fitsL, e1, e2, if_true]
      have hn : ¬ Cpt s k (fitsL (e ++ [(s, v)]) ts vs).1 := by
       rintro (h | h)
       ·rw [hk] at h; cases h
       ·rw [hk] at h; cases h; exact hv rfl
      exact ⟨⟨fun h => by simp at h, fun h => absurd h.2 hn⟩, fun _ h => absurd h hn⟩
    ·by_cases hv : v = k
     ·exact step e (by simp [bnd, gtm, hc, hv]) (by simp [bnd, gtm, sTm, hv]) (.inr hc)
     ·exact stop e (del s e) (by simp [bnd, gtm, hc, hv]) (by simp [bnd, gtm, sTm, hv])
   ·have hl : lk (del x e) s = lk e s := lk_del hs e
    cases hg : lk e s with
    | some w =>
     by_cases hv : v = w
     ·exact step e (by simp [bnd, gtm, hg, hv]) (by simp [bnd, gtm, sTm, hs, hl, hg, hv]) hc
     ·exact stop e (del x e) (by simp [bnd, gtm, hg, hv]) (by simp [bnd, gtm, sTm, hs, hl, hg, hv])
    | none =>
     refine step (e ++ [(s, v)]) (by simp [bnd, gtm, hg]) ?_ ?_
     ·simp [bnd, gtm, sTm, hs, hl, hg, del_app, del]
     ·rcases hc with hc | hc
      ·left; rw [lk_app, hc]; simp [lk, hs]
      ·right; rw [lk_app, hc]
theorem len_del {x : Str} : ∀ {f : Env}, (∀ p ∈ f, p.1 ≠ x) → del x f = f
 | [], _ => rfl
 | (n, v) :: f, h => by
  unfold del
  rw [if_neg (h (n, v) (by simp)), len_del fun p hp => h p (List.mem_cons_of_mem _ hp)]
theorem hits_sub {x : Str} {k : Int} {e : Env} (hx : lk e x = some k) (a : Atm) (vs : List Int) : hits (del x e) (sAt x k a) vs = hits e a vs := by
 unfold hits fits sAt
 simp only [List.length_map]
 split
 ·rename_i hl
  obtain ⟨h1, h2⟩ := fitsL_sub x k a.ts vs e (.inr hx)
  have hk : Cpt x k (fitsL e a.ts vs).1 := .inr (fitsL_keep hx)
  cases hb : (fitsL e a.ts vs).2 with
  | true =>
   rw [h1.2 ⟨hb, hk⟩, h2 hb hk]
   simp only [Bool.true_and]
   obtain ⟨f, hf, hn⟩ := fitsL_app a.ts vs e
   rw [hf, del_app, len_del (hn x (by rw [hx]; simp))]
   simp
  | false =>
   have : (fitsL (del x e) (a.ts.map (sTm x k)) vs).2 = false := by
    cases hq : (fitsL (del x e) (a.ts.map (sTm x k)) vs).2 with
    | false => rfl
    | true => have := (h1.1 hq).1; rw [hb] at this; cases this
   rw [this]
   simp
 ·simp
theorem get_sub {x : Str} {k : Int} {e : Env} (hx : lk e x = some k) (t : Trm) : gtm (del x e) (sTm x k t) = gtm e t := by
 cases t with
 | cst n => rfl
 | var s =>
  simp only [sTm]
  split
  ·rename_i h; subst h; simp [gtm, hx]
  ·rename_i h; simp only [gtm]; exact lk_del h e
theorem passes_sub {l : Rels} {c : CQ} {x : Str} {k : Int} {e : Env} (hx : lk e x = some k) : passes l (sub c x k) (del x e) = passes l c e := by
 unfold passes sub
 simp only [List.all_map]
 congr 1
 ·congr 1
  funext m
  simp only [Function.comp, cmOk, sCm, get_sub hx]
 ·congr 1
  funext a
  simp only [Function.comp, negOk]
  show (!a.neg || (tups l a.r).all fun vs => !hits (del x e) (sAt x k a) vs) = _
  simp only [hits_sub hx]
def Bnd (x : Str) (as : List Atm) (e : Env) : Prop := lk e x ≠ none ∨ ∃ a ∈ as, a.neg = false ∧ .var x ∈ a.ts
theorem fitsL_binds {x : Str} : ∀ (ts : List Trm) (vs : List Int) (e : Env), ts.length = vs.length → .var x ∈ ts → (fitsL e ts vs).2 = true → lk (fitsL e ts vs).1 x ≠ none
 | [], _, _, _, h, _ => by simp at h
 | t :: ts, [], _, h, _, _ => by simp at h
 | t :: ts, v :: vs, e, hl, hm, hok => by
  unfold fitsL at hok ⊢
  split at hok
  ·rename_i hb
   rw [if_pos hb]
   by_cases hx : lk (bnd e t v).1 x = none
   ·rcases List.mem_cons.1 hm with rfl | hm
    ·exfalso
     unfold bnd at hx
     simp only [gtm] at hx
     cases hg : lk e x with
     | some w => rw [hg] at hx; simp only at hx; rw [hg] at hx; cases hx
     | none => rw [hg] at hx; simp only at hx; rw [lk_app, hg] at hx; simp [lk] at hx
    ·exact fitsL_binds ts vs _ (by simpa using hl) hm hok
   ·cases hv : lk (bnd e t v).1 x with
    | none => exact absurd hv hx
    | some w => rw [fitsL_keep hv]; simp
  ·rename_i hb
   exact absurd hok hb
theorem extend_sub (l : Rels) (c : CQ) (x : Str) (k : Int) : ∀ (as : List Atm) (e : Env), Cpt x k e → Bnd x as e →
  ((extend l (sub c x k) (as.map (sAt x k)) (del x e) ≠ []) ↔ ∃ z ∈ extend l c as e, lk z x = some k)
 | [], e, hc, hb => by
  have hx : lk e x = some k := by
   rcases hb with h | ⟨a, ha, _⟩
   ·rcases hc with h' | h'
    ·exact absurd h' h
    ·exact h'
   ·simp at ha
  simp only [List.map_nil, extend, passes_sub hx]
  cases passes l c e <;> simp [hx]
 | a :: as, e, hc, hb => by
  simp only [List.map_cons, extend]
  have hn : (sAt x k a).neg = a.neg := rfl
  rw [hn]
  split
  ·rename_i hneg
   refine extend_sub l c x k as e hc ?_
   rcases hb with h | ⟨b, hb, h1, h2⟩
   ·exact .inl h
   ·rcases List.mem_cons.1 hb with rfl | hb
    ·rw [hneg] at h1; cases h1
    ·exact .inr ⟨b, hb, h1, h2⟩
  ·rename_i hneg
   have hneg' : a.neg = false := by cases h : a.neg <;> simp_all
   show (List.flatMap _ (tups l a.r) ≠ []) ↔ _
   have key : ∀ vs, ((if (fits (del x e) (sAt x k a) vs).2 = true then extend l (sub c x k) (as.map (sAt x k)) (fits (del x e) (sAt x k a) vs).1 else []) ≠ []) ↔
     ∃ z ∈ (if (fits e a vs).2 = true then extend l c as (fits e a vs).1 else []), lk z x = some k := by
    intro vs
    unfold fits sAt
    simp only [List.length_map]
    by_cases hl : a.ts.length = vs.length
    ·simp only [hl, if_true]
     obtain ⟨h1, h2⟩ := fitsL_sub x k a.ts vs e hc
     by_cases hok : (fitsL e a.ts vs).2 = true
     ·by_cases hk : Cpt x k (fitsL e a.ts vs).1
      ·rw [if_pos (h1.2 ⟨hok, hk⟩), if_pos hok, h2 hok hk]
       refine extend_sub l c x k as _ hk ?_
       rcases hb with h | ⟨b, hb, g1, g2⟩
       ·left
        cases hv : lk e x with
        | none => exact absurd hv h
        | some w => rw [fitsL_keep hv]; simp
       ·rcases List.mem_cons.1 hb with rfl | hb
        ·exact .inl (fitsL_binds _ _ _ hl g2 hok)
        ·exact .inr ⟨b, hb, g1, g2⟩
      ·have hq : ¬ (fitsL (del x e) (a.ts.map (sTm x k)) vs).2 = true := fun h => hk (h1.1 h).2
       rw [if_neg hq, if_pos hok]
       constructor
       ·intro h; exact absurd rfl h
       ·rintro ⟨z, hz, hzx⟩
        exfalso
        have : ∃ w, lk (fitsL e a.ts vs).1 x = some w ∧ w ≠ k := by
         cases hv : lk (fitsL e a.ts vs).1 x with
         | none => exact absurd (.inl hv) hk
         | some w => exact ⟨w, rfl, fun e => hk (.inr (by rw [hv, e]))⟩
        obtain ⟨w, hw, hne⟩ := this
        have := extend_keep l c x w as _ hw z hz
        rw [hzx] at this
        cases this
        exact hne rfl
     ·have hq : ¬ (fitsL (del x e) (a.ts.map (sTm x k)) vs).2 = true := fun h => hok (h1.1 h).1
      rw [if_neg hq, if_neg hok]
      simp
    ·simp [hl]
   constructor
   ·intro h
    obtain ⟨z, hz⟩ := List.exists_mem_of_ne_nil _ h
    obtain ⟨vs, hvs, hz⟩ := List.mem_flatMap.1 hz
    obtain ⟨y, hy, hyx⟩ := (key vs).1 (List.ne_nil_of_mem hz)
    exact ⟨y, List.mem_flatMap.2 ⟨vs, hvs, hy⟩, hyx⟩
   ·rintro ⟨y, hy, hyx⟩
    obtain ⟨vs, hvs, hy⟩ := List.mem_flatMap.1 hy
    obtain ⟨z, hz⟩ := List.exists_mem_of_ne_nil _ ((key vs).2 ⟨y, hy, hyx⟩)
    exact List.ne_nil_of_mem (List.mem_flatMap.2 ⟨vs, hvs, hz⟩)
where
 extend_keep (l : Rels) (c : CQ) (x : Str) (w : Int) : ∀ (as : List Atm) (e : Env), lk e x = some w → ∀ z ∈ extend l c as e, lk z x = some w
  | [], e, h, z, hz => by
   unfold extend at hz
   split at hz
   ·simp at hz; subst hz; exact h
   ·simp at hz
  | a :: as, e, h, z, hz => by
   unfold extend at hz
   split at hz
   ·exact extend_keep l c x w as e h z hz
   ·obtain ⟨vs, _, hz⟩ := List.mem_flatMap.1 hz
    split at hz
    ·refine extend_keep l c x w as _ ?_ z hz
     unfold fits
     split
     ·exact fitsL_keep h
     ·exact h
    ·simp at hz
theorem holds_sub (l : Rels) (c : CQ) (x : Str) (k : Int) (hb : ∃ a ∈ c.as, a.neg = false ∧ Trm.var x ∈ a.ts) : holdsOne l (sub c x k) = true ↔ k ∈ evalOne l c x := by
 rw [mem_eval]
 have := extend_sub l c x k c.as [] (.inl rfl) (.inr hb)
 rw [← this]
 show (!(extend l (sub c x k) (c.as.map (sAt x k)) []).isEmpty) = true ↔ _
 show _ ↔ extend l (sub c x k) (c.as.map (sAt x k)) [] ≠ []
 cases extend l (sub c x k) (c.as.map (sAt x k)) [] <;> simp
theorem splits (l : Rels) (c : CQ) (x : Str) (k : Int) (hb : ∃ a ∈ c.as, a.neg = false ∧ Trm.var x ∈ a.ts) :
  (ins (evalOne l (more c x k) x) k).length = (evalOne l (more c x k) x).length + 1 ∧
  evalOne l c x = if holdsOne l (sub c x k) then ins (evalOne l (more c x k) x) k else evalOne l (more c x k) x := by
 have hk : k ∉ evalOne l (more c x k) x := fun h => ((mem_more l c x k k).1 h).2 rfl
 refine ⟨len_ins _ _ hk, ?_⟩
 have hh := holds_sub l c x k hb
 split
 ·rename_i h
  refine asc_eq _ _ (asc_eval ..) (asc_ins _ _ (asc_eval ..)) fun y => ?_
  rw [mem_ins, mem_more]
  constructor
  ·intro hy
   by_cases e : y = k
   ·exact .inl e
   ·exact .inr ⟨hy, e⟩
  ·rintro (rfl | h')
   ·exact hh.1 h
   ·exact h'.1
 ·rename_i h
  refine asc_eq _ _ (asc_eval ..) (asc_eval ..) fun y => ?_
  rw [mem_more]
  constructor
  ·intro hy
   exact ⟨hy, by rintro rfl; exact h (hh.2 hy)⟩
  ·exact fun h => h.1
end Go.Vse.Sm
