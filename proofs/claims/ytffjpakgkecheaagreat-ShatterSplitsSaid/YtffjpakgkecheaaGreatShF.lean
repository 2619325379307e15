/- Slices that grow; rounds of a loop. -/
import Derived.Test.YtffjpakgkecheaaGreatShE
set_option linter.all false
namespace Go.Vse
def Grow (h : T Ob) (lo c es : Nat) (d : D) (els : List (List D)) : Prop :=
 (d = .f .nils ∧ els = []) ∨ ∃ id, d = .sl id 0 els.length es els.length false ∧ els ≠ [] ∧ h.get id = some (.arr es 0 els) ∧ lo ≤ id ∧ id < c
theorem Grow.nil {h : T Ob} {lo c es : Nat} : Grow h lo c es (.f .nils) [] := .inl ⟨rfl, rfl⟩
theorem grow_app [Globs] {h : T Ob} {lo c es byt : Nat} {d : D} {els new : List (List D)} {rd : List Nat} (hg : Grow h lo c es d els) (hlo : lo ≤ c) (hlen : els.length + new.length ≤ 1000000) (hb : byt ≤ 1000) :
  ∃ r, appendB es byt h.get c d new rd = some r ∧ wrOk r.c r.wr = true ∧ Grow (wrT h r.wr) lo r.c es r.d (els ++ new) ∧ c ≤ r.c ∧ ∀ id, id < lo → (wrT h r.wr).get id = h.get id := by
 have hm : ∀ n, n ≤ 1000000 → n ≤ maxBytes := fun n hn => by have := leMax (n := n) (by omega); simpa using this
 have hmb : ∀ n, n ≤ 1000000 → n * byt ≤ maxBytes := fun n hn => by
  have : n * byt ≤ 1000000 * 1000 := Nat.mul_le_mul hn hb
  have h2 := leMax (n := n * byt) (by omega)
  simpa using h2
 by_cases h0 : new.length = 0
 ·have hn : new = [] := List.length_eq_zero_iff.1 h0
  subst hn
  rcases hg with ⟨rfl, rfl⟩ | ⟨id, rfl, he, ho, hl, hc⟩
  ·exact ⟨{ d := .f .nils, rd, c }, by rw [ap_nils]; simp, rfl, .inl ⟨rfl, rfl⟩, Nat.le_refl _, fun _ _ => rfl⟩
  ·exact ⟨{ d := .sl id 0 els.length es els.length false, rd, c }, by rw [ap_sl]; simp, rfl, .inr ⟨id, by simp, by simpa using he, by simpa [wrT] using ho, hl, hc⟩, Nat.le_refl _, fun _ _ => rfl⟩
 ·rcases hg with ⟨rfl, rfl⟩ | ⟨id, rfl, he, ho, hl, hc⟩
  ·refine ⟨{ d := .sl c 0 new.length es new.length false, rd, wr := [(c, some (.arr es 0 new))], c := c + 1 }, ?_, ?_, .inr ⟨c, rfl, ?_, ?_, hlo, by simp⟩, by simp, ?_⟩
   ·rw [ap_nils, if_neg h0, if_pos ⟨hm _ (by simpa using hlen), hmb _ (by simpa using hlen)⟩]
   ·simp [wrOk, Nat.blt_eq]
   ·simpa using fun e => h0 (by simp [e])
   ·simp [wrT, T.get_set]
   ·intro i hi
    have : i ≠ c := by omega
    simp [wrT, T.get_set, this]
  ·refine ⟨{ d := .sl c 0 (els.length + new.length) es (els.length + new.length) false, rd := id :: rd, wr := [(id, none), (c, some (.arr es 0 (els ++ new)))], c := c + 1 }, ?_, ?_, .inr ⟨c, by simp, ?_, ?_, hlo, by simp⟩, by simp, ?_⟩
   ·rw [ap_sl, if_neg h0, ho]
    have h1 : ¬ (0 + els.length + new.length ≤ els.length) := by omega
    have h2 := hm (els.length + new.length) hlen
    have h3 := hmb (els.length + new.length) hlen
    simp [om, apO, h1, h2, h3]
    omega
   ·simp [wrOk, Nat.blt_eq]; omega
   ·simp [he]
   ·simp [wrT, T.get_set]
   ·intro i hi
    have h1 : i ≠ c := by omega
    have h2 : i ≠ id := by omega
    simp [wrT, T.get_set, T.get_del, h1, h2]
theorem grow_up {h h' : T Ob} {lo c c' es : Nat} {d : D} {els : List (List D)} (hg : Grow h lo c es d els) (hh : ∀ id, id < c → h'.get id = h.get id) (hc : c ≤ c') : Grow h' lo c' es d els := by
 rcases hg with ⟨rfl, rfl⟩ | ⟨id, rfl, he, ho, hl, hlt⟩
 ·exact .inl ⟨rfl, rfl⟩
 ·exact .inr ⟨id, rfl, he, by rw [hh id hlt]; exact ho, hl, by omega⟩
theorem grow_oB [Globs] {h : T Ob} {lo c es byt : Nat} {d : D} {els new : List (List D)} {rd : List Nat} {K : Rs → Prop} (hg : Grow h lo c es d els) (hlo : lo ≤ c) (hlen : els.length + new.length ≤ 1000000) (hb : byt ≤ 1000)
  (hK : ∀ r : Rs, wrOk r.c r.wr = true → Grow (wrT h r.wr) lo r.c es r.d (els ++ new) → c ≤ r.c → (∀ id, id < lo → (wrT h r.wr).get id = h.get id) → K r) : oB (appendB es byt h.get c d new rd) K := by
 obtain ⟨r, h1, h2, h3, h4, h5⟩ := grow_app (byt := byt) (rd := rd) hg hlo hlen hb
 rw [h1]
 exact hK r h2 h3 h4 h5
theorem grow_frz [Globs] {h : T Ob} {lo c es k : Nat} {d : D} {els : List (List D)} {L : List (List F)} (hg : Grow h lo c es d els) (hf : mapFrr (frz h.get k) els = some (L, [])) : ∃ rd, frz h.get (k + 1) d = some (slc es L, rd) := by
 rcases hg with ⟨rfl, rfl⟩ | ⟨id, rfl, he, ho, hl, hc⟩
 ·simp only [mapFrr, Option.some.injEq, Prod.mk.injEq] at hf
  rw [← hf.1]
  exact ⟨[], rfl⟩
 ·have hL : L ≠ [] := by
   rintro rfl
   cases els with
   | nil => exact he rfl
   | cons x l =>
    rw [frr_c] at hf
    simp only [om] at hf
    cases h1 : mapFr (frz h.get k) x with
    | none => rw [h1] at hf; simp at hf
    | some p =>
     rw [h1] at hf
     cases h2 : mapFrr (frz h.get k) l with
     | none => rw [h2] at hf; simp at hf
     | some q => rw [h2] at hf; simp at hf
  refine ⟨[id], ?_⟩
  rw [fz_sl, ho, om_some, fzS_arr]
  simp only [true_and, Nat.zero_add, Nat.le_refl, if_true, List.drop_zero, List.take_length, hf, om_some]
  rw [sl_of_slc hL]
section
variable [Globs] {pr : Pr}
structure WL (pr : Pr) (c : C) (s : St) (Q : Ex → St → Prop) : Prop where
 out : wpC pr (.loop c) s Q
def rn (pr : Pr) (c : C) (Q : Ex → St → Prop) (x : Ex) (s : St) : Prop := match x with
 | .nrm => WL pr c s Q
 | x => Q x s
theorem rn_nrm {c : C} {Q : Ex → St → Prop} {s : St} : rn pr c Q .nrm s = WL pr c s Q := rfl
theorem rn_ret {c : C} {Q : Ex → St → Prop} {s : St} : rn pr c Q .ret s = Q .ret s := rfl
theorem rn_exit {c : C} {Q : Ex → St → Prop} {s : St} {i : Nat} : rn pr c Q (.exit i) s = Q (.exit i) s := rfl
theorem round {c : C} {s : St} {Q : Ex → St → Prop} (h : wpC pr c s (rn pr c Q)) : WL pr c s Q := by
 refine ⟨c_round ?_⟩
 have e : rn pr c Q = fun x s' => match x with
  | .nrm => wpC pr (.loop c) s' Q
  | x => Q x s' := by
  funext x s'
  cases x with
  | nrm => exact propext ⟨fun h => h.out, fun h => ⟨h⟩⟩
  | ret => rfl
  | exit i => rfl
 rw [e] at h; exact h
theorem k_loop {c : C} {s : St} {Q : Ex → St → Prop} : wpC pr (.loop c) s Q = WL pr c s Q := propext ⟨fun h => ⟨h⟩, fun h => h.out⟩
theorem loopW {c : C} {Q : Ex → St → Prop} (I : Nat → St → Prop) (R : Ex → St → Prop) (hstep : ∀ k s, I k s → wpC pr c s (lp I k R)) (k : Nat) (s : St) (h : I k s) (hQ : ∀ x s, R x s → Q x s) : WL pr c s Q := ⟨loopQ I R hstep k s h hQ⟩
end
end Go.Vse
