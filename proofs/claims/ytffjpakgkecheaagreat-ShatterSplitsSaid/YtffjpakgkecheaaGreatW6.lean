/- t -/
import Derived.Test.YtffjpakgkecheaaGreatShX
import Derived.Test.YtffjpakgkecheaaGreatW5
import Derived.Test.YtffjpakgkecheaaGreatShF
set_option linter.all false
namespace Go.Proofs.YtffjpakgkecheaaGreat
open Go Go.Vse Go.Vse.Sm
set_option maxRecDepth 100000
set_option maxHeartbeats 4000000
set_option linter.unusedSimpArgs false
theorem fn23 : pr.fn 23 = some g23 := by kernel_rfl
theorem fn8 : pr.fn 8 = some g8 := by kernel_rfl
theorem fn9 : pr.fn 9 = some g9 := by kernel_rfl
theorem extend_elen (l : List Rl) (c : CQ) : ∀ (as : List Atm) (e : Env) (N : Nat), (∀ a ∈ as, a.ts.length ≤ 100) → e.length + 100 * as.length ≤ N → ∀ e' ∈ extend (rels l) c as e, e'.length ≤ N
 | [], e, N, _, h, e', he => by
  simp only [extend] at he
  split at he
  ·simp at he; subst he; simp at h; omega
  ·simp at he
 | a :: as, e, N, ha, h, e', he => by
  simp only [List.length_cons] at h
  cases hn : a.neg with
  | true => rw [extend_neg _ _ _ _ _ hn] at he; exact extend_elen l c as e N (fun b hb => ha b (by simp [hb])) (by omega) e' he
  | false =>
   rw [extend_pos _ _ _ _ _ hn] at he
   obtain ⟨t, _, he⟩ := List.mem_flatMap.1 he
   unfold ext1 at he
   split at he
   ·have := fits_len e a t.1
    have h2 := ha a (by simp)
    exact extend_elen l c as _ N (fun b hb => ha b (by simp [hb])) (by omega) e' he
   ·simp at he
theorem rows_app (x : Str) : ∀ (a b : List Env) (out : List Int), rowsOf x (a ++ b) out = rowsOf x b (rowsOf x a out)
 | [], b, out => rfl
 | e :: a, b, out => by simp only [List.cons_append, rowsOf]; exact rows_app x a b _
theorem ins_len (v : Int) : ∀ l : List Int, (ins l v).length ≤ l.length + 1
 | [] => by simp [ins]
 | w :: l => by
  unfold ins
  split
  ·have := ins_len v l; simp only [List.length_cons]; omega
  ·split
   ·simp
   ·simp
theorem rowsOf_len (x : Str) : ∀ (l : List Env) (out : List Int), (rowsOf x l out).length ≤ out.length + l.length
 | [], out => by simp [rowsOf]
 | e :: l, out => by
  simp only [rowsOf, List.length_cons]
  refine Nat.le_trans (rowsOf_len x l _) ?_
  cases lk e x with
  | none => simp only; omega
  | some v => have := ins_len v out; simp only; omega
def I23 (L : List Env) (x : Str) (k : Nat) (s : St) : Prop :=
 ∃ n : Nat, n ≤ L.length ∧ k = L.length - n ∧ s.tm.get 0 = some (.f (slc 2 (L.map envF))) ∧ s.tm.get 1 = some (.f (strsF [x])) ∧ s.tm.get 6 = some (.f (.i .i64 n)) ∧ s.tm.get 5 = some (.f (rowsF (rowsOf x (L.take n) [])))
def R23 (L : List Env) (x : Str) (e : Ex) (s : St) : Prop := e = .exit 0 ∧ s.tm.get 5 = some (.f (rowsF (rowsOf x L [])))
theorem ans23 (L : List Env) (x : Str) (hx : x ≠ []) (hL : L.length ≤ 100000) (he : ∀ e ∈ L, e.length < 900) : Ans pr 23 [slc 2 (L.map envF), strsF [x]] (rowsF (rowsOf x L [])) := by
 refine ansP fn23 ?_
 unfold g23
 dsimp only [oR, oM, oN, oG, oH, oF, oL, oK, oI, oS, oZ, oD]
 simp -implicitDefEqProofs [rulA, Function.comp_def, Nat.blt_eq, apO, st0, tmOf, strs_d]
 refine loopW (I23 L x) (R23 L x) ?_ L.length _ ⟨0, Nat.zero_le _, rfl, ?_, ?_, ?_, ?_⟩ ?_
 any_goals (simp -implicitDefEqProofs [rulA, Function.comp_def, Nat.blt_eq, apO, tmOf, rowsOf, rowsF, slc_nil, List.map_nil]; done)
 ·rintro k s ⟨n, hn, rfl, h0, h1, h6, h5⟩
  have hw := wrap_suc n (by omega)
  by_cases hlt : n < L.length
  ·have hel := he _ (List.getElem_mem hlt)
   have h42 := ans42 (L[n]) (.var x) hx (by omega)
   simp only [envF, tmF, gtm] at h42
   have q42 := fun k => aB_iff (k := k) h42
   have hl1 : lenB (.f (strsF [x])) = some 1 := by rw [strs_len]; rfl
   have hi1 : iaB 1 (.f (strsF [x])) 0 = some (.fptr [.s x]) := by rw [strs_ia]; rfl
   have htk : ∀ r, rowsOf x [L[n]] (rowsOf x (L.take n) []) = r → rowsOf x (L.take (n + 1)) [] = r := by
    intro r hr
    rw [List.take_add_one, List.getElem?_eq_getElem hlt, Option.toList_some, rows_app, hr]
   have hw0 : IntKind.i64.wrap 1 = 1 := by decide
   simp -implicitDefEqProofs [rulA, Function.comp_def, Nat.blt_eq, apO, h0, h1, h6, h5, hlt]
   refine round ?_
   simp -implicitDefEqProofs [rulA, Function.comp_def, Nat.blt_eq, apO, h0, h1, h6, h5, hlt, hl1]
   refine dreg_i ?_
   cases hlk : lk (L[n]) x with
   | none =>
    simp only [hlk, getV, gtm, zF] at q42
    have hstep := htk (rowsOf x (L.take n) []) (by simp only [rowsOf, hlk])
    simp -implicitDefEqProofs [rulA, Function.comp_def, Nat.blt_eq, apO, h0, h1, h6, h5, hlt, hl1, hi1, envF, strs_d, vals_d, q42, leMax, hw0]
    refine round ?_
    simp -implicitDefEqProofs [rulA, Function.comp_def, Nat.blt_eq, apO, h0, h1, h6, h5, hlt, hl1, hw]
    rw [lp_nrm]
    refine ⟨L.length - (n + 1), by omega, n + 1, by omega, rfl, ?_, ?_, ?_, ?_⟩
    all_goals simp -implicitDefEqProofs [rulA, Function.comp_def, Nat.blt_eq, apO, h0, h1, h6, h5, hstep]
   | some v =>
    simp only [hlk, getV, gtm, vF] at q42
    have hstep := htk (ins (rowsOf x (L.take n) []) v) (by simp only [rowsOf, hlk])
    have h10 := ans10 (rowsOf x (L.take n) []) v (by have := rowsOf_len x (L.take n) []; simp at this; omega)
    rw [show valsF [v] = .sl 3 [[.i .i64 1, .i .i64 v, .s []]] from rfl] at h10
    have q10 := fun k => aB_iff (k := k) h10
    simp -implicitDefEqProofs [rulA, Function.comp_def, Nat.blt_eq, apO, h0, h1, h6, h5, hlt, hl1, hi1, envF, strs_d, vals_d, q42, leMax, hw0]
    refine round ?_
    simp -implicitDefEqProofs [rulA, Function.comp_def, Nat.blt_eq, apO, h0, h1, h6, h5, hlt, hl1, hw, q10, rows_d]
    rw [lp_nrm]
    refine ⟨L.length - (n + 1), by omega, n + 1, by omega, rfl, ?_, ?_, ?_, ?_⟩
    all_goals simp -implicitDefEqProofs [rulA, Function.comp_def, Nat.blt_eq, apO, h0, h1, h6, h5, hstep, rows_d]
  ·have hnl : n = L.length := by omega
   subst hnl
   rw [List.take_length] at h5
   simp -implicitDefEqProofs [rulA, Function.comp_def, Nat.blt_eq, apO, h0, h1, h6, h5]
   exact ⟨rfl, by simp -implicitDefEqProofs [rulA, Function.comp_def, Nat.blt_eq, apO, h5]⟩
 ·rintro e s ⟨rfl, h5⟩
  simp -implicitDefEqProofs [rulA, Function.comp_def, Nat.blt_eq, apO, h5]
theorem eval_app : ∀ (a b out : List Int), insAll (a ++ b) out = insAll b (insAll a out)
 | [], b, out => rfl
 | v :: a, b, out => by simp only [List.cons_append, insAll]; exact eval_app a b _
theorem insAll_len : ∀ (a out : List Int), (insAll a out).length ≤ out.length + a.length
 | [], out => by simp [insAll]
 | v :: a, out => by
  have := insAll_len a (ins out v)
  have := ins_len v out
  simp only [insAll, List.length_cons]
  omega
def I8 (l : List Rl) (hd : F) (c : CQ) (rows : List Int) (k : Nat) (s : St) : Prop :=
 ∃ n : Nat, n ≤ rows.length ∧ k = rows.length - n ∧ s.tm.get 3 = some (.ptr 0 2 0 0) ∧ s.h.get 0 = some (.arr 2 0 [[.f hd, .f (.sl 2 [cqF c])]]) ∧ s.tm.get 6 = some (.f (.i .i64 0)) ∧ s.tm.get 7 = some (.f (rowsF rows)) ∧
  s.tm.get 8 = some (.f (.i .i64 n)) ∧ s.tm.get 5 = some (.f (rowsF (insAll (rows.take n) [])))
def R8 (l : List Rl) (hd : F) (c : CQ) (rows : List Int) (e : Ex) (s : St) : Prop :=
 e = .exit 2 ∧ s.tm.get 3 = some (.ptr 0 2 0 0) ∧ s.h.get 0 = some (.arr 2 0 [[.f hd, .f (.sl 2 [cqF c])]]) ∧ s.tm.get 6 = some (.f (.i .i64 0)) ∧ s.tm.get 5 = some (.f (rowsF (insAll rows [])))
theorem ans8 (l : List Rl) (c : CQ) (x : Str) (hl : RlsOk l) (hc : CqOk c) (hx : x ≠ []) :
    Ans pr 8 [slc 4 (l.map rlF), .ag [strsF [x], .sl 2 [cqF c]]] (rowsF (evalOne (rels l) c x)) := by
  have h24 := ans24 l c hl hc c.as.length 0 [] (Nat.zero_le _) (by simp) (by simp)
  rw [List.drop_zero, show ((0 : Nat) : Int) = 0 from rfl] at h24
  have hna := hc.na
  have hx4 : (extend (rels l) c c.as []).length ≤ 4 ^ 7 := Nat.le_trans (extend_len l c hl _ _) (Nat.pow_le_pow_right (by omega) (by omega))
  have h23 := ans23 (extend (rels l) c c.as []) x hx (by have : (4:Nat) ^ 7 = 16384 := by decide
                                                         omega) (fun e he => by
    have := extend_elen l c c.as [] 800 (fun a ha => by have := (hc.at' a ha).1; omega) (by simp; omega) e he
    omega)
  have hrl := rowsOf_len x (extend (rels l) c c.as []) []
  have e7 : (4:Nat) ^ 7 = 16384 := by decide
  simp only [List.length_nil] at hrl
  have hev : evalOne (rels l) c x = insAll (rowsOf x (extend (rels l) c c.as []) []) [] := rfl
  rw [hev]
  generalize rowsOf x (extend (rels l) c c.as []) [] = rows at h23 hrl
  refine ansP fn8 ?_
  unfold g8
  dsimp only [oR, oM, oN, oG, oH, oF, oL, oK, oI, oS, oZ, oD]
  simp only [cqF, envF] at h24
  have q24 := fun k => aB_iff (k := k) h24
  have q23 := fun k => aB_iff (k := k) h23
  have e0 : strsF (([] : Env).map (·.1)) = .nils := rfl
  have e1 : valsF (([] : Env).map (·.2)) = .nils := rfl
  rw [e0, e1] at q24
  have hw0 : IntKind.i64.wrap 1 = 1 := by decide
  simp -implicitDefEqProofs [rulA, Function.comp_def, Nat.blt_eq, apO, st0, tmOf, strs_d]
  refine round ?_
  simp -implicitDefEqProofs [rulA, Function.comp_def, Nat.blt_eq, apO, cqF]
  refine dreg_i ?_
  simp -implicitDefEqProofs [rulA, Function.comp_def, Nat.blt_eq, apO, cqF, strs_d, q24, q23, rows_d]
  refine loopW (I8 l (strsF [x]) c rows) (R8 l (strsF [x]) c rows) ?_ rows.length _ ⟨0, Nat.zero_le _, rfl, ?_, ?_, ?_, ?_, ?_, ?_⟩ ?_
  any_goals (simp -implicitDefEqProofs [rulA, Function.comp_def, Nat.blt_eq, apO, tmOf, insAll, rowsF, slc_nil, List.map_nil, cqF]; done)
  · rintro k s ⟨n, hn, rfl, h3, g0, h6, h7, h8, h5⟩
    have hw := wrap_suc n (by omega)
    by_cases hlt : n < rows.length
    · have hil := insAll_len (rows.take n) []
      have h10 := ans10 (insAll (rows.take n) []) (rows[n]) (by simp at hil; omega)
      have q10 := fun k => aB_iff (k := k) h10
      have hstep : insAll (rows.take (n + 1)) [] = ins (insAll (rows.take n) []) rows[n] := by
        rw [List.take_add_one, List.getElem?_eq_getElem hlt, Option.toList_some, eval_app]; rfl
      simp -implicitDefEqProofs [rulA, Function.comp_def, Nat.blt_eq, apO, h3, g0, h6, h7, h8, h5, hlt, rows_len, rows_ia, rows_d, q10, hw]
      rw [lp_nrm]
      refine ⟨rows.length - (n + 1), by omega, n + 1, by omega, rfl, ?_, ?_, ?_, ?_, ?_, ?_⟩
      all_goals simp -implicitDefEqProofs [rulA, Function.comp_def, Nat.blt_eq, apO, h3, g0, h6, h7, h8, h5, hstep, rows_d]
    · have hnl : n = rows.length := by omega
      subst hnl
      rw [List.take_length] at h5
      simp -implicitDefEqProofs [rulA, Function.comp_def, Nat.blt_eq, apO, h3, g0, h6, h7, h8, h5, rows_len]
      exact ⟨rfl, by simp -implicitDefEqProofs [rulA, Function.comp_def, Nat.blt_eq, apO, h3], by simp -implicitDefEqProofs [rulA, Function.comp_def, Nat.blt_eq, apO, g0], by simp -implicitDefEqProofs [rulA, Function.comp_def, Nat.blt_eq, apO, h6], by simp -implicitDefEqProofs [rulA, Function.comp_def, Nat.blt_eq, apO, h5]⟩
  · rintro e s ⟨rfl, h3, g0, h6, h5⟩
    simp -implicitDefEqProofs [rulA, Function.comp_def, Nat.blt_eq, apO, h3, g0, h6, h5, hw0]
    refine round ?_
    simp -implicitDefEqProofs [rulA, Function.comp_def, Nat.blt_eq, apO, h3, g0, h6, h5]
theorem ans9 (l : List Rl) (c : CQ) (hl : RlsOk l) (hc : CqOk c) :
  Ans pr 9 [slc 4 (l.map rlF), .ag [.nils, .sl 2 [cqF c]]] (.b (holdsOne (rels l) c)) := by
 have h24 := ans24 l c hl hc c.as.length 0 [] (Nat.zero_le _) (by simp) (by simp)
 rw [List.drop_zero, show ((0 : Nat) : Int) = 0 from rfl] at h24
 have hev : holdsOne (rels l) c = !(extend (rels l) c c.as []).isEmpty := rfl
 rw [hev]
 generalize extend (rels l) c c.as [] = L at h24
 refine ansP fn9 ?_
 unfold g9
 dsimp only [oR, oM, oN, oG, oH, oF, oL, oK, oI, oS, oZ, oD]
 simp only [cqF, envF] at h24
 have q24 := fun k => aB_iff (k := k) h24
 have e0 : strsF (([] : Env).map (·.1)) = .nils := rfl
 have e1 : valsF (([] : Env).map (·.2)) = .nils := rfl
 rw [e0, e1] at q24
 have hw0 : IntKind.i64.wrap 1 = 1 := by decide
 cases L with
 | nil =>
  simp -implicitDefEqProofs [rulA, Function.comp_def, Nat.blt_eq, apO, st0, tmOf]
  refine round ?_
  simp -implicitDefEqProofs [rulA, Function.comp_def, Nat.blt_eq, apO, cqF, q24, hw0]
  refine round ?_
  simp -implicitDefEqProofs [rulA, Function.comp_def, Nat.blt_eq, apO, cqF]
 | cons e L =>
  simp -implicitDefEqProofs [rulA, Function.comp_def, Nat.blt_eq, apO, st0, tmOf]
  refine round ?_
  simp -implicitDefEqProofs [rulA, Function.comp_def, Nat.blt_eq, apO, cqF, q24, hw0]
end Go.Proofs.YtffjpakgkecheaaGreat
