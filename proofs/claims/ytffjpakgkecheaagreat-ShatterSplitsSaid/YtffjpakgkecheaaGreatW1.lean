/- What the reference answers for one atom: comparisons, tuples by name, matching an atom with a tuple. -/
import Derived.Test.YtffjpakgkecheaaGreatShX
import Derived.Test.YtffjpakgkecheaaGreatW0
set_option linter.all false
namespace Go.Proofs.YtffjpakgkecheaaGreat
open Go Go.Vse Go.Vse.Sm
set_option maxRecDepth 100000
set_option maxHeartbeats 4000000
set_option linter.unusedSimpArgs false
theorem cmp3_ne (a b : Int) : (cmp3 a b != 0) = decide (a ≠ b) := by
 rw [bne, cmp3_zero]; simp
theorem cmp3_lt (a b : Int) : (cmp3 a b < 0) = (a < b) := by
 unfold cmp3
 by_cases h : a = b
 ·simp [h]
 ·simp only [h, if_false]
  split <;> simp_all
theorem cmp3_le (a b : Int) : (cmp3 a b ≤ 0) = (a ≤ b) := by
 unfold cmp3
 by_cases h : a = b
 ·simp [h]
 ·simp only [h, if_false]
  split
  ·simp; omega
  ·simp; omega
theorem ans78 (op a b : Int) : Ans pr 78 [.i .i64 op, .ag (vF a), .ag (vF b)] (.b (cmpI op a b)) := by
 have h46 := ans46 a b
 refine ansP fn78 ?_
 unfold g78 cmpI
 dsimp only [oR, oM, oN, oG, oH, oF, oL, oK, oI, oS, oZ, oD]
 simp [rulX, chkM, Option.bind_some, fnD, F.d, toIdx, faB, loadB, storeB, over, partF, partD, mapO, D.cells, fillB, wrT, frzArgs, mapFr, roMarks, wrOk, O.res, opv, okF, okD, okHd, hd8, Function.comp_def, Nat.blt_eq, F.dL, Option.bind_eq_bind, st0, tmOf, vF]
 refine ⟨_, by simpa [vF] using h46, ?_⟩
 by_cases h1 : op = 1
 ·subst h1; simp [rulX, chkM, Option.bind_some, fnD, F.d, toIdx, faB, loadB, storeB, over, partF, partD, mapO, D.cells, fillB, wrT, frzArgs, mapFr, roMarks, wrOk, O.res, opv, okF, okD, okHd, hd8, Function.comp_def, Nat.blt_eq, F.dL, Option.bind_eq_bind, endQ, endP, resD, resV, mapO, wrLow, D.isF, D.isFL, cmp3_zero]
 ·by_cases h2 : op = 2
  ·subst h2; simp [rulX, chkM, Option.bind_some, fnD, F.d, toIdx, faB, loadB, storeB, over, partF, partD, mapO, D.cells, fillB, wrT, frzArgs, mapFr, roMarks, wrOk, O.res, opv, okF, okD, okHd, hd8, Function.comp_def, Nat.blt_eq, F.dL, Option.bind_eq_bind, endQ, endP, resD, resV, mapO, wrLow, D.isF, D.isFL, cmp3_ne]
  ·by_cases h3 : op = 3
   ·subst h3; simp [rulX, chkM, Option.bind_some, fnD, F.d, toIdx, faB, loadB, storeB, over, partF, partD, mapO, D.cells, fillB, wrT, frzArgs, mapFr, roMarks, wrOk, O.res, opv, okF, okD, okHd, hd8, Function.comp_def, Nat.blt_eq, F.dL, Option.bind_eq_bind, endQ, endP, resD, resV, mapO, wrLow, D.isF, D.isFL, cmp3_lt]
   ·by_cases h4 : op = 4
    ·subst h4; simp [rulX, chkM, Option.bind_some, fnD, F.d, toIdx, faB, loadB, storeB, over, partF, partD, mapO, D.cells, fillB, wrT, frzArgs, mapFr, roMarks, wrOk, O.res, opv, okF, okD, okHd, hd8, Function.comp_def, Nat.blt_eq, F.dL, Option.bind_eq_bind, endQ, endP, resD, resV, mapO, wrLow, D.isF, D.isFL, cmp3_le]
    ·simp [rulX, chkM, Option.bind_some, fnD, F.d, toIdx, faB, loadB, storeB, over, partF, partD, mapO, D.cells, fillB, wrT, frzArgs, mapFr, roMarks, wrOk, O.res, opv, okF, okD, okHd, hd8, Function.comp_def, Nat.blt_eq, F.dL, Option.bind_eq_bind, endQ, endP, resD, resV, mapO, wrLow, D.isF, D.isFL, h1, h2, h3, h4]
def fnd : List Rl → Str → List (List Int × List F)
 | [], _ => []
 | r :: l, x => if r.nm = x then r.tu else fnd l x
theorem fnd_tups : ∀ (l : List Rl) (x : Str), (fnd l x).map (·.1) = tups (rels l) x
 | [], _ => rfl
 | r :: l, x => by
  simp only [fnd, rels, List.map_cons, tups]
  split
  ·rfl
  ·exact fnd_tups l x
theorem fnd_nth : ∀ (l : List Rl) (x : Str) (n : Nat) (hn : n < l.length), (∀ r ∈ l.take n, r.nm ≠ x) → (l[n]).nm = x → fnd l x = (l[n]).tu
 | [], _, _, hn, _, _ => by simp at hn
 | r :: l, x, 0, _, _, h => by simp at h; simp [fnd, h]
 | r :: l, x, n + 1, hn, h, h2 => by
  have : r.nm ≠ x := h r (by simp)
  simp only [fnd, if_neg this]
  simpa using fnd_nth l x n (by simpa using hn) (fun p hp => h p (by simp [hp])) (by simpa using h2)
theorem fnd_none : ∀ (l : List Rl) (x : Str), (∀ r ∈ l, r.nm ≠ x) → fnd l x = []
 | [], _, _ => rfl
 | r :: l, x, h => by
  have : r.nm ≠ x := h r (by simp)
  simp only [fnd, if_neg this]
  exact fnd_none l x fun p hp => h p (by simp [hp])
def RlOk (r : Rl) : Prop := r.co.d = .f r.co
theorem ans44 (l : List Rl) (x : Str) (hl : l.length < 1000) : Ans pr 44 [slc 4 (l.map rlF), .s x] (slc 4 ((fnd l x).map tuF)) := by
 refine ansP fn44 ?_
 unfold g44
 dsimp only [oR, oM, oN, oG, oH, oF, oL, oK, oI, oS, oZ, oD]
 simp [rulX, chkM, Option.bind_some, fnD, F.d, toIdx, faB, loadB, storeB, over, partF, partD, mapO, D.cells, fillB, wrT, frzArgs, mapFr, roMarks, wrOk, O.res, opv, okF, okD, okHd, hd8, Function.comp_def, Nat.blt_eq, F.dL, Option.bind_eq_bind, st0, tmOf]
 refine wpLoop (fun k s => ∃ n, n ≤ l.length ∧ k = l.length - n ∧ s.tm.get 0 = some (.f (slc 4 (l.map rlF))) ∧ s.tm.get 1 = some (.f (.s x)) ∧ s.tm.get 5 = some (.f (.i .i64 n)) ∧ ∀ r ∈ l.take n, r.nm ≠ x) ?_ l.length _ ⟨0, ?_⟩
 ·rintro k s ⟨n, hn, rfl, h0, h1, h5, hA⟩
  by_cases hlt : n < l.length
  ·have hw := wrap_suc n (by omega)
   simp [rulX, chkM, Option.bind_some, fnD, F.d, toIdx, faB, loadB, storeB, over, partF, partD, mapO, D.cells, fillB, wrT, frzArgs, mapFr, roMarks, wrOk, O.res, opv, okF, okD, okHd, hd8, Function.comp_def, Nat.blt_eq, F.dL, Option.bind_eq_bind, h0, h1, h5, hlt, rlF]
   by_cases he : (l[n]).nm = x
   ·rw [fnd_nth l x n hlt hA he]
    simp [rulX, chkM, Option.bind_some, fnD, F.d, toIdx, faB, loadB, storeB, over, partF, partD, mapO, D.cells, fillB, wrT, frzArgs, mapFr, roMarks, wrOk, O.res, opv, okF, okD, okHd, hd8, Function.comp_def, Nat.blt_eq, F.dL, Option.bind_eq_bind, endQ, endP, resD, resV, mapO, wrLow, D.isF, D.isFL, h0, h1, h5, hlt, rlF, he]
   ·simp [rulX, chkM, Option.bind_some, fnD, F.d, toIdx, faB, loadB, storeB, over, partF, partD, mapO, D.cells, fillB, wrT, frzArgs, mapFr, roMarks, wrOk, O.res, opv, okF, okD, okHd, hd8, Function.comp_def, Nat.blt_eq, F.dL, Option.bind_eq_bind, h0, h1, h5, hlt, rlF, he, hw]
    refine ⟨l.length - (n + 1), by omega, n + 1, by omega, rfl, by omega, ?_⟩
    intro r hr
    rw [List.take_add_one, List.getElem?_eq_getElem hlt] at hr
    rcases List.mem_append.1 hr with h' | h'
    ·exact hA _ h'
    ·simp at h'; rw [h']; exact he
  ·have hnl : n = l.length := by omega
   subst hnl
   rw [fnd_none l x (by simpa using hA)]
   simp [rulX, chkM, Option.bind_some, fnD, F.d, toIdx, faB, loadB, storeB, over, partF, partD, mapO, D.cells, fillB, wrT, frzArgs, mapFr, roMarks, wrOk, O.res, opv, okF, okD, okHd, hd8, Function.comp_def, Nat.blt_eq, F.dL, Option.bind_eq_bind, endQ, endP, resD, resV, mapO, wrLow, D.isF, D.isFL, h0, h1, h5, slc_nil]
 ·refine ⟨Nat.zero_le _, rfl, ?_⟩
  simp [rulX, chkM, Option.bind_some, fnD, F.d, toIdx, faB, loadB, storeB, over, partF, partD, mapO, D.cells, fillB, wrT, frzArgs, mapFr, roMarks, wrOk, O.res, opv, okF, okD, okHd, hd8, Function.comp_def, Nat.blt_eq, F.dL, Option.bind_eq_bind]
def Pc (p : List F) : Prop := ∃ a b c, p = [a, b, c] ∧ a.d = .f a ∧ b.d = .f b ∧ c.d = .f c
theorem bnd_len (e : Env) (t : Trm) (v : Int) : (bnd e t v).1.length ≤ e.length + 1 := by
 unfold bnd
 cases gtm e t with
 | some w => simp
 | none => cases t <;> simp
def I45 (e : Env) (a : Atm) (vs : List Int) (p0 p1 p2 : F) (k : Nat) (s : St) : Prop :=
  ∃ n e' ok, n ≤ a.ts.length ∧ k = a.ts.length - n ∧ s.tm.get 3 = some (.ptr 0 2 0 0) ∧ s.tm.get 4 = some (.ptr 1 3 0 0) ∧ s.tm.get 5 = some (.ptr 2 4 0 0) ∧ s.tm.get 6 = some (.ptr 3 2 0 0) ∧
      s.tm.get 8 = some (.f (.b ok)) ∧ s.tm.get 9 = some (.f (.i .i64 (n : Nat))) ∧ s.h.get 0 = some (.arr 2 0 [[.f (strsF (e'.map (·.1))), .f (valsF (e'.map (·.2)))]]) ∧
      s.h.get 1 = some (.arr 3 0 [[.f (.s a.r), .f (.b a.neg), .f (slc 4 (a.ts.map tmF))]]) ∧ s.h.get 2 = some (.arr 4 0 [[.f (valsF vs), .f p0, .f p1, .f p2]]) ∧ s.h.get 3 = some (.arr 2 0 [[.f .nils, .f .nils]]) ∧ 4 ≤ s.c ∧
      e'.length ≤ e.length + n ∧ fitsL e a.ts vs = (if ok = true then fitsL e' (a.ts.drop n) (vs.drop n) else (e', false))
theorem ans45 (e : Env) (a : Atm) (t : List Int × List F) (ht : ∀ x ∈ a.ts, TmOk x) (hp : Pc t.2) (hl : e.length + a.ts.length < 900) :
  Ans pr 45 [.ag (envF e), .ag (atF a), .ag (tuF t)] (.tu [.ag (envF (fits e a t.1).1), .b (fits e a t.1).2]) := by
 obtain ⟨vs, p⟩ := t
 obtain ⟨p0, p1, p2, rfl, d0, d1, d2⟩ := hp
 refine ansP fn45 ?_
 unfold g45
 dsimp only [oR, oM, oN, oG, oH, oF, oL, oK, oI, oS, oZ, oD]
 simp only [tuF]
 by_cases hlen : a.ts.length = vs.length
 ·have hfe : fits e a vs = fitsL e a.ts vs := by simp [fits, hlen]
  rw [hfe]
  have hlen' : ((a.ts.length : Int) != (vs.length : Int)) = false := by simp [hlen]
  simp [rulX, chkM, Option.bind_some, fnD, F.d, toIdx, faB, loadB, storeB, over, partF, partD, mapO, D.cells, fillB, wrT, frzArgs, mapFr, roMarks, wrOk, O.res, opv, okF, okD, okHd, hd8, Function.comp_def, Nat.blt_eq, F.dL, Option.bind_eq_bind, st0, tmOf, envF, atF, strs_d, vals_d, d0, d1, d2, vals_len, vals_ia, hlen]
  refine wpLoop (I45 e a vs p0 p1 p2) ?_ a.ts.length _ ⟨0, e, true, Nat.zero_le _, rfl, ?_⟩
  ·rintro k s ⟨n, e', ok, hn, rfl, h3, h4, h5, h6, h8, h9, g0, g1, g2, g3, hc, hel, hfit⟩
   have c0 : 0 < s.c := by omega
   have c3 : 3 < s.c := by omega
   cases ok with
   | false =>
    simp only [Bool.false_eq_true, if_false] at hfit
    rw [hfit]
    by_cases hlt : n < a.ts.length
    ·simp [rulX, chkM, Option.bind_some, fnD, F.d, toIdx, faB, loadB, storeB, over, partF, partD, mapO, D.cells, fillB, wrT, frzArgs, mapFr, roMarks, wrOk, O.res, opv, okF, okD, okHd, hd8, Function.comp_def, Nat.blt_eq, F.dL, Option.bind_eq_bind, endQ, endP, resD, resV, mapO, wrLow, D.isF, D.isFL, h3, h4, h5, h6, h8, h9, g0, g1, g2, g3, hlt, c3, envF]
     try (intro hle; omega)
    ·simp [rulX, chkM, Option.bind_some, fnD, F.d, toIdx, faB, loadB, storeB, over, partF, partD, mapO, D.cells, fillB, wrT, frzArgs, mapFr, roMarks, wrOk, O.res, opv, okF, okD, okHd, hd8, Function.comp_def, Nat.blt_eq, F.dL, Option.bind_eq_bind, endQ, endP, resD, resV, mapO, wrLow, D.isF, D.isFL, h3, h4, h5, h6, h8, h9, g0, g1, g2, g3, hlt, c3, envF]
   | true =>
    simp only [if_true] at hfit
    by_cases hlt : n < a.ts.length
    ·have hltv : n < vs.length := by omega
     have hw := wrap_suc n (by omega)
     have h79 := ans79 e' (a.ts[n]) (vs[n]) (ht _ (List.getElem_mem hlt)) (by omega)
     obtain ⟨s0, k0, n0, z0, hT⟩ := tmF_cells (a.ts[n])
     rw [hT] at h79
     simp [rulX, chkM, Option.bind_some, fnD, F.d, toIdx, faB, loadB, storeB, over, partF, partD, mapO, D.cells, fillB, wrT, frzArgs, mapFr, roMarks, wrOk, O.res, opv, okF, okD, okHd, hd8, Function.comp_def, Nat.blt_eq, F.dL, Option.bind_eq_bind, h3, h4, h5, h6, h8, h9, g0, g1, g2, g3, hlt]
     refine c_dreg ?_
     simp [rulX, chkM, Option.bind_some, fnD, F.d, toIdx, faB, loadB, storeB, over, partF, partD, mapO, D.cells, fillB, wrT, frzArgs, mapFr, roMarks, wrOk, O.res, opv, okF, okD, okHd, hd8, Function.comp_def, Nat.blt_eq, F.dL, Option.bind_eq_bind, h3, h4, h5, h6, h8, h9, g0, g1, g2, g3, hlt, hltv, hT, vals_ia, vF]
     refine ⟨_, by simpa [envF, vF] using h79, ?_⟩
     simp [rulX, chkM, Option.bind_some, fnD, F.d, toIdx, faB, loadB, storeB, over, partF, partD, mapO, D.cells, fillB, wrT, frzArgs, mapFr, roMarks, wrOk, O.res, opv, okF, okD, okHd, hd8, Function.comp_def, Nat.blt_eq, F.dL, Option.bind_eq_bind, h3, h4, h5, h6, h8, h9, g0, g1, g2, g3, hlt, hltv, envF, strs_d, vals_d, c0, hw]
     refine ⟨a.ts.length - (n + 1), by omega, n + 1, (bnd e' (a.ts[n]) (vs[n])).1, (bnd e' (a.ts[n]) (vs[n])).2, by omega, rfl, ?_, ?_, ?_, ?_, ?_, ?_, ?_, ?_, ?_, ?_, ?_, ?_, ?_⟩
     any_goals (simp [rulX, chkM, Option.bind_some, fnD, F.d, toIdx, faB, loadB, storeB, over, partF, partD, mapO, D.cells, fillB, wrT, frzArgs, mapFr, roMarks, wrOk, O.res, opv, okF, okD, okHd, hd8, Function.comp_def, Nat.blt_eq, F.dL, Option.bind_eq_bind, h3, h4, h5, h6, h8, h9, g0, g1, g2, g3, hw]; done)
     ·have := bnd_len e' (a.ts[n]) (vs[n]); omega
     ·rw [hfit, List.drop_eq_getElem_cons hlt, List.drop_eq_getElem_cons hltv]
      simp only [fitsL]
      split
      ·rfl
      ·rename_i hb
       have : (bnd e' a.ts[n] vs[n]).2 = false := by simpa using hb
       rw [← this]
    ·have hnl : n = a.ts.length := by omega
     subst hnl
     have : fitsL e a.ts vs = (e', true) := by rw [hfit]; simp [hlen, fitsL]
     rw [this]
     simp [rulX, chkM, Option.bind_some, fnD, F.d, toIdx, faB, loadB, storeB, over, partF, partD, mapO, D.cells, fillB, wrT, frzArgs, mapFr, roMarks, wrOk, O.res, opv, okF, okD, okHd, hd8, Function.comp_def, Nat.blt_eq, F.dL, Option.bind_eq_bind, endQ, endP, resD, resV, mapO, wrLow, D.isF, D.isFL, h3, h4, h5, h6, h8, h9, g0, g1, g2, g3, c3, envF]
  ·simp [rulX, chkM, Option.bind_some, fnD, F.d, toIdx, faB, loadB, storeB, over, partF, partD, mapO, D.cells, fillB, wrT, frzArgs, mapFr, roMarks, wrOk, O.res, opv, okF, okD, okHd, hd8, Function.comp_def, Nat.blt_eq, F.dL, Option.bind_eq_bind]
 ·have hfe : fits e a vs = (e, false) := by simp [fits, hlen]
  rw [hfe]
  have hi : ¬ ((a.ts.length : Int) = (vs.length : Int)) := by omega
  simp [rulX, chkM, Option.bind_some, fnD, F.d, toIdx, faB, loadB, storeB, over, partF, partD, mapO, D.cells, fillB, wrT, frzArgs, mapFr, roMarks, wrOk, O.res, opv, okF, okD, okHd, hd8, Function.comp_def, Nat.blt_eq, F.dL, Option.bind_eq_bind, endQ, endP, resD, resV, mapO, wrLow, D.isF, D.isFL, st0, tmOf, envF, atF, strs_d, vals_d, d0, d1, d2, vals_len, vals_ia, hlen, hi]
end Go.Proofs.YtffjpakgkecheaaGreat
