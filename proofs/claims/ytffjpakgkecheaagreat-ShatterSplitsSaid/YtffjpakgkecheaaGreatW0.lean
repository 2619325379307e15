/- What the reference's small functions answer: comparison of values, the value of a term, binding a term. -/
import Derived.Test.YtffjpakgkecheaaGreatShX
import Derived.Test.YtffjpakgkecheaaGreatShB
import Derived.Test.YtffjpakgkecheaaGreatPr
import Derived.KernelRfl
import Derived.IntWalk
set_option linter.all false
namespace Go.Proofs.YtffjpakgkecheaaGreat
open Go Go.Vse Go.Vse.Sm
set_option maxRecDepth 100000
set_option maxHeartbeats 4000000
set_option linter.unusedSimpArgs false
theorem fn46 : pr.fn 46 = some g46 := by kernel_rfl
theorem fn42 : pr.fn 42 = some g42 := by kernel_rfl
theorem fn79 : pr.fn 79 = some g79 := by kernel_rfl
theorem fn45 : pr.fn 45 = some g45 := by kernel_rfl
theorem fn44 : pr.fn 44 = some g44 := by kernel_rfl
theorem fn78 : pr.fn 78 = some g78 := by kernel_rfl
theorem wrap_i64 (n : Int) (h : 0 ≤ n) (h2 : n < 9223372036854775808) : IntKind.i64.wrap n = n := IntWalk.i64_in n (by omega)
theorem wrap_suc (n : Nat) (h : n < 1000000) : IntKind.i64.wrap ((n : Int) + 1) = ((n + 1 : Nat) : Int) := wrap_i64 _ (by omega) (by omega)
def cmp3 (a b : Int) : Int := if a = b then 0 else if a < b then -1 else 1
theorem ans46 (a b : Int) : Ans pr 46 [.ag (vF a), .ag (vF b)] (.i .i64 (cmp3 a b)) := by
 refine ansP fn46 ?_
 unfold g46 cmp3
 dsimp only [oR, oM, oN, oG, oH, oF, oL, oK, oI, oS, oZ, oD]
 have hl : Go.Op.bytesLess [] [] = false := rfl
 by_cases h1 : a = b
 ·subst h1
  simp [rulX, chkM, Option.bind_some, fnD, F.d, toIdx, faB, loadB, storeB, over, partF, partD, mapO, D.cells, fillB, wrT, frzArgs, mapFr, roMarks, wrOk, O.res, opv, okF, okD, okHd, hd8, Function.comp_def, Nat.blt_eq, F.dL, Option.bind_eq_bind, endQ, endP, resD, resV, mapO, wrLow, D.isF, D.isFL, st0, tmOf, vF, hl]
 ·by_cases h2 : a < b
  ·simp [rulX, chkM, Option.bind_some, fnD, F.d, toIdx, faB, loadB, storeB, over, partF, partD, mapO, D.cells, fillB, wrT, frzArgs, mapFr, roMarks, wrOk, O.res, opv, okF, okD, okHd, hd8, Function.comp_def, Nat.blt_eq, F.dL, Option.bind_eq_bind, endQ, endP, resD, resV, mapO, wrLow, D.isF, D.isFL, st0, tmOf, vF, hl, h1, h2]
  ·simp [rulX, chkM, Option.bind_some, fnD, F.d, toIdx, faB, loadB, storeB, over, partF, partD, mapO, D.cells, fillB, wrT, frzArgs, mapFr, roMarks, wrOk, O.res, opv, okF, okD, okHd, hd8, Function.comp_def, Nat.blt_eq, F.dL, Option.bind_eq_bind, endQ, endP, resD, resV, mapO, wrLow, D.isF, D.isFL, st0, tmOf, vF, hl, h1, h2]
theorem vF_len (n : Int) : (vF n).length = 3 := rfl
def getV (e : Env) (t : Trm) : List F := match gtm e t with
 | some v => vF v
 | none => zF
theorem lk_nth : ∀ (e : Env) (s : Str) (n : Nat) (hn : n < e.length), (∀ p ∈ e.take n, p.1 ≠ s) → (e[n]).1 = s → lk e s = some (e[n]).2
 | [], _, _, hn, _, _ => by simp at hn
 | p :: e, s, 0, _, _, h => by obtain ⟨a, b⟩ := p; simp at h; simp [lk, h]
 | p :: e, s, n + 1, hn, h, h2 => by
  obtain ⟨a, b⟩ := p
  have : a ≠ s := h (a, b) (by simp)
  simp only [lk, if_neg this]
  simpa using lk_nth e s n (by simpa using hn) (fun p hp => h p (by simp [hp])) (by simpa using h2)
theorem lk_none : ∀ (e : Env) (s : Str), (∀ p ∈ e, p.1 ≠ s) → lk e s = none
 | [], _, _ => rfl
 | p :: e, s, h => by
  obtain ⟨a, b⟩ := p
  have : a ≠ s := h (a, b) (by simp)
  simp only [lk, if_neg this]
  exact lk_none e s fun p hp => h p (by simp [hp])
theorem ans42 (e : Env) (t : Trm) (ht : TmOk t) (hl : e.length < 1000) : Ans pr 42 [.ag (envF e), .ag (tmF t)] (.tu [.ag (getV e t), .b (gtm e t).isSome]) := by
  refine ansP fn42 ?_
  unfold g42
  dsimp only [oR, oM, oN, oG, oH, oF, oL, oK, oI, oS, oZ, oD]
  cases t with
  | cst n =>
    simp [rulX, chkM, Option.bind_some, fnD, F.d, toIdx, faB, loadB, storeB, over, partF, partD, mapO, D.cells, fillB, wrT, frzArgs, mapFr, roMarks, wrOk, O.res, opv, okF, okD, okHd, hd8, Function.comp_def, Nat.blt_eq, F.dL, Option.bind_eq_bind, endQ, endP, resD, resV, mapO, wrLow, D.isF, D.isFL, st0, tmOf, envF, strsF, valsF, tmF, getV, gtm, vF]
  | var x =>
    simp only [TmOk] at ht
    simp [rulX, chkM, Option.bind_some, fnD, F.d, toIdx, faB, loadB, storeB, over, partF, partD, mapO, D.cells, fillB, wrT, frzArgs, mapFr, roMarks, wrOk, O.res, opv, okF, okD, okHd, hd8, Function.comp_def, Nat.blt_eq, F.dL, Option.bind_eq_bind, st0, tmOf, envF, strsF, valsF, tmF, ht]
    refine wpLoop (fun k s => ∃ n, n ≤ e.length ∧ k = e.length - n ∧ s.tm.get 2 = some (.ptr 0 2 0 0) ∧ s.tm.get 3 = some (.ptr 1 4 0 0) ∧ s.tm.get 4 = some (.ptr 2 3 0 0) ∧ s.tm.get 6 = some (.f (.i .i64 n)) ∧
      s.h.get 0 = some (.arr 2 0 [[.f (strsF (e.map (·.1))), .f (valsF (e.map (·.2)))]]) ∧ s.h.get 1 = some (.arr 4 0 [[.f (.s x), .f (.i .i64 0), .f (.i .i64 0), .f (.s [])]]) ∧ s.h.get 2 = some (.arr 3 0 [zF.map D.f]) ∧ 3 ≤ s.c ∧
      ∀ p ∈ e.take n, p.1 ≠ x) ?_ e.length _ ⟨0, ?_⟩
    · rintro k s ⟨n, hn, rfl, h2, h3, h4, h6, g0, g1, g2, hc, hA⟩
      have c2 : 2 < s.c := by omega
      by_cases hlt : n < e.length
      · have hw := wrap_suc n (by omega)
        simp [rulX, chkM, Option.bind_some, fnD, F.d, toIdx, faB, loadB, storeB, over, partF, partD, mapO, D.cells, fillB, wrT, frzArgs, mapFr, roMarks, wrOk, O.res, opv, okF, okD, okHd, hd8, Function.comp_def, Nat.blt_eq, F.dL, Option.bind_eq_bind, h2, h3, h4, h6, g0, g1, g2, strsF, valsF, zF, hlt]
        refine c_dreg ?_
        simp [rulX, chkM, Option.bind_some, fnD, F.d, toIdx, faB, loadB, storeB, over, partF, partD, mapO, D.cells, fillB, wrT, frzArgs, mapFr, roMarks, wrOk, O.res, opv, okF, okD, okHd, hd8, Function.comp_def, Nat.blt_eq, F.dL, Option.bind_eq_bind, h2, h3, h4, h6, g0, g1, g2, strsF, valsF, zF, hlt]
        by_cases he : (e[n]).1 = x
        · have := lk_nth e x n hlt hA he
          simp [rulX, chkM, Option.bind_some, fnD, F.d, toIdx, faB, loadB, storeB, over, partF, partD, mapO, D.cells, fillB, wrT, frzArgs, mapFr, roMarks, wrOk, O.res, opv, okF, okD, okHd, hd8, Function.comp_def, Nat.blt_eq, F.dL, Option.bind_eq_bind, endQ, endP, resD, resV, mapO, wrLow, D.isF, D.isFL, h2, h3, h4, h6, g0, g1, g2, strsF, valsF, zF, hlt, he, vF, this, getV, gtm]
        · simp [rulX, chkM, Option.bind_some, fnD, F.d, toIdx, faB, loadB, storeB, over, partF, partD, mapO, D.cells, fillB, wrT, frzArgs, mapFr, roMarks, wrOk, O.res, opv, okF, okD, okHd, hd8, Function.comp_def, Nat.blt_eq, F.dL, Option.bind_eq_bind, h2, h3, h4, h6, g0, g1, g2, strsF, valsF, zF, hlt, he, hw]
          refine ⟨e.length - (n + 1), by omega, n + 1, by omega, rfl, by omega, ?_⟩
          · intro a b hp
            rw [List.take_add_one, List.getElem?_eq_getElem hlt] at hp
            rcases List.mem_append.1 hp with h' | h'
            · exact hA _ h'
            · simp at h'
              rw [← h'] at he
              exact he
      · have hnl : n = e.length := by omega
        subst hnl
        have := lk_none e x (by simpa using hA)
        simp [rulX, chkM, Option.bind_some, fnD, F.d, toIdx, faB, loadB, storeB, over, partF, partD, mapO, D.cells, fillB, wrT, frzArgs, mapFr, roMarks, wrOk, O.res, opv, okF, okD, okHd, hd8, Function.comp_def, Nat.blt_eq, F.dL, Option.bind_eq_bind, endQ, endP, resD, resV, mapO, wrLow, D.isF, D.isFL, h2, h3, h4, h6, g0, g1, g2, strsF, valsF, zF, this, getV, gtm]
        omega
    · refine ⟨Nat.zero_le _, rfl, ?_⟩
      simp [rulX, chkM, Option.bind_some, fnD, F.d, toIdx, faB, loadB, storeB, over, partF, partD, mapO, D.cells, fillB, wrT, frzArgs, mapFr, roMarks, wrOk, O.res, opv, okF, okD, okHd, hd8, Function.comp_def, Nat.blt_eq, F.dL, Option.bind_eq_bind, zF, strsF, valsF]
theorem envF_app (e : Env) (s : Str) (v : Int) : envF (e ++ [(s, v)]) = [.sl 1 (e.map (fun p => [F.s p.1]) ++ [[.s s]]), .sl 3 (e.map (fun p => vF p.2) ++ [vF v])] := by
 unfold envF strsF valsF
 simp only [List.map_append, List.map_map, List.map_cons, List.map_nil]
 rw [← sl_of_slc (by simp), ← sl_of_slc (by simp)]
 rfl
theorem tmF_cells (t : Trm) : ∃ s k n z, tmF t = [.s s, .i .i64 k, .i .i64 n, .s z] := by
 cases t with
 | var s => exact ⟨s, 0, 0, [], rfl⟩
 | cst n => exact ⟨[], 1, n, [], rfl⟩
theorem cmp3_zero (a b : Int) : (cmp3 a b == 0) = decide (a = b) := by
 unfold cmp3
 by_cases h : a = b
 ·simp [h]
 ·simp only [h, if_false, decide_false]
  split <;> rfl
theorem strs_d (l : List Str) : (strsF l).d = .f (strsF l) := slc_d ..
theorem vals_d (l : List Int) : (valsF l).d = .f (valsF l) := slc_d ..
theorem strs_len (l : List Str) : lenB (.f (strsF l)) = some l.length := by simp [strsF, slc_len]
theorem vals_len (l : List Int) : lenB (.f (valsF l)) = some l.length := by simp [valsF, slc_len]
theorem strs_ia (l : List Str) (n : Nat) : iaB 1 (.f (strsF l)) n = (l[n]?).map fun s => D.fptr [.s s] := by simp [strsF, slc_ia, Function.comp_def]
theorem vals_ia (l : List Int) (n : Nat) : iaB 3 (.f (valsF l)) n = (l[n]?).map fun v => D.fptr (vF v) := by simp [valsF, slc_ia, Function.comp_def]
theorem elems_strs (h : Nat → Option Ob) (l : List Str) : elemsOf 1 h (.f (strsF l)) = some (l.map fun s => [.f (.s s)], []) := by
 cases l with
 | nil => rfl
 | cons a l => simp [strsF, slc, elemsOf, List.map_map, Function.comp_def, F.dL, F.d]
theorem elems_vals (h : Nat → Option Ob) (l : List Int) : elemsOf 3 h (.f (valsF l)) = some (l.map fun v => (vF v).map D.f, []) := by
 cases l with
 | nil => rfl
 | cons a l => simp [valsF, slc, elemsOf, List.map_map, Function.comp_def, vF, F.dL, F.d]
theorem ans79 (e : Env) (t : Trm) (v : Int) (ht : TmOk t) (hl : e.length < 1000) : Ans pr 79 [.ag (envF e), .ag (tmF t), .ag (vF v)] (.tu [.ag (envF (bnd e t v).1), .b (bnd e t v).2]) := by
 have h42 := ans42 e t ht hl
 refine ansP fn79 ?_
 unfold g79
 dsimp only [oR, oM, oN, oG, oH, oF, oL, oK, oI, oS, oZ, oD]
 obtain ⟨s0, k0, n0, z0, hT⟩ := tmF_cells t
 rw [hT] at h42 ⊢
 cases hg : gtm e t with
 | some w =>
  simp only [getV, hg] at h42
  have h46 := ans46 v w
  simp [rulX, chkM, Option.bind_some, fnD, F.d, toIdx, faB, loadB, storeB, over, partF, partD, mapO, D.cells, fillB, wrT, frzArgs, mapFr, roMarks, wrOk, O.res, opv, okF, okD, okHd, hd8, Function.comp_def, Nat.blt_eq, F.dL, Option.bind_eq_bind, st0, tmOf, envF, strs_d, vals_d, vF]
  refine ⟨_, by simpa [envF, vF] using h42, ?_⟩
  simp [rulX, chkM, Option.bind_some, fnD, F.d, toIdx, faB, loadB, storeB, over, partF, partD, mapO, D.cells, fillB, wrT, frzArgs, mapFr, roMarks, wrOk, O.res, opv, okF, okD, okHd, hd8, Function.comp_def, Nat.blt_eq, F.dL, Option.bind_eq_bind, st0, tmOf, envF, strs_d, vals_d, vF]
  refine c_dreg ?_
  simp [rulX, chkM, Option.bind_some, fnD, F.d, toIdx, faB, loadB, storeB, over, partF, partD, mapO, D.cells, fillB, wrT, frzArgs, mapFr, roMarks, wrOk, O.res, opv, okF, okD, okHd, hd8, Function.comp_def, Nat.blt_eq, F.dL, Option.bind_eq_bind, st0, tmOf, envF, strs_d, vals_d, vF]
  refine ⟨_, by simpa [vF] using h46, ?_⟩
  simp [rulX, chkM, Option.bind_some, fnD, F.d, toIdx, faB, loadB, storeB, over, partF, partD, mapO, D.cells, fillB, wrT, frzArgs, mapFr, roMarks, wrOk, O.res, opv, okF, okD, okHd, hd8, Function.comp_def, Nat.blt_eq, F.dL, Option.bind_eq_bind, endQ, endP, resD, resV, mapO, wrLow, D.isF, D.isFL, st0, tmOf, envF, strs_d, vals_d, vF, bnd, hg]
  exact cmp3_zero v w
 | none =>
  cases t with
  | cst n => simp [gtm] at hg
  | var x =>
   simp only [tmF, List.cons.injEq, F.s.injEq, F.i.injEq, true_and] at hT
   obtain ⟨rfl, rfl, rfl, rfl, _⟩ := hT
   simp only [getV, hg] at h42
   have hbnd : bnd e (.var x) v = (e ++ [(x, v)], true) := by unfold bnd; rw [hg]
   rw [hbnd, envF_app]
   simp [rulX, chkM, Option.bind_some, fnD, F.d, toIdx, faB, loadB, storeB, over, partF, partD, mapO, D.cells, fillB, wrT, frzArgs, mapFr, roMarks, wrOk, O.res, opv, okF, okD, okHd, hd8, Function.comp_def, Nat.blt_eq, F.dL, Option.bind_eq_bind, st0, tmOf, envF, strs_d, vals_d, vF]
   refine ⟨_, by simpa [envF, zF] using h42, ?_⟩
   simp [rulX, chkM, Option.bind_some, fnD, F.d, toIdx, faB, loadB, storeB, over, partF, partD, mapO, D.cells, fillB, wrT, frzArgs, mapFr, roMarks, wrOk, O.res, opv, okF, okD, okHd, hd8, Function.comp_def, Nat.blt_eq, F.dL, Option.bind_eq_bind, st0, tmOf, envF, strs_d, vals_d, vF, zF]
   refine c_dreg ?_
   simp [rulX, chkM, Option.bind_some, fnD, F.d, toIdx, faB, loadB, storeB, over, partF, partD, mapO, D.cells, fillB, wrT, frzArgs, mapFr, roMarks, wrOk, O.res, opv, okF, okD, okHd, hd8, Function.comp_def, Nat.blt_eq, F.dL, Option.bind_eq_bind, st0, tmOf, envF, strs_d, vals_d, vF, elems_strs, elems_vals, fillE]
   cases e with
   | nil =>
    simp [rulX, chkM, Option.bind_some, fnD, F.d, toIdx, faB, loadB, storeB, over, partF, partD, mapO, D.cells, fillB, wrT, frzArgs, mapFr, roMarks, wrOk, O.res, opv, okF, okD, okHd, hd8, Function.comp_def, Nat.blt_eq, F.dL, Option.bind_eq_bind, app_none, fzRows, fzCells, elemsOf]
    rw [app_ex (ro := 0) (els := []) (by simp [T.get_set]) (by simp) (by simp [maxBytes]) (by simp [maxBytes])]
    simp [rulX, chkM, Option.bind_some, fnD, F.d, toIdx, faB, loadB, storeB, over, partF, partD, mapO, D.cells, fillB, wrT, frzArgs, mapFr, roMarks, wrOk, O.res, opv, okF, okD, okHd, hd8, Function.comp_def, Nat.blt_eq, F.dL, Option.bind_eq_bind, app_none, fzRows, fzCells, fillE, elemsOf]
    rw [app_ex (ro := 0) (els := []) (by simp [T.get_set]) (by simp) (by simp [maxBytes]) (by simp [maxBytes])]
    simp [rulX, chkM, Option.bind_some, fnD, F.d, toIdx, faB, loadB, storeB, over, partF, partD, mapO, D.cells, fillB, wrT, frzArgs, mapFr, roMarks, wrOk, O.res, opv, okF, okD, okHd, hd8, Function.comp_def, Nat.blt_eq, F.dL, Option.bind_eq_bind, endQ, endP, resD, resV, mapO, wrLow, D.isF, D.isFL, vF]
   | cons p e =>
    simp at hl
    simp (maxSteps := 2000000) (disch := omega) [rulX, chkM, Option.bind_some, fnD, F.d, toIdx, faB, loadB, storeB, over, partF, partD, mapO, D.cells, fillB, wrT, frzArgs, mapFr, roMarks, wrOk, O.res, opv, okF, okD, okHd, hd8, Function.comp_def, Nat.blt_eq, F.dL, Option.bind_eq_bind, endQ, endP, resD, resV, mapO, wrLow, D.isF, D.isFL, fzRows, fzCells, fillE, elemsOf, appB_nils, appB_sl, leMax, leF, vF]
    simp [rulX, chkM, Option.bind_some, fnD, F.d, toIdx, faB, loadB, storeB, over, partF, partD, mapO, D.cells, fillB, wrT, frzArgs, mapFr, roMarks, wrOk, O.res, opv, okF, okD, okHd, hd8, Function.comp_def, Nat.blt_eq, F.dL, Option.bind_eq_bind, endQ, endP, resD, resV, mapO, wrLow, D.isF, D.isFL, vF, List.take_of_length_le]
end Go.Proofs.YtffjpakgkecheaaGreat
