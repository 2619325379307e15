/- Comparison of rows. -/
import Derived.Test.YtffjpakgkecheaaGreatShX
import Derived.Test.YtffjpakgkecheaaGreatW0
set_option linter.all false
namespace Go.Proofs.YtffjpakgkecheaaGreat
open Go Go.Vse Go.Vse.Sm
set_option maxRecDepth 100000
set_option maxHeartbeats 4000000
set_option linter.unusedSimpArgs false
theorem fn25 : pr.fn 25 = some g25 := by kernel_rfl
theorem fn26 : pr.fn 26 = some g26 := by kernel_rfl
theorem fn11 : pr.fn 11 = some g11 := by kernel_rfl
def cmpL : List Int → List Int → Int
 | [], [] => 0
 | [], _ :: _ => -1
 | _ :: _, [] => 1
 | x :: a, y :: b => if x = y then cmpL a b else cmp3 x y
def I25 (a b : List Int) (k : Nat) (s : St) : Prop :=
 ∃ n : Nat, n ≤ a.length ∧ n ≤ b.length ∧ k = a.length - n ∧ s.tm.get 0 = some (.f (valsF a)) ∧ s.tm.get 1 = some (.f (valsF b)) ∧ s.tm.get 5 = some (.f (.i .i64 n)) ∧ cmpL a b = cmpL (a.drop n) (b.drop n)
theorem ans25 (a b : List Int) (hl : a.length < 1000) : Ans pr 25 [valsF a, valsF b] (.i .i64 (cmpL a b)) := by
 refine ansP fn25 ?_
 unfold g25
 dsimp only [oR, oM, oN, oG, oH, oF, oL, oK, oI, oS, oZ, oD]
 simp [rulX, chkM, Option.bind_some, fnD, F.d, toIdx, faB, loadB, storeB, over, partF, partD, mapO, D.cells, fillB, wrT, frzArgs, mapFr, roMarks, wrOk, O.res, opv, okF, okD, okHd, hd8, Function.comp_def, Nat.blt_eq, F.dL, Option.bind_eq_bind, st0, tmOf, vals_d]
 refine wpLoop (I25 a b) ?_ a.length _ ⟨0, Nat.zero_le _, Nat.zero_le _, rfl, ?_⟩
 ·rintro k s ⟨n, hn, hn', rfl, h0, h1, h5, hA⟩
  by_cases hlt : n < a.length
  ·by_cases hlt' : n < b.length
   ·have hw := wrap_suc n (by omega)
    have h46 := ans46 (a[n]) (b[n])
    rw [List.drop_eq_getElem_cons hlt, List.drop_eq_getElem_cons hlt'] at hA
    simp only [cmpL] at hA
    simp [rulX, chkM, Option.bind_some, fnD, F.d, toIdx, faB, loadB, storeB, over, partF, partD, mapO, D.cells, fillB, wrT, frzArgs, mapFr, roMarks, wrOk, O.res, opv, okF, okD, okHd, hd8, Function.comp_def, Nat.blt_eq, F.dL, Option.bind_eq_bind, h0, h1, h5, hlt, hlt', vals_len]
    refine c_dreg ?_
    simp [rulX, chkM, Option.bind_some, fnD, F.d, toIdx, faB, loadB, storeB, over, partF, partD, mapO, D.cells, fillB, wrT, frzArgs, mapFr, roMarks, wrOk, O.res, opv, okF, okD, okHd, hd8, Function.comp_def, Nat.blt_eq, F.dL, Option.bind_eq_bind, h0, h1, h5, hlt, hlt', vals_ia, vF]
    refine ⟨_, by simpa [vF] using h46, ?_⟩
    by_cases he : a[n] = b[n]
    ·have hz : cmp3 (a[n]) (b[n]) = 0 := by simp [cmp3, he]
     rw [if_pos he] at hA
     simp [rulX, chkM, Option.bind_some, fnD, F.d, toIdx, faB, loadB, storeB, over, partF, partD, mapO, D.cells, fillB, wrT, frzArgs, mapFr, roMarks, wrOk, O.res, opv, okF, okD, okHd, hd8, Function.comp_def, Nat.blt_eq, F.dL, Option.bind_eq_bind, h0, h1, h5, hlt, hlt', hz, hw]
     refine ⟨a.length - (n + 1), by omega, n + 1, by omega, by omega, rfl, ?_, ?_, ?_, hA⟩
     all_goals simp [rulX, chkM, Option.bind_some, fnD, F.d, toIdx, faB, loadB, storeB, over, partF, partD, mapO, D.cells, fillB, wrT, frzArgs, mapFr, roMarks, wrOk, O.res, opv, okF, okD, okHd, hd8, Function.comp_def, Nat.blt_eq, F.dL, Option.bind_eq_bind, h0, h1]
    ·have hz : cmp3 (a[n]) (b[n]) ≠ 0 := by
      unfold cmp3; rw [if_neg he]; split <;> decide
     rw [if_neg he] at hA
     simp [rulX, chkM, Option.bind_some, fnD, F.d, toIdx, faB, loadB, storeB, over, partF, partD, mapO, D.cells, fillB, wrT, frzArgs, mapFr, roMarks, wrOk, O.res, opv, okF, okD, okHd, hd8, Function.comp_def, Nat.blt_eq, F.dL, Option.bind_eq_bind, endQ, endP, resD, resV, mapO, wrLow, D.isF, D.isFL, h0, h1, h5, hlt, hlt', hz, hA]
   ·have hnl : n = b.length := by omega
    have hd : b.drop n = [] := List.drop_of_length_le (by omega)
    rw [hd, List.drop_eq_getElem_cons hlt] at hA
    simp only [cmpL] at hA
    have q1 : ¬ (a.length < b.length) := by omega
    have q2 : b.length < a.length := by omega
    simp [rulX, chkM, Option.bind_some, fnD, F.d, toIdx, faB, loadB, storeB, over, partF, partD, mapO, D.cells, fillB, wrT, frzArgs, mapFr, roMarks, wrOk, O.res, opv, okF, okD, okHd, hd8, Function.comp_def, Nat.blt_eq, F.dL, Option.bind_eq_bind, endQ, endP, resD, resV, mapO, wrLow, D.isF, D.isFL, h0, h1, h5, hlt, hlt', vals_len, hA, q1, q2]
    omega
  ·have hd : a.drop n = [] := List.drop_of_length_le (by omega)
   rw [hd] at hA
   by_cases hlt' : n < b.length
   ·rw [List.drop_eq_getElem_cons hlt'] at hA
    simp only [cmpL] at hA
    have q1 : a.length < b.length := by omega
    simp [rulX, chkM, Option.bind_some, fnD, F.d, toIdx, faB, loadB, storeB, over, partF, partD, mapO, D.cells, fillB, wrT, frzArgs, mapFr, roMarks, wrOk, O.res, opv, okF, okD, okHd, hd8, Function.comp_def, Nat.blt_eq, F.dL, Option.bind_eq_bind, endQ, endP, resD, resV, mapO, wrLow, D.isF, D.isFL, h0, h1, h5, hlt, hlt', vals_len, hA, q1]
   ·rw [List.drop_of_length_le (l := b) (by omega)] at hA
    simp only [cmpL] at hA
    have q1 : ¬ (a.length < b.length) := by omega
    have q2 : ¬ (b.length < a.length) := by omega
    simp [rulX, chkM, Option.bind_some, fnD, F.d, toIdx, faB, loadB, storeB, over, partF, partD, mapO, D.cells, fillB, wrT, frzArgs, mapFr, roMarks, wrOk, O.res, opv, okF, okD, okHd, hd8, Function.comp_def, Nat.blt_eq, F.dL, Option.bind_eq_bind, endQ, endP, resD, resV, mapO, wrLow, D.isF, D.isFL, h0, h1, h5, hlt, hlt', vals_len, hA, q1, q2]
    omega
 ·simp [rulX, chkM, Option.bind_some, fnD, F.d, toIdx, faB, loadB, storeB, over, partF, partD, mapO, D.cells, fillB, wrT, frzArgs, mapFr, roMarks, wrOk, O.res, opv, okF, okD, okHd, hd8, Function.comp_def, Nat.blt_eq, F.dL, Option.bind_eq_bind]
def I26 (a b : List Int) (k : Nat) (s : St) : Prop :=
 ∃ n : Nat, n ≤ a.length ∧ k = a.length - n ∧ s.tm.get 0 = some (.f (valsF a)) ∧ s.tm.get 1 = some (.f (valsF b)) ∧ s.tm.get 5 = some (.f (.i .i64 n)) ∧ a.take n = b.take n
theorem take_succ_eq {a b : List Int} {n : Nat} (h1 : n < a.length) (h2 : n < b.length) (h : a.take n = b.take n) (he : a[n] = b[n]) : a.take (n + 1) = b.take (n + 1) := by
 rw [List.take_add_one, List.take_add_one, List.getElem?_eq_getElem h1, List.getElem?_eq_getElem h2, h, he]
theorem ans26 (a b : List Int) (hl : a.length < 1000) : Ans pr 26 [valsF a, valsF b] (.b (decide (a = b))) := by
 refine ansP fn26 ?_
 unfold g26
 dsimp only [oR, oM, oN, oG, oH, oF, oL, oK, oI, oS, oZ, oD]
 by_cases hlen : a.length = b.length
 ·simp [rulX, chkM, Option.bind_some, fnD, F.d, toIdx, faB, loadB, storeB, over, partF, partD, mapO, D.cells, fillB, wrT, frzArgs, mapFr, roMarks, wrOk, O.res, opv, okF, okD, okHd, hd8, Function.comp_def, Nat.blt_eq, F.dL, Option.bind_eq_bind, st0, tmOf, vals_d, vals_len, hlen]
  refine wpLoop (I26 a b) ?_ a.length _ ⟨0, Nat.zero_le _, rfl, ?_⟩
  ·rintro k s ⟨n, hn, rfl, h0, h1, h5, hA⟩
   by_cases hlt : n < a.length
   ·have hlt' : n < b.length := by omega
    have hw := wrap_suc n (by omega)
    simp [rulX, chkM, Option.bind_some, fnD, F.d, toIdx, faB, loadB, storeB, over, partF, partD, mapO, D.cells, fillB, wrT, frzArgs, mapFr, roMarks, wrOk, O.res, opv, okF, okD, okHd, hd8, Function.comp_def, Nat.blt_eq, F.dL, Option.bind_eq_bind, h0, h1, h5, hlt, hlt', vals_len]
    refine c_dreg ?_
    by_cases he : a[n] = b[n]
    ·simp [rulX, chkM, Option.bind_some, fnD, F.d, toIdx, faB, loadB, storeB, over, partF, partD, mapO, D.cells, fillB, wrT, frzArgs, mapFr, roMarks, wrOk, O.res, opv, okF, okD, okHd, hd8, Function.comp_def, Nat.blt_eq, F.dL, Option.bind_eq_bind, h0, h1, h5, hlt, hlt', vals_ia, vF, eqCells, he, hw]
     refine ⟨a.length - (n + 1), by omega, n + 1, by omega, rfl, ?_, ?_, ?_, take_succ_eq hlt hlt' hA he⟩
     all_goals simp [rulX, chkM, Option.bind_some, fnD, F.d, toIdx, faB, loadB, storeB, over, partF, partD, mapO, D.cells, fillB, wrT, frzArgs, mapFr, roMarks, wrOk, O.res, opv, okF, okD, okHd, hd8, Function.comp_def, Nat.blt_eq, F.dL, Option.bind_eq_bind, h0, h1]
    ·have hne : a ≠ b := by rintro rfl; exact he rfl
     simp [rulX, chkM, Option.bind_some, fnD, F.d, toIdx, faB, loadB, storeB, over, partF, partD, mapO, D.cells, fillB, wrT, frzArgs, mapFr, roMarks, wrOk, O.res, opv, okF, okD, okHd, hd8, Function.comp_def, Nat.blt_eq, F.dL, Option.bind_eq_bind, endQ, endP, resD, resV, mapO, wrLow, D.isF, D.isFL, h0, h1, h5, hlt, hlt', vals_ia, vF, eqCells, he, hne]
   ·have hnl : n = a.length := by omega
    subst hnl
    have : a = b := by
     rw [List.take_length, hlen, List.take_length] at hA; exact hA
    simp [rulX, chkM, Option.bind_some, fnD, F.d, toIdx, faB, loadB, storeB, over, partF, partD, mapO, D.cells, fillB, wrT, frzArgs, mapFr, roMarks, wrOk, O.res, opv, okF, okD, okHd, hd8, Function.comp_def, Nat.blt_eq, F.dL, Option.bind_eq_bind, endQ, endP, resD, resV, mapO, wrLow, D.isF, D.isFL, h0, h1, h5, vals_len, this]
  ·simp [rulX, chkM, Option.bind_some, fnD, F.d, toIdx, faB, loadB, storeB, over, partF, partD, mapO, D.cells, fillB, wrT, frzArgs, mapFr, roMarks, wrOk, O.res, opv, okF, okD, okHd, hd8, Function.comp_def, Nat.blt_eq, F.dL, Option.bind_eq_bind]
 ·have hne : a ≠ b := by rintro rfl; exact hlen rfl
  have hi : ¬ ((a.length : Int) = (b.length : Int)) := by omega
  simp [rulX, chkM, Option.bind_some, fnD, F.d, toIdx, faB, loadB, storeB, over, partF, partD, mapO, D.cells, fillB, wrT, frzArgs, mapFr, roMarks, wrOk, O.res, opv, okF, okD, okHd, hd8, Function.comp_def, Nat.blt_eq, F.dL, Option.bind_eq_bind, endQ, endP, resD, resV, mapO, wrLow, D.isF, D.isFL, st0, tmOf, vals_d, vals_len, hlen, hi, hne]
theorem rows_d (l : List Int) : (rowsF l).d = .f (rowsF l) := slc_d ..
theorem rows_len (l : List Int) : lenB (.f (rowsF l)) = some l.length := by simp [rowsF, slc_len]
theorem rows_ia (l : List Int) (n : Nat) : iaB 1 (.f (rowsF l)) n = (l[n]?).map fun v => D.fptr [valsF [v]] := by simp [rowsF, slc_ia, Function.comp_def]
def I11 (a b : List Int) (k : Nat) (s : St) : Prop :=
 ∃ n : Nat, n ≤ a.length ∧ k = a.length - n ∧ s.tm.get 0 = some (.f (rowsF a)) ∧ s.tm.get 1 = some (.f (rowsF b)) ∧ s.tm.get 5 = some (.f (.i .i64 n)) ∧ a.take n = b.take n
theorem ans11 (a b : List Int) (hl : a.length < 1000000) : Ans pr 11 [rowsF a, rowsF b] (.b (decide (a = b))) := by
 refine ansP fn11 ?_
 unfold g11
 dsimp only [oR, oM, oN, oG, oH, oF, oL, oK, oI, oS, oZ, oD]
 by_cases hlen : a.length = b.length
 ·simp [rulX, chkM, Option.bind_some, fnD, F.d, toIdx, faB, loadB, storeB, over, partF, partD, mapO, D.cells, fillB, wrT, frzArgs, mapFr, roMarks, wrOk, O.res, opv, okF, okD, okHd, hd8, Function.comp_def, Nat.blt_eq, F.dL, Option.bind_eq_bind, st0, tmOf, rows_d, rows_len, hlen]
  refine wpLoop (I11 a b) ?_ a.length _ ⟨0, Nat.zero_le _, rfl, ?_⟩
  ·rintro k s ⟨n, hn, rfl, h0, h1, h5, hA⟩
   by_cases hlt : n < a.length
   ·have hlt' : n < b.length := by omega
    have hw := wrap_suc n (by omega)
    have h26 := ans26 [a[n]] [b[n]] (by simp)
    simp [rulX, chkM, Option.bind_some, fnD, F.d, toIdx, faB, loadB, storeB, over, partF, partD, mapO, D.cells, fillB, wrT, frzArgs, mapFr, roMarks, wrOk, O.res, opv, okF, okD, okHd, hd8, Function.comp_def, Nat.blt_eq, F.dL, Option.bind_eq_bind, h0, h1, h5, hlt, hlt', rows_len]
    refine c_dreg ?_
    simp [rulX, chkM, Option.bind_some, fnD, F.d, toIdx, faB, loadB, storeB, over, partF, partD, mapO, D.cells, fillB, wrT, frzArgs, mapFr, roMarks, wrOk, O.res, opv, okF, okD, okHd, hd8, Function.comp_def, Nat.blt_eq, F.dL, Option.bind_eq_bind, h0, h1, h5, hlt, hlt', rows_ia]
    refine ⟨_, h26, ?_⟩
    by_cases he : a[n] = b[n]
    ·simp [rulX, chkM, Option.bind_some, fnD, F.d, toIdx, faB, loadB, storeB, over, partF, partD, mapO, D.cells, fillB, wrT, frzArgs, mapFr, roMarks, wrOk, O.res, opv, okF, okD, okHd, hd8, Function.comp_def, Nat.blt_eq, F.dL, Option.bind_eq_bind, h0, h1, h5, hlt, hlt', he, hw]
     refine ⟨a.length - (n + 1), by omega, n + 1, by omega, rfl, ?_, ?_, ?_, take_succ_eq hlt hlt' hA he⟩
     all_goals simp [rulX, chkM, Option.bind_some, fnD, F.d, toIdx, faB, loadB, storeB, over, partF, partD, mapO, D.cells, fillB, wrT, frzArgs, mapFr, roMarks, wrOk, O.res, opv, okF, okD, okHd, hd8, Function.comp_def, Nat.blt_eq, F.dL, Option.bind_eq_bind, h0, h1]
    ·have hne : a ≠ b := by rintro rfl; exact he rfl
     simp [rulX, chkM, Option.bind_some, fnD, F.d, toIdx, faB, loadB, storeB, over, partF, partD, mapO, D.cells, fillB, wrT, frzArgs, mapFr, roMarks, wrOk, O.res, opv, okF, okD, okHd, hd8, Function.comp_def, Nat.blt_eq, F.dL, Option.bind_eq_bind, endQ, endP, resD, resV, mapO, wrLow, D.isF, D.isFL, h0, h1, h5, hlt, hlt', he, hne]
   ·have hnl : n = a.length := by omega
    subst hnl
    have : a = b := by
     rw [List.take_length, hlen, List.take_length] at hA; exact hA
    simp [rulX, chkM, Option.bind_some, fnD, F.d, toIdx, faB, loadB, storeB, over, partF, partD, mapO, D.cells, fillB, wrT, frzArgs, mapFr, roMarks, wrOk, O.res, opv, okF, okD, okHd, hd8, Function.comp_def, Nat.blt_eq, F.dL, Option.bind_eq_bind, endQ, endP, resD, resV, mapO, wrLow, D.isF, D.isFL, h0, h1, h5, rows_len, this]
  ·simp [rulX, chkM, Option.bind_some, fnD, F.d, toIdx, faB, loadB, storeB, over, partF, partD, mapO, D.cells, fillB, wrT, frzArgs, mapFr, roMarks, wrOk, O.res, opv, okF, okD, okHd, hd8, Function.comp_def, Nat.blt_eq, F.dL, Option.bind_eq_bind]
 ·have hne : a ≠ b := by rintro rfl; exact hlen rfl
  have hi : ¬ ((a.length : Int) = (b.length : Int)) := by omega
  simp [rulX, chkM, Option.bind_some, fnD, F.d, toIdx, faB, loadB, storeB, over, partF, partD, mapO, D.cells, fillB, wrT, frzArgs, mapFr, roMarks, wrOk, O.res, opv, okF, okD, okHd, hd8, Function.comp_def, Nat.blt_eq, F.dL, Option.bind_eq_bind, endQ, endP, resD, resV, mapO, wrLow, D.isF, D.isFL, st0, tmOf, rows_d, rows_len, hlen, hi, hne]
end Go.Proofs.YtffjpakgkecheaaGreat
