/- t -/
import Derived.Test.YtffjpakgkecheaaGreatShX
import Derived.Test.YtffjpakgkecheaaGreatW2
import Derived.Test.YtffjpakgkecheaaGreatW1
import Derived.Test.YtffjpakgkecheaaGreatShD
set_option linter.all false
namespace Go.Proofs.YtffjpakgkecheaaGreat
open Go Go.Vse Go.Vse.Sm
set_option maxRecDepth 100000
set_option maxHeartbeats 4000000
set_option linter.unusedSimpArgs false
theorem fn10 : pr.fn 10 = some g10 := by kernel_rfl
def I10 (l : List Int) (v : Int) (k : Nat) (s : St) : Prop :=
 ∃ n : Nat, n ≤ l.length ∧ k = l.length - n ∧ s.tm.get 0 = some (.f (rowsF l)) ∧ s.tm.get 1 = some (.f (valsF [v])) ∧ s.tm.get 5 = some (.f (.i .i64 n)) ∧ s.h = .e ∧ ∀ w ∈ l.take n, w < v
theorem ins_at : ∀ (l : List Int) (v : Int) (n : Nat), n ≤ l.length → (∀ w ∈ l.take n, w < v) → (∀ h : n < l.length, v < l[n]) → ins l v = l.take n ++ v :: l.drop n
 | [], v, n, _, _, _ => by simp [ins]
 | w :: l, v, 0, _, _, h => by
  have := h (by simp)
  simp at this
  have h1 : ¬ w < v := by omega
  have h2 : ¬ w = v := by omega
  simp [ins, h1, h2]
 | w :: l, v, n + 1, hn, h1, h2 => by
  have := h1 w (by simp)
  simp only [ins, this, if_true, List.take_succ_cons, List.drop_succ_cons, List.cons_append, List.cons.injEq, true_and]
  exact ins_at l v n (by simpa using hn) (fun y hy => h1 y (by simp [hy])) (fun h => by have := h2 (by simpa using h); simpa using this)
theorem ins_same : ∀ (l : List Int) (v : Int) (n : Nat) (hn : n < l.length), (∀ w ∈ l.take n, w < v) → l[n] = v → ins l v = l
 | [], v, n, hn, _, _ => by simp at hn
 | w :: l, v, 0, _, _, h => by
  simp at h
  subst h
  simp [ins]
 | w :: l, v, n + 1, hn, h1, h2 => by
  have := h1 w (by simp)
  simp only [ins, this, if_true, List.cons.injEq, true_and]
  exact ins_same l v n (by simpa using hn) (fun y hy => h1 y (by simp [hy])) (by simpa using h2)
theorem cmpL_one (a b : Int) : cmpL [a] [b] = cmp3 a b := by
 simp only [cmpL, cmp3]
 split <;> rfl
theorem rows_cons (w : Int) (l : List Int) : rowsF (w :: l) = .sl 1 ((w :: l).map fun v => [valsF [v]]) := rfl
theorem rowsF_app (a b : List Int) (v : Int) : rowsF (a ++ v :: b) = .sl 1 (a.map (fun v => [valsF [v]]) ++ [valsF [v]] :: b.map fun v => [valsF [v]]) := by
 unfold rowsF
 rw [← sl_of_slc (by simp)]
 simp
theorem q25 (a b : Int) (k : F → Prop) : aB pr 25 [valsF [a], valsF [b]] k ↔ k (.i .i64 (cmp3 a b)) := aB_iff (by rw [← cmpL_one]; exact ans25 [a] [b] (by simp))
theorem cells_v (v : Int) : (D.f (valsF [v])).cells = some [.f (valsF [v])] := rfl
theorem tail10 (l : List Int) (v : Int) (n : Nat) (hn : n ≤ l.length) (hl : l.length < 1000000) (s : St) (h0 : s.tm.get 0 = some (.f (rowsF l))) (h1 : s.tm.get 1 = some (.f (valsF [v]))) (h5 : s.tm.get 5 = some (.f (.i .i64 n))) (hh : s.h = .e) (y : F) (hy : y = rowsF (l.take n ++ v :: l.drop n)) :
    wpC pr (.seq (.reg [⟨(some 36),none,.bsl 1 [.nils] 0 []⟩,⟨(some 37),none,.mv (.t 0)⟩,⟨(some 38),none,.mv (.t 5)⟩,⟨(some 39),none,.slc 1 (.t 37) none (some (.t 38)) none⟩,⟨(some 40),none,.app 1 24 (.t 36) (.t 39)⟩,⟨(some 6),none,.mv (.t 40)⟩])
 (.seq (.dreg [(⟨(some 41),none,.mv (.t 6)⟩,0),(⟨(some 42),none,.mv (.t 1)⟩,1),(⟨(some 45),none,.mv (.t 0)⟩,3),(⟨(some 46),none,.mv (.t 5)⟩,7),(⟨(some 47),none,.slc 1 (.t 45) (some (.t 46)) none none⟩,3),(⟨(some 43),none,.bsf 1 [.nils] 1 [(0,(.t 42))]⟩,29),(⟨(some 44),none,.app 1 24 (.t 41) (.t 43)⟩,28),(⟨(some 48),none,.app 1 24 (.t 44) (.t 47)⟩,0),(⟨(some 4),none,.mv (.t 48)⟩,0)])
 (.ret))) s (endP [Rv.t 4] y) := by
  obtain ⟨x, hx, _, hx2, _, hx3⟩ := slc_part (es := 1) (l.map fun v => [valsF [v]]) 0 n (Nat.zero_le _) (by simpa using hn)
  obtain ⟨z, hz, _, _, hz2, hz3⟩ := slc_part (es := 1) (l.map fun v => [valsF [v]]) n l.length hn (by simp)
  have hx2' := hx2 rfl
  have hz2' := hz2 (by simp)
  rw [rowsF_app] at hy
  unfold rowsF at h0
  simp only [List.drop_zero, Nat.sub_zero] at hx3
  have hlen : (l.map fun v => [valsF [v]]).length - n = ((l.map fun v => [valsF [v]]).drop n).length := by simp
  rw [show l.length = (l.map fun v => [valsF [v]]).length by simp, hlen, List.take_length] at hz3
  rw [← List.map_take] at hx3
  rw [← List.map_drop] at hz3
  have hPn : (l.take n).length = n := by simp; omega
  have hQn : (l.drop n).length < 1000000 := by simp; omega
  generalize l.take n = P at hx3 hy hPn
  generalize l.drop n = Q at hz3 hy hQn
  clear hlen hx2 hz2
  have hnm : n < 1000000 := by omega
  cases P with
  | nil =>
    simp at hPn
    subst hPn
    have hx0 : ∀ h : Nat → Option Ob, sliceB 1 h (D.f (slc 1 (List.map (fun v => [valsF [v]]) l))) none (some (.f (.i .i64 0))) none = some (.f x, []) := hx2'
    have hz0 : ∀ h : Nat → Option Ob, sliceB 1 h (D.f (slc 1 (List.map (fun v => [valsF [v]]) l))) (some (.f (.i .i64 0))) none none = some (.f z, []) := hz2'
    clear hx2' hz2'
    cases Q with
    | nil =>
      simp -implicitDefEqProofs (disch := omega) [cells_v, el_fsl, rulZ, chkM, Option.bind_some, fnD, F.d, toIdx, faB, loadB, storeB, over, partF, partD, mapO, fillB, wrT, frzArgs, mapFr, roMarks, wrOk, O.res, opv, okF, okD, okHd, hd8, Function.comp_def, Nat.blt_eq, F.dL, Option.bind_eq_bind, optO, Option.map_some, h0, h1, h5, hh, hx0, hx, hx3, hz0, hz, hz3, fillE, appB_sl, fzRows, fzCells, leMax, leF, hy]
      refine c_dreg ?_
      simp -implicitDefEqProofs (disch := omega) [cells_v, el_fsl, rulZ, chkM, Option.bind_some, fnD, F.d, toIdx, faB, loadB, storeB, over, partF, partD, mapO, fillB, wrT, frzArgs, mapFr, roMarks, wrOk, O.res, opv, okF, okD, okHd, hd8, Function.comp_def, Nat.blt_eq, F.dL, Option.bind_eq_bind, optO, Option.map_some, h0, h1, h5, hh, hx0, hx, hx3, hz0, hz, hz3, fillE, appB_sl, fzRows, fzCells, leMax, leF, hy]
      simp -implicitDefEqProofs (disch := first | omega | (simp <;> omega)) [endQ, endP, resD, resV, mapO, wrLow, D.isF, D.isFL, rulZ, chkM, Option.bind_some, fnD, F.d, toIdx, faB, loadB, storeB, over, partF, partD, mapO, fillB, wrT, frzArgs, mapFr, roMarks, wrOk, O.res, opv, okF, okD, okHd, hd8, Function.comp_def, Nat.blt_eq, F.dL, Option.bind_eq_bind, frr_1, frr_cons, frr_app, cells_v, hx, hz, List.take_of_length_le]
      try omega
    | cons q Q =>
      simp at hQn
      simp -implicitDefEqProofs (disch := omega) [cells_v, el_fsl, rulZ, chkM, Option.bind_some, fnD, F.d, toIdx, faB, loadB, storeB, over, partF, partD, mapO, fillB, wrT, frzArgs, mapFr, roMarks, wrOk, O.res, opv, okF, okD, okHd, hd8, Function.comp_def, Nat.blt_eq, F.dL, Option.bind_eq_bind, optO, Option.map_some, h0, h1, h5, hh, hx0, hx, hx3, hz0, hz, hz3, fillE, appB_sl, fzRows, fzCells, leMax, leF, hy]
      refine c_dreg ?_
      simp -implicitDefEqProofs (disch := omega) [cells_v, el_fsl, rulZ, chkM, Option.bind_some, fnD, F.d, toIdx, faB, loadB, storeB, over, partF, partD, mapO, fillB, wrT, frzArgs, mapFr, roMarks, wrOk, O.res, opv, okF, okD, okHd, hd8, Function.comp_def, Nat.blt_eq, F.dL, Option.bind_eq_bind, optO, Option.map_some, h0, h1, h5, hh, hx0, hx, hx3, hz0, hz, hz3, fillE, appB_sl, fzRows, fzCells, leMax, leF, hy]
      simp -implicitDefEqProofs (disch := first | omega | (simp <;> omega)) [endQ, endP, resD, resV, mapO, wrLow, D.isF, D.isFL, rulZ, chkM, Option.bind_some, fnD, F.d, toIdx, faB, loadB, storeB, over, partF, partD, mapO, fillB, wrT, frzArgs, mapFr, roMarks, wrOk, O.res, opv, okF, okD, okHd, hd8, Function.comp_def, Nat.blt_eq, F.dL, Option.bind_eq_bind, frr_1, frr_cons, frr_app, cells_v, hx, hz, List.take_of_length_le]
      try omega
  | cons p P =>
    simp at hPn
    cases Q with
    | nil =>
      simp -implicitDefEqProofs (disch := omega) [cells_v, el_fsl, rulZ, chkM, Option.bind_some, fnD, F.d, toIdx, faB, loadB, storeB, over, partF, partD, mapO, fillB, wrT, frzArgs, mapFr, roMarks, wrOk, O.res, opv, okF, okD, okHd, hd8, Function.comp_def, Nat.blt_eq, F.dL, Option.bind_eq_bind, optO, Option.map_some, h0, h1, h5, hh, hx2', hx, hx3, hz2', hz, hz3, fillE, appB_sl, fzRows, fzCells, leMax, leF, hy]
      refine c_dreg ?_
      simp -implicitDefEqProofs (disch := omega) [cells_v, el_fsl, rulZ, chkM, Option.bind_some, fnD, F.d, toIdx, faB, loadB, storeB, over, partF, partD, mapO, fillB, wrT, frzArgs, mapFr, roMarks, wrOk, O.res, opv, okF, okD, okHd, hd8, Function.comp_def, Nat.blt_eq, F.dL, Option.bind_eq_bind, optO, Option.map_some, h0, h1, h5, hh, hx2', hx, hx3, hz2', hz, hz3, fillE, appB_sl, fzRows, fzCells, leMax, leF, hy]
      simp -implicitDefEqProofs (disch := first | omega | (simp <;> omega)) [endQ, endP, resD, resV, mapO, wrLow, D.isF, D.isFL, rulZ, chkM, Option.bind_some, fnD, F.d, toIdx, faB, loadB, storeB, over, partF, partD, mapO, fillB, wrT, frzArgs, mapFr, roMarks, wrOk, O.res, opv, okF, okD, okHd, hd8, Function.comp_def, Nat.blt_eq, F.dL, Option.bind_eq_bind, frr_1, frr_cons, frr_app, cells_v, hx, hz, List.take_of_length_le]
      try omega
    | cons q Q =>
      simp at hQn
      simp -implicitDefEqProofs (disch := omega) [cells_v, el_fsl, rulZ, chkM, Option.bind_some, fnD, F.d, toIdx, faB, loadB, storeB, over, partF, partD, mapO, fillB, wrT, frzArgs, mapFr, roMarks, wrOk, O.res, opv, okF, okD, okHd, hd8, Function.comp_def, Nat.blt_eq, F.dL, Option.bind_eq_bind, optO, Option.map_some, h0, h1, h5, hh, hx2', hx, hx3, hz2', hz, hz3, fillE, appB_sl, fzRows, fzCells, leMax, leF, hy]
      refine c_dreg ?_
      simp -implicitDefEqProofs (disch := omega) [cells_v, el_fsl, rulZ, chkM, Option.bind_some, fnD, F.d, toIdx, faB, loadB, storeB, over, partF, partD, mapO, fillB, wrT, frzArgs, mapFr, roMarks, wrOk, O.res, opv, okF, okD, okHd, hd8, Function.comp_def, Nat.blt_eq, F.dL, Option.bind_eq_bind, optO, Option.map_some, h0, h1, h5, hh, hx2', hx, hx3, hz2', hz, hz3, fillE, appB_sl, fzRows, fzCells, leMax, leF, hy]
      simp -implicitDefEqProofs (disch := first | omega | (simp <;> omega)) [endQ, endP, resD, resV, mapO, wrLow, D.isF, D.isFL, rulZ, chkM, Option.bind_some, fnD, F.d, toIdx, faB, loadB, storeB, over, partF, partD, mapO, fillB, wrT, frzArgs, mapFr, roMarks, wrOk, O.res, opv, okF, okD, okHd, hd8, Function.comp_def, Nat.blt_eq, F.dL, Option.bind_eq_bind, frr_1, frr_cons, frr_app, cells_v, hx, hz, List.take_of_length_le]
      try omega
def R10 (l : List Int) (v : Int) (x : Ex) (s : St) : Prop :=
 x = .exit 0 ∧ ∃ n : Nat, n ≤ l.length ∧ s.tm.get 0 = some (.f (rowsF l)) ∧ s.tm.get 1 = some (.f (valsF [v])) ∧ s.tm.get 5 = some (.f (.i .i64 n)) ∧ s.h = .e ∧ (∀ w ∈ l.take n, w < v) ∧ ∀ h : n < l.length, v ≤ l[n]
theorem ans10 (l : List Int) (v : Int) (hl : l.length < 1000000) : Ans pr 10 [rowsF l, valsF [v]] (rowsF (ins l v)) := by
 refine ansP fn10 ?_
 unfold g10
 dsimp only [oR, oM, oN, oG, oH, oF, oL, oK, oI, oS, oZ, oD]
 simp -implicitDefEqProofs [rulZ, chkM, Option.bind_some, fnD, F.d, toIdx, faB, loadB, storeB, over, partF, partD, mapO, D.cells, fillB, wrT, frzArgs, mapFr, roMarks, wrOk, O.res, opv, okF, okD, okHd, hd8, Function.comp_def, Nat.blt_eq, F.dL, Option.bind_eq_bind, st0, tmOf, rows_d, vals_d]
 refine loopQ (I10 l v) (R10 l v) ?_ l.length _ ⟨0, Nat.zero_le _, rfl, ?_⟩ ?_
 ·rintro k s ⟨n, hn, rfl, h0, h1, h5, hh, hA⟩
  have hw := wrap_suc n (by omega)
  by_cases hgo : ∃ h : n < l.length, l[n] < v
  ·obtain ⟨hlt, hv⟩ := hgo
   simp -implicitDefEqProofs [rulZ, chkM, Option.bind_some, fnD, F.d, toIdx, faB, loadB, storeB, over, partF, partD, mapO, D.cells, fillB, wrT, frzArgs, mapFr, roMarks, wrOk, O.res, opv, okF, okD, okHd, hd8, Function.comp_def, Nat.blt_eq, F.dL, Option.bind_eq_bind, h0, h1, h5, hh, hlt, rows_len, rows_ia, q25, cmp3_lt, hv, hw]
   rw [lp_nrm]
   refine ⟨l.length - (n + 1), by omega, n + 1, by omega, rfl, ?_, ?_, ?_, ?_, ?_⟩
   any_goals (simp -implicitDefEqProofs [rulZ, chkM, Option.bind_some, fnD, F.d, toIdx, faB, loadB, storeB, over, partF, partD, mapO, D.cells, fillB, wrT, frzArgs, mapFr, roMarks, wrOk, O.res, opv, okF, okD, okHd, hd8, Function.comp_def, Nat.blt_eq, F.dL, Option.bind_eq_bind, h0, h1, h5, hh]; done)
   intro w hw'
   rw [List.take_add_one, List.getElem?_eq_getElem hlt] at hw'
   rcases List.mem_append.1 hw' with h' | h'
   ·exact hA _ h'
   ·simp at h'; rw [h']; exact hv
  ·have hge : ∀ h : n < l.length, v ≤ l[n] := fun h => by
    have : ¬ l[n] < v := fun hv => hgo ⟨h, hv⟩
    omega
   by_cases hlt : n < l.length
   ·have hnv : ¬ l[n] < v := by have := hge hlt; omega
    simp -implicitDefEqProofs [rulZ, chkM, Option.bind_some, fnD, F.d, toIdx, faB, loadB, storeB, over, partF, partD, mapO, D.cells, fillB, wrT, frzArgs, mapFr, roMarks, wrOk, O.res, opv, okF, okD, okHd, hd8, Function.comp_def, Nat.blt_eq, F.dL, Option.bind_eq_bind, h0, h1, h5, hh, hlt, rows_len, rows_ia, q25, cmp3_lt, hnv]
    exact ⟨rfl, n, hn, by simp [rulZ, chkM, Option.bind_some, fnD, F.d, toIdx, faB, loadB, storeB, over, partF, partD, mapO, D.cells, fillB, wrT, frzArgs, mapFr, roMarks, wrOk, O.res, opv, okF, okD, okHd, hd8, Function.comp_def, Nat.blt_eq, F.dL, Option.bind_eq_bind, h0], by simp [rulZ, chkM, Option.bind_some, fnD, F.d, toIdx, faB, loadB, storeB, over, partF, partD, mapO, D.cells, fillB, wrT, frzArgs, mapFr, roMarks, wrOk, O.res, opv, okF, okD, okHd, hd8, Function.comp_def, Nat.blt_eq, F.dL, Option.bind_eq_bind, h1], by simp [rulZ, chkM, Option.bind_some, fnD, F.d, toIdx, faB, loadB, storeB, over, partF, partD, mapO, D.cells, fillB, wrT, frzArgs, mapFr, roMarks, wrOk, O.res, opv, okF, okD, okHd, hd8, Function.comp_def, Nat.blt_eq, F.dL, Option.bind_eq_bind, h5], by simp [rulZ, chkM, Option.bind_some, fnD, F.d, toIdx, faB, loadB, storeB, over, partF, partD, mapO, D.cells, fillB, wrT, frzArgs, mapFr, roMarks, wrOk, O.res, opv, okF, okD, okHd, hd8, Function.comp_def, Nat.blt_eq, F.dL, Option.bind_eq_bind, hh], hA, hge⟩
   ·simp -implicitDefEqProofs [rulZ, chkM, Option.bind_some, fnD, F.d, toIdx, faB, loadB, storeB, over, partF, partD, mapO, D.cells, fillB, wrT, frzArgs, mapFr, roMarks, wrOk, O.res, opv, okF, okD, okHd, hd8, Function.comp_def, Nat.blt_eq, F.dL, Option.bind_eq_bind, h0, h1, h5, hh, hlt, rows_len, rows_ia]
    exact ⟨rfl, n, hn, by simp [rulZ, chkM, Option.bind_some, fnD, F.d, toIdx, faB, loadB, storeB, over, partF, partD, mapO, D.cells, fillB, wrT, frzArgs, mapFr, roMarks, wrOk, O.res, opv, okF, okD, okHd, hd8, Function.comp_def, Nat.blt_eq, F.dL, Option.bind_eq_bind, h0], by simp [rulZ, chkM, Option.bind_some, fnD, F.d, toIdx, faB, loadB, storeB, over, partF, partD, mapO, D.cells, fillB, wrT, frzArgs, mapFr, roMarks, wrOk, O.res, opv, okF, okD, okHd, hd8, Function.comp_def, Nat.blt_eq, F.dL, Option.bind_eq_bind, h1], by simp [rulZ, chkM, Option.bind_some, fnD, F.d, toIdx, faB, loadB, storeB, over, partF, partD, mapO, D.cells, fillB, wrT, frzArgs, mapFr, roMarks, wrOk, O.res, opv, okF, okD, okHd, hd8, Function.comp_def, Nat.blt_eq, F.dL, Option.bind_eq_bind, h5], by simp [rulZ, chkM, Option.bind_some, fnD, F.d, toIdx, faB, loadB, storeB, over, partF, partD, mapO, D.cells, fillB, wrT, frzArgs, mapFr, roMarks, wrOk, O.res, opv, okF, okD, okHd, hd8, Function.comp_def, Nat.blt_eq, F.dL, Option.bind_eq_bind, hh], hA, hge⟩
 ·simp -implicitDefEqProofs [rulZ, chkM, Option.bind_some, fnD, F.d, toIdx, faB, loadB, storeB, over, partF, partD, mapO, D.cells, fillB, wrT, frzArgs, mapFr, roMarks, wrOk, O.res, opv, okF, okD, okHd, hd8, Function.comp_def, Nat.blt_eq, F.dL, Option.bind_eq_bind]
 ·rintro x s ⟨rfl, n, hn, h0, h1, h5, hh, hA, hge⟩
  simp only [kb_exit, if_true, sq_nrm]
  by_cases he : ∃ h : n < l.length, l[n] = v
  ·obtain ⟨hlt, hv⟩ := he
   rw [ins_same l v n hlt hA hv]
   have hc : cmp3 v v = 0 := by simp [cmp3]
   simp -implicitDefEqProofs [rulZ, chkM, Option.bind_some, fnD, F.d, toIdx, faB, loadB, storeB, over, partF, partD, mapO, D.cells, fillB, wrT, frzArgs, mapFr, roMarks, wrOk, O.res, opv, okF, okD, okHd, hd8, Function.comp_def, Nat.blt_eq, F.dL, Option.bind_eq_bind, endQ, endP, resD, resV, mapO, wrLow, D.isF, D.isFL, h0, h1, h5, hh, hlt, rows_len, rows_ia, q25, hv, hc]
  ·have hins := ins_at l v n hn hA fun h => by
    have := hge h
    have : l[n] ≠ v := fun e => he ⟨h, e⟩
    omega
   rw [k_seq]
   by_cases hlt : n < l.length
   ·have hc : ¬ cmp3 l[n] v = 0 := by
     have : l[n] ≠ v := fun e => he ⟨hlt, e⟩
     unfold cmp3; rw [if_neg this]; split <;> decide
    simp -implicitDefEqProofs [rulW, chkM, Option.bind_some, fnD, F.d, toIdx, faB, loadB, storeB, over, partF, partD, mapO, D.cells, fillB, wrT, frzArgs, mapFr, roMarks, wrOk, O.res, opv, okF, okD, okHd, hd8, Function.comp_def, Nat.blt_eq, F.dL, Option.bind_eq_bind, h0, h1, h5, hh, hlt, rows_len, rows_ia, q25, hc]
    rw [sq_nrm]
    simp -implicitDefEqProofs [rulW, chkM, Option.bind_some, fnD, F.d, toIdx, faB, loadB, storeB, over, partF, partD, mapO, D.cells, fillB, wrT, frzArgs, mapFr, roMarks, wrOk, O.res, opv, okF, okD, okHd, hd8, Function.comp_def, Nat.blt_eq, F.dL, Option.bind_eq_bind, h0, h1, h5, hh, hlt, hc]
    rw [sq_nrm]
    rw [hins]
    refine tail10 l v n hn hl _ ?_ ?_ ?_ ?_ _ rfl
    all_goals simp [rulZ, chkM, Option.bind_some, fnD, F.d, toIdx, faB, loadB, storeB, over, partF, partD, mapO, D.cells, fillB, wrT, frzArgs, mapFr, roMarks, wrOk, O.res, opv, okF, okD, okHd, hd8, Function.comp_def, Nat.blt_eq, F.dL, Option.bind_eq_bind, h0, h1, h5, hh]
   ·simp -implicitDefEqProofs [rulW, chkM, Option.bind_some, fnD, F.d, toIdx, faB, loadB, storeB, over, partF, partD, mapO, D.cells, fillB, wrT, frzArgs, mapFr, roMarks, wrOk, O.res, opv, okF, okD, okHd, hd8, Function.comp_def, Nat.blt_eq, F.dL, Option.bind_eq_bind, h0, h1, h5, hh, hlt, rows_len, rows_ia, q25]
    rw [sq_nrm]
    simp -implicitDefEqProofs [rulW, chkM, Option.bind_some, fnD, F.d, toIdx, faB, loadB, storeB, over, partF, partD, mapO, D.cells, fillB, wrT, frzArgs, mapFr, roMarks, wrOk, O.res, opv, okF, okD, okHd, hd8, Function.comp_def, Nat.blt_eq, F.dL, Option.bind_eq_bind, h0, h1, h5, hh, hlt]
    rw [sq_nrm]
    rw [hins]
    refine tail10 l v n hn hl _ ?_ ?_ ?_ ?_ _ rfl
    all_goals simp [rulZ, chkM, Option.bind_some, fnD, F.d, toIdx, faB, loadB, storeB, over, partF, partD, mapO, D.cells, fillB, wrT, frzArgs, mapFr, roMarks, wrOk, O.res, opv, okF, okD, okHd, hd8, Function.comp_def, Nat.blt_eq, F.dL, Option.bind_eq_bind, h0, h1, h5, hh]
end Go.Proofs.YtffjpakgkecheaaGreat
