/- t -/
import Derived.Test.YtffjpakgkecheaaGreatShX
import Derived.Test.YtffjpakgkecheaaGreatW7
import Derived.Test.YtffjpakgkecheaaGreatShG
set_option linter.all false
namespace Go.Proofs.YtffjpakgkecheaaGreat
open Go Go.Vse Go.Vse.Sm
set_option maxRecDepth 100000
set_option maxHeartbeats 4000000
set_option linter.unusedSimpArgs false
theorem fn37 : pr.fn 37 = some g37 := by kernel_rfl
def I36 (r : Rl) (vs : List Int) (k : Nat) (s : St) : Prop := ∃ n : Nat, n ≤ r.tu.length ∧ k = r.tu.length - n ∧ s.tm.get 1 = some (.f (valsF vs)) ∧ s.tm.get 2 = some (.ptr 0 4 0 0) ∧ s.h.get 0 = some (.arr 4 0 [[.f (.s r.nm), .f (.b r.ce), .f r.co, .f (slc 4 (r.tu.map tuF))]]) ∧
 s.tm.get 6 = some (.f (.i .i64 n))
def R36 (x : Ex) (s : St) : Prop := x = .exit 0 ∨ (x = .ret ∧ ∃ i : Nat, s.tm.get 4 = some (.f (.i .i64 i)) ∧ s.tm.get 5 = some (.f (.b true)))
def IsFind (y : F) : Prop := ∃ i b, y = .tu [.i .i64 i, .b b]
theorem ans36 {SS : Nat → List F → Prop} {PP : List F → Prop} (hS : SumTab SS PP) (r : Rl) (hr : RelOk SS PP r) (vs : List Int) : ∃ i b, Ans pr 36 [.ag (rlF r), valsF vs] (.tu [.i .i64 i, .b b]) := by
 have main : ∃ y, IsFind y ∧ Ans pr 36 [.ag (rlF r), valsF vs] y := by
  refine ansE fn36 ?_
  have hnT := hr.n
  have hco := hr.co
  unfold g36
  dsimp only [oR, oM, oN, oG, oH, oF, oL, oK, oI, oS, oZ, oD]
  simp -implicitDefEqProofs [rulA, Function.comp_def, Nat.blt_eq, apO, st0, tmOf, rlF, hco, vals_d]
  refine loopW (I36 r vs) R36 ?_ r.tu.length _ ⟨0, Nat.zero_le _, rfl, ?_, ?_, ?_, ?_⟩ ?_
  any_goals (simp -implicitDefEqProofs [rulA, Function.comp_def, Nat.blt_eq, apO, tmOf]; done)
  ·rintro k s ⟨n, hn, rfl, h1, h2, g0, h6⟩
   have hw := wrap_suc n (by omega)
   by_cases hlt : n < r.tu.length
   ·obtain ⟨x0, x1, x2, hx, hd0, hd1, hd2⟩ := hS.pp _ (hr.p _ (List.getElem_mem hlt))
    have htu : tuF (r.tu[n]) = [valsF (r.tu[n]).1, x0, x1, x2] := by unfold tuF; rw [hx]
    have h25 := ans25 (r.tu[n]).1 vs (by have := hr.l _ (List.getElem_mem hlt); omega)
    have q25 := fun k => aB_iff (k := k) h25
    by_cases k0 : cmpL (r.tu[n]).1 vs = 0
    ·rw [k0] at q25
     simp -implicitDefEqProofs [rulA, Function.comp_def, Nat.blt_eq, apO, h1, h2, g0, h6, hlt, htu, q25]
     exact .inr ⟨rfl, n, by simp -implicitDefEqProofs [rulA, Function.comp_def, Nat.blt_eq, apO, h1], by simp -implicitDefEqProofs [rulA, Function.comp_def, Nat.blt_eq, apO, h1]⟩
    ·simp -implicitDefEqProofs [rulA, Function.comp_def, Nat.blt_eq, apO, h1, h2, g0, h6, hlt, htu, q25, k0, hw]
     rw [lp_nrm]
     refine ⟨r.tu.length - (n + 1), by omega, n + 1, by omega, rfl, ?_, ?_, ?_, ?_⟩
     all_goals simp -implicitDefEqProofs [rulA, Function.comp_def, Nat.blt_eq, apO, h1, h2, g0]
   ·simp -implicitDefEqProofs [rulA, Function.comp_def, Nat.blt_eq, apO, h1, h2, g0, h6, hlt]
    exact .inl rfl
  ·rintro x s (rfl | ⟨rfl, i, h4, h5⟩)
   ·simp -implicitDefEqProofs [rulA, Function.comp_def, Nat.blt_eq, apO, st0]
    exact ⟨_, _, rfl⟩
   ·simp -implicitDefEqProofs [rulA, Function.comp_def, Nat.blt_eq, apO, h4, h5]
    exact ⟨_, _, rfl⟩
 obtain ⟨y, ⟨i, b, rfl⟩, ha⟩ := main
 exact ⟨i, b, ha⟩
theorem ans37 {SS : Nat → List F → Prop} {PP : List F → Prop} (hS : SumTab SS PP) (r : Rl) (hr : RelOk SS PP r) : Ans pr 37 [.ag (rlF r)] (.ag (rlF r)) := by
 refine ansP fn37 ?_
 have hnT := hr.n
 have hco := hr.co
 have hcc := hr.cc
 have hp := hr.p
 have hw1 : IntKind.i64.wrap 1 = 1 := by decide
 have hw2 : IntKind.i64.wrap 2 = 2 := by decide
 have hw3 : IntKind.i64.wrap 3 = 3 := by decide
 unfold g37
 dsimp only [oR, oM, oN, oG, oH, oF, oL, oK, oI, oS, oZ, oD]
 unfold rlF
 generalize r.tu = TT at hnT hp
 match TT, hnT with
 | [], _ =>
  simp -implicitDefEqProofs [rulA, Function.comp_def, Nat.blt_eq, apO, st0, tmOf, hco, hcc, List.map_nil, slc_nil]
  refine round ?_
  simp -implicitDefEqProofs [rulA, Function.comp_def, Nat.blt_eq, apO, hco, hcc]
 | [t0], _ =>
  have hp0 := hp t0 (by simp)
  obtain ⟨x00, x01, x02, hx0, hd00, hd01, hd02⟩ := hS.pp _ hp0
  have hn0 := hS.norm _ hp0
  rw [hx0] at hn0
  have q0 := fun k => aB_iff (k := k) hn0
  have htu0 : tuF t0 = [valsF t0.1, x00, x01, x02] := by unfold tuF; rw [hx0]
  have hcv0 : (D.f (valsF t0.1)).cells = some [.f (valsF t0.1)] := ce_slc ..
  simp -implicitDefEqProofs [rulA, Function.comp_def, Nat.blt_eq, apO, st0, tmOf, hco, hcc, List.map_cons, List.map_nil, slc_cons, htu0]
  refine round ?_
  simp -implicitDefEqProofs [rulA, Function.comp_def, Nat.blt_eq, apO, hco, hcc, vals_d, hw1, hw2, hw3, leMax, leF, hd00, hd01, hd02, q0, hcv0]
  refine dreg_i ?_
  simp -implicitDefEqProofs [rulA, Function.comp_def, Nat.blt_eq, apO, hco, hcc, vals_d, hw1, hw2, hw3, leMax, leF, hd00, hd01, hd02, q0, hcv0]
  refine round ?_
  simp -implicitDefEqProofs [rulA, Function.comp_def, Nat.blt_eq, apO, hco, hcc, vals_d, hw1, hw2, hw3, leMax, leF, hd00, hd01, hd02, q0, hcv0]
 | [t0, t1], _ =>
  have hp0 := hp t0 (by simp)
  obtain ⟨x00, x01, x02, hx0, hd00, hd01, hd02⟩ := hS.pp _ hp0
  have hn0 := hS.norm _ hp0
  rw [hx0] at hn0
  have q0 := fun k => aB_iff (k := k) hn0
  have htu0 : tuF t0 = [valsF t0.1, x00, x01, x02] := by unfold tuF; rw [hx0]
  have hcv0 : (D.f (valsF t0.1)).cells = some [.f (valsF t0.1)] := ce_slc ..
  have hp1 := hp t1 (by simp)
  obtain ⟨x10, x11, x12, hx1, hd10, hd11, hd12⟩ := hS.pp _ hp1
  have hn1 := hS.norm _ hp1
  rw [hx1] at hn1
  have q1 := fun k => aB_iff (k := k) hn1
  have htu1 : tuF t1 = [valsF t1.1, x10, x11, x12] := by unfold tuF; rw [hx1]
  have hcv1 : (D.f (valsF t1.1)).cells = some [.f (valsF t1.1)] := ce_slc ..
  simp -implicitDefEqProofs [rulA, Function.comp_def, Nat.blt_eq, apO, st0, tmOf, hco, hcc, List.map_cons, List.map_nil, slc_cons, htu0, htu1]
  refine round ?_
  simp -implicitDefEqProofs [rulA, Function.comp_def, Nat.blt_eq, apO, hco, hcc, vals_d, hw1, hw2, hw3, leMax, leF, hd00, hd01, hd02, q0, hcv0, hd10, hd11, hd12, q1, hcv1]
  refine dreg_i ?_
  simp -implicitDefEqProofs [rulA, Function.comp_def, Nat.blt_eq, apO, hco, hcc, vals_d, hw1, hw2, hw3, leMax, leF, hd00, hd01, hd02, q0, hcv0, hd10, hd11, hd12, q1, hcv1]
  refine round ?_
  simp -implicitDefEqProofs [rulA, Function.comp_def, Nat.blt_eq, apO, hco, hcc, vals_d, hw1, hw2, hw3, leMax, leF, hd00, hd01, hd02, q0, hcv0, hd10, hd11, hd12, q1, hcv1]
  refine dreg_i ?_
  simp -implicitDefEqProofs [rulA, Function.comp_def, Nat.blt_eq, apO, hco, hcc, vals_d, hw1, hw2, hw3, leMax, leF, hd00, hd01, hd02, q0, hcv0, hd10, hd11, hd12, q1, hcv1]
  refine round ?_
  simp -implicitDefEqProofs [rulA, Function.comp_def, Nat.blt_eq, apO, hco, hcc, vals_d, hw1, hw2, hw3, leMax, leF, hd00, hd01, hd02, q0, hcv0, hd10, hd11, hd12, q1, hcv1]
 | [t0, t1, t2], _ =>
  have hp0 := hp t0 (by simp)
  obtain ⟨x00, x01, x02, hx0, hd00, hd01, hd02⟩ := hS.pp _ hp0
  have hn0 := hS.norm _ hp0
  rw [hx0] at hn0
  have q0 := fun k => aB_iff (k := k) hn0
  have htu0 : tuF t0 = [valsF t0.1, x00, x01, x02] := by unfold tuF; rw [hx0]
  have hcv0 : (D.f (valsF t0.1)).cells = some [.f (valsF t0.1)] := ce_slc ..
  have hp1 := hp t1 (by simp)
  obtain ⟨x10, x11, x12, hx1, hd10, hd11, hd12⟩ := hS.pp _ hp1
  have hn1 := hS.norm _ hp1
  rw [hx1] at hn1
  have q1 := fun k => aB_iff (k := k) hn1
  have htu1 : tuF t1 = [valsF t1.1, x10, x11, x12] := by unfold tuF; rw [hx1]
  have hcv1 : (D.f (valsF t1.1)).cells = some [.f (valsF t1.1)] := ce_slc ..
  have hp2 := hp t2 (by simp)
  obtain ⟨x20, x21, x22, hx2, hd20, hd21, hd22⟩ := hS.pp _ hp2
  have hn2 := hS.norm _ hp2
  rw [hx2] at hn2
  have q2 := fun k => aB_iff (k := k) hn2
  have htu2 : tuF t2 = [valsF t2.1, x20, x21, x22] := by unfold tuF; rw [hx2]
  have hcv2 : (D.f (valsF t2.1)).cells = some [.f (valsF t2.1)] := ce_slc ..
  simp -implicitDefEqProofs [rulA, Function.comp_def, Nat.blt_eq, apO, st0, tmOf, hco, hcc, List.map_cons, List.map_nil, slc_cons, htu0, htu1, htu2]
  refine round ?_
  simp -implicitDefEqProofs [rulA, Function.comp_def, Nat.blt_eq, apO, hco, hcc, vals_d, hw1, hw2, hw3, leMax, leF, hd00, hd01, hd02, q0, hcv0, hd10, hd11, hd12, q1, hcv1, hd20, hd21, hd22, q2, hcv2]
  refine dreg_i ?_
  simp -implicitDefEqProofs [rulA, Function.comp_def, Nat.blt_eq, apO, hco, hcc, vals_d, hw1, hw2, hw3, leMax, leF, hd00, hd01, hd02, q0, hcv0, hd10, hd11, hd12, q1, hcv1, hd20, hd21, hd22, q2, hcv2]
  refine round ?_
  simp -implicitDefEqProofs [rulA, Function.comp_def, Nat.blt_eq, apO, hco, hcc, vals_d, hw1, hw2, hw3, leMax, leF, hd00, hd01, hd02, q0, hcv0, hd10, hd11, hd12, q1, hcv1, hd20, hd21, hd22, q2, hcv2]
  refine dreg_i ?_
  simp -implicitDefEqProofs [rulA, Function.comp_def, Nat.blt_eq, apO, hco, hcc, vals_d, hw1, hw2, hw3, leMax, leF, hd00, hd01, hd02, q0, hcv0, hd10, hd11, hd12, q1, hcv1, hd20, hd21, hd22, q2, hcv2]
  refine round ?_
  simp -implicitDefEqProofs [rulA, Function.comp_def, Nat.blt_eq, apO, hco, hcc, vals_d, hw1, hw2, hw3, leMax, leF, hd00, hd01, hd02, q0, hcv0, hd10, hd11, hd12, q1, hcv1, hd20, hd21, hd22, q2, hcv2]
  refine dreg_i ?_
  simp -implicitDefEqProofs [rulA, Function.comp_def, Nat.blt_eq, apO, hco, hcc, vals_d, hw1, hw2, hw3, leMax, leF, hd00, hd01, hd02, q0, hcv0, hd10, hd11, hd12, q1, hcv1, hd20, hd21, hd22, q2, hcv2]
  refine round ?_
  simp -implicitDefEqProofs [rulA, Function.comp_def, Nat.blt_eq, apO, hco, hcc, vals_d, hw1, hw2, hw3, leMax, leF, hd00, hd01, hd02, q0, hcv0, hd10, hd11, hd12, q1, hcv1, hd20, hd21, hd22, q2, hcv2]
 | _ :: _ :: _ :: _ :: _, h => exact absurd h (by simp)
end Go.Proofs.YtffjpakgkecheaaGreat
