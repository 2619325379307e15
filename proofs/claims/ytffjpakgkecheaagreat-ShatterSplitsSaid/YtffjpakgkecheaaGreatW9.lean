/- t -/
import Derived.Test.YtffjpakgkecheaaGreatShX
import Derived.Test.YtffjpakgkecheaaGreatW8
import Derived.Test.YtffjpakgkecheaaGreatShG
set_option linter.all false
namespace Go.Proofs.YtffjpakgkecheaaGreat
open Go Go.Vse Go.Vse.Sm
set_option maxRecDepth 100000
set_option maxHeartbeats 4000000
set_option linter.unusedSimpArgs false
theorem fn17 : pr.fn 17 = some g17 := by kernel_rfl
def zRl : List F := [.s [], .b false, .nils, .nils]
def IsIns (nm : Str) (ce : Bool) (co : F) (tu : List (List Int × List F)) (t : List Int × List F) (y : F) : Prop :=
 (∃ e : Int, e ≠ 0 ∧ y = .tu [.ag zRl, .i .i64 e]) ∨ ∃ n : Nat, n ≤ tu.length ∧ y = .tu [.ag (rlF ⟨nm, ce, co, tu.take n ++ t :: tu.drop n⟩), .i .i64 0]
theorem ans17 {SS : Nat → List F → Prop} {PP : List F → Prop} (hS : SumTab SS PP) (nm : Str) (ce : Bool) (co : F) (tu : List (List Int × List F)) (hr : RelOk SS PP ⟨nm, ce, co, tu⟩) (hn2 : tu.length ≤ 2) (t : List Int × List F) (ht : PP t.2)
  (hct : ∃ e, Ans pr 35 [.ag [.s nm, .b ce, co], .ag (tuF t)] (.i .i64 e))
  (hout : ∀ n, n ≤ tu.length → RelOk SS PP ⟨nm, ce, co, tu.take n ++ t :: tu.drop n⟩) : ∃ y, IsIns nm ce co tu t y ∧ Ans pr 17 [.ag (rlF ⟨nm, ce, co, tu⟩), .ag (tuF t)] y := by
 refine ansE fn17 ?_
 have hco := hr.co
 have hcc := hr.cc
 have hw1 : IntKind.i64.wrap 1 = 1 := by decide
 have hw2 : IntKind.i64.wrap 2 = 2 := by decide
 have hw3 : IntKind.i64.wrap 3 = 3 := by decide
 obtain ⟨x0, x1, x2, hx, hd0, hd1, hd2⟩ := hS.pp _ ht
 have htu : tuF t = [valsF t.1, x0, x1, x2] := by unfold tuF; rw [hx]
 have hcv : (D.f (valsF t.1)).cells = some [.f (valsF t.1)] := ce_slc ..
 obtain ⟨e2, h35⟩ := hct
 rw [htu] at h35
 have q35 := fun k => aB_iff (k := k) h35
 unfold g17
 dsimp only [oR, oM, oN, oG, oH, oF, oL, oK, oI, oS, oZ, oD]
 match tu, hn2 with
 | [], _ =>
  obtain ⟨e1, h34⟩ := ans34 hS _ hr
  obtain ⟨i6, b6, h36⟩ := ans36 hS _ hr t.1
  have ho0 : RelOk SS PP ⟨nm, ce, co, [t]⟩ := by simpa using hout 0 (by simp)
  obtain ⟨f0, g0⟩ := ans34 hS _ ho0
  have c0 := ans37 hS _ ho0
  simp only [rlF, List.map_cons, List.map_nil, slc_cons, slc_nil, htu] at h34 h36 g0 c0
  have q34 := fun k => aB_iff (k := k) h34
  have q36 := fun k => aB_iff (k := k) h36
  have qg0 := fun k => aB_iff (k := k) g0
  have qc0 := fun k => aB_iff (k := k) c0
  by_cases he1 : e1 = 0
  rotate_left
  ·simp -implicitDefEqProofs [rulA, Function.comp_def, Nat.blt_eq, apO, st0, tmOf, rlF, List.map_cons, List.map_nil, slc_cons, slc_nil, htu, q34, he1, hco, hcc, vals_d, hw1, hw2, hw3, leMax, leF, hd0, hd1, hd2, hcv]
   exact .inl ⟨_, he1, rfl⟩
  subst he1
  by_cases he2 : e2 = 0
  rotate_left
  ·simp -implicitDefEqProofs [rulA, Function.comp_def, Nat.blt_eq, apO, st0, tmOf, rlF, List.map_cons, List.map_nil, slc_cons, slc_nil, htu, q34, q35, he2, hco, hcc, vals_d, hw1, hw2, hw3, leMax, leF, hd0, hd1, hd2, hcv]
   exact .inl ⟨_, he2, rfl⟩
  subst he2
  cases b6 with
  | true =>
   simp -implicitDefEqProofs [rulA, Function.comp_def, Nat.blt_eq, apO, st0, tmOf, rlF, List.map_cons, List.map_nil, slc_cons, slc_nil, htu, q34, q35, q36, hco, hcc, vals_d, hw1, hw2, hw3, leMax, leF, hd0, hd1, hd2, hcv]
   exact .inl ⟨_, by decide, rfl⟩
  | false =>
   simp -implicitDefEqProofs [rulA, Function.comp_def, Nat.blt_eq, apO, st0, tmOf, rlF, List.map_cons, List.map_nil, slc_cons, slc_nil, htu, q34, q35, q36, hco, hcc, vals_d, hw1, hw2, hw3, leMax, leF, hd0, hd1, hd2, hcv]
   refine round ?_
   simp -implicitDefEqProofs [rulA, Function.comp_def, Nat.blt_eq, apO, hco, hcc, vals_d, hw1, hw2, hw3, leMax, leF, hd0, hd1, hd2, hcv]
   refine dreg_i ?_
   simp -implicitDefEqProofs [rulA, Function.comp_def, Nat.blt_eq, apO, hco, hcc, vals_d, hw1, hw2, hw3, leMax, leF, hd0, hd1, hd2, hcv]
   refine dreg_i ?_
   by_cases hf : f0 = 0
   ·subst hf
    simp -implicitDefEqProofs [rulA, Function.comp_def, Nat.blt_eq, apO, hco, hcc, vals_d, hw1, hw2, hw3, leMax, leF, hd0, hd1, hd2, hcv, qg0, qc0]
    exact .inr ⟨0, by simp, by simp [rlF, List.map_cons, List.map_nil, slc_cons, slc_nil, htu]⟩
   ·simp -implicitDefEqProofs [rulA, Function.comp_def, Nat.blt_eq, apO, hco, hcc, vals_d, hw1, hw2, hw3, leMax, leF, hd0, hd1, hd2, hcv, qg0, hf]
    exact .inl ⟨_, hf, rfl⟩
 | [a0], _ =>
  obtain ⟨e1, h34⟩ := ans34 hS _ hr
  obtain ⟨i6, b6, h36⟩ := ans36 hS _ hr t.1
  obtain ⟨x00, x01, x02, hx0, hd00, hd01, hd02⟩ := hS.pp _ (hr.p a0 (by simp))
  have htu0 : tuF a0 = [valsF a0.1, x00, x01, x02] := by unfold tuF; rw [hx0]
  have hcv0 : (D.f (valsF a0.1)).cells = some [.f (valsF a0.1)] := ce_slc ..
  have h25_0 := ans25 a0.1 t.1 (by have := hr.l a0 (by simp); omega)
  have q25_0 := fun k => aB_iff (k := k) h25_0
  have ho0 : RelOk SS PP ⟨nm, ce, co, [t, a0]⟩ := by simpa using hout 0 (by simp)
  obtain ⟨f0, g0⟩ := ans34 hS _ ho0
  have c0 := ans37 hS _ ho0
  have ho1 : RelOk SS PP ⟨nm, ce, co, [a0, t]⟩ := by simpa using hout 1 (by simp)
  obtain ⟨f1, g1⟩ := ans34 hS _ ho1
  have c1 := ans37 hS _ ho1
  simp only [rlF, List.map_cons, List.map_nil, slc_cons, slc_nil, htu, htu0] at h34 h36 g0 c0 g1 c1
  have q34 := fun k => aB_iff (k := k) h34
  have q36 := fun k => aB_iff (k := k) h36
  have qg0 := fun k => aB_iff (k := k) g0
  have qc0 := fun k => aB_iff (k := k) c0
  have qg1 := fun k => aB_iff (k := k) g1
  have qc1 := fun k => aB_iff (k := k) c1
  by_cases he1 : e1 = 0
  rotate_left
  ·simp -implicitDefEqProofs [rulA, Function.comp_def, Nat.blt_eq, apO, st0, tmOf, rlF, List.map_cons, List.map_nil, slc_cons, slc_nil, htu, htu0, q34, he1, hco, hcc, vals_d, hw1, hw2, hw3, leMax, leF, hd0, hd1, hd2, hcv, hd00, hd01, hd02, hcv0]
   exact .inl ⟨_, he1, rfl⟩
  subst he1
  by_cases he2 : e2 = 0
  rotate_left
  ·simp -implicitDefEqProofs [rulA, Function.comp_def, Nat.blt_eq, apO, st0, tmOf, rlF, List.map_cons, List.map_nil, slc_cons, slc_nil, htu, htu0, q34, q35, he2, hco, hcc, vals_d, hw1, hw2, hw3, leMax, leF, hd0, hd1, hd2, hcv, hd00, hd01, hd02, hcv0]
   exact .inl ⟨_, he2, rfl⟩
  subst he2
  cases b6 with
  | true =>
   simp -implicitDefEqProofs [rulA, Function.comp_def, Nat.blt_eq, apO, st0, tmOf, rlF, List.map_cons, List.map_nil, slc_cons, slc_nil, htu, htu0, q34, q35, q36, hco, hcc, vals_d, hw1, hw2, hw3, leMax, leF, hd0, hd1, hd2, hcv, hd00, hd01, hd02, hcv0]
   exact .inl ⟨_, by decide, rfl⟩
  | false =>
   simp -implicitDefEqProofs [rulA, Function.comp_def, Nat.blt_eq, apO, st0, tmOf, rlF, List.map_cons, List.map_nil, slc_cons, slc_nil, htu, htu0, q34, q35, q36, hco, hcc, vals_d, hw1, hw2, hw3, leMax, leF, hd0, hd1, hd2, hcv, hd00, hd01, hd02, hcv0]
   refine round ?_
   simp -implicitDefEqProofs [rulA, Function.comp_def, Nat.blt_eq, apO, hco, hcc, vals_d, hw1, hw2, hw3, leMax, leF, hd0, hd1, hd2, hcv, hd00, hd01, hd02, hcv0]
   refine dreg_i ?_
   by_cases k0 : cmpL a0.1 t.1 < 0
   ·simp -implicitDefEqProofs [rulA, Function.comp_def, Nat.blt_eq, apO, hco, hcc, vals_d, hw1, hw2, hw3, leMax, leF, hd0, hd1, hd2, hcv, hd00, hd01, hd02, hcv0, q25_0, k0]
    refine round ?_
    simp -implicitDefEqProofs [rulA, Function.comp_def, Nat.blt_eq, apO, hco, hcc, vals_d, hw1, hw2, hw3, leMax, leF, hd0, hd1, hd2, hcv, hd00, hd01, hd02, hcv0]
    refine dreg_i ?_
    simp -implicitDefEqProofs [rulA, Function.comp_def, Nat.blt_eq, apO, hco, hcc, vals_d, hw1, hw2, hw3, leMax, leF, hd0, hd1, hd2, hcv, hd00, hd01, hd02, hcv0]
    refine dreg_i ?_
    by_cases hf : f1 = 0
    ·subst hf
     simp -implicitDefEqProofs [rulA, Function.comp_def, Nat.blt_eq, apO, hco, hcc, vals_d, hw1, hw2, hw3, leMax, leF, hd0, hd1, hd2, hcv, hd00, hd01, hd02, hcv0, qg1, qc1]
     exact .inr ⟨1, by simp, by simp [rlF, List.map_cons, List.map_nil, slc_cons, slc_nil, htu, htu0]⟩
    ·simp -implicitDefEqProofs [rulA, Function.comp_def, Nat.blt_eq, apO, hco, hcc, vals_d, hw1, hw2, hw3, leMax, leF, hd0, hd1, hd2, hcv, hd00, hd01, hd02, hcv0, qg1, hf]
     exact .inl ⟨_, hf, rfl⟩
   ·simp -implicitDefEqProofs [rulA, Function.comp_def, Nat.blt_eq, apO, hco, hcc, vals_d, hw1, hw2, hw3, leMax, leF, hd0, hd1, hd2, hcv, hd00, hd01, hd02, hcv0, q25_0, k0]
    refine dreg_i ?_
    by_cases hf : f0 = 0
    ·subst hf
     simp -implicitDefEqProofs [rulA, Function.comp_def, Nat.blt_eq, apO, hco, hcc, vals_d, hw1, hw2, hw3, leMax, leF, hd0, hd1, hd2, hcv, hd00, hd01, hd02, hcv0, qg0, qc0]
     exact .inr ⟨0, by simp, by simp [rlF, List.map_cons, List.map_nil, slc_cons, slc_nil, htu, htu0]⟩
    ·simp -implicitDefEqProofs [rulA, Function.comp_def, Nat.blt_eq, apO, hco, hcc, vals_d, hw1, hw2, hw3, leMax, leF, hd0, hd1, hd2, hcv, hd00, hd01, hd02, hcv0, qg0, hf]
     exact .inl ⟨_, hf, rfl⟩
 | [a0, a1], _ =>
  obtain ⟨e1, h34⟩ := ans34 hS _ hr
  obtain ⟨i6, b6, h36⟩ := ans36 hS _ hr t.1
  obtain ⟨x00, x01, x02, hx0, hd00, hd01, hd02⟩ := hS.pp _ (hr.p a0 (by simp))
  have htu0 : tuF a0 = [valsF a0.1, x00, x01, x02] := by unfold tuF; rw [hx0]
  have hcv0 : (D.f (valsF a0.1)).cells = some [.f (valsF a0.1)] := ce_slc ..
  have h25_0 := ans25 a0.1 t.1 (by have := hr.l a0 (by simp); omega)
  have q25_0 := fun k => aB_iff (k := k) h25_0
  obtain ⟨x10, x11, x12, hx1, hd10, hd11, hd12⟩ := hS.pp _ (hr.p a1 (by simp))
  have htu1 : tuF a1 = [valsF a1.1, x10, x11, x12] := by unfold tuF; rw [hx1]
  have hcv1 : (D.f (valsF a1.1)).cells = some [.f (valsF a1.1)] := ce_slc ..
  have h25_1 := ans25 a1.1 t.1 (by have := hr.l a1 (by simp); omega)
  have q25_1 := fun k => aB_iff (k := k) h25_1
  have ho0 : RelOk SS PP ⟨nm, ce, co, [t, a0, a1]⟩ := by simpa using hout 0 (by simp)
  obtain ⟨f0, g0⟩ := ans34 hS _ ho0
  have c0 := ans37 hS _ ho0
  have ho1 : RelOk SS PP ⟨nm, ce, co, [a0, t, a1]⟩ := by simpa using hout 1 (by simp)
  obtain ⟨f1, g1⟩ := ans34 hS _ ho1
  have c1 := ans37 hS _ ho1
  have ho2 : RelOk SS PP ⟨nm, ce, co, [a0, a1, t]⟩ := by simpa using hout 2 (by simp)
  obtain ⟨f2, g2⟩ := ans34 hS _ ho2
  have c2 := ans37 hS _ ho2
  simp only [rlF, List.map_cons, List.map_nil, slc_cons, slc_nil, htu, htu0, htu1] at h34 h36 g0 c0 g1 c1 g2 c2
  have q34 := fun k => aB_iff (k := k) h34
  have q36 := fun k => aB_iff (k := k) h36
  have qg0 := fun k => aB_iff (k := k) g0
  have qc0 := fun k => aB_iff (k := k) c0
  have qg1 := fun k => aB_iff (k := k) g1
  have qc1 := fun k => aB_iff (k := k) c1
  have qg2 := fun k => aB_iff (k := k) g2
  have qc2 := fun k => aB_iff (k := k) c2
  by_cases he1 : e1 = 0
  rotate_left
  ·simp -implicitDefEqProofs [rulA, Function.comp_def, Nat.blt_eq, apO, st0, tmOf, rlF, List.map_cons, List.map_nil, slc_cons, slc_nil, htu, htu0, htu1, q34, he1, hco, hcc, vals_d, hw1, hw2, hw3, leMax, leF, hd0, hd1, hd2, hcv, hd00, hd01, hd02, hcv0, hd10, hd11, hd12, hcv1]
   exact .inl ⟨_, he1, rfl⟩
  subst he1
  by_cases he2 : e2 = 0
  rotate_left
  ·simp -implicitDefEqProofs [rulA, Function.comp_def, Nat.blt_eq, apO, st0, tmOf, rlF, List.map_cons, List.map_nil, slc_cons, slc_nil, htu, htu0, htu1, q34, q35, he2, hco, hcc, vals_d, hw1, hw2, hw3, leMax, leF, hd0, hd1, hd2, hcv, hd00, hd01, hd02, hcv0, hd10, hd11, hd12, hcv1]
   exact .inl ⟨_, he2, rfl⟩
  subst he2
  cases b6 with
  | true =>
   simp -implicitDefEqProofs [rulA, Function.comp_def, Nat.blt_eq, apO, st0, tmOf, rlF, List.map_cons, List.map_nil, slc_cons, slc_nil, htu, htu0, htu1, q34, q35, q36, hco, hcc, vals_d, hw1, hw2, hw3, leMax, leF, hd0, hd1, hd2, hcv, hd00, hd01, hd02, hcv0, hd10, hd11, hd12, hcv1]
   exact .inl ⟨_, by decide, rfl⟩
  | false =>
   simp -implicitDefEqProofs [rulA, Function.comp_def, Nat.blt_eq, apO, st0, tmOf, rlF, List.map_cons, List.map_nil, slc_cons, slc_nil, htu, htu0, htu1, q34, q35, q36, hco, hcc, vals_d, hw1, hw2, hw3, leMax, leF, hd0, hd1, hd2, hcv, hd00, hd01, hd02, hcv0, hd10, hd11, hd12, hcv1]
   refine round ?_
   simp -implicitDefEqProofs [rulA, Function.comp_def, Nat.blt_eq, apO, hco, hcc, vals_d, hw1, hw2, hw3, leMax, leF, hd0, hd1, hd2, hcv, hd00, hd01, hd02, hcv0, hd10, hd11, hd12, hcv1]
   refine dreg_i ?_
   by_cases k0 : cmpL a0.1 t.1 < 0
   ·simp -implicitDefEqProofs [rulA, Function.comp_def, Nat.blt_eq, apO, hco, hcc, vals_d, hw1, hw2, hw3, leMax, leF, hd0, hd1, hd2, hcv, hd00, hd01, hd02, hcv0, hd10, hd11, hd12, hcv1, q25_0, k0]
    refine round ?_
    simp -implicitDefEqProofs [rulA, Function.comp_def, Nat.blt_eq, apO, hco, hcc, vals_d, hw1, hw2, hw3, leMax, leF, hd0, hd1, hd2, hcv, hd00, hd01, hd02, hcv0, hd10, hd11, hd12, hcv1]
    refine dreg_i ?_
    by_cases k1 : cmpL a1.1 t.1 < 0
    ·simp -implicitDefEqProofs [rulA, Function.comp_def, Nat.blt_eq, apO, hco, hcc, vals_d, hw1, hw2, hw3, leMax, leF, hd0, hd1, hd2, hcv, hd00, hd01, hd02, hcv0, hd10, hd11, hd12, hcv1, q25_1, k1]
     refine round ?_
     simp -implicitDefEqProofs [rulA, Function.comp_def, Nat.blt_eq, apO, hco, hcc, vals_d, hw1, hw2, hw3, leMax, leF, hd0, hd1, hd2, hcv, hd00, hd01, hd02, hcv0, hd10, hd11, hd12, hcv1]
     refine dreg_i ?_
     simp -implicitDefEqProofs [rulA, Function.comp_def, Nat.blt_eq, apO, hco, hcc, vals_d, hw1, hw2, hw3, leMax, leF, hd0, hd1, hd2, hcv, hd00, hd01, hd02, hcv0, hd10, hd11, hd12, hcv1]
     refine dreg_i ?_
     by_cases hf : f2 = 0
     ·subst hf
      simp -implicitDefEqProofs [rulA, Function.comp_def, Nat.blt_eq, apO, hco, hcc, vals_d, hw1, hw2, hw3, leMax, leF, hd0, hd1, hd2, hcv, hd00, hd01, hd02, hcv0, hd10, hd11, hd12, hcv1, qg2, qc2]
      exact .inr ⟨2, by simp, by simp [rlF, List.map_cons, List.map_nil, slc_cons, slc_nil, htu, htu0, htu1]⟩
     ·simp -implicitDefEqProofs [rulA, Function.comp_def, Nat.blt_eq, apO, hco, hcc, vals_d, hw1, hw2, hw3, leMax, leF, hd0, hd1, hd2, hcv, hd00, hd01, hd02, hcv0, hd10, hd11, hd12, hcv1, qg2, hf]
      exact .inl ⟨_, hf, rfl⟩
    ·simp -implicitDefEqProofs [rulA, Function.comp_def, Nat.blt_eq, apO, hco, hcc, vals_d, hw1, hw2, hw3, leMax, leF, hd0, hd1, hd2, hcv, hd00, hd01, hd02, hcv0, hd10, hd11, hd12, hcv1, q25_1, k1]
     refine dreg_i ?_
     by_cases hf : f1 = 0
     ·subst hf
      simp -implicitDefEqProofs [rulA, Function.comp_def, Nat.blt_eq, apO, hco, hcc, vals_d, hw1, hw2, hw3, leMax, leF, hd0, hd1, hd2, hcv, hd00, hd01, hd02, hcv0, hd10, hd11, hd12, hcv1, qg1, qc1]
      exact .inr ⟨1, by simp, by simp [rlF, List.map_cons, List.map_nil, slc_cons, slc_nil, htu, htu0, htu1]⟩
     ·simp -implicitDefEqProofs [rulA, Function.comp_def, Nat.blt_eq, apO, hco, hcc, vals_d, hw1, hw2, hw3, leMax, leF, hd0, hd1, hd2, hcv, hd00, hd01, hd02, hcv0, hd10, hd11, hd12, hcv1, qg1, hf]
      exact .inl ⟨_, hf, rfl⟩
   ·simp -implicitDefEqProofs [rulA, Function.comp_def, Nat.blt_eq, apO, hco, hcc, vals_d, hw1, hw2, hw3, leMax, leF, hd0, hd1, hd2, hcv, hd00, hd01, hd02, hcv0, hd10, hd11, hd12, hcv1, q25_0, k0]
    refine dreg_i ?_
    by_cases hf : f0 = 0
    ·subst hf
     simp -implicitDefEqProofs [rulA, Function.comp_def, Nat.blt_eq, apO, hco, hcc, vals_d, hw1, hw2, hw3, leMax, leF, hd0, hd1, hd2, hcv, hd00, hd01, hd02, hcv0, hd10, hd11, hd12, hcv1, qg0, qc0]
     exact .inr ⟨0, by simp, by simp [rlF, List.map_cons, List.map_nil, slc_cons, slc_nil, htu, htu0, htu1]⟩
    ·simp -implicitDefEqProofs [rulA, Function.comp_def, Nat.blt_eq, apO, hco, hcc, vals_d, hw1, hw2, hw3, leMax, leF, hd0, hd1, hd2, hcv, hd00, hd01, hd02, hcv0, hd10, hd11, hd12, hcv1, qg0, hf]
     exact .inl ⟨_, hf, rfl⟩
 | _ :: _ :: _ :: _, h => exact absurd h (by simp)
end Go.Proofs.YtffjpakgkecheaaGreat
