/- t -/
import Derived.Test.YtffjpakgkecheaaGreatShX
import Derived.Test.YtffjpakgkecheaaGreatW6
import Derived.Test.YtffjpakgkecheaaGreatShG
set_option linter.all false
namespace Go.Proofs.YtffjpakgkecheaaGreat
open Go Go.Vse Go.Vse.Sm
set_option maxRecDepth 100000
set_option maxHeartbeats 4000000
set_option linter.unusedSimpArgs false
theorem fn73 : pr.fn 73 = some g73 := by kernel_rfl
theorem fn34 : pr.fn 34 = some g34 := by kernel_rfl
theorem fn36 : pr.fn 36 = some g36 := by kernel_rfl
structure SumTab (SS : Nat → List F → Prop) (PP : List F → Prop) : Prop where
 z : ∃ p, SS 0 p ∧ Ans pr 16 [.i .i64 0] (.ag p)
 pc : ∀ k p, SS k p → Pc p
 pp : ∀ p, PP p → Pc p
 add : ∀ k s p, k < 3 → SS k s → PP p → ∃ r, SS (k + 1) r ∧ Ans pr 113 [.ag s, .ag p] (.ag r)
 prob : ∀ k s, SS k s → ∃ b, Ans pr 72 [.ag s] (.b b)
 norm : ∀ p, PP p → Ans pr 76 [.ag p] (.ag p)
def ixF (b : List Nat) : F := .sl 1 (b.map fun i => [.i .i64 (i : Nat)])
def I73 (SS : Nat → List F → Prop) (r : Rl) (b : List Nat) (k : Nat) (s : St) : Prop :=
 ∃ n : Nat, n ≤ b.length ∧ k = b.length - n ∧ s.tm.get 1 = some (.f (ixF b)) ∧ s.tm.get 2 = some (.ptr 0 4 0 0) ∧ s.tm.get 4 = some (.ptr 1 3 0 0) ∧ s.tm.get 5 = some (.ptr 2 3 0 0) ∧ s.tm.get 6 = some (.f (.i .i64 n)) ∧
  s.h.get 0 = some (.arr 4 0 [[.f (.s r.nm), .f (.b r.ce), .f r.co, .f (slc 4 (r.tu.map tuF))]]) ∧ s.h.get 1 = some (.arr 3 0 [[.f (.b false), .f .nils, .f .nils]]) ∧ 3 ≤ s.c ∧
  ∃ p0 p1 p2 : F, SS n [p0, p1, p2] ∧ s.h.get 2 = some (.arr 3 0 [[.f p0, .f p1, .f p2]])
def R73 (SS : Nat → List F → Prop) (b : List Nat) (x : Ex) (s : St) : Prop :=
 x = .exit 0 ∧ s.tm.get 4 = some (.ptr 1 3 0 0) ∧ s.tm.get 5 = some (.ptr 2 3 0 0) ∧ s.h.get 1 = some (.arr 3 0 [[.f (.b false), .f .nils, .f .nils]]) ∧ 3 ≤ s.c ∧ ∃ p0 p1 p2 : F, SS b.length [p0, p1, p2] ∧ s.h.get 2 = some (.arr 3 0 [[.f p0, .f p1, .f p2]])
theorem ans73 {SS : Nat → List F → Prop} {PP : List F → Prop} (hS : SumTab SS PP) (r : Rl) (hco : r.co.d = .f r.co) (hce : (D.f r.co).cells = some [.f r.co]) (hT : ∀ t ∈ r.tu, PP t.2) (b : List Nat) (hb : b.length ≤ 3) (hbi : ∀ i ∈ b, i < r.tu.length) :
  ∃ p, SS b.length p ∧ Ans pr 73 [.ag (rlF r), ixF b] (.ag p) := by
 have main : ∃ y, (∃ p, y = .ag p ∧ SS b.length p) ∧ Ans pr 73 [.ag (rlF r), ixF b] y := by
  refine ansE fn73 ?_
  obtain ⟨z, hz0, hz⟩ := hS.z
  obtain ⟨z0, z1, z2, rfl, hd0, hd1, hd2⟩ := hS.pc _ _ hz0
  have q16 := fun k => aB_iff (k := k) hz
  unfold g73
  dsimp only [oR, oM, oN, oG, oH, oF, oL, oK, oI, oS, oZ, oD]
  simp -implicitDefEqProofs [rulA, Function.comp_def, Nat.blt_eq, apO, st0, tmOf, rlF, ixF, hco, q16, hd0, hd1, hd2]
  refine loopW (I73 SS r b) (R73 SS b) ?_ b.length _ ⟨0, Nat.zero_le _, rfl, ?_, ?_, ?_, ?_, ?_, ?_, ?_, ?_, z0, z1, z2, hz0, ?_⟩ ?_
  any_goals (simp -implicitDefEqProofs [rulA, Function.comp_def, Nat.blt_eq, apO, tmOf, ixF]; done)
  ·rintro k s ⟨n, hn, rfl, h1, h2, h4, h5, h6, g0, g1, hc, p0, p1, p2, hp, g2⟩
   have hw := wrap_suc n (by omega)
   have c0 : 0 < s.c := by omega
   have c1 : 1 < s.c := by omega
   have c2 : 2 < s.c := by omega
   by_cases hlt : n < b.length
   ·have hix := hbi _ (List.getElem_mem hlt)
    have hpt := hT _ (List.getElem_mem hix)
    obtain ⟨x0, x1, x2, hx, _, _, _⟩ := hS.pp _ hpt
    have htu : tuF (r.tu[b[n]]) = [valsF (r.tu[b[n]]).1, x0, x1, x2] := by unfold tuF; rw [hx]
    obtain ⟨w, hw1, hw2⟩ := hS.add n _ _ (by omega) hp hpt
    obtain ⟨w0, w1, w2, rfl, he0, he1, he2⟩ := hS.pc _ _ hw1
    rw [hx] at hw2
    have q113 := fun k => aB_iff (k := k) hw2
    simp only [ixF] at h1
    simp -implicitDefEqProofs [rulA, Function.comp_def, Nat.blt_eq, apO, h1, h2, h4, h5, h6, g0, g1, g2, hlt]
    refine dreg_i ?_
    simp -implicitDefEqProofs [rulA, Function.comp_def, Nat.blt_eq, apO, h1, h2, h4, h5, h6, g0, g1, g2, hlt, hix, htu, q113, he0, he1, he2, c0, c1, c2, hw]
    rw [lp_nrm]
    refine ⟨b.length - (n + 1), by omega, n + 1, by omega, rfl, ?_, ?_, ?_, ?_, ?_, ?_, ?_, ?_, w0, w1, w2, hw1, ?_⟩
    all_goals simp -implicitDefEqProofs [rulA, Function.comp_def, Nat.blt_eq, apO, h1, h2, h4, h5, h6, g0, g1, g2, ixF, c0, c1, c2, hc]
   ·have hnl : n = b.length := by omega
    subst hnl
    simp only [ixF] at h1
    simp -implicitDefEqProofs [rulA, Function.comp_def, Nat.blt_eq, apO, h1, h6]
    exact ⟨rfl, by simp -implicitDefEqProofs [rulA, Function.comp_def, Nat.blt_eq, apO, h4], by simp -implicitDefEqProofs [rulA, Function.comp_def, Nat.blt_eq, apO, h5], by simp -implicitDefEqProofs [rulA, Function.comp_def, Nat.blt_eq, apO, g1], by simp -implicitDefEqProofs [rulA, Function.comp_def, Nat.blt_eq, apO, hc], p0, p1, p2, hp, by simp -implicitDefEqProofs [rulA, Function.comp_def, Nat.blt_eq, apO, g2]⟩
  ·rintro x s ⟨rfl, h4, h5, g1, hc, p0, p1, p2, hp, g2⟩
   have c1 : 1 < s.c := by omega
   simp -implicitDefEqProofs [rulA, Function.comp_def, Nat.blt_eq, apO, h4, h5, g1, g2, c1]
   exact hp
 obtain ⟨y, ⟨p, rfl, hp⟩, ha⟩ := main
 exact ⟨p, hp, ha⟩
def blkF (B : List (List Nat)) : F := slc 1 (B.map fun b => [ixF b])
structure RelOk (SS : Nat → List F → Prop) (PP : List F → Prop) (r : Rl) : Prop where
 co : r.co.d = .f r.co
 cc : (D.f r.co).cells = some [.f r.co]
 v : Ans pr 70 [.ag [.s r.nm, .b r.ce, r.co]] (.b true)
 n : r.tu.length ≤ 3
 p : ∀ t ∈ r.tu, PP t.2
 c : ∀ t ∈ r.tu, ∃ e, Ans pr 35 [.ag [.s r.nm, .b r.ce, r.co], .ag (tuF t)] (.i .i64 e)
 l : ∀ t ∈ r.tu, t.1.length < 10
 g : ∃ B : List (List Nat), Ans pr 71 [.ag (rlF r)] (blkF B) ∧ B.length ≤ 3 ∧ ∀ b ∈ B, b.length ≤ 3 ∧ ∀ i ∈ b, i < r.tu.length
abbrev V2 (r : Rl) (s : St) : Prop := s.tm.get 1 = some (.ptr 0 4 0 0) ∧ s.h.get 0 = some (.arr 4 0 [[.f (.s r.nm), .f (.b r.ce), .f r.co, .f (slc 4 (r.tu.map tuF))]]) ∧ 1 ≤ s.c
def I34 (r : Rl) (k : Nat) (s : St) : Prop := ∃ n : Nat, n ≤ r.tu.length ∧ k = r.tu.length - n ∧ V2 r s ∧ s.tm.get 3 = some (.f (.i .i64 n))
def R34 (r : Rl) (x : Ex) (s : St) : Prop := (x = .exit 0 ∧ V2 r s) ∨ (x = .ret ∧ ∃ e, s.tm.get 2 = some (.f (.i .i64 e)))
def J34 (r : Rl) (B : List (List Nat)) (k : Nat) (s : St) : Prop := ∃ n : Nat, n ≤ B.length ∧ k = B.length - n ∧ V2 r s ∧ s.tm.get 6 = some (.f (blkF B)) ∧ s.tm.get 7 = some (.f (.i .i64 n))
def S34 (r : Rl) (B : List (List Nat)) (x : Ex) (s : St) : Prop := x = .exit 3 ∧ V2 r s ∧ s.tm.get 6 = some (.f (blkF B))
def K34 (r : Rl) (B : List (List Nat)) (k : Nat) (s : St) : Prop := ∃ n : Nat, n ≤ B.length ∧ k = B.length - n ∧ V2 r s ∧ s.tm.get 6 = some (.f (blkF B)) ∧ s.tm.get 8 = some (.f (.i .i64 n))
def T34 (x : Ex) (s : St) : Prop := x = .exit 5 ∨ (x = .ret ∧ ∃ e, s.tm.get 2 = some (.f (.i .i64 e)))
theorem ix_d (b : List Nat) : (ixF b).d = .f (ixF b) := rfl
theorem ix_len (b : List Nat) : lenB (.f (ixF b)) = some b.length := by simp [ixF, lenB]
theorem blk_d (B : List (List Nat)) : (blkF B).d = .f (blkF B) := slc_d ..
theorem blk_len (B : List (List Nat)) : lenB (.f (blkF B)) = some B.length := by simp [blkF, slc_len]
theorem blk_ia (B : List (List Nat)) (n : Nat) : iaB 1 (.f (blkF B)) n = (B[n]?).map fun b => D.fptr [ixF b] := by simp [blkF, slc_ia, Function.comp_def]
def IsInt (y : F) : Prop := ∃ e, y = .i .i64 e
theorem ans34 {SS : Nat → List F → Prop} {PP : List F → Prop} (hS : SumTab SS PP) (r : Rl) (hr : RelOk SS PP r) : ∃ e, Ans pr 34 [.ag (rlF r)] (.i .i64 e) := by
 have main : ∃ y, IsInt y ∧ Ans pr 34 [.ag (rlF r)] y := by
  refine ansE fn34 ?_
  obtain ⟨B, hB, hBn, hBb⟩ := hr.g
  have hnT := hr.n
  have hco := hr.co
  have q70 := fun k => aB_iff (k := k) hr.v
  simp only [rlF] at hB
  have q71 := fun k => aB_iff (k := k) hB
  have h64 : ¬ ((64 : Int) < (r.tu.length : Int)) := by omega
  unfold g34
  dsimp only [oR, oM, oN, oG, oH, oF, oL, oK, oI, oS, oZ, oD]
  simp -implicitDefEqProofs [rulA, Function.comp_def, Nat.blt_eq, apO, st0, tmOf, rlF, hco, q70, h64]
  refine loopW (I34 r) (R34 r) ?_ r.tu.length _ ⟨0, Nat.zero_le _, rfl, ⟨?_, ?_, ?_⟩, ?_⟩ ?_
  any_goals (simp -implicitDefEqProofs [rulA, Function.comp_def, Nat.blt_eq, apO, tmOf]; done)
  ·rintro k s ⟨n, hn, rfl, ⟨h1, g0, hc⟩, h3⟩
   have hw := wrap_suc n (by omega)
   have c0 : 0 < s.c := by omega
   by_cases hlt : n < r.tu.length
   ·obtain ⟨e, he⟩ := hr.c _ (List.getElem_mem hlt)
    obtain ⟨x0, x1, x2, hx, hd0, hd1, hd2⟩ := hS.pp _ (hr.p _ (List.getElem_mem hlt))
    have htu : tuF (r.tu[n]) = [valsF (r.tu[n]).1, x0, x1, x2] := by unfold tuF; rw [hx]
    rw [htu] at he
    have q35 := fun k => aB_iff (k := k) he
    simp -implicitDefEqProofs [rulA, Function.comp_def, Nat.blt_eq, apO, h1, g0, h3, hlt]
    refine dreg_i ?_
    by_cases he0 : e = 0
    ·subst he0
     cases n with
     | zero =>
      have hw01 : IntKind.i64.wrap 1 = 1 := by decide
      simp -implicitDefEqProofs [rulA, Function.comp_def, Nat.blt_eq, apO, h1, g0, h3, hlt, htu, hco, vals_d, hd0, hd1, hd2, q35, hw01]
      rw [lp_nrm]
      refine ⟨r.tu.length - 1, by omega, 1, by omega, rfl, ⟨?_, ?_, ?_⟩, ?_⟩
      all_goals simp -implicitDefEqProofs [rulA, Function.comp_def, Nat.blt_eq, apO, h1, g0, hc]
     | succ m =>
      have hwm : IntKind.i64.wrap (m : Int) = (m : Int) := wrap_i64 _ (by omega) (by omega)
      have hwm2 : IntKind.i64.wrap ((m : Int) + 1 + 1) = ((m + 2 : Nat) : Int) := wrap_i64 _ (by omega) (by omega)
      have hltm : m < r.tu.length := by omega
      have hne0 : ¬ ((m : Int) + 1 = 0) := by omega
      have hp0 : (0 : Int) ≤ (m : Int) + 1 := by omega
      have h25 := ans25 (r.tu[m]).1 (r.tu[m + 1]).1 (by have := hr.l _ (List.getElem_mem hltm); omega)
      obtain ⟨y0, y1, y2, hy, _, _, _⟩ := hS.pp _ (hr.p _ (List.getElem_mem hltm))
      have htum : tuF (r.tu[m]) = [valsF (r.tu[m]).1, y0, y1, y2] := by unfold tuF; rw [hy]
      have q25 := fun k => aB_iff (k := k) h25
      simp -implicitDefEqProofs [rulA, Function.comp_def, Nat.blt_eq, apO, h1, g0, h3, hlt, hltm, hp0, htu, htum, hco, vals_d, hd0, hd1, hd2, q35, hne0]
      refine dreg_i ?_
      by_cases k0 : cmpL (r.tu[m]).1 (r.tu[m + 1]).1 = 0
      ·rw [k0] at q25
       simp -implicitDefEqProofs [rulA, Function.comp_def, Nat.blt_eq, apO, h1, g0, h3, hlt, hltm, hp0, htu, htum, hco, vals_d, hd0, hd1, hd2, hwm, q25]
       exact .inr ⟨rfl, 8, by simp -implicitDefEqProofs [rulA, Function.comp_def, Nat.blt_eq, apO, h1]⟩
      ·by_cases k1 : 0 < cmpL (r.tu[m]).1 (r.tu[m + 1]).1
       ·simp -implicitDefEqProofs [rulA, Function.comp_def, Nat.blt_eq, apO, h1, g0, h3, hlt, hltm, hp0, htu, htum, hco, vals_d, hd0, hd1, hd2, hwm, q25, k0, k1]
        exact .inr ⟨rfl, 1, by simp -implicitDefEqProofs [rulA, Function.comp_def, Nat.blt_eq, apO, h1]⟩
       ·simp -implicitDefEqProofs [rulA, Function.comp_def, Nat.blt_eq, apO, h1, g0, h3, hlt, hltm, hp0, htu, htum, hco, vals_d, hd0, hd1, hd2, hwm, q25, k0, k1, hwm2]
        rw [lp_nrm]
        refine ⟨r.tu.length - (m + 2), by omega, m + 2, by omega, rfl, ⟨?_, ?_, ?_⟩, ?_⟩
        all_goals simp -implicitDefEqProofs [rulA, Function.comp_def, Nat.blt_eq, apO, h1, g0, hc]
        all_goals omega
    ·simp -implicitDefEqProofs [rulA, Function.comp_def, Nat.blt_eq, apO, h1, g0, h3, hlt, htu, hco, vals_d, hd0, hd1, hd2, q35, he0]
     exact .inr ⟨rfl, e, by simp -implicitDefEqProofs [rulA, Function.comp_def, Nat.blt_eq, apO, h1]⟩
   ·simp -implicitDefEqProofs [rulA, Function.comp_def, Nat.blt_eq, apO, h1, g0, h3, hlt]
    exact .inl ⟨rfl, by simp -implicitDefEqProofs [rulA, Function.comp_def, Nat.blt_eq, apO, h1], by simp -implicitDefEqProofs [rulA, Function.comp_def, Nat.blt_eq, apO, g0], by simp -implicitDefEqProofs [rulA, Function.comp_def, Nat.blt_eq, apO, hc]⟩
  ·rintro x s (⟨rfl, h1, g0, hc⟩ | ⟨rfl, e, h2⟩)
   ·have c0 : 0 < s.c := by omega
    simp -implicitDefEqProofs [rulA, Function.comp_def, Nat.blt_eq, apO, h1, g0, hco, q71, blk_d]
    refine loopW (J34 r B) (S34 r B) ?_ B.length _ ⟨0, Nat.zero_le _, rfl, ⟨?_, ?_, ?_⟩, ?_, ?_⟩ ?_
    any_goals (simp -implicitDefEqProofs [rulA, Function.comp_def, Nat.blt_eq, apO, h1, g0, hc]; done)
    ·rintro k s ⟨n, hn, rfl, ⟨h1, g0, hc⟩, h6, h7⟩
     have hw := wrap_suc n (by omega)
     by_cases hlt : n < B.length
     ·have hbl := (hBb _ (List.getElem_mem hlt)).1
      have h16 : ¬ ((16 : Int) < ((B[n]).length : Int)) := by omega
      simp -implicitDefEqProofs [rulA, Function.comp_def, Nat.blt_eq, apO, h1, g0, h6, h7, hlt, blk_len, blk_ia, ix_len, ix_d, h16, hw]
      rw [lp_nrm]
      refine ⟨B.length - (n + 1), by omega, n + 1, by omega, rfl, ⟨?_, ?_, ?_⟩, ?_, ?_⟩
      all_goals simp -implicitDefEqProofs [rulA, Function.comp_def, Nat.blt_eq, apO, h1, g0, hc, h6]
     ·simp -implicitDefEqProofs [rulA, Function.comp_def, Nat.blt_eq, apO, h1, g0, h6, h7, hlt, blk_len]
      exact ⟨rfl, ⟨by simp -implicitDefEqProofs [rulA, Function.comp_def, Nat.blt_eq, apO, h1], by simp -implicitDefEqProofs [rulA, Function.comp_def, Nat.blt_eq, apO, g0], by simp -implicitDefEqProofs [rulA, Function.comp_def, Nat.blt_eq, apO, hc]⟩, by simp -implicitDefEqProofs [rulA, Function.comp_def, Nat.blt_eq, apO, h6]⟩
    ·rintro x s ⟨rfl, ⟨h1, g0, hc⟩, h6⟩
     simp -implicitDefEqProofs [rulA, Function.comp_def, Nat.blt_eq, apO, h1, g0, h6]
     refine loopW (K34 r B) T34 ?_ B.length _ ⟨0, Nat.zero_le _, rfl, ⟨?_, ?_, ?_⟩, ?_, ?_⟩ ?_
     any_goals (simp -implicitDefEqProofs [rulA, Function.comp_def, Nat.blt_eq, apO, h1, g0, hc, h6]; done)
     ·rintro k s ⟨n, hn, rfl, ⟨h1, g0, hc⟩, h6, h8⟩
      have hw := wrap_suc n (by omega)
      have c0 : 0 < s.c := by omega
      by_cases hlt : n < B.length
      ·obtain ⟨hbl, hbi⟩ := hBb _ (List.getElem_mem hlt)
       obtain ⟨p, hp, h73⟩ := ans73 hS r hr.co hr.cc hr.p (B[n]) hbl hbi
       obtain ⟨b, h72⟩ := hS.prob _ _ hp
       obtain ⟨w0, w1, w2, rfl, he0, he1, he2⟩ := hS.pc _ _ hp
       simp only [rlF] at h73
       have q73 := fun k => aB_iff (k := k) h73
       have q72 := fun k => aB_iff (k := k) h72
       simp -implicitDefEqProofs [rulA, Function.comp_def, Nat.blt_eq, apO, h1, g0, h6, h8, hlt, blk_len]
       refine dreg_i ?_
       cases b with
       | true =>
        simp -implicitDefEqProofs [rulA, Function.comp_def, Nat.blt_eq, apO, h1, g0, h6, h8, hlt, blk_ia, ix_d, hco, q73, q72, he0, he1, he2, hw, c0]
        rw [lp_nrm]
        refine ⟨B.length - (n + 1), by omega, n + 1, by omega, rfl, ⟨?_, ?_, ?_⟩, ?_, ?_⟩
        all_goals simp -implicitDefEqProofs [rulA, Function.comp_def, Nat.blt_eq, apO, h1, g0, hc, h6]
       | false =>
        simp -implicitDefEqProofs [rulA, Function.comp_def, Nat.blt_eq, apO, h1, g0, h6, h8, hlt, blk_ia, ix_d, hco, q73, q72, he0, he1, he2, hw, c0]
        exact .inr ⟨rfl, 19, by simp -implicitDefEqProofs [rulA, Function.comp_def, Nat.blt_eq, apO, h1]⟩
      ·simp -implicitDefEqProofs [rulA, Function.comp_def, Nat.blt_eq, apO, h1, g0, h6, h8, hlt, blk_len]
       exact .inl rfl
     ·rintro x s (rfl | ⟨rfl, e, h2⟩)
      ·simp -implicitDefEqProofs [rulA, Function.comp_def, Nat.blt_eq, apO, h1]
       exact ⟨_, rfl⟩
      ·simp -implicitDefEqProofs [rulA, Function.comp_def, Nat.blt_eq, apO, h2]
       exact ⟨_, rfl⟩
   ·simp -implicitDefEqProofs [rulA, Function.comp_def, Nat.blt_eq, apO, h2]
    exact ⟨e, rfl⟩
 obtain ⟨y, ⟨e, rfl⟩, ha⟩ := main
 exact ⟨e, ha⟩
end Go.Proofs.YtffjpakgkecheaaGreat
