/- t -/
import Derived.Test.YtffjpakgkecheaaGreatShX
import Derived.Test.YtffjpakgkecheaaGreatW4
import Derived.Test.YtffjpakgkecheaaGreatShF
set_option linter.all false
namespace Go.Proofs.YtffjpakgkecheaaGreat
open Go Go.Vse Go.Vse.Sm
set_option maxRecDepth 100000
set_option maxHeartbeats 4000000
set_option linter.unusedSimpArgs false
theorem fn24 : pr.fn 24 = some g24 := by kernel_rfl
def ext1 (l : List Rl) (c : CQ) (as : List Atm) (e : Env) (a : Atm) (t : List Int × List F) : List Env := if (fits e a t.1).2 then extend (rels l) c as (fits e a t.1).1 else []
theorem extend_pos (l : List Rl) (c : CQ) (a : Atm) (as : List Atm) (e : Env) (h : a.neg = false) : extend (rels l) c (a :: as) e = (fnd l a.r).flatMap (ext1 l c as e a) := by
 simp only [extend, h]
 rw [← fnd_tups, List.flatMap_map]
 rfl
theorem extend_neg (l : List Rl) (c : CQ) (a : Atm) (as : List Atm) (e : Env) (h : a.neg = true) : extend (rels l) c (a :: as) e = extend (rels l) c as e := by
 simp [extend, h]
theorem flat_len {α β : Type} (f : α → List β) (N : Nat) : ∀ l : List α, (∀ a ∈ l, (f a).length ≤ N) → (l.flatMap f).length ≤ l.length * N
 | [], _ => by simp
 | a :: l, h => by
  have h1 := h a (by simp)
  have h2 := flat_len f N l fun a ha => h a (by simp [ha])
  simp only [List.flatMap_cons, List.length_append, List.length_cons, Nat.add_mul, Nat.one_mul]
  omega
theorem extend_len (l : List Rl) (c : CQ) (hl : RlsOk l) : ∀ (as : List Atm) (e : Env), (extend (rels l) c as e).length ≤ 4 ^ as.length
 | [], e => by
  simp only [extend]
  split <;> simp
 | a :: as, e => by
  have h4 : 4 ^ as.length ≤ 4 ^ (a :: as).length := by simp [Nat.pow_succ]; omega
  cases hn : a.neg with
  | true => rw [extend_neg _ _ _ _ _ hn]; exact Nat.le_trans (extend_len l c hl as e) h4
  | false =>
   rw [extend_pos _ _ _ _ _ hn]
   have h1 := flat_len (ext1 l c as e a) (4 ^ as.length) (fnd l a.r) (fun t _ => by
    unfold ext1
    split
    ·exact extend_len l c hl as _
    ·simp)
   have h2 := (fnd_ok hl a.r).1
   have h3 : (fnd l a.r).length * 4 ^ as.length ≤ 3 * 4 ^ as.length := Nat.mul_le_mul_right _ h2
   simp only [List.length_cons, Nat.pow_succ]
   omega
theorem fitsL_len : ∀ (ts : List Trm) (vs : List Int) (e : Env), (fitsL e ts vs).1.length ≤ e.length + ts.length
 | [], vs, e => by simp [fitsL]
 | t :: ts, [], e => by simp [fitsL]
 | t :: ts, v :: vs, e => by
  have hb := bnd_len e t v
  unfold fitsL
  split
  ·have := fitsL_len ts vs (bnd e t v).1
   simp only [List.length_cons]
   omega
  ·simp only [List.length_cons]; omega
theorem fits_len (e : Env) (a : Atm) (vs : List Int) : (fits e a vs).1.length ≤ e.length + a.ts.length := by
 unfold fits
 split
 ·exact fitsL_len ..
 ·simp
def exF (L : List Env) : List (List D) := L.map fun e => (envF e).map D.f
theorem exF_app (a b : List Env) : exF (a ++ b) = exF a ++ exF b := by simp [exF]
theorem exF_len (a : List Env) : (exF a).length = a.length := by simp [exF]
theorem exF_frz (h : Nat → Option Ob) (k : Nat) (L : List Env) : mapFrr (frz h (k + 1)) (exF L) = some (L.map envF, []) := by
 have := frr_F h k (L.map envF)
 rwa [List.map_map] at this
abbrev G2 (l : List Rl) (c : CQ) (e : Env) (s : St) : Prop :=
  s.tm.get 0 = some (.f (slc 4 (l.map rlF))) ∧ s.tm.get 4 = some (.f (.b true)) ∧ s.tm.get 6 = some (.ptr 0 2 0 0) ∧ s.tm.get 8 = some (.ptr 1 2 0 0) ∧
  s.h.get 0 = some (.arr 2 0 [[.f (slc 3 (c.as.map atF)), .f (slc 9 (c.cs.map cmF))]]) ∧ s.h.get 1 = some (.arr 2 0 [[.f (strsF (e.map (·.1))), .f (valsF (e.map (·.2)))]]) ∧ 2 ≤ s.c
def I24 (l : List Rl) (c : CQ) (e : Env) (at' : Nat) (k : Nat) (s : St) : Prop :=
 ∃ n : Nat, at' ≤ n ∧ n ≤ c.as.length ∧ k = c.as.length - n ∧ G2 l c e s ∧ s.tm.get 2 = some (.f (.i .i64 n)) ∧ extend (rels l) c (c.as.drop at') e = extend (rels l) c (c.as.drop n) e
def R24 (l : List Rl) (c : CQ) (e : Env) (at' : Nat) (x : Ex) (s : St) : Prop :=
 x = .exit 0 ∧ ∃ n : Nat, at' ≤ n ∧ n ≤ c.as.length ∧ G2 l c e s ∧ s.tm.get 2 = some (.f (.i .i64 n)) ∧ extend (rels l) c (c.as.drop at') e = extend (rels l) c (c.as.drop n) e ∧ ∀ h : n < c.as.length, (c.as[n]).neg = false
def J24 (l : List Rl) (c : CQ) (e : Env) (n : Nat) (a : Atm) (k : Nat) (s : St) : Prop :=
 ∃ m : Nat, m ≤ (fnd l a.r).length ∧ k = (fnd l a.r).length - m ∧ G2 l c e s ∧ s.tm.get 2 = some (.f (.i .i64 n)) ∧ s.tm.get 12 = some (.f (slc 4 ((fnd l a.r).map tuF))) ∧ s.tm.get 13 = some (.f (.i .i64 m)) ∧
  ∃ d, s.tm.get 11 = some d ∧ Grow s.h 2 s.c 2 d (exF (((fnd l a.r).take m).flatMap (ext1 l c (c.as.drop (n + 1)) e a)))
def S24 (l : List Rl) (c : CQ) (e : Env) (n : Nat) (a : Atm) (x : Ex) (s : St) : Prop :=
 x = .exit 2 ∧ ∃ d, s.tm.get 11 = some d ∧ Grow s.h 2 s.c 2 d (exF ((fnd l a.r).flatMap (ext1 l c (c.as.drop (n + 1)) e a)))
theorem ans24 (l : List Rl) (c : CQ) (hl : RlsOk l) (hc : CqOk c) : ∀ (r at' : Nat) (e : Env), at' ≤ c.as.length → r = c.as.length - at' → e.length ≤ 100 * at' →
  Ans pr 24 [slc 4 (l.map rlF), .ag (cqF c), .i .i64 at', .ag (envF e), .b true] (slc 2 ((extend (rels l) c (c.as.drop at') e).map envF)) := by
 intro r
 induction r using Nat.strongRecOn with
 | ind r ih =>
  intro at' e hat hr he
  have hna := hc.na
  refine ansP fn24 ?_
  unfold g24
  dsimp only [oR, oM, oN, oG, oH, oF, oL, oK, oI, oS, oZ, oD]
  simp -implicitDefEqProofs [rulA, Function.comp_def, Nat.blt_eq, apO, st0, tmOf, cqF, envF, strs_d, vals_d]
  refine loopW (I24 l c e at') (R24 l c e at') ?_ (c.as.length - at') _ ⟨at', Nat.le_refl _, hat, rfl, ⟨?_, ?_, ?_, ?_, ?_, ?_, ?_⟩, ?_, rfl⟩ ?_
  any_goals (simp -implicitDefEqProofs [rulA, Function.comp_def, Nat.blt_eq, apO, tmOf]; done)
  ·rintro k s ⟨n, hn1, hn, rfl, ⟨h0, h4, h6, h8, g0, g1, hc2⟩, h2, hA⟩
   have hw := wrap_suc n (by omega)
   by_cases hlt : n < c.as.length
   ·cases hneg : (c.as[n]).neg with
    | true =>
     simp -implicitDefEqProofs [rulA, Function.comp_def, Nat.blt_eq, apO, h0, h4, h6, h8, g0, g1, h2, hlt, atF, hneg, hw]
     rw [lp_nrm]
     refine ⟨c.as.length - (n + 1), by omega, n + 1, by omega, by omega, rfl, ⟨?_, ?_, ?_, ?_, ?_, ?_, ?_⟩, ?_, ?_⟩
     any_goals (simp -implicitDefEqProofs [rulA, Function.comp_def, Nat.blt_eq, apO, h0, h4, h6, h8, g0, g1, hc2]; done)
     rw [hA, List.drop_eq_getElem_cons hlt, extend_neg _ _ _ _ _ hneg]
    | false =>
     simp -implicitDefEqProofs [rulA, Function.comp_def, Nat.blt_eq, apO, h0, h4, h6, h8, g0, g1, h2, hlt, atF, hneg, hw]
     refine ⟨rfl, n, hn1, hn, ⟨?_, ?_, ?_, ?_, ?_, ?_, ?_⟩, ?_, hA, fun _ => hneg⟩
     all_goals simp -implicitDefEqProofs [rulA, Function.comp_def, Nat.blt_eq, apO, h0, h4, h6, h8, g0, g1, hc2, h2]
   ·simp -implicitDefEqProofs [rulA, Function.comp_def, Nat.blt_eq, apO, h0, h4, h6, h8, g0, g1, h2, hlt]
    refine ⟨rfl, n, hn1, hn, ⟨?_, ?_, ?_, ?_, ?_, ?_, ?_⟩, ?_, hA, fun h => absurd h hlt⟩
    all_goals simp -implicitDefEqProofs [rulA, Function.comp_def, Nat.blt_eq, apO, h0, h4, h6, h8, g0, g1, hc2, h2]
  ·rintro x s ⟨rfl, n, hn1, hn, ⟨h0, h4, h6, h8, g0, g1, hc2⟩, h2, hA, hB⟩
   rw [hA]
   by_cases hlt : n < c.as.length
   ·have hne : ¬ ((n : Int) = (c.as.length : Int)) := by omega
    have hneg := hB hlt
    obtain ⟨hts, htm⟩ := hc.at' (c.as[n]) (List.getElem_mem hlt)
    rw [List.drop_eq_getElem_cons hlt, extend_pos _ _ _ _ _ hneg]
    have h44 := ans44 l (c.as[n]).r (by have := hl.n; omega)
    have q44 := fun k => aB_iff (k := k) h44
    obtain ⟨hfl, hfp⟩ := fnd_ok hl (c.as[n]).r
    simp -implicitDefEqProofs [rulA, Function.comp_def, Nat.blt_eq, apO, h0, h4, h6, h8, g0, g1, h2, hlt, hne, atF, q44]
    refine loopW (J24 l c e n (c.as[n])) (S24 l c e n (c.as[n])) ?_ (fnd l (c.as[n]).r).length _ ⟨0, Nat.zero_le _, rfl, ⟨?_, ?_, ?_, ?_, ?_, ?_, ?_⟩, ?_, ?_, ?_, .f .nils, ?_, ?_⟩ ?_
    any_goals (simp -implicitDefEqProofs [rulA, Function.comp_def, Nat.blt_eq, apO, h0, h4, h6, h8, g0, g1, hc2, h2]; done)
    ·rintro k s ⟨m, hm, rfl, ⟨h0, h4, h6, h8, g0, g1, hc2⟩, h2, h12, h13, d, h11, hg⟩
     have hw := wrap_suc m (by omega)
     have hw2 := wrap_suc n (by omega)
     have c0 : 0 < s.c := by omega
     have c1 : 1 < s.c := by omega
     by_cases hlt2 : m < (fnd l (c.as[n]).r).length
     ·have hp := hfp _ (List.getElem_mem hlt2)
      have h45 := ans45 e (c.as[n]) ((fnd l (c.as[n]).r)[m]) htm hp (by omega)
      obtain ⟨p0, p1, p2, hpe, hd0, hd1, hd2⟩ := hp
      have htu : tuF ((fnd l (c.as[n]).r)[m]) = [valsF ((fnd l (c.as[n]).r)[m]).1, p0, p1, p2] := by unfold tuF; rw [hpe]
      rw [htu] at h45
      have hfl2 := fits_len e (c.as[n]) ((fnd l (c.as[n]).r)[m]).1
      have h24 := ih (c.as.length - (n + 1)) (by omega) (n + 1) (fits e (c.as[n]) ((fnd l (c.as[n]).r)[m]).1).1 (by omega) rfl (by omega)
      simp only [atF, envF, hneg] at h45
      simp only [cqF, envF] at h24
      rw [show ((n + 1 : Nat) : Int) = (n : Int) + 1 from rfl] at h24
      have q45 := fun k => aB_iff (k := k) h45
      have q24 := fun k => aB_iff (k := k) h24
      have htk : ((fnd l (c.as[n]).r).take (m + 1)).flatMap (ext1 l c (c.as.drop (n + 1)) e (c.as[n])) = ((fnd l (c.as[n]).r).take m).flatMap (ext1 l c (c.as.drop (n + 1)) e (c.as[n])) ++ ext1 l c (c.as.drop (n + 1)) e (c.as[n]) ((fnd l (c.as[n]).r)[m]) := by
       rw [List.take_add_one, List.getElem?_eq_getElem hlt2, List.flatMap_append]
       simp [List.flatMap]
      simp -implicitDefEqProofs [rulA, Function.comp_def, Nat.blt_eq, apO, h0, h4, h6, h8, g0, g1, h2, h12, h13, hlt2]
      refine dreg_i ?_
      cases hf2 : (fits e (c.as[n]) ((fnd l (c.as[n]).r)[m]).1).2 with
      | false =>
       rw [hf2] at q45
       have hx : ext1 l c (c.as.drop (n + 1)) e (c.as[n]) ((fnd l (c.as[n]).r)[m]) = [] := by unfold ext1; rw [hf2]; rfl
       rw [hx, List.append_nil] at htk
       simp -implicitDefEqProofs [rulA, Function.comp_def, Nat.blt_eq, apO, h0, h4, h6, h8, g0, g1, h2, h12, h13, hlt, hlt2, atF, hneg, htu, q45, strs_d, vals_d, hd0, hd1, hd2, c0, c1, hw]
       rw [lp_nrm]
       refine ⟨_, ?_, m + 1, by omega, rfl, ⟨?_, ?_, ?_, ?_, ?_, ?_, ?_⟩, ?_, ?_, ?_, d, ?_, ?_⟩
       any_goals (simp -implicitDefEqProofs [rulA, Function.comp_def, Nat.blt_eq, apO, h0, h4, h6, h8, g0, g1, h2, h12, h11, c0, c1]; done)
       ·omega
       ·rw [htk]
        refine grow_up hg ?_ ?_
        ·intro id hid
         have i1 : ¬ id = s.c + 1 + 1 + 1 + 1 + 1 + 1 + 1 + 1 + 1 + 1 + 1 + 1 + 1 + 1 := by omega
         simp -implicitDefEqProofs [rulA, Function.comp_def, Nat.blt_eq, apO, i1]
        ·simp -implicitDefEqProofs [rulA, Function.comp_def, Nat.blt_eq, apO, hc2]; omega
      | true =>
       rw [hf2] at q45
       have hx : ext1 l c (c.as.drop (n + 1)) e (c.as[n]) ((fnd l (c.as[n]).r)[m]) = extend (rels l) c (c.as.drop (n + 1)) (fits e (c.as[n]) ((fnd l (c.as[n]).r)[m]).1).1 := by unfold ext1; rw [hf2]; rfl
       rw [hx] at htk
       simp -implicitDefEqProofs [rulN, Function.comp_def, Nat.blt_eq, h0, h4, h6, h8, g0, g1, h2, h12, h13, h11, hlt, hlt2, atF, hneg, htu, q45, strs_d, vals_d, hd0, hd1, hd2, c0, c1, hw, hw2, q24, el_slc]
       have hb1 : (exF (((fnd l (c.as[n]).r).take m).flatMap (ext1 l c (c.as.drop (n + 1)) e (c.as[n])))).length ≤ 3 * 4 ^ 7 := by
        rw [exF_len]
        have hx4 : ∀ e', (extend (rels l) c (c.as.drop (n + 1)) e').length ≤ 4 ^ 7 := fun e' => Nat.le_trans (extend_len l c hl _ _) (Nat.pow_le_pow_right (by omega) (by simp; omega))
        have := flat_len (ext1 l c (c.as.drop (n + 1)) e (c.as[n])) (4 ^ 7) ((fnd l (c.as[n]).r).take m) (fun t _ => by
         unfold ext1
         split
         ·exact hx4 _
         ·simp)
        have h3 : ((fnd l (c.as[n]).r).take m).length ≤ 3 := by simp; omega
        exact Nat.le_trans this (Nat.mul_le_mul_right _ h3)
       have hb2 : (exF (extend (rels l) c (c.as.drop (n + 1)) (fits e (c.as[n]) ((fnd l (c.as[n]).r)[m]).1).1)).length ≤ 4 ^ 7 := by
        rw [exF_len]
        exact Nat.le_trans (extend_len l c hl _ _) (Nat.pow_le_pow_right (by omega) (by simp; omega))
       refine grow_oB (new := exF (extend (rels l) c (c.as.drop (n + 1)) (fits e (c.as[n]) ((fnd l (c.as[n]).r)[m]).1).1)) (grow_up hg ?_ ?_) ?_ ?_ ?_ ?_
       ·intro id hid
        have i1 : ¬ id = s.c + 1 + 1 + 1 + 1 + 1 + 1 + 1 + 1 + 1 + 1 + 1 + 1 + 1 + 1 := by omega
        simp -implicitDefEqProofs [rulA, Function.comp_def, Nat.blt_eq, apO, i1]
       ·omega
       ·omega
       ·have : (4:Nat) ^ 7 = 16384 := by decide
        omega
       ·omega
       ·intro r hr1 hr2 hr3 hr4
        refine ⟨hr1, ?_⟩
        rw [lp_nrm]
        rw [← exF_app, ← htk] at hr2
        have hr40 := hr4 0 (by omega)
        have hr41 := hr4 1 (by omega)
        have i0 : ¬ 0 = s.c + 1 + 1 + 1 + 1 + 1 + 1 + 1 + 1 + 1 + 1 + 1 + 1 + 1 + 1 := by omega
        refine ⟨(fnd l (c.as[n]).r).length - (m + 1), by omega, m + 1, by omega, rfl, ⟨?_, ?_, ?_, ?_, ?_, ?_, ?_⟩, ?_, ?_, ?_, r.d, ?_, ?_⟩
        any_goals (simp -implicitDefEqProofs [rulA, Function.comp_def, Nat.blt_eq, apO, h0, h4, h6, h8, g0, g1, h2, h12, h11, c0, c1, hr40, hr41, i0]; done)
        ·simp only [ue_tm, ue_h, ue_c, ae_tm, ae_h, ae_c, se_tm, se_h, se_c, up_tm, up_h, up_c, aft_tm, aft_h, aft_c, wt_n, wt_s, wt_d]
         omega
        ·simp only [ue_tm, ue_h, ue_c, ae_tm, ae_h, ae_c, se_tm, se_h, se_c, up_tm, up_h, up_c, aft_tm, aft_h, aft_c, wt_n, wt_s, wt_d]
         exact hr2
     ·have hml : m = (fnd l (c.as[n]).r).length := by omega
      subst hml
      rw [List.take_length] at hg
      simp -implicitDefEqProofs [rulA, Function.comp_def, Nat.blt_eq, apO, h13, h12]
      exact ⟨rfl, d, by simp -implicitDefEqProofs [rulA, Function.comp_def, Nat.blt_eq, apO, h11], hg⟩
    ·exact Grow.nil
    ·rintro x s ⟨rfl, d, h11, hg⟩
     simp -implicitDefEqProofs [rulA, Function.comp_def, Nat.blt_eq, apO, h11]
     obtain ⟨rd, hf⟩ := grow_frz (k := 11) hg (exF_frz _ 10 _)
     simp -implicitDefEqProofs [rulA, Function.comp_def, Nat.blt_eq, apO, hf]
   ·have hnl : n = c.as.length := by omega
    subst hnl
    have h43 := ans43 l c e hl hc (by have := hc.na; omega)
    simp only [cqF, envF] at h43
    have q43 := fun k => aB_iff (k := k) h43
    rw [List.drop_length]
    simp only [extend]
    cases hp : passes (rels l) c e with
    | true =>
     rw [hp] at q43
     simp -implicitDefEqProofs [rulA, Function.comp_def, Nat.blt_eq, apO, h0, h4, h6, h8, g0, g1, h2, q43, strs_d, vals_d, slc_cons, List.map_cons, envF]
    | false =>
     rw [hp] at q43
     simp -implicitDefEqProofs [rulA, Function.comp_def, Nat.blt_eq, apO, h0, h4, h6, h8, g0, g1, h2, q43, slc_nil]
end Go.Proofs.YtffjpakgkecheaaGreat
