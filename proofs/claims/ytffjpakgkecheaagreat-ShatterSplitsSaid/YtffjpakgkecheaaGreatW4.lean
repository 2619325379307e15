/- t -/
import Derived.Test.YtffjpakgkecheaaGreatShX
import Derived.Test.YtffjpakgkecheaaGreatW3
import Derived.Test.YtffjpakgkecheaaGreatShF
set_option linter.all false
namespace Go.Proofs.YtffjpakgkecheaaGreat
open Go Go.Vse Go.Vse.Sm
set_option maxRecDepth 100000
set_option maxHeartbeats 4000000
set_option linter.unusedSimpArgs false
theorem fn43 : pr.fn 43 = some g43 := by kernel_rfl
structure CqOk (c : CQ) : Prop where
 na : c.as.length < 8
 nc : c.cs.length < 100
 at' : ∀ a ∈ c.as, a.ts.length < 100 ∧ ∀ t ∈ a.ts, TmOk t
 cm' : ∀ k ∈ c.cs, TmOk k.l ∧ TmOk k.r
structure RlsOk (l : List Rl) : Prop where
 n : l.length < 100
 tu : ∀ r ∈ l, r.tu.length ≤ 3 ∧ ∀ t ∈ r.tu, Pc t.2
theorem fnd_ok {l : List Rl} (h : RlsOk l) (x : Str) : (fnd l x).length ≤ 3 ∧ ∀ t ∈ fnd l x, Pc t.2 := by
 obtain ⟨h1, h⟩ := h
 clear h1
 induction l with
 | nil => exact ⟨by simp [fnd], by simp [fnd]⟩
 | cons r l ih =>
  unfold fnd
  split
  ·exact h r (by simp)
  ·exact ih fun r hr => h r (by simp [hr])
abbrev F2 (l : List Rl) (c : CQ) (e : Env) (s : St) : Prop :=
  s.tm.get 0 = some (.f (slc 4 (l.map rlF))) ∧ s.tm.get 3 = some (.f (.b true)) ∧ s.tm.get 5 = some (.ptr 0 2 0 0) ∧ s.tm.get 6 = some (.ptr 1 2 0 0) ∧
  s.h.get 0 = some (.arr 2 0 [[.f (slc 3 (c.as.map atF)), .f (slc 9 (c.cs.map cmF))]]) ∧ s.h.get 1 = some (.arr 2 0 [[.f (strsF (e.map (·.1))), .f (valsF (e.map (·.2)))]]) ∧ 2 ≤ s.c
def I43 (l : List Rl) (c : CQ) (e : Env) (k : Nat) (s : St) : Prop :=
 ∃ n : Nat, n ≤ c.cs.length ∧ k = c.cs.length - n ∧ F2 l c e s ∧ s.tm.get 9 = some (.f (.i .i64 n)) ∧ ∀ k ∈ c.cs.take n, cmOk e k = true
def R43 (l : List Rl) (c : CQ) (e : Env) (x : Ex) (s : St) : Prop :=
 (x = .exit 0 ∧ F2 l c e s ∧ c.cs.all (cmOk e) = true) ∨ (x = .ret ∧ s.tm.get 8 = some (.f (.b false)) ∧ c.cs.all (cmOk e) = false)
def J43 (l : List Rl) (c : CQ) (e : Env) (k : Nat) (s : St) : Prop :=
 ∃ n : Nat, n ≤ c.as.length ∧ k = c.as.length - n ∧ F2 l c e s ∧ s.tm.get 14 = some (.f (.i .i64 n)) ∧ ∀ a ∈ c.as.take n, negOk (rels l) e a = true
def S43 (l : List Rl) (c : CQ) (e : Env) (x : Ex) (s : St) : Prop :=
 (x = .exit 2 ∧ c.as.all (negOk (rels l) e) = true) ∨ (x = .ret ∧ s.tm.get 8 = some (.f (.b false)) ∧ c.as.all (negOk (rels l) e) = false)
def K43 (l : List Rl) (c : CQ) (e : Env) (n : Nat) (a : Atm) (k : Nat) (s : St) : Prop :=
 ∃ m : Nat, m ≤ (fnd l a.r).length ∧ k = (fnd l a.r).length - m ∧ F2 l c e s ∧ s.tm.get 14 = some (.f (.i .i64 n)) ∧ s.tm.get 15 = some (.f (slc 4 ((fnd l a.r).map tuF))) ∧ s.tm.get 16 = some (.f (.i .i64 m)) ∧
  ∀ t ∈ (fnd l a.r).take m, hits e a t.1 = false
def T43 (l : List Rl) (c : CQ) (e : Env) (n : Nat) (a : Atm) (x : Ex) (s : St) : Prop :=
 (x = .exit 4 ∧ F2 l c e s ∧ s.tm.get 14 = some (.f (.i .i64 n)) ∧ ∀ t ∈ fnd l a.r, hits e a t.1 = false) ∨ (x = .ret ∧ s.tm.get 8 = some (.f (.b false)) ∧ ∃ t ∈ fnd l a.r, hits e a t.1 = true)
theorem take_suc {α : Type} {P : α → Prop} {l : List α} {n : Nat} (h : n < l.length) (h1 : ∀ a ∈ l.take n, P a) (h2 : P l[n]) : ∀ a ∈ l.take (n + 1), P a := by
 intro a ha
 rw [List.take_add_one, List.getElem?_eq_getElem h] at ha
 rcases List.mem_append.1 ha with h' | h'
 ·exact h1 _ h'
 ·simp at h'; rw [h']; exact h2
theorem negOk_iff (l : List Rl) (e : Env) (a : Atm) : negOk (rels l) e a = true ↔ a.neg = false ∨ ∀ t ∈ fnd l a.r, hits e a t.1 = false := by
 unfold negOk
 rw [← fnd_tups]
 simp [List.all_eq_true]
theorem step43 (l : List Rl) (c : CQ) (e : Env) (hl : RlsOk l) (hc : CqOk c) (he : e.length < 800) : ∀ k s, J43 l c e k s → wpC pr (.seq (.seq (.reg [⟨(some 66),none,.mv (.t 14)⟩,⟨(some 67),none,.fa 0 (.t 5)⟩,⟨(some 68),none,.ld false 1 (.t 67)⟩,⟨(some 69),none,.len (.t 68)⟩,⟨(some 70),none,.bin .lss (.t 66) (.t 69)⟩,⟨(some 71),none,.mv (.t 70)⟩,⟨(some 72),(some (71,true)),.mv (.t 3)⟩,⟨(some 73),none,.pick (.t 71) (.t 72) (.k (.b false))⟩])
 (.cond (.t 73) (.skip) (.exit 2)))
 (.seq (.blk 3 (.seq (.seq (.reg [⟨(some 76),none,.fa 0 (.t 5)⟩,⟨(some 77),none,.ld false 1 (.t 76)⟩,⟨(some 78),none,.mv (.t 14)⟩,⟨(some 79),none,.ia 3 (.t 77) (.t 78)⟩,⟨(some 80),none,.fa 1 (.t 79)⟩,⟨(some 81),none,.ld false 1 (.t 80)⟩,⟨(some 82),none,.un .not (.t 81)⟩])
 (.cond (.t 82) (.exit 3) (.skip)))
 (.seq (.reg [⟨(some 83),none,.mv (.t 0)⟩,⟨(some 84),none,.fa 0 (.t 5)⟩,⟨(some 85),none,.ld false 1 (.t 84)⟩,⟨(some 86),none,.mv (.t 14)⟩,⟨(some 87),none,.ia 3 (.t 85) (.t 86)⟩,⟨(some 88),none,.fa 0 (.t 87)⟩,⟨(some 89),none,.ld false 1 (.t 88)⟩,⟨(some 90),none,.callp 44 [(.t 83),(.t 89)]⟩,⟨(some 15),none,.mv (.t 90)⟩])
 (.seq (.reg [⟨(some 16),none,.mv (.k (.i .i64 0))⟩])
 (.blk 4 (.loop (.seq (.seq (.reg [⟨(some 91),none,.mv (.t 16)⟩,⟨(some 92),none,.mv (.t 15)⟩,⟨(some 93),none,.len (.t 92)⟩,⟨(some 94),none,.bin .lss (.t 91) (.t 93)⟩])
 (.cond (.t 94) (.skip) (.exit 4)))
 (.seq (.blk 5 (.seq (.dreg [(⟨(some 98),none,.ld true 2 (.t 6)⟩,0),(⟨(some 99),none,.fa 0 (.t 5)⟩,1),(⟨(some 100),none,.ld false 1 (.t 99)⟩,1),(⟨(some 101),none,.mv (.t 14)⟩,7),(⟨(some 102),none,.ia 3 (.t 100) (.t 101)⟩,1),(⟨(some 103),none,.ld true 3 (.t 102)⟩,1),(⟨(some 104),none,.mv (.t 15)⟩,63),(⟨(some 105),none,.mv (.t 16)⟩,127),(⟨(some 106),none,.ia 4 (.t 104) (.t 105)⟩,63),(⟨(some 107),none,.ld true 4 (.t 106)⟩,63),(⟨(some 108),none,.callp 45 [(.t 98),(.t 103),(.t 107)]⟩,0),(⟨(some 97),none,.mv (.t 108)⟩,0),(⟨(some 109),none,.ext (.t 97) 0⟩,0),(⟨(some 110),none,.ext (.t 97) 1⟩,4096),(⟨(some 17),none,.new [.nils,.nils]⟩,16383),(⟨none,none,.st 2 (.t 17) (.t 109)⟩,8192),(⟨(some 18),none,.mv (.t 110)⟩,0)])
 (.seq (.reg [⟨(some 111),none,.mv (.t 18)⟩,⟨(some 112),none,.mv (.t 111)⟩,⟨(some 113),(some (112,true)),.fa 0 (.t 17)⟩,⟨(some 114),(some (112,true)),.ld false 1 (.t 113)⟩,⟨(some 115),(some (112,true)),.len (.t 114)⟩,⟨(some 116),(some (112,true)),.fa 0 (.t 6)⟩,⟨(some 117),(some (112,true)),.ld false 1 (.t 116)⟩,⟨(some 118),(some (112,true)),.len (.t 117)⟩,⟨(some 119),(some (112,true)),.bin .eql (.t 115) (.t 118)⟩,⟨(some 120),none,.pick (.t 112) (.t 119) (.k (.b false))⟩])
 (.cond (.t 120) (.seq (.reg [⟨(some 8),none,.mv (.k (.b false))⟩])
 (.ret)) (.skip)))))
 (.reg [⟨(some 95),none,.mv (.t 16)⟩,⟨(some 96),none,.bin .add (.t 95) (.k (.i .i64 1))⟩,⟨(some 16),none,.mv (.t 96)⟩])))))))))
 (.reg [⟨(some 74),none,.mv (.t 14)⟩,⟨(some 75),none,.bin .add (.t 74) (.k (.i .i64 1))⟩,⟨(some 14),none,.mv (.t 75)⟩]))) s (lp (J43 l c e) k (S43 l c e)) := by
  rintro k s ⟨n, hn, rfl, ⟨h0, h3, h5, h6, g0, g1, hc2⟩, h14, hA⟩
  have hna := hc.na
  have hw := wrap_suc n (by omega)
  by_cases hlt : n < c.as.length
  · obtain ⟨hts, htm⟩ := hc.at' (c.as[n]) (List.getElem_mem hlt)
    cases hneg : (c.as[n]).neg with
    | false =>
      simp -implicitDefEqProofs [rulA, Function.comp_def, Nat.blt_eq, apO, h0, h3, h5, h6, h14, g0, g1, hlt, atF, hneg, hw]
      rw [lp_nrm]
      refine ⟨c.as.length - (n + 1), by omega, n + 1, by omega, rfl, ⟨?_, ?_, ?_, ?_, ?_, ?_, ?_⟩, ?_, take_suc hlt hA ((negOk_iff ..).2 (.inl hneg))⟩
      all_goals simp -implicitDefEqProofs [rulA, Function.comp_def, Nat.blt_eq, apO, h0, h3, h5, h6, g0, g1, hc2]
    | true =>
      have h44 := ans44 l (c.as[n]).r (by have := hl.n; omega)
      have q44 := fun k => aB_iff (k := k) h44
      obtain ⟨hfl, hfp⟩ := fnd_ok hl (c.as[n]).r
      simp -implicitDefEqProofs [rulA, Function.comp_def, Nat.blt_eq, apO, h0, h3, h5, h6, h14, g0, g1, hlt, atF, hneg, q44]
      refine loopW (K43 l c e n (c.as[n])) (T43 l c e n (c.as[n])) ?_ (fnd l (c.as[n]).r).length _ ⟨0, Nat.zero_le _, rfl, ⟨?_, ?_, ?_, ?_, ?_, ?_, ?_⟩, ?_, ?_, ?_, ?_⟩ ?_
      any_goals (simp -implicitDefEqProofs [rulA, Function.comp_def, Nat.blt_eq, apO, h0, h3, h5, h6, g0, g1, hc2, h14]; done)
      · rintro k s ⟨m, hm, rfl, ⟨h0, h3, h5, h6, g0, g1, hc2⟩, h14, h15, h16, hB⟩
        have hw := wrap_suc m (by omega)
        have c0 : 0 < s.c := by omega
        have c1 : 1 < s.c := by omega
        by_cases hlt2 : m < (fnd l (c.as[n]).r).length
        · have hp := hfp _ (List.getElem_mem hlt2)
          have h45 := ans45 e (c.as[n]) ((fnd l (c.as[n]).r)[m]) htm hp (by omega)
          obtain ⟨p0, p1, p2, hpe, hd0, hd1, hd2⟩ := hp
          have htu : tuF ((fnd l (c.as[n]).r)[m]) = [valsF ((fnd l (c.as[n]).r)[m]).1, p0, p1, p2] := by unfold tuF; rw [hpe]
          rw [htu] at h45
          simp only [atF, envF, hneg] at h45
          have q45 := fun k => aB_iff (k := k) h45
          have hl1 : lenB (.f (strsF ((fits e (c.as[n]) ((fnd l (c.as[n]).r)[m]).1).1.map (·.1)))) = some (fits e (c.as[n]) ((fnd l (c.as[n]).r)[m]).1).1.length := by rw [strs_len]; simp
          have hl2 : lenB (.f (strsF (e.map (·.1)))) = some e.length := by rw [strs_len]; simp
          simp -implicitDefEqProofs [rulA, Function.comp_def, Nat.blt_eq, apO, h0, h3, h5, h6, h14, h15, h16, g0, g1, hlt2, c0, c1]
          refine dreg_i ?_
          cases hf2 : (fits e (c.as[n]) ((fnd l (c.as[n]).r)[m]).1).2 with
          | false =>
            rw [hf2] at q45
            simp -implicitDefEqProofs [rulA, Function.comp_def, Nat.blt_eq, apO, h0, h3, h5, h6, h14, h15, h16, g0, g1, hlt, hlt2, atF, hneg, htu, q45, strs_d, vals_d, hd0, hd1, hd2, c0, c1, hw]
            rw [lp_nrm]
            refine ⟨_, ?_, m + 1, by omega, rfl, ⟨?_, ?_, ?_, ?_, ?_, ?_, ?_⟩, ?_, ?_, ?_, take_suc hlt2 hB (by unfold hits; rw [hf2]; rfl)⟩
            any_goals (simp -implicitDefEqProofs [rulA, Function.comp_def, Nat.blt_eq, apO, h0, h3, h5, h6, g0, g1, hc2, h14, h15, c0, c1]; done)
            all_goals (first | omega | (simp -implicitDefEqProofs [rulA, Function.comp_def, Nat.blt_eq, apO, hc2]; omega))
          | true =>
            rw [hf2] at q45
            by_cases hle : (fits e (c.as[n]) ((fnd l (c.as[n]).r)[m]).1).1.length = e.length
            · simp -implicitDefEqProofs [rulA, Function.comp_def, Nat.blt_eq, apO, h0, h3, h5, h6, h14, h15, h16, g0, g1, hlt, hlt2, atF, hneg, htu, q45, strs_d, vals_d, hd0, hd1, hd2, c0, c1, hl1, hl2, hle]
              exact .inr ⟨rfl, by simp -implicitDefEqProofs [rulA, Function.comp_def, Nat.blt_eq, apO, h0], _, List.getElem_mem hlt2, by unfold hits; rw [hf2]; simp [hle]⟩
            · have hi : ¬ (((fits e (c.as[n]) ((fnd l (c.as[n]).r)[m]).1).1.length : Int) = (e.length : Int)) := by omega
              simp -implicitDefEqProofs [rulA, Function.comp_def, Nat.blt_eq, apO, h0, h3, h5, h6, h14, h15, h16, g0, g1, hlt, hlt2, atF, hneg, htu, q45, strs_d, vals_d, hd0, hd1, hd2, c0, c1, hl1, hl2, hle, hi, hw]
              rw [lp_nrm]
              refine ⟨_, ?_, m + 1, by omega, rfl, ⟨?_, ?_, ?_, ?_, ?_, ?_, ?_⟩, ?_, ?_, ?_, take_suc hlt2 hB (by unfold hits; rw [hf2]; simp [hle])⟩
              any_goals (simp -implicitDefEqProofs [rulA, Function.comp_def, Nat.blt_eq, apO, h0, h3, h5, h6, g0, g1, hc2, h14, h15, c0, c1]; done)
              all_goals (first | omega | (simp -implicitDefEqProofs [rulA, Function.comp_def, Nat.blt_eq, apO, hc2]; omega))
        · have hml : m = (fnd l (c.as[n]).r).length := by omega
          subst hml
          rw [List.take_length] at hB
          simp -implicitDefEqProofs [rulA, Function.comp_def, Nat.blt_eq, apO, h0, h3, h5, h6, h14, h15, h16, g0, g1]
          exact .inl ⟨rfl, ⟨by simp -implicitDefEqProofs [rulA, Function.comp_def, Nat.blt_eq, apO, h0], by simp -implicitDefEqProofs [rulA, Function.comp_def, Nat.blt_eq, apO, h3], by simp -implicitDefEqProofs [rulA, Function.comp_def, Nat.blt_eq, apO, h5], by simp -implicitDefEqProofs [rulA, Function.comp_def, Nat.blt_eq, apO, h6], by simp -implicitDefEqProofs [rulA, Function.comp_def, Nat.blt_eq, apO, g0], by simp -implicitDefEqProofs [rulA, Function.comp_def, Nat.blt_eq, apO, g1], by simp -implicitDefEqProofs [rulA, Function.comp_def, Nat.blt_eq, apO, hc2]⟩, by simp -implicitDefEqProofs [rulA, Function.comp_def, Nat.blt_eq, apO, h14], hB⟩
      · rintro x s (⟨rfl, ⟨h0, h3, h5, h6, g0, g1, hc2⟩, h14, hB⟩ | ⟨rfl, h8, t, ht, hB⟩)
        · simp -implicitDefEqProofs [rulA, Function.comp_def, Nat.blt_eq, apO, h14, hw]
          rw [lp_nrm]
          refine ⟨c.as.length - (n + 1), by omega, n + 1, by omega, rfl, ⟨?_, ?_, ?_, ?_, ?_, ?_, ?_⟩, ?_, take_suc hlt hA ((negOk_iff ..).2 (.inr hB))⟩
          all_goals simp -implicitDefEqProofs [rulA, Function.comp_def, Nat.blt_eq, apO, h0, h3, h5, h6, g0, g1, hc2]
        · simp -implicitDefEqProofs [rulA, Function.comp_def, Nat.blt_eq, apO, h8]
          refine .inr ⟨rfl, h8, ?_⟩
          rw [List.all_eq_false]
          refine ⟨_, List.getElem_mem hlt, fun h => ?_⟩
          rcases (negOk_iff ..).1 h with h' | h'
          · rw [hneg] at h'; cases h'
          · rw [h' t ht] at hB; cases hB
  · have hnl : n = c.as.length := by omega
    subst hnl
    rw [List.take_length] at hA
    simp -implicitDefEqProofs [rulA, Function.comp_def, Nat.blt_eq, apO, h0, h3, h5, h6, h14, g0, g1]
    exact .inl ⟨rfl, by rw [List.all_eq_true]; exact hA⟩
theorem ans43 (l : List Rl) (c : CQ) (e : Env) (hl : RlsOk l) (hc : CqOk c) (he : e.length < 800) : Ans pr 43 [slc 4 (l.map rlF), .ag (cqF c), .ag (envF e), .b true] (.b (passes (rels l) c e)) := by
 refine ansP fn43 ?_
 unfold g43
 dsimp only [oR, oM, oN, oG, oH, oF, oL, oK, oI, oS, oZ, oD]
 simp -implicitDefEqProofs [rulA, Function.comp_def, Nat.blt_eq, apO, st0, tmOf, cqF, envF, strs_d, vals_d]
 refine loopW (I43 l c e) (R43 l c e) ?_ c.cs.length _ ⟨0, Nat.zero_le _, rfl, ?_, ?_, ?_⟩ ?_
 ·rintro k s ⟨n, hn, rfl, ⟨h0, h3, h5, h6, g0, g1, hc2⟩, h9, hA⟩
  have hnc := hc.nc
  have hw := wrap_suc n (by omega)
  by_cases hlt : n < c.cs.length
  ·obtain ⟨tl, tr⟩ := hc.cm' (c.cs[n]) (List.getElem_mem hlt)
   have hcm : cmF (c.cs[n]) = .i .i64 (c.cs[n]).op :: (tmF (c.cs[n]).l ++ tmF (c.cs[n]).r) := rfl
   have hL := ans42 e (c.cs[n]).l tl (by omega)
   have hR := ans42 e (c.cs[n]).r tr (by omega)
   obtain ⟨s0, k0, n0, z0, hT0⟩ := tmF_cells (c.cs[n]).l
   obtain ⟨s1, k1, n1, z1, hT1⟩ := tmF_cells (c.cs[n]).r
   rw [hT0] at hL hcm
   rw [hT1] at hR hcm
   simp only [List.cons_append, List.nil_append] at hcm
   simp only [envF] at hL hR
   have qL := fun k => aB_iff (k := k) hL
   have qR := fun k => aB_iff (k := k) hR
   have c0 : 0 < s.c := by omega
   have c1 : 1 < s.c := by omega
   have hback : cmOk e c.cs[n] = true → ∀ k ∈ c.cs.take (n + 1), cmOk e k = true := by
    intro hk k hk'
    rw [List.take_add_one, List.getElem?_eq_getElem hlt] at hk'
    rcases List.mem_append.1 hk' with h' | h'
    ·exact hA _ h'
    ·simp at h'; rw [h']; exact hk
   have hout : cmOk e c.cs[n] = false → c.cs.all (cmOk e) = false := by
    intro hk
    rw [List.all_eq_false]
    exact ⟨_, List.getElem_mem hlt, by simp [hk]⟩
   simp -implicitDefEqProofs [rulA, Function.comp_def, Nat.blt_eq, apO, h0, h3, h5, h6, h9, g0, g1, hlt]
   refine dreg_i ?_
   cases hgl : gtm e (c.cs[n]).l with
   | none =>
    simp only [hgl, getV, zF, vF] at qL
    have hf := hout (by unfold cmOk; rw [hgl])
    cases hgr : gtm e (c.cs[n]).r with
    | none =>
     simp only [hgr, getV, zF, vF] at qR
     simp -implicitDefEqProofs [rulA, Function.comp_def, Nat.blt_eq, apO, h0, h3, h5, h6, h9, g0, g1, hlt, hcm, strs_d, vals_d, qL]
     refine dreg_i ?_
     simp -implicitDefEqProofs [rulA, Function.comp_def, Nat.blt_eq, apO, h0, h3, h5, h6, h9, g0, g1, hlt, hcm, strs_d, vals_d, qR]
     refine dreg_i ?_
     simp -implicitDefEqProofs [rulA, Function.comp_def, Nat.blt_eq, apO, h0, h3, h5, h6, h9, g0, g1, hlt, hcm, strs_d, vals_d, c0, c1, hw]
     exact .inr ⟨rfl, by simp -implicitDefEqProofs [rulA, Function.comp_def, Nat.blt_eq, apO, h0], hf⟩
    | some b =>
     simp only [hgr, getV, zF, vF] at qR
     simp -implicitDefEqProofs [rulA, Function.comp_def, Nat.blt_eq, apO, h0, h3, h5, h6, h9, g0, g1, hlt, hcm, strs_d, vals_d, qL]
     refine dreg_i ?_
     simp -implicitDefEqProofs [rulA, Function.comp_def, Nat.blt_eq, apO, h0, h3, h5, h6, h9, g0, g1, hlt, hcm, strs_d, vals_d, qR]
     refine dreg_i ?_
     simp -implicitDefEqProofs [rulA, Function.comp_def, Nat.blt_eq, apO, h0, h3, h5, h6, h9, g0, g1, hlt, hcm, strs_d, vals_d, c0, c1, hw]
     exact .inr ⟨rfl, by simp -implicitDefEqProofs [rulA, Function.comp_def, Nat.blt_eq, apO, h0], hf⟩
   | some a =>
    simp only [hgl, getV, zF, vF] at qL
    cases hgr : gtm e (c.cs[n]).r with
    | none =>
     simp only [hgr, getV, zF, vF] at qR
     have hf := hout (by unfold cmOk; rw [hgl, hgr])
     simp -implicitDefEqProofs [rulA, Function.comp_def, Nat.blt_eq, apO, h0, h3, h5, h6, h9, g0, g1, hlt, hcm, strs_d, vals_d, qL]
     refine dreg_i ?_
     simp -implicitDefEqProofs [rulA, Function.comp_def, Nat.blt_eq, apO, h0, h3, h5, h6, h9, g0, g1, hlt, hcm, strs_d, vals_d, qR]
     refine dreg_i ?_
     simp -implicitDefEqProofs [rulA, Function.comp_def, Nat.blt_eq, apO, h0, h3, h5, h6, h9, g0, g1, hlt, hcm, strs_d, vals_d, c0, c1, hw]
     exact .inr ⟨rfl, by simp -implicitDefEqProofs [rulA, Function.comp_def, Nat.blt_eq, apO, h0], hf⟩
    | some b =>
     simp only [hgr, getV, zF, vF] at qR
     have h78 := ans78 (c.cs[n]).op a b
     simp only [vF] at h78
     have q78 := fun k => aB_iff (k := k) h78
     cases hcmp : cmpI (c.cs[n]).op a b with
     | false =>
      rw [hcmp] at q78
      have hf := hout (by unfold cmOk; rw [hgl, hgr]; exact hcmp)
      simp -implicitDefEqProofs [rulA, Function.comp_def, Nat.blt_eq, apO, h0, h3, h5, h6, h9, g0, g1, hlt, hcm, strs_d, vals_d, qL]
      refine dreg_i ?_
      simp -implicitDefEqProofs [rulA, Function.comp_def, Nat.blt_eq, apO, h0, h3, h5, h6, h9, g0, g1, hlt, hcm, strs_d, vals_d, qR]
      refine dreg_i ?_
      simp -implicitDefEqProofs [rulA, Function.comp_def, Nat.blt_eq, apO, h0, h3, h5, h6, h9, g0, g1, hlt, hcm, strs_d, vals_d, c0, c1, hw, q78]
      exact .inr ⟨rfl, by simp -implicitDefEqProofs [rulA, Function.comp_def, Nat.blt_eq, apO, h0], hf⟩
     | true =>
      rw [hcmp] at q78
      have hf : cmOk e c.cs[n] = true := by unfold cmOk; rw [hgl, hgr]; exact hcmp
      simp -implicitDefEqProofs [rulA, Function.comp_def, Nat.blt_eq, apO, h0, h3, h5, h6, h9, g0, g1, hlt, hcm, strs_d, vals_d, qL]
      refine dreg_i ?_
      simp -implicitDefEqProofs [rulA, Function.comp_def, Nat.blt_eq, apO, h0, h3, h5, h6, h9, g0, g1, hlt, hcm, strs_d, vals_d, qR]
      refine dreg_i ?_
      simp -implicitDefEqProofs [rulA, Function.comp_def, Nat.blt_eq, apO, h0, h3, h5, h6, h9, g0, g1, hlt, hcm, strs_d, vals_d, c0, c1, hw, q78]
      rw [lp_nrm]
      refine ⟨c.cs.length - (n + 1), by omega, n + 1, by omega, rfl, ⟨?_, ?_, ?_, ?_, ?_, ?_, ?_⟩, ?_, hback hf⟩
      all_goals simp -implicitDefEqProofs [rulA, Function.comp_def, Nat.blt_eq, apO, h0, h3, h5, h6, g0, g1, hc2, c0, c1]
  ·have hnl : n = c.cs.length := by omega
   subst hnl
   rw [List.take_length] at hA
   simp -implicitDefEqProofs [rulA, Function.comp_def, Nat.blt_eq, apO, h0, h3, h5, h6, h9, g0, g1]
   exact .inl ⟨rfl, ⟨by simp -implicitDefEqProofs [rulA, Function.comp_def, Nat.blt_eq, apO, h0], by simp -implicitDefEqProofs [rulA, Function.comp_def, Nat.blt_eq, apO, h3], by simp -implicitDefEqProofs [rulA, Function.comp_def, Nat.blt_eq, apO, h5], by simp -implicitDefEqProofs [rulA, Function.comp_def, Nat.blt_eq, apO, h6], by simp -implicitDefEqProofs [rulA, Function.comp_def, Nat.blt_eq, apO, g0], by simp -implicitDefEqProofs [rulA, Function.comp_def, Nat.blt_eq, apO, g1], by simp -implicitDefEqProofs [rulA, Function.comp_def, Nat.blt_eq, apO, hc2]⟩, by rw [List.all_eq_true]; exact hA⟩
 ·simp -implicitDefEqProofs [rulA, Function.comp_def, Nat.blt_eq, apO, F2]
 ·simp -implicitDefEqProofs [rulA, Function.comp_def, Nat.blt_eq, apO, F2]
 ·simp
 ·rintro x s (⟨rfl, ⟨h0, h3, h5, h6, g0, g1, hc2⟩, hA⟩ | ⟨rfl, h8, hA⟩)
  ·have hpass : passes (rels l) c e = c.as.all (negOk (rels l) e) := by simp [passes, hA]
   rw [hpass]
   simp -implicitDefEqProofs [rulA, Function.comp_def, Nat.blt_eq, apO, h0, h3, h5, h6, g0, g1]
   refine loopW (J43 l c e) (S43 l c e) ?_ c.as.length _ ⟨0, Nat.zero_le _, rfl, ⟨?_, ?_, ?_, ?_, ?_, ?_, ?_⟩, ?_, ?_⟩ ?_
   any_goals (simp -implicitDefEqProofs [rulA, Function.comp_def, Nat.blt_eq, apO, h0, h3, h5, h6, g0, g1, hc2]; done)
   ·exact step43 l c e hl hc he
   ·rintro x s (⟨rfl, hA⟩ | ⟨rfl, h8, hA⟩)
    ·rw [hA]; simp -implicitDefEqProofs [rulA, Function.comp_def, Nat.blt_eq, apO, hA]
    ·rw [hA]; simp -implicitDefEqProofs [rulA, Function.comp_def, Nat.blt_eq, apO, h8]
  ·have hpass : passes (rels l) c e = false := by simp [passes, hA]
   rw [hpass]
   simp -implicitDefEqProofs [rulA, Function.comp_def, Nat.blt_eq, apO, h8]
end Go.Proofs.YtffjpakgkecheaaGreat
