/- t -/
import Derived.Test.YtffjpakgkecheaaGreatShX
import Derived.Test.YtffjpakgkecheaaGreatW14
import Derived.Test.YtffjpakgkecheaaGreatFc
set_option linter.all false
namespace Go.Proofs.YtffjpakgkecheaaGreat
open Go Go.Vse Go.Vse.Sm
set_option maxRecDepth 100000
set_option maxHeartbeats 4000000
set_option linter.unusedSimpArgs false
theorem fn5 : pr.fn 5 = some g5 := by kernel_rfl
theorem fn3 : pr.fn 3 = some g3 := by kernel_rfl
theorem ans5 (n : Int) : ∃ c ∈ CQl, Ans pr 5 [.i .i64 n] (.ag (cqF c)) := by
 obtain ⟨r, hr, he⟩ := and_mask n 65535 (by omega)
 obtain ⟨z, hz⟩ : ∃ z : Int, binF .shr (.i .i64 n) (.i .u64 6) = some (.i .i64 z) := ⟨_, rfl⟩
 obtain ⟨k, hk, hke⟩ := and_mask z 7 (by omega)
 have he' : binF .and (.i .i64 n) (.i .i64 65535) = some (.i .i64 r) := he
 have hke' : binF .and (.i .i64 z) (.i .i64 7) = some (.i .i64 k) := hke
 have hrem := rem_nat r 24 (by omega)
 rw [show ((24 : Nat) : Int) = 24 from rfl] at hrem
 have hj : r % 24 < 24 := Nat.mod_lt _ (by omega)
 generalize r % 24 = j at hrem hj
 obtain ⟨c, hc, p, hp, h19⟩ := rdAll j hj k (by omega)
 have hpl : paL.length = 24 := rfl
 have hp2 : ∀ h : j < paL.length, paL[j] = [.s p] := fun h => by
  rw [List.getElem?_eq_getElem h] at hp
  exact Option.some.inj hp
 simp only [cqF] at h19
 have q18 := fun k => aB_iff (k := k) ans18
 have q19 := fun k => aB_iff (k := k) h19
 refine ⟨c, hc, ansP fn5 ?_⟩
 unfold g5
 dsimp only [oR, oM, oN, oG, oH, oF, oL, oK, oI, oS, oZ, oD]
 simp -implicitDefEqProofs [rulA, Function.comp_def, Nat.blt_eq, apO, st0, tmOf, q18, he', hz, hke', hrem, hp, hpl, hp2, hj, q19, cqF]
theorem and_mask8 (a : Int) : ∃ r : Nat, r ≤ 3 ∧ binF .and (.i .i8 a) (.i .i8 3) = some (.i .i8 r) := by
 refine ⟨(BitVec.ofInt 8 a &&& BitVec.ofInt 8 3).toNat, ?_, ?_⟩
 ·rw [BitVec.toNat_and]
  refine Nat.le_trans Nat.and_le_right ?_
  decide
 ·have hle : (BitVec.ofInt 8 a &&& BitVec.ofInt 8 3).toNat ≤ 3 := by
   rw [BitVec.toNat_and]
   exact Nat.le_trans Nat.and_le_right (by decide)
  have e : binF .and (.i .i8 a) (.i .i8 3) = some (.i .i8 (IntKind.i8.wrap ((BitVec.ofInt 8 a &&& BitVec.ofInt 8 3).toNat : Int))) := rfl
  rw [e]
  generalize (BitVec.ofInt 8 a &&& BitVec.ofInt 8 3).toNat = m at hle
  match m, hle with
  | 0, _ => rfl
  | 1, _ => rfl
  | 2, _ => rfl
  | 3, _ => rfl
theorem rlsOk (a b c d : List (List Int × List F)) (ha : a.length ≤ 3 ∧ ∀ t ∈ a, TuR t) (hb : b.length ≤ 3 ∧ ∀ t ∈ b, TuS t) (hc : c.length ≤ 3 ∧ ∀ t ∈ c, TuK t) (hd : d.length ≤ 3 ∧ ∀ t ∈ d, TuC t) : RlsOk [rR a, rS b, rK c, rC d] := by
 refine ⟨by simp, ?_⟩
 intro r hr
 simp only [List.mem_cons, List.not_mem_nil, or_false] at hr
 rcases hr with rfl | rfl | rfl | rfl
 ·exact ⟨ha.1, fun t ht => pc_PPl _ (ha.2 t ht).1⟩
 ·exact ⟨hb.1, fun t ht => pc_PPl _ (hb.2 t ht).1⟩
 ·exact ⟨hc.1, fun t ht => pc_PPl _ (hc.2 t ht).1⟩
 ·exact ⟨hd.1, fun t ht => pc_PPl _ (hd.2 t ht).1⟩
theorem evalOne_len (l : List Rl) (c : CQ) (x : Str) (hl : RlsOk l) (hc : CqOk c) : (evalOne (rels l) c x).length < 900000 := by
 have hna := hc.na
 have hx4 : (extend (rels l) c c.as []).length ≤ 4 ^ 7 := Nat.le_trans (extend_len l c hl _ _) (Nat.pow_le_pow_right (by omega) (by omega))
 have e7 : (4:Nat) ^ 7 = 16384 := by decide
 have h1 := rowsOf_len x (extend (rels l) c c.as []) []
 have h2 := insAll_len (rowsOf x (extend (rels l) c c.as []) []) []
 have : evalOne (rels l) c x = insAll (rowsOf x (extend (rels l) c c.as []) []) [] := rfl
 rw [this]
 simp only [List.length_nil] at h1 h2
 omega
theorem moreOk {c : CQ} (k : Int) (h : CqOk c) (hn : c.cs.length < 90) : CqOk (more c [120] k) where
 na := h.na
 nc := by simp [more]; omega
 at' := h.at'
 cm' := by
  intro m hm
  simp only [more, List.mem_append, List.mem_singleton] at hm
  rcases hm with hm | rfl
  ·exact h.cm' m hm
  ·exact ⟨by simp [TmOk], trivial⟩
theorem sTm_ok (k : Int) (t : Trm) (h : TmOk t) : TmOk (sTm [120] k t) := by
 cases t with
 | cst n => trivial
 | var s =>
  simp only [sTm]
  split
  ·trivial
  ·exact h
theorem subOk {c : CQ} (k : Int) (h : CqOk c) : CqOk (sub c [120] k) where
 na := by simpa [sub] using h.na
 nc := by simpa [sub] using h.nc
 at' := by
  intro a ha
  obtain ⟨b, hb, rfl⟩ := List.mem_map.1 ha
  obtain ⟨h1, h2⟩ := h.at' b hb
  refine ⟨by simpa [sAt] using h1, ?_⟩
  intro t ht
  obtain ⟨u, hu, rfl⟩ := List.mem_map.1 ht
  exact sTm_ok k u (h2 u hu)
 cm' := by
  intro m hm
  obtain ⟨b, hb, rfl⟩ := List.mem_map.1 hm
  exact ⟨sTm_ok k _ (h.cm' b hb).1, sTm_ok k _ (h.cm' b hb).2⟩
theorem csl : ∀ c ∈ CQl, c.cs.length < 90 := by
 intro c hc
 simp only [CQl, List.mem_cons, List.not_mem_nil, or_false] at hc
 rcases hc with rfl | rfl | rfl | rfl | rfl | rfl | rfl | rfl | rfl | rfl | rfl | rfl | rfl | rfl | rfl | rfl | rfl | rfl | rfl | rfl | rfl | rfl | rfl | rfl | rfl | rfl | rfl | rfl | rfl | rfl | rfl | rfl | rfl | rfl <;> decide
theorem ans3 (x : F) (hx : isInts x) (hxd : x.d = .f x) (n v : Int) : Ans pr 3 [x, .i .i64 n, .i .i8 v] (.b true) := by
 obtain ⟨a, b, c', d, ha, hb, hc', hd, h4⟩ := ans4 x hx hxd
 have hl := rlsOk a b c' d ha hb hc' hd
 generalize [rR a, rS b, rK c', rC d] = l at h4 hl
 obtain ⟨c, hc, h5⟩ := ans5 n
 obtain ⟨hco, hbd, h7⟩ := cqAll c hc
 obtain ⟨k, hk, hke⟩ := and_mask8 v
 have h7 := h7 k hk
 have h6 := ans6 (k : Int)
 have hwk : IntKind.i64.wrap (k : Int) = (k : Int) := wrap_i64 _ (by omega) (by omega)
 have h8a := ans8 l c [120] hl hco (by simp)
 have h8b := ans8 l (more c [120] k) [120] hl (moreOk _ hco (csl c hc)) (by simp)
 have h9 := ans9 l (sub c [120] k) hl (subOk _ hco)
 have hln := evalOne_len l (more c [120] k) [120] hl (moreOk _ hco (csl c hc))
 have hln0 := evalOne_len l c [120] hl hco
 have h10 := ans10 (evalOne (rels l) (more c [120] k) [120]) k (by omega)
 obtain ⟨s1, s2⟩ := splits (rels l) c [120] k hbd
 have h11a := ans11 (evalOne (rels l) c [120]) (ins (evalOne (rels l) (more c [120] k) [120]) k) (by omega)
 have h11b := ans11 (evalOne (rels l) c [120]) (evalOne (rels l) (more c [120] k) [120]) (by omega)
 generalize evalOne (rels l) c [120] = E0 at h8a s2 h11a h11b hln0
 generalize evalOne (rels l) (more c [120] k) [120] = E1 at h8b h10 s1 s2 h11a h11b hln
 generalize holdsOne (rels l) (sub c [120] k) = H at h9 s2
 have hE1 : IntKind.i64.wrap ((E1.length : Int) + 1) = (E1.length : Int) + 1 := wrap_i64 _ (by omega) (by omega)
 generalize hE2 : ins E1 k = E2 at h10 s1 s2 h11a
 have hx1 : strsF [[120]] = .sl 1 [[.s [120]]] := rfl
 have hx2 : valsF [(k : Int)] = .sl 3 [[.i .i64 1, .i .i64 k, .s []]] := rfl
 simp only [hx1, hx2, cqF, vF] at h4 h5 h6 h7 h8a h8b h9 h10
 generalize slc 3 ((sub c [120] k).as.map atF) = m0 at h7 h9
 have q4 := fun k => aB_iff (k := k) h4
 have q5 := fun k => aB_iff (k := k) h5
 have q6 := fun k => aB_iff (k := k) h6
 have q7 := fun k => aB_iff (k := k) h7
 have q8a := fun k => aB_iff (k := k) h8a
 have q8b := fun k => aB_iff (k := k) h8b
 have q9 := fun k => aB_iff (k := k) h9
 have q10 := fun k => aB_iff (k := k) h10
 have q11a := fun k => aB_iff (k := k) h11a
 have q11b := fun k => aB_iff (k := k) h11b
 have q12 := fun k => aB_iff (k := k) ans12
 refine ansP fn3 ?_
 unfold g3
 dsimp only [oR, oM, oN, oG, oH, oF, oL, oK, oI, oS, oZ, oD]
 cases H with
 | true =>
  simp only [if_true] at s2
  subst s2
  simp -implicitDefEqProofs [rulA, Function.comp_def, Nat.blt_eq, apO, st0, tmOf, hxd, hke, hwk, q4, q5, q6, q7, q8a, q8b, q9, q10, rows_d, rows_len, s1, hE1, q11a, q11b, q12]
 | false =>
  simp only [Bool.false_eq_true, if_false] at s2
  subst s2
  simp -implicitDefEqProofs [rulA, Function.comp_def, Nat.blt_eq, apO, st0, tmOf, hxd, hke, hwk, q4, q5, q6, q7, q8a, q8b, q9, q10, rows_d, rows_len, s1, hE1, q11a, q11b, q12]
end Go.Proofs.YtffjpakgkecheaaGreat
