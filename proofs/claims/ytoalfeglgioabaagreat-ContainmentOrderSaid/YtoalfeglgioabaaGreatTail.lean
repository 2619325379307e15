/- The last region of 'ContainmentOrder'. -/
import Derived.Test.YtoalfeglgioabaaGreatQuery
import Derived.Test.YtoalfeglgioabaaGreatCon
import Derived.Test.YtoalfeglgioabaaGreatOrd
import Derived.Test.YtoalfeglgioabaaGreatKnown
set_option linter.all false
namespace Go.Proofs.YtoalfeglgioabaaGreat
open Go Go.Vse
set_option maxRecDepth 100000
set_option maxHeartbeats 8000000
set_option linter.unusedSimpArgs false

def dA (ds : List F) : D := .ag [.f .nils, .f (.sl 2 (ds.map fun a => [a, .nils]))]
def dB (ps qs : List F) : D := .ag [.f .nils, .sl 11 0 (ps ++ qs).length 2 (ps ++ qs).length false]
def qF (ds : List F) : F := .ag [.nils, .sl 2 (ds.map fun a => [a, .nils])]

structure TI (ps qs : List F) (s : St) (ro c : Nat) : Prop where
  u7 : s.tm.get 7 = some (.ptr 0 2 0 0)
  u8 : s.tm.get 8 = some (.ptr 1 2 0 0)
  u10 : s.tm.get 10 = some (.ptr 14 2 0 0)
  v0 : s.h.get 0 = some (.arr 2 0 [[.f .nils, .f (.sl 2 (ps.map fun a => [a, .nils]))]])
  v1 : s.h.get 1 = some (.arr 2 0 [[.f .nils, .f (.sl 2 (qs.map fun a => [a, .nils]))]])
  v14 : s.h.get 14 = some (.arr 2 0 [[.f .nils, .sl 11 0 (ps ++ qs).length 2 (ps ++ qs).length false]])
  v11 : s.h.get 11 = some (.arr 2 ro ((ps ++ qs).map fun a => [.f a, .f .nils]))
  hc : s.c = c

section
variable {ps qs : List F} {s : St} {ro c : Nat} {k : Nat} {mask : Nat} {L : List (List Nat × List Nat)} {l : List (Vse.Op × Nat)} {Q : St → Prop}

theorem TI.ue (I : TI ps qs s ro c) (hk : 10 < k) (d : D) : TI ps qs (s.ue (some k) d) ro (c + 1) := by
  have h7 : ¬ 7 = k := by omega
  have h8 : ¬ 8 = k := by omega
  have h10 : ¬ 10 = k := by omega
  refine ⟨?_, ?_, ?_, I.v0, I.v1, I.v14, I.v11, ?_⟩
  · simp [ue_tm, putO_some, T.get_set, h7, I.u7]
  · simp [ue_tm, putO_some, T.get_set, h8, I.u8]
  · simp [ue_tm, putO_some, T.get_set, h10, I.u10]
  · rw [ue_c, I.hc]

abbrev Stp (ps qs : List F) (s : St) (ro c k : Nat) (d : D) (L' : List (List Nat × List Nat)) (l : List (Vse.Op × Nat)) (Q : St → Prop) : Prop :=
  ∀ s' : St, TI ps qs s' ro c → s'.tm.get k = some d → (∀ j, j ≠ k → s'.tm.get j = s.tm.get j) → wpE pr L' l s' Q

theorem stp_ue {d : D} {L' : List (List Nat × List Nat)} (I : TI ps qs s ro c) (hk : 10 < k) (h : Stp ps qs s ro (c + 1) k d L' l Q) : wpE pr L' l (s.ue (some k) d) Q :=
  h _ (I.ue hk d) (by simp [ue_tm, putO_some, T.get_set]) (fun j hj => by simp [ue_tm, putO_some, T.get_set, hj])

theorem t_mv {x : A} {d : D} (I : TI ps qs s ro c) (hk : 10 < k) (h1 : opnd s.tm x = some d) (h : Stp ps qs s ro (c + 1) k d (L ++ [([], [])]) l Q) :
    wpE pr L ((⟨some k, none, .mv x⟩, mask) :: l) s Q := by
  rw [e_mv, h1, oB_some]; exact stp_ue I hk h
theorem t_ld {a id : Nat} {cs : List D} (I : TI ps qs s ro c) (hk : 10 < k) (h1 : s.tm.get a = some (.ptr id 2 0 0)) (h2 : s.h.get id = some (.arr 2 0 [cs])) (hl : cs.length = 2) (h3 : chkM mask L [id] []) (h : Stp ps qs s ro (c + 1) k (.ag cs) (L ++ [([id], [])]) l Q) :
    wpE pr L ((⟨some k, none, .ld true 2 (.t a)⟩, mask) :: l) s Q := by
  rw [e_ld, opnd_t, h1, oB_some]
  have : loadB true 2 s.h.get (.ptr id 2 0 0) = some (.ag cs, [id]) := by
    simp [loadB, h2, partD, hl]
    match cs, hl with
    | [a, b], _ => simp [partD, mapO]
  rw [this, oB_some]; exact ⟨h3, stp_ue I hk h⟩
theorem t_g {dst : Option Nat} {g : Nat} {w : Bool} {o : O A} (h1 : s.tm.get g = some (.f (.b w))) (h : wpE pr L ((⟨dst, none, o⟩, mask) :: l) s Q) : wpE pr L ((⟨dst, some (g, w), o⟩, mask) :: l) s Q := by
  rw [e_guard, h1, Option.bind_some, asG_b, oB_some]; simpa using h
theorem t_pick {q x y : A} {d e : D} (I : TI ps qs s ro c) (hk : 10 < k) (h1 : opnd s.tm q = some (.f (.b true))) (h2 : opnd s.tm x = some d) (h3 : opnd s.tm y = some e) (h : Stp ps qs s ro (c + 1) k d (L ++ [([], [])]) l Q) :
    wpE pr L ((⟨some k, none, .pick q x y⟩, mask) :: l) s Q := by
  rw [e_pick, h1, Option.bind_some, asB_b, oB_some, h2, oB_some, h3, oB_some]; exact stp_ue I hk h
theorem t_eqb {x y : A} {a : Bool} (I : TI ps qs s ro c) (hk : 10 < k) (h1 : opnd s.tm x = some (.f (.b a))) (h2 : opnd s.tm y = some (.f (.b a))) (h : Stp ps qs s ro (c + 1) k (.f (.b true)) (L ++ [([], [])]) l Q) :
    wpE pr L ((⟨some k, none, .eqb false x y⟩, mask) :: l) s Q := by
  rw [e_eqb, h1, Option.bind_some, asB_b, oB_some, h2, Option.bind_some, asB_b, oB_some]
  have := stp_ue I hk h
  simpa using this
/- a call whose arguments hold nothing on the heap -/
theorem t_call0 {f : Nat} {args : List A} {ds : List D} {fs : List F} {x : F} (I : TI ps qs s ro c) (hk : 10 < k)
    (h1 : mapO (opnd s.tm) args = some ds) (h2 : ∀ h, frzArgs h ds = some (fs, [])) (h3 : Ans pr f fs x) (h : Stp ps qs s ro (c + 1) k x.d (L ++ [([], [])]) l Q) :
    wpE pr L ((⟨some k, none, .callp f args⟩, mask) :: l) s Q := by
  refine e_callp.2 ?_
  rw [h1, oB_some, h2, oB_some]
  refine ⟨x, h3, rfl, ?_, ?_⟩
  · exact (chkM_nn _ _).2 trivial
  · exact stp_ue I hk h
/- a call with the union among its arguments, when it is frozen already -/
theorem t_call1 {f : Nat} {args : List A} {ds : List D} {fs : List F} {x : F} (I : TI ps qs s (ps.length + qs.length) c) (hk : 10 < k)
    (h1 : mapO (opnd s.tm) args = some ds) (h2 : frzArgs s.h.get ds = some (fs, [11])) (h3 : Ans pr f fs x) (h6 : chkM mask L [11] []) (h : Stp ps qs s (ps.length + qs.length) (c + 1) k x.d (L ++ [([11], [])]) l Q) :
    wpE pr L ((⟨some k, none, .callp f args⟩, mask) :: l) s Q := by
  have hm : roMarks s.h.get [11] = [] := by simp [roMarks, I.v11]
  refine e_callp.2 ?_
  rw [h1, oB_some, h2, oB_some]
  refine ⟨x, h3, ?_, ?_, ?_⟩
  · simp only [hm]; rfl
  · simp only [hm]; exact h6
  · simp only [hm]; exact stp_ue I hk h
/- the same call, the first time -/
theorem t_call2 {f : Nat} {args : List A} {ds : List D} {fs : List F} {x : F} (I : TI ps qs s 0 c) (hk : 10 < k) (hc : 11 < c) (hne : ps.length + qs.length ≠ 0)
    (h1 : mapO (opnd s.tm) args = some ds) (h2 : frzArgs s.h.get ds = some (fs, [11])) (h3 : Ans pr f fs x) (h6 : chkM mask L [11] [11]) (h : Stp ps qs s (ps.length + qs.length) (c + 1) k x.d (L ++ [([11], [11])]) l Q) :
    wpE pr L ((⟨some k, none, .callp f args⟩, mask) :: l) s Q := by
  have hm : roMarks s.h.get [11] = [(11, some (.arr 2 (ps.length + qs.length) ((ps ++ qs).map fun a => [.f a, .f .nils])))] := by
    simp only [roMarks, I.v11, List.length_map, List.length_append]
    rw [if_neg (by omega)]
  refine e_callp.2 ?_
  rw [h1, oB_some, h2, oB_some]
  refine ⟨x, h3, ?_, ?_, ?_⟩
  · simp only [hm]; simp [wrOk, I.hc, hc]
  · simp only [hm]; exact h6
  · simp only [hm]
    have h7 : ¬ 7 = k := by omega
    have h8 : ¬ 8 = k := by omega
    have h10 : ¬ 10 = k := by omega
    refine h _ ⟨?_, ?_, ?_, ?_, ?_, ?_, ?_, ?_⟩ ?_ ?_
    · simp [ae_tm, putO_some, T.get_set, h7, I.u7]
    · simp [ae_tm, putO_some, T.get_set, h8, I.u8]
    · simp [ae_tm, putO_some, T.get_set, h10, I.u10]
    · simp [ae_h, wrT, T.get_set, I.v0]
    · simp [ae_h, wrT, T.get_set, I.v1]
    · simp [ae_h, wrT, T.get_set, I.v14]
    · simp [ae_h, wrT, T.get_set]
    · rw [ae_c, I.hc]
    · simp [ae_tm, putO_some, T.get_set]
    · intro j hj; simp [ae_tm, putO_some, T.get_set, hj]

theorem frz_B (I : TI ps qs s ro c) : frz s.h.get 12 (dB ps qs) = some (qF (ps ++ qs), [11]) := by
  have hr : mapFrr (frz s.h.get 10) ((ps ++ qs).map fun a => [.f a, .f .nils]) = some ((ps ++ qs).map fun a => [a, .nils], []) := rows_frz _ _
  unfold dB
  rw [fz12_ag]
  simp only [mapFr, fz11_f, fz11_sl, I.v11]
  have ht : List.take (ps ++ qs).length (List.drop 0 ((ps ++ qs).map fun a => [D.f a, D.f .nils])) = (ps ++ qs).map fun a => [D.f a, D.f .nils] := by
    rw [List.drop_zero]; exact List.take_of_length_le (by simp)
  simp only [ht, hr]
  simp [qF]

theorem frz_A (h : Nat → Option Ob) (ds : List F) : frz h 12 (dA ds) = some (qF ds, []) := rfl
theorem fr_AA (h : Nat → Option Ob) (ds es : List F) : frzArgs h [dA ds, dA es] = some ([qF ds, qF es], []) := rfl
theorem fr_AB (I : TI ps qs s ro c) (ds : List F) : frzArgs s.h.get [dA ds, dB ps qs] = some ([qF ds, qF (ps ++ qs)], [11]) := by
  simp only [frzArgs, mapFr, frz_A, frz_B I]; rfl
theorem fr_BA (I : TI ps qs s ro c) (ds : List F) : frzArgs s.h.get [dB ps qs, dA ds] = some ([qF (ps ++ qs), qF ds], [11]) := by
  simp only [frzArgs, mapFr, frz_A, frz_B I]; rfl
theorem mp2 {a b : Nat} {d e : D} (h1 : s.tm.get a = some d) (h2 : s.tm.get b = some e) : mapO (opnd s.tm) [.t a, .t b] = some [d, e] := by
  simp [mapO, opnd_t, h1, h2]
end

theorem tail4 {ps qs : List F} {s : St} {Q : St → Prop} (hne : ps.length + qs.length ≠ 0) (cpq : Ans pr 14 [qF ps, qF qs] (.b (Cb ps qs)))
    (cpp : Ans pr 14 [qF ps, qF ps] (.b true)) (cppq : Ans pr 14 [qF ps, qF (ps ++ qs)] (.b true)) (cqpq : Ans pr 14 [qF qs, qF (ps ++ qs)] (.b true)) (cpqq : Ans pr 14 [qF (ps ++ qs), qF qs] (.b (Cb ps qs)))
    (I0 : TI ps qs s 0 17) (hQ : ∀ s : St, s.tm.get 66 = some (.f (.b true)) → Q (s.ue (some 6) (.f (.b true)))) :
    wpE pr [] [(⟨(some 42),none,.ld true 2 (.t 7)⟩,0),(⟨(some 43),none,.ld true 2 (.t 7)⟩,1),(⟨(some 44),none,.callp 14 [(.t 42),(.t 43)]⟩,0),(⟨(some 45),none,.mv (.t 44)⟩,0),(⟨(some 46),(some (45,true)),.ld true 2 (.t 7)⟩,0),(⟨(some 47),(some (45,true)),.ld true 2 (.t 10)⟩,16),(⟨(some 48),(some (45,true)),.callp 14 [(.t 46),(.t 47)]⟩,0),(⟨(some 49),none,.pick (.t 45) (.t 48) (.k (.b false))⟩,0),(⟨(some 50),none,.mv (.t 49)⟩,0),(⟨(some 51),(some (50,true)),.ld true 2 (.t 8)⟩,0),(⟨(some 52),(some (50,true)),.ld true 2 (.t 10)⟩,512),(⟨(some 53),(some (50,true)),.callp 14 [(.t 51),(.t 52)]⟩,0),(⟨(some 54),none,.pick (.t 50) (.t 53) (.k (.b false))⟩,0),(⟨(some 55),none,.mv (.t 54)⟩,0),(⟨(some 56),(some (55,true)),.ld true 2 (.t 10)⟩,0),(⟨(some 57),(some (55,true)),.ld true 2 (.t 8)⟩,16384),(⟨(some 58),(some (55,true)),.callp 14 [(.t 56),(.t 57)]⟩,0),(⟨(some 59),(some (55,true)),.ld true 2 (.t 7)⟩,114688),(⟨(some 60),(some (55,true)),.ld true 2 (.t 8)⟩,245760),(⟨(some 61),(some (55,true)),.callp 14 [(.t 59),(.t 60)]⟩,0),(⟨(some 62),(some (55,true)),.eqb false (.t 58) (.t 61)⟩,0),(⟨(some 63),none,.pick (.t 55) (.t 62) (.k (.b false))⟩,0),(⟨(some 64),none,.mv (.t 63)⟩,0),(⟨(some 65),(some (64,true)),.callp 12 []⟩,0),(⟨(some 66),none,.pick (.t 64) (.t 65) (.k (.b false))⟩,0),(⟨(some 6),none,.mv (.t 66)⟩,0)] s Q := by
  refine t_ld I0 (by decide) I0.u7 I0.v0 rfl (by simp [chkM, disj]) fun s1 I1 k1 f1 => ?_
  refine t_ld I1 (by decide) I1.u7 I1.v0 rfl (by simp [chkM, disj]) fun s2 I2 k2 f2 => ?_
  refine t_call0 I2 (by decide) (mp2 ((f2 42 (by decide)).trans (k1)) (k2)) (fun h => fr_AA h ps ps) cpp fun s3 I3 k3 f3 => ?_
  refine t_mv I3 (by decide) (by rw [opnd_t]; exact (k3)) fun s4 I4 k4 f4 => ?_
  refine t_g (k4) <| t_ld I4 (by decide) I4.u7 I4.v0 rfl (by simp [chkM, disj]) fun s5 I5 k5 f5 => ?_
  refine t_g ((f5 45 (by decide)).trans (k4)) <| t_ld I5 (by decide) I5.u10 I5.v14 rfl (by simp [chkM, disj]) fun s6 I6 k6 f6 => ?_
  refine t_g ((f6 45 (by decide)).trans ((f5 45 (by decide)).trans (k4))) <| t_call2 I6 (by decide) (by decide) hne (mp2 ((f6 46 (by decide)).trans (k5)) (k6)) (fr_AB I6 ps) cppq (by simp [chkM, disj]) fun s7 I7 k7 f7 => ?_
  refine t_pick I7 (by decide) (by rw [opnd_t]; exact ((f7 45 (by decide)).trans ((f6 45 (by decide)).trans ((f5 45 (by decide)).trans (k4))))) (by rw [opnd_t]; exact (k7)) rfl fun s8 I8 k8 f8 => ?_
  refine t_mv I8 (by decide) (by rw [opnd_t]; exact (k8)) fun s9 I9 k9 f9 => ?_
  refine t_g (k9) <| t_ld I9 (by decide) I9.u8 I9.v1 rfl (by simp [chkM, disj]) fun s10 I10 k10 f10 => ?_
  refine t_g ((f10 50 (by decide)).trans (k9)) <| t_ld I10 (by decide) I10.u10 I10.v14 rfl (by simp [chkM, disj]) fun s11 I11 k11 f11 => ?_
  refine t_g ((f11 50 (by decide)).trans ((f10 50 (by decide)).trans (k9))) <| t_call1 I11 (by decide) (mp2 ((f11 51 (by decide)).trans (k10)) (k11)) (fr_AB I11 qs) cqpq (by simp [chkM, disj]) fun s12 I12 k12 f12 => ?_
  refine t_pick I12 (by decide) (by rw [opnd_t]; exact ((f12 50 (by decide)).trans ((f11 50 (by decide)).trans ((f10 50 (by decide)).trans (k9))))) (by rw [opnd_t]; exact (k12)) rfl fun s13 I13 k13 f13 => ?_
  refine t_mv I13 (by decide) (by rw [opnd_t]; exact (k13)) fun s14 I14 k14 f14 => ?_
  refine t_g (k14) <| t_ld I14 (by decide) I14.u10 I14.v14 rfl (by simp [chkM, disj]) fun s15 I15 k15 f15 => ?_
  refine t_g ((f15 55 (by decide)).trans (k14)) <| t_ld I15 (by decide) I15.u8 I15.v1 rfl (by simp [chkM, disj]) fun s16 I16 k16 f16 => ?_
  refine t_g ((f16 55 (by decide)).trans ((f15 55 (by decide)).trans (k14))) <| t_call1 I16 (by decide) (mp2 ((f16 56 (by decide)).trans (k15)) (k16)) (fr_BA I16 qs) cpqq (by simp [chkM, disj]) fun s17 I17 k17 f17 => ?_
  refine t_g ((f17 55 (by decide)).trans ((f16 55 (by decide)).trans ((f15 55 (by decide)).trans (k14)))) <| t_ld I17 (by decide) I17.u7 I17.v0 rfl (by simp [chkM, disj]) fun s18 I18 k18 f18 => ?_
  refine t_g ((f18 55 (by decide)).trans ((f17 55 (by decide)).trans ((f16 55 (by decide)).trans ((f15 55 (by decide)).trans (k14))))) <| t_ld I18 (by decide) I18.u8 I18.v1 rfl (by simp [chkM, disj]) fun s19 I19 k19 f19 => ?_
  refine t_g ((f19 55 (by decide)).trans ((f18 55 (by decide)).trans ((f17 55 (by decide)).trans ((f16 55 (by decide)).trans ((f15 55 (by decide)).trans (k14)))))) <| t_call0 I19 (by decide) (mp2 ((f19 59 (by decide)).trans (k18)) (k19)) (fun h => fr_AA h ps qs) cpq fun s20 I20 k20 f20 => ?_
  refine t_g ((f20 55 (by decide)).trans ((f19 55 (by decide)).trans ((f18 55 (by decide)).trans ((f17 55 (by decide)).trans ((f16 55 (by decide)).trans ((f15 55 (by decide)).trans (k14))))))) <| t_eqb I20 (by decide) (by rw [opnd_t]; exact ((f20 58 (by decide)).trans ((f19 58 (by decide)).trans ((f18 58 (by decide)).trans (k17))))) (by rw [opnd_t]; exact (k20)) fun s21 I21 k21 f21 => ?_
  refine t_pick I21 (by decide) (by rw [opnd_t]; exact ((f21 55 (by decide)).trans ((f20 55 (by decide)).trans ((f19 55 (by decide)).trans ((f18 55 (by decide)).trans ((f17 55 (by decide)).trans ((f16 55 (by decide)).trans ((f15 55 (by decide)).trans (k14))))))))) (by rw [opnd_t]; exact (k21)) rfl fun s22 I22 k22 f22 => ?_
  refine t_mv I22 (by decide) (by rw [opnd_t]; exact (k22)) fun s23 I23 k23 f23 => ?_
  refine t_g (k23) <| t_call0 I23 (by decide) rfl (fun h => rfl) ans12 fun s24 I24 k24 f24 => ?_
  refine t_pick I24 (by decide) (by rw [opnd_t]; exact ((f24 64 (by decide)).trans (k23))) (by rw [opnd_t]; exact (k24)) rfl fun s25 I25 k25 f25 => ?_
  rw [e_mv, opnd_t, (k25), oB_some]
  exact hQ _ (k25)
end Go.Proofs.YtoalfeglgioabaaGreat
