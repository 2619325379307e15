/- t -/
import Derived.Test.YtffjpakgkecheaaGreatShX
import Derived.Test.YtffjpakgkecheaaGreatW11
set_option linter.all false
namespace Go.Proofs.YtffjpakgkecheaaGreat
open Go Go.Vse Go.Vse.Sm
set_option maxRecDepth 100000
set_option maxHeartbeats 4000000
set_option linter.unusedSimpArgs false
theorem stepC (x : F) (hx : isInts x) (hxd : x.d = .f x) (id : Nat) (dO : D) (els : List (List D)) : ∀ k s, KI [67] true coC TuC 3 x id dO els k s → wpC pr lo2 s (lp (KI [67] true coC TuC 3 x id dO els) k (KR [67] true coC TuC 3 x id dO els)) := by
 unfold lo2
 dsimp only [oR, oM, oN, oG, oH, oF, oL, oK, oI, oS, oZ, oD]
 rintro k s ⟨n, tu, hn, rfl, htl, h7, hT, h0, h4, h5, h6, h3, g, hg, c0⟩
 obtain ⟨a, ha, h14⟩ := ans14 hx 3 (by omega)
 obtain ⟨b, hb, h14b⟩ := ans14 hx (13 + n) (by omega)
 have q14 := fun k => aB_iff (k := k) h14
 have hrm := rem_nat a 4 (by omega)
 have hm4 : a % 4 < 4 := Nat.mod_lt _ (by omega)
 have hs : schL[3]? = some [.s [67], .b true, coC] := rfl
 have hmul : binF .mul (.i .i64 3) (.i .i64 3) = some (.i .i64 9) := rfl
 have hw := wrap_suc n (by omega)
 rw [show ((3 : Nat) : Int) = 3 from rfl] at q14
 rw [show ((4 : Nat) : Int) = 4 from rfl] at hrm
 generalize a % 4 = m4 at hrm hm4
 by_cases hlt : n < m4
 ·by_cases hgo : True
  ·have hw4 : IntKind.i64.wrap (13 : Int) = 13 := rfl
   have hwn : IntKind.i64.wrap ((13 : Int) + (n : Int)) = ((13 + n : Nat) : Int) := wrap_i64 _ (by omega) (by omega)
   have q14b := fun k => aB_iff (k := k) h14b
   have hci : ((13 + n : Nat) : Int) = (13 : Int) + (n : Int) := rfl
   rw [hci] at q14b hwn
   obtain ⟨z, hz⟩ : ∃ r : Int, binF .shr (.i .i64 b) (.i .u64 4) = some (.i .i64 r) := ⟨_, rfl⟩
   obtain ⟨p, hp, h15⟩ := ans15 z
   obtain ⟨p0, p1, p2, rfl, hd0, hd1, hd2⟩ := pc_PPl _ hp
   have q15 := fun k => aB_iff (k := k) h15
   have q16 := fun k => aB_iff (k := k) ans16_1
   have hr1 := rem_nat b 3 (by omega)
   have hq1 := quo_nat b 3 (by omega) (by omega)
   have hr2 := rem_nat (b / 3) 3 (by omega)
   have hq2 := quo_nat (b / 3) 3 (by omega) (by have : b / 3 ≤ b := Nat.div_le_self _ _; omega)
   rw [show ((3 : Nat) : Int) = 3 from rfl] at hr1 hq1 hr2 hq2
   have hb1 : b % 3 < 3 := Nat.mod_lt _ (by omega)
   have hb2 : b / 3 % 3 < 3 := Nat.mod_lt _ (by omega)
   generalize b / 3 % 3 = b2 at hr2 hb2
   generalize b / 3 / 3 = b4 at hq2
   generalize b / 3 = b3 at hq1 hr2 hq2
   generalize b % 3 = b1 at hr1 hb1
   have k1 : ¬ id = s.c := by omega
   have hok : TuC ([1 + (b1 : Int), 1 + (b2 : Int)], [.b false, .sl 1 [[.i .u32 1]], .sl 1 [[.i .u32 1]]]) := ⟨pp1, 1 + (b1 : Int), 1 + (b2 : Int), rfl⟩
   obtain ⟨y, hy, h17⟩ := ans17 sumTab [67] true coC tu (okC tu (by omega) hT) (by omega) ([1 + (b1 : Int), 1 + (b2 : Int)], [.b false, .sl 1 [[.i .u32 1]], .sl 1 [[.i .u32 1]]]) pp1 (ckC _ hok) (fun m hm => okC _ (by rw [len_mid m hm]; omega) (mem_mid m hT hok))
   have h17 : Ans pr 17 [.ag [.s [67], .b true, coC, slc 4 (tu.map tuF)], .ag [.sl 3 [[.i .i64 1, .i .i64 (1 + (b1 : Int)), .s []], [.i .i64 1, .i .i64 (1 + (b2 : Int)), .s []]], .b false, .sl 1 [[.i .u32 1]], .sl 1 [[.i .u32 1]]]] y := h17
   simp -implicitDefEqProofs [rulA, Function.comp_def, Nat.blt_eq, apO, h0, h4, h5, h6, h3, h7, g, hxd, q14, hrm, hlt, hs, hgo, hmul, hw4, hwn, q14b, hz, q15, q16, hd0, hd1, hd2]
   refine cols2 s.h x 3 id dO n [.f (.s [67]), .f (.b true), .f coC, .f (slc 4 (tu.map tuF))] s.c (.f (.b false)) (.f (.sl 1 [[.i .u32 1]])) (.f (.sl 1 [[.i .u32 1]])) [67] true coC rfl rfl rfl b b1 b2 b3 b4 hr1 hq1 hr2 hq2 hb1 hb2 _ _ ⟨?_, ?_, ?_, ?_, ?_, ?_, ?_, ?_, ?_, ?_, ?_⟩ ?_ ?_ ?_ ?_
   any_goals (simp -implicitDefEqProofs [rulA, Function.comp_def, Nat.blt_eq, apO, h0, h4, h5, h6, h3, h7, g, k1]; done)
   ·omega
   ·intro j hj
    simp only [ue_tm, ue_h, ue_c, ae_tm, ae_h, ae_c, se_tm, se_h, se_c, up_tm, up_h, up_c, aft_tm, aft_h, aft_c, wt_n, wt_s, wt_d]
    repeat first | rw [Vse.T.get_set, if_neg (by omega)] | rw [Vse.T.get_del, if_neg (by omega)]
   ·clear h0 h4 h5 h6 h3 h7 g k1
    intro S idv hS g9 gv hi4 hi5
    obtain ⟨h0, h4, h5, h6, h3, h7, h9, g, hi1, hi2, hk⟩ := hS
    rw [show ((3 : Nat) : Int) = 3 from rfl] at h5
    have hcd : coC.d = .f coC := rfl
    have hcc : (D.f coC).cells = some [.f coC] := rfl
    have j1 : ¬ id = s.c := by omega
    have j2 : ¬ id = idv := by omega
    have j3 : ¬ id = S.c := by omega
    have j4 : ¬ s.c = id := by omega
    have j5 : ¬ s.c = idv := by omega
    have j6 : ¬ s.c = S.c := by omega
    have j7 : ¬ idv = id := by omega
    have j8 : ¬ idv = s.c := by omega
    have j9 : ¬ idv = S.c := by omega
    have j10 : ¬ S.c = id := by omega
    have j11 : ¬ S.c = s.c := by omega
    have j12 : ¬ S.c = idv := by omega
    have keep : ∀ h' : Vse.T Ob, (∀ j, j < id → h'.get j = S.h.get j) → Grow h' 0 id 4 dO els := fun h' hh => grow_up hg (fun j hj => (hh j hj).trans (hk j hj)) (Nat.le_refl _)
    rcases hy with ⟨e, he, rfl⟩ | ⟨m, hm, rfl⟩
    ·have q17 := fun k => aB_iff (k := k) h17
     simp only [zRl] at q17
     simp -implicitDefEqProofs [rulA, Function.comp_def, Nat.blt_eq, apO, h0, h4, h5, h6, h3, h7, h9, g, g9, gv, hcd, hcc, hd0, hd1, hd2, hi2, hi5, j1, j2, j3, j4, j5, j6, j7, j8, j9, j10, j11, j12, q17, he, hw]
     rw [lp_nrm]
     refine ⟨3 - (n + 1), by omega, n + 1, tu, by omega, rfl, by omega, ?_, hT, ?_, ?_, ?_, ?_, ?_, ?_, ?_, ?_⟩
     any_goals (simp -implicitDefEqProofs [rulA, Function.comp_def, Nat.blt_eq, apO, h0, h4, h5, h6, h3, h7, h9, g, g9, gv, hcd, hcc, hd0, hd1, hd2, hi2, hi5, j1, j2, j3, j4, j5, j6, j7, j8, j9, j10, j11, j12]; done)
     ·simp only [ue_tm, ue_h, ue_c, ae_tm, ae_h, ae_c, se_tm, se_h, se_c, up_tm, up_h, up_c, aft_tm, aft_h, aft_c, wt_n, wt_s, wt_d]
      refine keep _ ?_
      intro j hj
      repeat first | rw [Vse.T.get_set, if_neg (by omega)] | rw [Vse.T.get_del, if_neg (by omega)]
     all_goals (simp only [ue_tm, ue_h, ue_c, ae_tm, ae_h, ae_c, se_tm, se_h, se_c, up_tm, up_h, up_c, aft_tm, aft_h, aft_c, wt_n, wt_s, wt_d]; omega)
    ·have q17 := fun k => aB_iff (k := k) h17
     simp only [rlF] at q17
     simp -implicitDefEqProofs [rulA, Function.comp_def, Nat.blt_eq, apO, h0, h4, h5, h6, h3, h7, h9, g, g9, gv, hcd, hcc, hd0, hd1, hd2, hi2, hi5, j1, j2, j3, j4, j5, j6, j7, j8, j9, j10, j11, j12, q17, hw]
     refine ⟨by omega, ?_⟩
     rw [lp_nrm]
     refine ⟨3 - (n + 1), by omega, n + 1, tu.take m ++ ([1 + (b1 : Int), 1 + (b2 : Int)], [.b false, .sl 1 [[.i .u32 1]], .sl 1 [[.i .u32 1]]]) :: tu.drop m, by omega, rfl, by rw [len_mid m hm]; omega, ?_, mem_mid m hT hok, ?_, ?_, ?_, ?_, ?_, ?_, ?_, ?_⟩
     any_goals (simp -implicitDefEqProofs [rulA, Function.comp_def, Nat.blt_eq, apO, h0, h4, h5, h6, h3, h7, h9, g, g9, gv, hcd, hcc, hd0, hd1, hd2, hi2, hi5, j1, j2, j3, j4, j5, j6, j7, j8, j9, j10, j11, j12]; done)
     ·simp only [ue_tm, ue_h, ue_c, ae_tm, ae_h, ae_c, se_tm, se_h, se_c, up_tm, up_h, up_c, aft_tm, aft_h, aft_c, wt_n, wt_s, wt_d]
      refine keep _ ?_
      intro j hj
      repeat first | rw [Vse.T.get_set, if_neg (by omega)] | rw [Vse.T.get_del, if_neg (by omega)]
     all_goals (simp only [ue_tm, ue_h, ue_c, ae_tm, ae_h, ae_c, se_tm, se_h, se_c, up_tm, up_h, up_c, aft_tm, aft_h, aft_c, wt_n, wt_s, wt_d]; omega)
  ·exact absurd trivial hgo
 ·simp -implicitDefEqProofs [rulA, Function.comp_def, Nat.blt_eq, apO, h0, h4, h5, h6, h3, h7, g, hxd, q14, hrm, hlt, hs]
  refine ⟨rfl, tu, by omega, hT, ?_, ?_, ?_, ?_, ?_, ?_, ?_, ?_⟩
  all_goals simp -implicitDefEqProofs [rulA, Function.comp_def, Nat.blt_eq, apO, h0, h4, h5, h6, h3, g, hg, c0]
end Go.Proofs.YtffjpakgkecheaaGreat
