/- slices.Insert of one value at the head of a slice of none or one element. Conditions: none. -/
import Derived.Test.YtjmjeeieakilfaaGreatDoorVe
set_option linter.all false
section
/- slices.Insert of one value before the one element of a slice: the code, run by the evaluator where no room is left; what the two copies leave where there is room. -/
namespace Go.Vse
open Go.RowKit
open Go (BinOp IntKind UnOp)
set_option maxRecDepth 100000
set_option maxHeartbeats 4000000
set_option linter.unusedSimpArgs false

def gIns (es byt : Nat) (z : List F) (fo fr : Nat) : Fn := ⟨95, [.t 6], .seq (.reg [⟨(some 6),none,.mv (.k (.nils))⟩])
 (.seq (.reg [⟨(some 10),none,.mv (.t 0)⟩,⟨(some 11),none,.mv (.t 1)⟩,⟨(some 12),none,.slc es (.t 10) (some (.t 11)) none none⟩])
 (.seq (.reg [⟨(some 13),none,.mv (.t 2)⟩,⟨(some 14),none,.len (.t 13)⟩,⟨(some 7),none,.mv (.t 14)⟩])
 (.seq (.seq (.reg [⟨(some 15),none,.mv (.t 7)⟩,⟨(some 16),none,.bin .eql (.t 15) (.k (.i .i64 0))⟩])
 (.cond (.t 16) (.seq (.reg [⟨(some 17),none,.mv (.t 0)⟩,⟨(some 6),none,.mv (.t 17)⟩])
 (.ret)) (.skip)))
 (.seq (.reg [⟨(some 18),none,.mv (.t 0)⟩,⟨(some 19),none,.len (.t 18)⟩,⟨(some 8),none,.mv (.t 19)⟩])
 (.seq (.seq (.reg [⟨(some 20),none,.mv (.t 1)⟩,⟨(some 21),none,.mv (.t 8)⟩,⟨(some 22),none,.bin .eql (.t 20) (.t 21)⟩])
 (.cond (.t 22) (.seq (.reg [⟨(some 23),none,.mv (.t 0)⟩,⟨(some 24),none,.mv (.t 2)⟩,⟨(some 25),none,.app es byt (.t 23) (.t 24)⟩,⟨(some 6),none,.mv (.t 25)⟩])
 (.ret)) (.skip)))
 (.seq (.seq (.reg [⟨(some 26),none,.mv (.t 8)⟩,⟨(some 27),none,.mv (.t 7)⟩,⟨(some 28),none,.bin .add (.t 26) (.t 27)⟩,⟨(some 29),none,.mv (.t 0)⟩,⟨(some 30),none,.cap (.t 29)⟩,⟨(some 31),none,.bin .gtr (.t 28) (.t 30)⟩])
 (.cond (.t 31) (.seq (.reg [⟨(some 32),none,.mv (.t 0)⟩,⟨(some 33),none,.mv (.t 1)⟩,⟨(some 34),none,.slc es (.t 32) none (some (.t 33)) none⟩,⟨(some 35),none,.mv (.t 8)⟩,⟨(some 36),none,.mv (.t 7)⟩,⟨(some 37),none,.bin .add (.t 35) (.t 36)⟩,⟨(some 38),none,.mv (.t 1)⟩,⟨(some 39),none,.bin .sub (.t 37) (.t 38)⟩,⟨(some 40),none,.apz es byt z (.t 34) (.t 39)⟩,⟨(some 9),none,.mv (.t 40)⟩])
 (.seq (.reg [⟨(some 41),none,.mv (.t 9)⟩,⟨(some 42),none,.mv (.t 1)⟩,⟨(some 43),none,.slc es (.t 41) (some (.t 42)) none none⟩,⟨(some 44),none,.mv (.t 2)⟩,⟨(some 45),none,.cpy es (.t 43) (.t 44)⟩])
 (.seq (.dreg [(⟨(some 46),none,.mv (.t 9)⟩,0),(⟨(some 47),none,.mv (.t 1)⟩,1),(⟨(some 48),none,.mv (.t 7)⟩,3),(⟨(some 49),none,.bin .add (.t 47) (.t 48)⟩,1),(⟨(some 50),none,.slc es (.t 46) (some (.t 49)) none none⟩,0),(⟨(some 51),none,.mv (.t 0)⟩,31),(⟨(some 52),none,.mv (.t 1)⟩,63),(⟨(some 53),none,.slc es (.t 51) (some (.t 52)) none none⟩,31),(⟨(some 54),none,.cpy es (.t 50) (.t 53)⟩,0)])
 (.seq (.reg [⟨(some 55),none,.mv (.t 9)⟩,⟨(some 6),none,.mv (.t 55)⟩])
 (.ret))))) (.skip)))
 (.seq (.reg [⟨(some 56),none,.mv (.t 0)⟩,⟨(some 57),none,.mv (.t 8)⟩,⟨(some 58),none,.mv (.t 7)⟩,⟨(some 59),none,.bin .add (.t 57) (.t 58)⟩,⟨(some 60),none,.slc es (.t 56) none (some (.t 59)) none⟩,⟨(some 0),none,.mv (.t 60)⟩])
 (.seq (.seq (.reg [⟨(some 61),none,.mv (.t 2)⟩,⟨(some 62),none,.mv (.t 0)⟩,⟨(some 63),none,.mv (.t 1)⟩,⟨(some 64),none,.mv (.t 7)⟩,⟨(some 65),none,.bin .add (.t 63) (.t 64)⟩,⟨(some 66),none,.slc es (.t 62) (some (.t 65)) none none⟩,⟨(some 67),none,.call fo [(.t 61),(.t 66)]⟩,⟨(some 68),none,.un .not (.t 67)⟩])
 (.cond (.t 68) (.seq (.dreg [(⟨(some 69),none,.mv (.t 0)⟩,0),(⟨(some 70),none,.mv (.t 1)⟩,1),(⟨(some 71),none,.mv (.t 7)⟩,3),(⟨(some 72),none,.bin .add (.t 70) (.t 71)⟩,1),(⟨(some 73),none,.slc es (.t 69) (some (.t 72)) none none⟩,0),(⟨(some 74),none,.mv (.t 0)⟩,31),(⟨(some 75),none,.mv (.t 1)⟩,63),(⟨(some 76),none,.slc es (.t 74) (some (.t 75)) none none⟩,31),(⟨(some 77),none,.cpy es (.t 73) (.t 76)⟩,0)])
 (.seq (.reg [⟨(some 78),none,.mv (.t 0)⟩,⟨(some 79),none,.mv (.t 1)⟩,⟨(some 80),none,.slc es (.t 78) (some (.t 79)) none none⟩,⟨(some 81),none,.mv (.t 2)⟩,⟨(some 82),none,.cpy es (.t 80) (.t 81)⟩])
 (.seq (.reg [⟨(some 83),none,.mv (.t 0)⟩,⟨(some 6),none,.mv (.t 83)⟩])
 (.ret)))) (.skip)))
 (.seq (.reg [⟨(some 84),none,.mv (.t 0)⟩,⟨(some 85),none,.mv (.t 8)⟩,⟨(some 86),none,.slc es (.t 84) (some (.t 85)) none none⟩,⟨(some 87),none,.mv (.t 2)⟩,⟨(some 88),none,.cpy es (.t 86) (.t 87)⟩])
 (.seq (.reg [⟨(some 89),none,.mv (.t 0)⟩,⟨(some 90),none,.mv (.t 1)⟩,⟨(some 91),none,.slc es (.t 89) (some (.t 90)) none none⟩,⟨(some 92),none,.mv (.t 7)⟩,⟨(some 93),none,.call fr [(.t 91),(.t 92)]⟩])
 (.seq (.reg [⟨(some 94),none,.mv (.t 0)⟩,⟨(some 6),none,.mv (.t 94)⟩])
 (.ret))))))))))))⟩

section
variable [Globs]

variable {pr : Pr} {s : St} {Q : St → Prop} {dst : Option Nat} {L : List (List Nat × List Nat)} {mask : Nat}

theorem y_slc {l : List Op} {es : Nat} {x : A} {lo hi mx : Option A} : wpO pr (⟨dst, none, .slc es x lo hi mx⟩ :: l) s Q ↔ oB (opnd s.tm x) fun d => oB (optO (opnd s.tm) lo) fun a => oB (optO (opnd s.tm) hi) fun b =>
    oB (optO (opnd s.tm) mx) fun m => oB (sliceB es s.h.get d a b m) fun y => wpO pr l (s.up dst y.1) Q := by
  rw [o_iff rfl]
  cases hx : opnd s.tm x with
  | none => simp [O.res, hx, oB]
  | some d =>
    cases ha : optO (opnd s.tm) lo with
    | none => simp [O.res, hx, ha, oB]
    | some a =>
      cases hb : optO (opnd s.tm) hi with
      | none => simp [O.res, hx, ha, hb, oB]
      | some b =>
        cases hm : optO (opnd s.tm) mx with
        | none => simp [O.res, hx, ha, hb, hm, oB]
        | some m =>
          cases hs : sliceB es s.h.get d a b m with
          | none => simp [O.res, hx, ha, hb, hm, hs, opv, oB]
          | some y => obtain ⟨y1, y2⟩ := y; simp [O.res, hx, ha, hb, hm, hs, opv, oB, wrOk, aft_up]

theorem e_slc {l : List (Op × Nat)} {es : Nat} {x : A} {lo hi mx : Option A} : wpE pr L ((⟨dst, none, .slc es x lo hi mx⟩, mask) :: l) s Q ↔ oB (opnd s.tm x) fun d => oB (optO (opnd s.tm) lo) fun a => oB (optO (opnd s.tm) hi) fun b =>
    oB (optO (opnd s.tm) mx) fun m => oB (sliceB es s.h.get d a b m) fun y => chkM mask L y.2 [] ∧ wpE pr (L ++ [(y.2, [])]) l (s.ue dst y.1) Q := by
  rw [e_iff rfl]
  cases hx : opnd s.tm x with
  | none => simp [O.res, hx, oB]
  | some d =>
    cases ha : optO (opnd s.tm) lo with
    | none => simp [O.res, hx, ha, oB]
    | some a =>
      cases hb : optO (opnd s.tm) hi with
      | none => simp [O.res, hx, ha, hb, oB]
      | some b =>
        cases hm : optO (opnd s.tm) mx with
        | none => simp [O.res, hx, ha, hb, hm, oB]
        | some m =>
          cases hs : sliceB es s.h.get d a b m with
          | none => simp [O.res, hx, ha, hb, hm, hs, opv, oB]
          | some y => obtain ⟨y1, y2⟩ := y; simp [O.res, hx, ha, hb, hm, hs, opv, oB, wrOk, ae_ue]

theorem y_cap {l : List Op} {x : A} : wpO pr (⟨dst, none, .cap x⟩ :: l) s Q ↔ oB (opnd s.tm x) fun d => oB (capB d) fun n => wpO pr l (s.up dst (.f (.i .i64 n))) Q := by
  rw [o_iff rfl]
  cases hx : opnd s.tm x with
  | none => simp [O.res, hx, oB]
  | some d =>
    cases hs : capB d with
    | none => simp [O.res, hx, hs, opv, oB]
    | some y => simp [O.res, hx, hs, opv, okF, oB, wrOk, aft_up]

theorem y_apz {l : List Op} {es byt : Nat} {z : List F} {x k : A} : wpO pr (⟨dst, none, .apz es byt z x k⟩ :: l) s Q ↔ oB (opnd s.tm x) fun d => oB (opnd s.tm k) fun e => oB (opv s.h.get s.c (.apz es byt z d e)) fun r =>
    wrOk r.c r.wr = true ∧ wpO pr l (s.aft dst r.d r.wr r.c) Q := by
  rw [o_iff rfl]
  cases hx : opnd s.tm x with
  | none => simp [O.res, hx, oB]
  | some d =>
    cases hk : opnd s.tm k with
    | none => simp [O.res, hx, hk, oB]
    | some e => simp [O.res, hx, hk, oB_some]

theorem y_cpy {l : List Op} {es : Nat} {x k : A} : wpO pr (⟨dst, none, .cpy es x k⟩ :: l) s Q ↔ oB (opnd s.tm x) fun d => oB (opnd s.tm k) fun e => oB (opv s.h.get s.c (.cpy es d e)) fun r =>
    wrOk r.c r.wr = true ∧ wpO pr l (s.aft dst r.d r.wr r.c) Q := by
  rw [o_iff rfl]
  cases hx : opnd s.tm x with
  | none => simp [O.res, hx, oB]
  | some d =>
    cases hk : opnd s.tm k with
    | none => simp [O.res, hx, hk, oB]
    | some e => simp [O.res, hx, hk, oB_some]

theorem e_cpy {l : List (Op × Nat)} {es : Nat} {x k : A} : wpE pr L ((⟨dst, none, .cpy es x k⟩, mask) :: l) s Q ↔ oB (opnd s.tm x) fun d => oB (opnd s.tm k) fun e => oB (opv s.h.get s.c (.cpy es d e)) fun r =>
    wrOk r.c r.wr = true ∧ chkM mask L r.rd (r.wr.map (·.1)) ∧ wpE pr (L ++ [(r.rd, r.wr.map (·.1))]) l (s.ae dst r.d r.wr r.c) Q := by
  rw [e_iff rfl]
  cases hx : opnd s.tm x with
  | none => simp [O.res, hx, oB]
  | some d =>
    cases hk : opnd s.tm k with
    | none => simp [O.res, hx, hk, oB]
    | some e => simp [O.res, hx, hk, oB_some]

theorem up_mx (s : St) (dst : Option Nat) (d : D) : (s.up dst d).mx = max s.mx (s.c + 1) := rfl
theorem aft_mx (s : St) (dst : Option Nat) (d : D) (wr : List (Nat × Option Ob)) (c : Nat) : (s.aft dst d wr c).mx = max s.mx (c + 1) := rfl
theorem ue_mx (s : St) (dst : Option Nat) (d : D) : (s.ue dst d).mx = max s.mx (s.c + 1) := rfl
theorem ae_mx (s : St) (dst : Option Nat) (d : D) (wr : List (Nat × Option Ob)) (c : Nat) : (s.ae dst d wr c).mx = max s.mx (c + 1) := rfl

theorem apz_ex {h : Nat → Option Ob} {c es byt id lim : Nat} {z : List F} {els : List (List D)} {ro : Nat} {k : Nat} (ho : h id = some (.arr es ro els)) (hk : 0 < k) (hl : lim < k) (hb : k * byt ≤ maxBytes) (hm : k ≤ maxBytes) :
    opv h c (.apz es byt z (.sl id 0 0 es lim true) (.f (.i .i64 (k : Int)))) =
      some { d := .sl c 0 k es k false, rd := [id], wr := [(c, some (.arr es 0 (List.replicate k (z.map D.f))))], c := c + 1 } := by
  have h1 : ¬ k = 0 := by omega
  have h2 : ¬ k ≤ lim := by omega
  simp only [opv, toIdx]
  unfold appendB
  simp [hm, hb, h1, h2, ho]

theorem cpy_sl {h : Nat → Option Ob} {c es id off m lim : Nat} {ex : Bool} {e : D} {els old : List (List D)} {len ro : Nat} {rd : List Nat} (hs : srcB es h m e = some (els, len, rd)) (ho : h id = some (.arr es ro old)) (hle : off ≤ old.length) (hro : ro ≤ off)
    (hk : okHd old (old.take off ++ els.take (Nat.min len m) ++ old.drop (off + Nat.min len m)) = true) :
    opv h c (.cpy es (.sl id off m es lim ex) e) = some { d := .f (.i .i64 (Nat.min len m)), rd := id :: rd, wr := [(id, some (.arr es ro (old.take off ++ els.take (Nat.min len m) ++ old.drop (off + Nat.min len m))))], c } := by
  simp only [opv, hs, ho]
  rw [if_pos ⟨trivial, trivial, hle, .inl hro, hk⟩]

theorem okHd_cons (e : List D) (a b : List (List D)) : okHd (e :: a) (e :: b) = true := by
  unfold okHd hd8
  split <;> simp_all

theorem srcB_sl {h : Nat → Option Ob} {es id off len m lim ro : Nat} {ex : Bool} {els : List (List D)} (ho : h id = some (.arr es ro els)) (hle : off + len ≤ els.length) :
    srcB es h m (.sl id off len es lim ex) = some ((els.drop off).take len, ((els.drop off).take len).length, [id]) := by
  simp only [srcB, elemsOf, ho]
  rw [if_pos ⟨trivial, trivial, hle⟩]

theorem ins_grow {pr : Pr} {f es byt : Nat} {z : List F} {fo fr : Nat} (hf : pr.fn f = some (gIns es byt z fo fr)) (hb : 2 * byt ≤ maxBytes) {h : T Ob} {id vid voff vlim n : Nat} {vex : Bool} {x y : List D} {vro : Nat} {vels : List (List D)}
    (ho : h.get id = some (.arr es 0 [x])) (hv : h.get vid = some (.arr es vro vels)) (hy : vels[voff]? = some y) (hid : id < n) (hvid : vid ≠ n) (hz : hd8 [z.map D.f] = false) :
    ∃ q, (q.d = .sl n 0 2 es 2 false ∧ (∀ i, q.h.get i = if i = n then some (.arr es 0 [y, x]) else h.get i) ∧ q.c = n + 10 ∧ q.lw = n ∧ q.mx = n + 11) ∧
      Con pr f [.sl id 0 1 es 1 true, .f (.i .i64 0), .sl vid voff 1 es vlim vex] h n q := by
  refine con_of_wp hf ?_
  have hlt := (List.getElem?_eq_some_iff.1 hy).1
  have hy' := (List.getElem?_eq_some_iff.1 hy).2
  have hw1 : IntKind.i64.wrap 1 = 1 := rfl
  have hw2 : IntKind.i64.wrap 2 = 2 := rfl
  obtain ⟨zz, hzz⟩ : ∃ zz, zz = z.map D.f := ⟨_, rfl⟩
  rw [← hzz] at hz
  have hne1 : ¬ id = n := by omega
  have hne2 : ¬ vid = n := hvid
  have hdy : (vels.drop voff).take 1 = [y] := by
    rw [List.drop_eq_getElem_cons hlt, hy']; rfl
  have hok : ∀ l, okHd [zz, zz] l = true := fun l => by
    have : hd8 [zz, zz] = false := by unfold hd8 at hz ⊢; split <;> simp_all
    simp [okHd, this]
  have hA : opv h.get n (.apz es byt z (.sl id 0 0 es 1 true) (.f (.i .i64 2))) = some { d := .sl n 0 2 es 2 false, rd := [id], wr := [(n, some (.arr es 0 [zz, zz]))], c := n + 1 } := by
    have := apz_ex (h := h.get) (c := n) (byt := byt) (z := z) (k := 2) (lim := 1) ho (by decide) (by decide) hb (by decide)
    rw [← hzz] at this
    exact this
  have hB : opv (h.set n (.arr es 0 [zz, zz])).get (n + 1) (.cpy es (.sl n 0 2 es 2 false) (.sl vid voff 1 es vlim vex)) = some { d := .f (.i .i64 1), rd := [n, vid], wr := [(n, some (.arr es 0 [y, zz]))], c := n + 1 } := by
    have e1 : (h.set n (.arr es 0 [zz, zz])).get vid = some (.arr es vro vels) := by rw [T.get_set, if_neg hne2]; exact hv
    have e2 : (h.set n (.arr es 0 [zz, zz])).get n = some (.arr es 0 [zz, zz]) := by rw [T.get_set, if_pos rfl]
    have := cpy_sl (c := n + 1) (off := 0) (m := 2) (lim := 2) (ex := false) (srcB_sl (m := 2) (off := voff) (lim := vlim) (ex := vex) e1 (len := 1) (by omega)) e2 (Nat.zero_le _) (Nat.le_refl _) (hok _)
    rw [hdy] at this
    exact this
  have hC : opv ((h.set n (.arr es 0 [zz, zz])).set n (.arr es 0 [y, zz])).get (n + 9) (.cpy es (.sl n 1 1 es 2 false) (.sl id 0 1 es 1 true)) = some { d := .f (.i .i64 1), rd := [n, id], wr := [(n, some (.arr es 0 [y, x]))], c := n + 9 } := by
    have e1 : ((h.set n (.arr es 0 [zz, zz])).set n (.arr es 0 [y, zz])).get id = some (.arr es 0 [x]) := by rw [T.get_set, if_neg hne1, T.get_set, if_neg hne1]; exact ho
    have e2 : ((h.set n (.arr es 0 [zz, zz])).set n (.arr es 0 [y, zz])).get n = some (.arr es 0 [y, zz]) := by rw [T.get_set, if_pos rfl]
    have := cpy_sl (c := n + 9) (off := 1) (m := 1) (lim := 2) (ex := false) (srcB_sl (m := 1) (off := 0) (lim := 1) (ex := true) e1 (len := 1) (by simp)) e2 (by simp) (by decide) (okHd_cons y _ _)
    exact this
  unfold gIns
  simp (maxSteps := 1000000) [c_seq, c_reg, c_ret, c_blk, c_skip, c_exit, x_nil, x_new, y_mv, y_pick, y_ld, y_bin, y_not, y_len, y_fa, y_ext, y_box, y_st, y_ia, y_mkf, y_bld, y_callp, y_call, y_callv, y_cond, y_guard, e_nil, e_mv, e_pick, e_ld, e_bin, e_eqb, e_len, e_fa, e_ia, e_bld, e_new, e_st, e_callp, e_guard, asG_b, asG_un, disj_nil, disj_cons, chkM, chkM_nn, ue_tm, ue_h, ue_c, ue_lw, ae_tm, ae_h, ae_c, ae_lw, se_tm, se_h, se_c, se_lw, oB_some, opnd_t, opnd_k, asF_f, asB_b, asFn_fn, asFn_f, asTu_tu, Option.bind_some, fnD, up_tm, up_h, up_c, up_lw, aft_tm, aft_h, aft_c, aft_lw, cal_tm, cal_h, cal_c, cal_lw, putO_some, putO_none, F.d, toIdx, iaB, faB, lenB, loadB, storeB, over, partF, partD, mapO, D.cells, fillB, wrT, T.get_set, T.get_del, T.get_e, frzArgs, mapFr, fz12_f, fz11_f, fz10_f, fz12_ag, fz11_ag, fz12_tu, roMarks, wrOk, bin_lss, bin_leq, bin_geq, bin_gtr, bin_eql, bin_neq, bin_add, bin_sub, y_slc, y_cap, y_apz, y_cpy, e_slc, e_cpy, sliceB, capB, optIdx, optO, st0, tmOf, ho, hv, hw1, hw2, hA, hB, hC]
  refine c_dreg ?_
  simp (maxSteps := 1000000) [c_seq, c_reg, c_ret, c_blk, c_skip, c_exit, x_nil, x_new, y_mv, y_pick, y_ld, y_bin, y_not, y_len, y_fa, y_ext, y_box, y_st, y_ia, y_mkf, y_bld, y_callp, y_call, y_callv, y_cond, y_guard, e_nil, e_mv, e_pick, e_ld, e_bin, e_eqb, e_len, e_fa, e_ia, e_bld, e_new, e_st, e_callp, e_guard, asG_b, asG_un, disj_nil, disj_cons, chkM, chkM_nn, ue_tm, ue_h, ue_c, ue_lw, ae_tm, ae_h, ae_c, ae_lw, se_tm, se_h, se_c, se_lw, oB_some, opnd_t, opnd_k, asF_f, asB_b, asFn_fn, asFn_f, asTu_tu, Option.bind_some, fnD, up_tm, up_h, up_c, up_lw, aft_tm, aft_h, aft_c, aft_lw, cal_tm, cal_h, cal_c, cal_lw, putO_some, putO_none, F.d, toIdx, iaB, faB, lenB, loadB, storeB, over, partF, partD, mapO, D.cells, fillB, wrT, T.get_set, T.get_del, T.get_e, frzArgs, mapFr, fz12_f, fz11_f, fz10_f, fz12_ag, fz11_ag, fz12_tu, roMarks, wrOk, bin_lss, bin_leq, bin_geq, bin_gtr, bin_eql, bin_neq, bin_add, bin_sub, y_slc, y_cap, y_apz, y_cpy, e_slc, e_cpy, sliceB, capB, optIdx, optO, st0, tmOf, ho, hv, hw1, hw2, hA, hB, hC, hne1, hne2, endQ, endP, resD, resV, mapO, wrLow, D.isF, D.isFL]
  refine ⟨fun i => ?_, ?_⟩
  · by_cases hi : i = n
    · rw [if_pos hi, if_pos hi]
    · rw [if_neg hi, if_neg hi, if_neg hi, if_neg hi]
  · simp only [up_mx, aft_mx, ue_mx, ae_mx, up_c, aft_c, ue_c, ae_c]
    simp [Nat.max_def]
end
end Go.Vse
end
section
/- slices.Insert of one value before the one element of a slice that has room: what the two copies leave. -/
namespace Go.Vse
open Go.RowKit
open Go (BinOp IntKind UnOp)
set_option maxRecDepth 100000
set_option maxHeartbeats 4000000

section
variable [Globs]
variable {P : Program} {amb : Mu} {ρ : Nat → Option Nat} {c : Nat → Prop} {h : Hp}

theorem ins_place {w : World} (s : Sim amb w.heap h ρ c) {td ty e : TypeId} {es : Nat} (hu : P.underlying td = some (.slice e)) (hn : sizeT P e = some es)
    {id vid vro voff vlim lim n : Nat} {ex vex : Bool} {x y : List D} {vels : List (List D)}
    (ho : h id = some (.arr es 0 [x])) (hv : h vid = some (.arr es vro vels)) (hy : vels[voff]? = some y) (hne : id ≠ vid) (hx8 : hd8 [x] = false) (hcn : ¬ c n)
    {a : Addr} {C : Nat} (hC : 2 ≤ C) (hr : Rel w.heap (MuOf amb h ρ) ρ c (.sl id 0 1 es lim ex) (.slice (some a) 1 C)) {uv : Value} (hrv : Rel w.heap (MuOf amb h ρ) ρ c (.sl vid voff 1 es vlim vex) uv) :
    ∃ b w1 w2, ρ id = some b ∧ a = ⟨b, 0, none⟩ ∧
      (Builtin.copy_ #[td, td] ty #[.slice (some ⟨b, es, none⟩) 1 (C - 1), .slice (some ⟨b, 0, none⟩) 2 C]).run P w.drew = .ok (.int .i64 1) w1 ∧
      (Builtin.copy_ #[td, td] ty #[.slice (some ⟨b, 0, none⟩) 2 C, uv]).run P w1 = .ok (.int .i64 1) w2 ∧ Base w w2 ∧
      ∃ ρ', Rel w2.heap (MuOf amb (upd (upd h id none) n (some (.arr es 0 [y, x]))) ρ') ρ' (fun i => c i ∨ i = n) (.sl n 0 2 es 2 false) (.slice (some ⟨b, 0, none⟩) 2 C) ∧
        Sim amb w2.heap (upd (upd h id none) n (some (.arr es 0 [y, x]))) ρ' (fun i => c i ∨ i = n) ∧
        Evo amb (fun i => i = id) w.heap h ρ c w2.heap (upd (upd h id none) n (some (.arr es 0 [y, x]))) ρ' (fun i => c i ∨ i = n) := by
  simp only [Rel] at hr
  obtain ⟨hc, a', cap, e0, q1, q2, q3, q4⟩ := hr
  simp only [Value.slice.injEq, Option.some.injEq, true_and] at e0
  obtain ⟨rfl, rfl⟩ := e0
  obtain ⟨b, cs, elem, fr, hb, b1, b2, b3, b4, b5⟩ := s.row ho
  obtain ⟨k1, e3, bn, k2, k3⟩ := q4 b hb
  have ha := k1 (by omega)
  rw [Nat.zero_mul] at ha
  subst ha
  have hCs : (0 + C) * es ≤ bn := k3
  have hsame : ∀ b', ρ id = some b' → b' = b := fun b' h' => by rw [hb] at h'; exact (Option.some.inj h').symm
  have hsrc : Rel w.heap (MuOf amb h ρ) ρ c (.sl id 0 2 es 0 false) (.slice (some ⟨b, 0, none⟩) 2 C) := by
    simp only [Rel]
    refine ⟨hc, ⟨b, 0, none⟩, C, rfl, hC, by omega, by simp, fun b' hb' => ?_⟩
    have := hsame b' hb'
    subst this
    exact ⟨fun _ => by rw [Nat.zero_mul], e3, bn, k2, k3⟩
  have hdst : Rel w.heap (MuOf amb h ρ) ρ c (.sl id 1 1 es 0 false) (.slice (some ⟨b, es, none⟩) 1 (C - 1)) := by
    simp only [Rel]
    refine ⟨hc, ⟨b, es, none⟩, C - 1, rfl, by omega, by omega, by simp, fun b' hb' => ?_⟩
    have := hsame b' hb'
    subst this
    refine ⟨fun _ => by rw [Nat.one_mul], e3, bn, k2, ?_⟩
    rw [show 1 + (C - 1) = 0 + C by omega]
    exact k3
  have hd8x : ∀ l, hd8 (x :: l) = false := by
    intro l
    rw [← hx8]
    rcases x with _ | ⟨d, _ | ⟨d', t⟩⟩
    · rfl
    · cases d with
      | f z => cases z with
        | i k n => cases k <;> rfl
        | _ => rfl
      | _ => rfl
    · cases d with
      | f z => cases z with
        | i k n => cases k <;> rfl
        | _ => rfl
      | _ => rfl
  -- the first copy
  have hs1 : srcB es h 1 (.sl id 0 2 es 0 false) = some ([x], 2, [id]) := by
    simp only [srcB, elemsOf, ho]
    simp
  obtain ⟨hm1, vs1, E1⟩ := srcB_val (P := P) (w := w.drew) s hsrc hs1
  obtain ⟨w1, r1, p1⟩ := run_cpy (P := P) (w := w.drew) (n := n) (td := td) (ts' := td) (ty := ty) s hu hn E1 hdst ho (by simp) (.inl (Nat.zero_le _)) hm1 (by unfold okHd; rw [hd8x]; rfl) []
  have hmin1 : Nat.min 2 1 = 1 := rfl
  rw [hmin1] at r1
  obtain ⟨ρ1, _, s1, v1⟩ := p1.ex
  have hB1 : Base w w1 := Base.trans (b := w.drew) ⟨rfl, rfl, rfl⟩ p1.base
  simp only [UX_same] at s1 v1
  have hh1 : updL h [(id, some (Ob.arr es 0 (List.take 1 [x] ++ List.take (Nat.min 2 1) [x] ++ List.drop (1 + Nat.min 2 1) [x])))] = upd h id (some (.arr es 0 [x, x])) := rfl
  rw [hh1] at s1 v1
  have ho1 : upd h id (some (.arr es 0 [x, x])) id = some (.arr es 0 [x, x]) := by simp
  have hv1 : upd h id (some (.arr es 0 [x, x])) vid = some (.arr es vro vels) := by rw [upd_ne _ _ _ (Ne.symm hne)]; exact hv
  have hd1 := Rel.keep v1.keep _ _ hsrc
  have hrv1 := Rel.keep v1.keep _ _ hrv
  -- the second copy
  have hlt := (List.getElem?_eq_some_iff.1 hy).1
  have hy' := (List.getElem?_eq_some_iff.1 hy).2
  have hdy : (vels.drop voff).take 1 = [y] := by rw [List.drop_eq_getElem_cons hlt, hy']; rfl
  have hs2 : srcB es (upd h id (some (.arr es 0 [x, x]))) 2 (.sl vid voff 1 es vlim vex) = some ([y], 1, [vid]) := by
    simp only [srcB, elemsOf, hv1]
    rw [if_pos ⟨trivial, trivial, by omega⟩]
    simp [hdy]
  obtain ⟨hm2, vs2, E2⟩ := srcB_val (P := P) (w := w1) s1 hrv1 hs2
  obtain ⟨w2, r2, p2⟩ := run_cpy (P := P) (w := w1) (n := n) (td := td) (ts' := td) (ty := ty) s1 hu hn E2 hd1 ho1 (by simp) (.inl (Nat.zero_le _)) hm2 (by unfold okHd; rw [hd8x]; rfl) []
  have hmin2 : Nat.min 1 2 = 1 := rfl
  rw [hmin2] at r2
  obtain ⟨ρ2, _, s2, v2⟩ := p2.ex
  simp only [UX_same] at s2 v2
  have hh2 : updL (upd h id (some (.arr es 0 [x, x]))) [(id, some (Ob.arr es 0 (List.take 0 [x, x] ++ List.take (Nat.min 1 2) [y] ++ List.drop (0 + Nat.min 1 2) [x, x])))] = upd (upd h id (some (.arr es 0 [x, x]))) id (some (.arr es 0 [y, x])) := rfl
  rw [hh2, upd_upd] at s2 v2
  have ho2 : upd h id (some (.arr es 0 [y, x])) id = some (.arr es 0 [y, x]) := by simp
  obtain ⟨b2', hb2, _⟩ := s2.obj id _ ho2
  have hb2e : b2' = b := hsame _ (v1.keep.rho id b2' hc (v2.keep.rho id b2' hc hb2))
  subst hb2e
  obtain ⟨s3, v3⟩ := s2.rename hcn (fun i => i = id) rfl ho2 hb2
  have hh3 : upd (upd (upd h id (some (.arr es 0 [y, x]))) id none) n (some (.arr es 0 [y, x])) = upd (upd h id none) n (some (.arr es 0 [y, x])) := by rw [upd_upd]
  rw [hh3] at s3 v3
  have v12 := (v1.mono (W' := fun i => i = id) fun i _ hi => by simpa using hi).trans (v2.mono (W' := fun i => i = id) fun i _ hi => by simpa using hi)
  have v13 := v12.trans v3
  refine ⟨b2', w1, w2, hb, rfl, r1, r2, hB1.trans p2.base, _, ?_, s3, v13⟩
  simp only [Rel]
  refine ⟨.inr trivial, ⟨b2', 0, none⟩, C, rfl, hC, by omega, by simp, fun b' hb' => ?_⟩
  simp at hb'
  subst hb'
  exact ⟨fun _ => by rw [Nat.zero_mul], e3, bn, v13.keep.shape _ _ k2, k3⟩

end
end Go.Vse
end
section
/- slices.Insert of one value into a slice that is nil. -/
namespace Go.Vse
open Go.RowKit
open Go (BinOp IntKind UnOp)
set_option maxRecDepth 100000
set_option maxHeartbeats 4000000
set_option linter.unusedSimpArgs false
section
variable [Globs]
variable {pr : Pr} {s : St} {Q : St → Prop} {dst : Option Nat} {L : List (List Nat × List Nat)} {mask : Nat}
theorem y_app {l : List Op} {es byt : Nat} {x k : A} : wpO pr (⟨dst, none, .app es byt x k⟩ :: l) s Q ↔ oB (opnd s.tm x) fun d => oB (opnd s.tm k) fun e => oB (opv s.h.get s.c (.app es byt d e)) fun r =>
    wrOk r.c r.wr = true ∧ wpO pr l (s.aft dst r.d r.wr r.c) Q := by
  rw [o_iff rfl]
  cases hx : opnd s.tm x with
  | none => simp [O.res, hx, oB]
  | some d =>
    cases hk : opnd s.tm k with
    | none => simp [O.res, hx, hk, oB]
    | some e => simp [O.res, hx, hk, oB_some]

theorem app_nil1 {h : Nat → Option Ob} {c es byt vid voff vlim vro : Nat} {vex : Bool} {y : List D} {vels : List (List D)} (hv : h vid = some (.arr es vro vels)) (hy : vels[voff]? = some y) (hb : byt ≤ maxBytes) :
    opv h c (.app es byt (.f .nils) (.sl vid voff 1 es vlim vex)) = some { d := .sl c 0 1 es 1 false, rd := [vid], wr := [(c, some (.arr es 0 [y]))], c := c + 1 } := by
  have hlt := (List.getElem?_eq_some_iff.1 hy).1
  have hy' := (List.getElem?_eq_some_iff.1 hy).2
  have hdy : (vels.drop voff).take 1 = [y] := by
    rw [List.drop_eq_getElem_cons hlt, hy']; rfl
  simp only [opv, elemsOf, hv]
  rw [if_pos ⟨trivial, trivial, by omega⟩, hdy]
  unfold appendB
  simp [hb, maxBytes]
  exact hb

theorem ins_nil {pr : Pr} {f es byt : Nat} {z : List F} {fo fr : Nat} (hf : pr.fn f = some (gIns es byt z fo fr)) (hb : byt ≤ maxBytes) {h : T Ob} {vid voff vlim n : Nat} {vex : Bool} {y : List D} {vro : Nat} {vels : List (List D)}
    (hv : h.get vid = some (.arr es vro vels)) (hy : vels[voff]? = some y) :
    ∃ q, (q.d = .sl n 0 1 es 1 false ∧ (∀ i, q.h.get i = if i = n then some (.arr es 0 [y]) else h.get i) ∧ q.c = n + 1 ∧ q.lw = n ∧ q.mx = n + 2) ∧
      Con pr f [.f .nils, .f (.i .i64 0), .sl vid voff 1 es vlim vex] h n q := by
  refine con_of_wp hf ?_
  have hA := fun c => app_nil1 (h := h.get) (c := c) (byt := byt) (vlim := vlim) (vex := vex) hv hy hb
  unfold gIns
  simp (maxSteps := 1000000) [c_seq, c_reg, c_ret, c_blk, c_skip, c_exit, x_nil, x_new, y_mv, y_pick, y_ld, y_bin, y_not, y_len, y_fa, y_ext, y_box, y_st, y_ia, y_mkf, y_bld, y_callp, y_call, y_callv, y_cond, y_guard, e_nil, e_mv, e_pick, e_ld, e_bin, e_eqb, e_len, e_fa, e_ia, e_bld, e_new, e_st, e_callp, e_guard, asG_b, asG_un, disj_nil, disj_cons, chkM, chkM_nn, ue_tm, ue_h, ue_c, ue_lw, ae_tm, ae_h, ae_c, ae_lw, se_tm, se_h, se_c, se_lw, oB_some, opnd_t, opnd_k, asF_f, asB_b, asFn_fn, asFn_f, asTu_tu, Option.bind_some, fnD, up_tm, up_h, up_c, up_lw, aft_tm, aft_h, aft_c, aft_lw, cal_tm, cal_h, cal_c, cal_lw, putO_some, putO_none, F.d, toIdx, iaB, faB, lenB, loadB, storeB, over, partF, partD, mapO, D.cells, fillB, wrT, T.get_set, T.get_del, T.get_e, frzArgs, mapFr, fz12_f, fz11_f, fz10_f, fz12_ag, fz11_ag, fz12_tu, roMarks, wrOk, bin_lss, bin_leq, bin_geq, bin_gtr, bin_eql, bin_neq, bin_add, bin_sub, y_slc, y_cap, y_app, sliceB, capB, optIdx, optO, st0, tmOf, hv, hA, endQ, endP, resD, resV, mapO, wrLow, D.isF, D.isFL]
  simp only [up_mx, aft_mx, up_c, aft_c]
  simp [Nat.max_def]
end
end Go.Vse
end
section
/- slices.Insert of one value at the head of a slice of none or one element: it does what 'insX' says, whatever the capacity. -/
namespace Go.Vse
open Go.RowKit
open Go (BinOp IntKind UnOp)
set_option maxRecDepth 100000
set_option maxHeartbeats 4000000

/-- into a slice that is nil -/
def insN (es : Nat) (args : List D) (h : T Ob) (n : Nat) : Option CR :=
  match args with
  | [.f .nils, .f (.i k z), .sl vid voff vlen es2 _ _] => match h.get vid with
    | some (.arr eb _ vels) => match vels[voff]? with
      | some y => if k = .i64 ∧ z = 0 ∧ vlen = 1 ∧ es2 = es ∧ eb = es then
          some { d := .sl n 0 1 es 1 false, h := h.set n (.arr es 0 [y]), c := n + 1, lw := n, mx := n + 2 }
        else none
      | none => none
    | _ => none
  | _ => none

def insX (es : Nat) (args : List D) (h : T Ob) (n : Nat) : Option CR :=
  match insN es args h n with
  | some q => some q
  | none => insQ es args h n

section
variable [Globs]
variable {P : Program} {pur : Nat → Bool}

/-- the same answer, under another name of the heap -/
theorem ClAt.same {f : Nat} {args : List D} {h : T Ob} {n : Nat} {q q' : CR} (hq : ClAt P f args h n q) (hd : q'.d = q.d) (hh : ∀ i, q'.h.get i = q.h.get i) (hc : q'.c = q.c) (hl : q'.lw = q.lw) (hm : q'.mx = q.mx) : ClAt P f args h n q' := by
  obtain ⟨h1, h2, h3, h4⟩ := hq
  refine ⟨h1, by omega, by omega, fun amb ρ c w vs hs hf ha => ?_⟩
  rw [hm] at hf
  refine (h4 amb ρ c w vs hs hf ha).mono ?_
  rintro e w' ⟨v, he, hb, ρ', k1, k2, k3⟩
  have hg : q'.h.get = q.h.get := funext hh
  refine ⟨v, he, hb, ρ', ?_, ?_, ?_⟩
  · rw [hd, hg, hc]; exact k1
  · rw [hg, hc]; exact k2
  · rw [hg, hc, hl, hm]; exact k3

theorem ClAt.of_con {pr : Pr} (hp : PrOk P pur pr) {f : Nat} {args : List D} {h : T Ob} {n : Nat} {q : CR} (hq : Con pr f args h n q) : ClAt P f args h n q := by
  obtain ⟨N, hN⟩ := hq
  exact evFn_ok hp N f args h n q (hN N (Nat.le_refl _))

/-- what the walk of the road 'in place' needs of the two blocks -/
structure Apart (w : World) (b bv ov : Nat) : Prop where
  ne : bv ≠ b
  sh : ∃ tA kA tB kB, w.shape? bv = some (tA, kA) ∧ w.shape? b = some (tB, kB) ∧ kB ≠ 0 ∧ w.frozen? ⟨bv, ov, none⟩ = false ∧ w.frozen? ⟨bv, kA, none⟩ = false

/-- the road 'in place' -/
def InPlace (P : Program) (f es : Nat) (td : TypeId) : Prop := ∀ (w w1 w2 : World) (b bv ov C Cv : Nat), 2 ≤ C → Apart w b bv ov →
  (Builtin.copy_ #[td, td] 3 #[.slice (some ⟨b, es, none⟩) 1 (C - 1), .slice (some ⟨b, 0, none⟩) 2 C]).run P w.drew = .ok (.int .i64 1) w1 →
  (Builtin.copy_ #[td, td] 3 #[.slice (some ⟨b, 0, none⟩) 2 C, .slice (some ⟨bv, ov, none⟩) 1 Cv]).run P w1 = .ok (.int .i64 1) w2 →
  Calls P f #[.slice (some ⟨b, 0, none⟩) 1 C, .int .i64 0, .slice (some ⟨bv, ov, none⟩) 1 Cv] w fun e w' => e = .returned (.slice (some ⟨b, 0, none⟩) 2 C) ∧ w' = w2

theorem ins_clat {pr : Pr} (hp : PrOk P pur pr) {f es byt : Nat} {z : List F} {fo fr : Nat} (hf : pr.fn f = some (gIns es byt z fo fr)) (hb : 2 * byt ≤ maxBytes) (hz : hd8 [z.map D.f] = false) (hes : es ≠ 0)
    {td e : TypeId} (hu : P.underlying td = some (.slice e)) (hn : sizeT P e = some es) (hpl : InPlace P f es td) :
    ∀ args h n q, insX es args h n = some q → ClAt P f args h n q := by
  intro args h n q hq
  unfold insX at hq
  split at hq
  · rename_i q' hq'
    cases hq
    unfold insN at hq'
    split at hq'
    · rename_i k zz vid voff vlen es2 vlim vex
      split at hq'
      · rename_i eb vro vels hv
        split at hq'
        · rename_i y hy
          split at hq'
          · rename_i hc
            obtain ⟨rfl, rfl, rfl, rfl, rfl⟩ := hc
            simp only [Option.some.injEq] at hq'
            subst hq'
            obtain ⟨q, ⟨e1, e2, e3, e4, e5⟩, hcon⟩ := ins_nil (n := n) (vlim := vlim) (vex := vex) hf (by omega) hv hy
            refine (ClAt.of_con hp hcon).same e1.symm (fun i => ?_) e3.symm e4.symm e5.symm
            rw [e2, T.get_set]
          · simp at hq'
        · simp at hq'
      · simp at hq'
    · simp at hq'
  · unfold insQ at hq
    split at hq
    · rename_i id off len es1 lim ex k zz vid voff vlen es2 vlim vex _
      split at hq
      · rename_i ea ro els eb vro vels ho hv
        split at hq
        · rename_i x y hy
          split at hq
          · rename_i hc
            obtain ⟨rfl, rfl, rfl, rfl, rfl, rfl, rfl, rfl, rfl, rfl, hne, hlt, hx8, hv8⟩ := hc
            simp only [Option.some.injEq] at hq
            subst hq
            have hen : Enter P f := by
              obtain ⟨F, h1, h2, h3⟩ := hp.fn f _ hf
              refine ⟨F, h1, ?_, h2⟩
              unfold compFn at h3
              split at h3
              · simp at h3
              · rename_i code hbody
                simp [hbody]
            refine ⟨hen, by simp, by simp, fun amb ρ c w vs hs hfree hargs => ?_⟩
            simp only [RelL] at hargs
            obtain ⟨v0, _, rfl, r0, v1, _, rfl, r1, v2, _, rfl, r2, rfl⟩ := hargs
            have hcn : ¬ c n := hfree n (Nat.le_refl _) (by simp)
            have r0' := r0
            simp only [Rel] at r0'
            obtain ⟨hcid, a, C, rfl, k1, k2, k3, k4⟩ := r0'
            have r2' := r2
            simp only [Rel] at r2'
            obtain ⟨hcv, a2, Cv, rfl, m1, m2, m3, m4⟩ := r2'
            simp only [Rel, RelF] at r1
            subst r1
            obtain ⟨bv, cs, elem, fr', hbv, b1, b2, b3, b4, b5⟩ := hs.row hv
            obtain ⟨ma, e2, n2, ms, mn⟩ := m4 bv hbv
            have hA := ma (by omega)
            subst hA
            have hvl := (List.getElem?_eq_some_iff.1 hy).1
            by_cases hC : 2 ≤ C
            · obtain ⟨b, w1, w2, hb', rfl, c1, c2, hB, ρ', p1, p2, p3⟩ := ins_place (P := P) (ty := 3) (td := td) hs hu hn ho hv hy hne hx8 hcn hC r0 r2
              have hap : Apart w b bv (voff * eb) := by
                refine ⟨fun e => hne (hs.inj id vid b hb' (e ▸ hbv)), ?_⟩
                obtain ⟨b', cs', elem', fr'', hbb, d1, d2, d3, d4, d5⟩ := hs.row ho
                rw [hb'] at hbb
                cases hbb
                have hin : voff * eb < cs.size := by
                  have : (voff + 1) * eb ≤ vels.length * eb := Nat.mul_le_mul_right _ hvl
                  rw [Nat.add_mul, Nat.one_mul] at this
                  omega
                refine ⟨elem, cs.size, elem', cs'.size, ?_, ?_, ?_, ?_, ?_⟩
                · unfold World.shape?; rw [b1]
                · unfold World.shape?; rw [d1]
                · simp at d3; omega
                · unfold World.frozen?
                  simp only [b1]
                  have := b2.1 _ hin
                  simp only [Bool.and_eq_false_iff, decide_eq_false_iff_not]
                  omega
                · unfold World.frozen?
                  simp only [b1]
                  have : ¬ (fr'.1 ≤ cs.size ∧ cs.size < fr'.2) := fun hx => by
                    have := b2.2 hx
                    rw [hv8] at this
                    cases this
                  simp only [Bool.and_eq_false_iff, decide_eq_false_iff_not]
                  omega
              have hg : ((h.del id).set n (Ob.arr eb 0 [y, x])).get = upd (upd h.get id none) n (some (.arr eb 0 [y, x])) := by
                funext i
                simp [T.get_set, T.get_del, upd]
              have hw : ∀ i, (c i ∨ i = n) → UX c n (n + 10) i := fun i hi => hi.elim .inl fun e => .inr ⟨by omega, by omega⟩
              refine (hpl w w1 w2 b bv _ C Cv hC hap c1 c2).mono ?_
              rintro e w' ⟨rfl, rfl⟩
              refine ⟨_, rfl, hB, ρ', ?_, ?_, ?_⟩
              · rw [hg]
                exact Rel.keep ⟨fun _ _ _ h e => ⟨e, h⟩, fun _ _ _ h => h, fun _ _ h => h, hw⟩ _ _ p1
              · rw [hg]
                exact p2.widen hw
              · rw [hg]
                exact (p3.widen hw).mono fun i _ hi => by subst hi; exact ⟨Nat.le_refl _, by simp; omega⟩
            · have hC1 : C = 1 := by omega
              subst hC1
              have r0x : Rel w.heap (MuOf amb h.get ρ) ρ c (.sl id 0 1 eb 1 true) (.slice (some a) 1 1) := by
                simp only [Rel]
                exact ⟨hcid, a, 1, rfl, by omega, by omega, fun _ => by omega, k4⟩
              have hvn : vid ≠ n := fun e => hcn (e ▸ hcv)
              obtain ⟨q, ⟨e1, e2, e3, e4, e5⟩, hcon⟩ := ins_grow (n := n) (vlim := vlim) (vex := vex) hf hb ho hv hy hlt hvn hz
              obtain ⟨_, _, _, h4⟩ := ClAt.of_con hp hcon
              refine (h4 amb ρ c w _ hs (by rw [e5]; exact hfree) (by simp only [RelL]; exact ⟨_, _, rfl, r0x, _, _, rfl, by simp only [Rel, RelF], _, _, rfl, r2, rfl⟩)).mono ?_
              rintro e w' ⟨v, he, hB, ρ', p1, p2, p3⟩
              obtain ⟨s2, v2⟩ := p2.drop id (fun i => i = id) rfl
              have hg : ((h.del id).set n (Ob.arr eb 0 [y, x])).get = upd q.h.get id none := by
                funext i
                have hni : ¬ n = id := by omega
                by_cases hi : i = n
                · subst hi
                  rw [T.get_set, if_pos rfl, upd_ne _ _ _ (by omega), e2, if_pos rfl]
                · rw [T.get_set, if_neg hi, T.get_del]
                  by_cases hi2 : i = id
                  · subst hi2; simp
                  · rw [if_neg hi2, upd_ne _ _ _ hi2, e2, if_neg hi]
              rw [e3] at p1 s2 v2 p3
              rw [e1] at p1
              rw [e4, e5] at p3
              refine ⟨v, he, hB, upd ρ' id none, ?_, ?_, ?_⟩
              · rw [hg]
                exact Rel.keep v2.keep _ _ p1
              · rw [hg]
                exact s2
              · rw [hg]
                exact (p3.mono fun i _ hi => ⟨by simp; omega, hi.2⟩).trans (v2.mono fun i _ hi => by subst hi; exact ⟨Nat.le_refl _, by simp; omega⟩)
          · simp at hq
        · simp at hq
      · simp at hq
    · simp at hq
end
end Go.Vse
end
