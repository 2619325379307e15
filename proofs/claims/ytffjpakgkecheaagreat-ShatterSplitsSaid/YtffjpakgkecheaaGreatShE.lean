/- The rules once more, so that the simplifier looks at what comes first before what hangs on it. -/
import Derived.Test.YtffjpakgkecheaaGreatShD
set_option linter.all false
namespace Go.Vse
def om {α β : Type} (o : Option α) (k : α → Option β) : Option β := o.bind k
@[congr] theorem om_congr {α β : Type} {o o' : Option α} {k : α → Option β} (h : o = o') : om o k = om o' k := by rw [h]
theorem om_some {α β : Type} (a : α) (k : α → Option β) : om (some a) k = k a := rfl
theorem mo_n {α β : Type} (f : α → Option β) : mapO f [] = some [] := rfl
theorem mo_c {α β : Type} (f : α → Option β) (x : α) (l : List α) : mapO f (x :: l) = om (f x) fun y => om (mapO f l) fun m => some (y :: m) := by
 simp only [mapO, om]
 cases f x with
 | none => rfl
 | some y => cases mapO f l <;> rfl
theorem oo_n {α β : Type} (f : α → Option β) : optO f none = some none := rfl
theorem oo_s {α β : Type} (f : α → Option β) (x : α) : optO f (some x) = om (f x) fun y => some (some y) := by
 simp only [optO, om]
 cases f x <;> rfl
theorem fr_n (f : D → Option (F × List Nat)) : mapFr f [] = some ([], []) := rfl
theorem fr_c (f : D → Option (F × List Nat)) (d : D) (l : List D) : mapFr f (d :: l) = om (f d) fun p => om (mapFr f l) fun q => some (p.1 :: q.1, p.2 ++ q.2) := by
 simp only [mapFr, om]
 cases f d with
 | none => rfl
 | some y => cases mapFr f l <;> rfl
theorem frr_n (f : D → Option (F × List Nat)) : mapFrr f [] = some ([], []) := rfl
theorem frr_c (f : D → Option (F × List Nat)) (d : List D) (l : List (List D)) : mapFrr f (d :: l) = om (mapFr f d) fun p => om (mapFrr f l) fun q => some (p.1 :: q.1, p.2 ++ q.2) := by
 simp only [mapFrr, om]
 cases mapFr f d with
 | none => rfl
 | some y => cases mapFrr f l <;> rfl
theorem frr_a [Globs] (f : D → Option (F × List Nat)) (a b : List (List D)) : mapFrr f (a ++ b) = om (mapFrr f a) fun p => om (mapFrr f b) fun q => some (p.1 ++ q.1, p.2 ++ q.2) := by
 rw [frr_app]
 simp only [om]
 cases mapFrr f a with
 | none => rfl
 | some y => cases mapFrr f b <;> rfl
def fzS (h : Nat → Option Ob) (k id off len es : Nat) : Ob → Option (F × List Nat)
 | .arr es' _ els => if es = es' ∧ off + len ≤ els.length then om (mapFrr (frz h k) ((els.drop off).take len)) fun p => some (.sl es p.1, id :: p.2) else none
 | _ => none
theorem fzS_arr {h : Nat → Option Ob} {k id off len es es' ro : Nat} {els : List (List D)} : fzS h k id off len es (.arr es' ro els) = if es = es' ∧ off + len ≤ els.length then om (mapFrr (frz h k) ((els.drop off).take len)) fun p => some (.sl es p.1, id :: p.2) else none := rfl
theorem fz_sl (h : Nat → Option Ob) (k id off len es lim : Nat) (ex : Bool) : frz h (k + 1) (.sl id off len es lim ex) = om (h id) (fzS h k id off len es) := by
 simp only [frz, om]
 cases h id with
 | none => rfl
 | some o =>
  cases o with
  | arr es' ro els =>
   simp only [Option.bind_some, fzS]
   split
   ·cases mapFrr (frz h k) ((els.drop off).take len) <;> rfl
   ·rfl
  | _ => rfl
theorem fz_ag (h : Nat → Option Ob) (k : Nat) (cs : List D) : frz h (k + 1) (.ag cs) = om (mapFr (frz h k) cs) fun p => some (.ag p.1, p.2) := by
 simp only [frz, om]
 cases mapFr (frz h k) cs <;> rfl
theorem fz_tu (h : Nat → Option Ob) (k : Nat) (cs : List D) : frz h (k + 1) (.tu cs) = om (mapFr (frz h k) cs) fun p => some (.tu p.1, p.2) := by
 simp only [frz, om]
 cases mapFr (frz h k) cs <;> rfl
theorem fz_f (h : Nat → Option Ob) (k : Nat) (x : F) : frz h (k + 1) (.f x) = some (x, []) := rfl
theorem f12f (h : Nat → Option Ob) (x : F) : frz h 12 (.f x) = some (x, []) := rfl
theorem f11f (h : Nat → Option Ob) (x : F) : frz h 11 (.f x) = some (x, []) := rfl
theorem f10f (h : Nat → Option Ob) (x : F) : frz h 10 (.f x) = some (x, []) := rfl
theorem f9f (h : Nat → Option Ob) (x : F) : frz h 9 (.f x) = some (x, []) := rfl
theorem f8f (h : Nat → Option Ob) (x : F) : frz h 8 (.f x) = some (x, []) := rfl
theorem f12a (h : Nat → Option Ob) (cs : List D) : frz h 12 (.ag cs) = om (mapFr (frz h 11) cs) fun p => some (.ag p.1, p.2) := fz_ag h 11 cs
theorem f11a (h : Nat → Option Ob) (cs : List D) : frz h 11 (.ag cs) = om (mapFr (frz h 10) cs) fun p => some (.ag p.1, p.2) := fz_ag h 10 cs
theorem f10a (h : Nat → Option Ob) (cs : List D) : frz h 10 (.ag cs) = om (mapFr (frz h 9) cs) fun p => some (.ag p.1, p.2) := fz_ag h 9 cs
theorem f9a (h : Nat → Option Ob) (cs : List D) : frz h 9 (.ag cs) = om (mapFr (frz h 8) cs) fun p => some (.ag p.1, p.2) := fz_ag h 8 cs
theorem f12t (h : Nat → Option Ob) (cs : List D) : frz h 12 (.tu cs) = om (mapFr (frz h 11) cs) fun p => some (.tu p.1, p.2) := fz_tu h 11 cs
theorem f12s (h : Nat → Option Ob) (id off len es lim : Nat) (ex : Bool) : frz h 12 (.sl id off len es lim ex) = om (h id) (fzS h 11 id off len es) := fz_sl ..
theorem f11s (h : Nat → Option Ob) (id off len es lim : Nat) (ex : Bool) : frz h 11 (.sl id off len es lim ex) = om (h id) (fzS h 10 id off len es) := fz_sl ..
theorem f10s (h : Nat → Option Ob) (id off len es lim : Nat) (ex : Bool) : frz h 10 (.sl id off len es lim ex) = om (h id) (fzS h 9 id off len es) := fz_sl ..
theorem f9s (h : Nat → Option Ob) (id off len es lim : Nat) (ex : Bool) : frz h 9 (.sl id off len es lim ex) = om (h id) (fzS h 8 id off len es) := fz_sl ..
def ldO (g : Bool) (n id es i j : Nat) : Ob → Option (D × List Nat)
 | .arr es' _ els => if es = es' then om els[i]? fun el => om (partD g j n el) fun d => some (d, [id]) else none
 | _ => none
theorem ldO_arr {g : Bool} {n id es i j es' ro : Nat} {els : List (List D)} : ldO g n id es i j (.arr es' ro els) = if es = es' then om els[i]? fun el => om (partD g j n el) fun d => some (d, [id]) else none := rfl
theorem ld_p {g : Bool} {n : Nat} {h : Nat → Option Ob} {id es i j : Nat} : loadB g n h (.ptr id es i j) = om (h id) (ldO g n id es i j) := by
 simp only [loadB, om]
 cases h id with
 | none => rfl
 | some o =>
  cases o with
  | arr es' ro els =>
   simp only [Option.bind_some, ldO]
   split
   ·simp only [om]
    cases els[i]? with
    | none => rfl
    | some el => simp only [Option.bind_some]; cases partD g j n el <;> rfl
   ·rfl
  | _ => rfl
theorem ld_fp {g : Bool} {n : Nat} {h : Nat → Option Ob} {cs : List F} : loadB g n h (.fptr cs) = om (partF g n cs) fun d => some (d, []) := by
 simp only [loadB, om]
 cases partF g n cs <;> rfl
theorem pF_t {n : Nat} {cs : List F} : partF true n cs = if n ≤ cs.length then some (.ag ((cs.take n).map D.f)) else none := rfl
theorem pF_f {n : Nat} {cs : List F} : partF false n cs = om cs[0]? fun x => some (.f x) := by
 simp only [partF, om]
 cases cs[0]? <;> rfl
theorem pD_t {o n : Nat} {cs : List D} : partD true o n cs = if o + n ≤ cs.length then some (.ag ((cs.drop o).take n)) else none := rfl
theorem pD_f {o n : Nat} {cs : List D} : partD false o n cs = cs[o]? := rfl
def stO (n id es i j : Nat) (v : D) : Ob → Option (Nat × Ob)
 | .arr es' ro els => if es = es' ∧ ro ≤ i then om els[i]? fun el => om v.cells fun cs => if cs.length = n then om (over el j cs) fun el' => if okHd els (els.set i el') = true then some (id, .arr es ro (els.set i el')) else none else none else none
 | _ => none
theorem stO_arr {n id es i j es' ro : Nat} {v : D} {els : List (List D)} : stO n id es i j v (.arr es' ro els) = if es = es' ∧ ro ≤ i then om els[i]? fun el => om v.cells fun cs => if cs.length = n then om (over el j cs) fun el' => if okHd els (els.set i el') = true then some (id, .arr es ro (els.set i el')) else none else none else none := rfl
theorem st_p {n : Nat} {h : Nat → Option Ob} {id es i j : Nat} {v : D} : storeB n h (.ptr id es i j) v = om (h id) (stO n id es i j v) := by
 simp only [storeB, om]
 cases h id with
 | none => rfl
 | some o =>
  cases o with
  | arr es' ro els =>
   simp only [Option.bind_some, stO]
   split
   ·simp only [om]
    cases els[i]? with
    | none => rfl
    | some el =>
     simp only [Option.bind_some]
     cases v.cells with
     | none => rfl
     | some cs =>
      simp only [Option.bind_some]
      split
      ·cases over el j cs with
       | none => rfl
       | some el' => rfl
      ·rfl
   ·rfl
  | _ => rfl
theorem okHd_ag (x y : List (List D)) : okHd x y = (!hd8 x || hd8 y) := rfl
theorem h8_i (n : Int) (l : List (List D)) : hd8 ([.f (.i .u8 n)] :: l) = true := rfl
theorem h8_nil : hd8 [] = false := rfl
theorem h8_2 (a b : D) (c : List D) (l : List (List D)) : hd8 ((a :: b :: c) :: l) = false := by
 unfold hd8
 split
 ·rename_i h; simp at h
 ·rfl
theorem h8_i64 (n : Int) (l : List (List D)) : hd8 ([.f (.i .i64 n)] :: l) = false := rfl
theorem h8_b (n : Bool) (l : List (List D)) : hd8 ([.f (.b n)] :: l) = false := rfl
theorem h8_s (n : List UInt8) (l : List (List D)) : hd8 ([.f (.s n)] :: l) = false := rfl
theorem h8_nils (l : List (List D)) : hd8 ([.f .nils] :: l) = false := rfl
theorem h8_fsl (e : Nat) (x : List (List F)) (l : List (List D)) : hd8 ([.f (.sl e x)] :: l) = false := rfl
theorem h8_sl (a b c d e : Nat) (x : Bool) (l : List (List D)) : hd8 ([.sl a b c d e x] :: l) = false := rfl
theorem h8_ptr (a b c d : Nat) (l : List (List D)) : hd8 ([.ptr a b c d] :: l) = false := rfl
theorem ce_ag (cs : List D) : (D.ag cs).cells = some cs := rfl
theorem ce_i (k : IntKind) (n : Int) : (D.f (.i k n)).cells = some [.f (.i k n)] := rfl
theorem ce_b (b : Bool) : (D.f (.b b)).cells = some [.f (.b b)] := rfl
theorem ce_s (l : List UInt8) : (D.f (.s l)).cells = some [.f (.s l)] := rfl
theorem ce_nils : (D.f .nils).cells = some [.f .nils] := rfl
theorem ce_fsl (e : Nat) (l : List (List F)) : (D.f (.sl e l)).cells = some [.f (.sl e l)] := rfl
theorem ce_slc (e : Nat) (l : List (List F)) : (D.f (slc e l)).cells = some [.f (slc e l)] := by cases l <;> rfl
theorem ce_sl (a b c d e : Nat) (x : Bool) : (D.sl a b c d e x).cells = some [.sl a b c d e x] := rfl
theorem ce_ptr (a b c d : Nat) : (D.ptr a b c d).cells = some [.ptr a b c d] := rfl
theorem ce_fptr (x : List F) : (D.fptr x).cells = some [.fptr x] := rfl
theorem d_ag (cs : List F) : (F.ag cs).d = .ag (F.dL cs) := rfl
theorem d_tu (cs : List F) : (F.tu cs).d = .tu (F.dL cs) := rfl
theorem d_i (k : IntKind) (n : Int) : (F.i k n).d = .f (.i k n) := rfl
theorem d_b (b : Bool) : (F.b b).d = .f (.b b) := rfl
theorem d_s (l : List UInt8) : (F.s l).d = .f (.s l) := rfl
theorem d_nils : (F.nils).d = .f .nils := rfl
theorem d_un : (F.un).d = .f .un := rfl
theorem d_sl (e : Nat) (l : List (List F)) : (F.sl e l).d = .f (.sl e l) := rfl
theorem dl_n : F.dL [] = [] := rfl
theorem dl_c (x : F) (l : List F) : F.dL (x :: l) = x.d :: F.dL l := rfl
theorem ti_i (k : IntKind) (n : Int) : toIdx (.f (.i k n)) = if 0 ≤ n then some n.toNat else none := rfl
theorem fa_p (o id es i j : Nat) : faB o (.ptr id es i j) = some (.ptr id es i (j + o)) := rfl
theorem fa_f (o : Nat) (cs : List F) : faB o (.fptr cs) = some (.fptr (cs.drop o)) := rfl
theorem ov (cs : List D) (o : Nat) (new : List D) : over cs o new = if o + new.length ≤ cs.length then some (cs.take o ++ new ++ cs.drop (o + new.length)) else none := rfl
theorem fb_n (cs : List D) : fillB cs [] = some cs := rfl
theorem fb_c (cs : List D) (o n : Nat) (d : D) (l : List (Nat × Nat × D)) : fillB cs ((o, n, d) :: l) = om d.cells fun x => if x.length = n then om (over cs o x) fun y => fillB y l else none := by
 simp only [fillB, om]
 cases d.cells with
 | none => rfl
 | some x =>
  simp only [Option.bind_some]
  split
  ·cases over cs o x <;> rfl
  ·rfl
theorem fe_n (es : Nat) (els : List (List D)) : fillE es els [] = some els := rfl
theorem fe_c (es : Nat) (els : List (List D)) (i : Nat) (d : D) (l : List (Nat × D)) : fillE es els ((i, d) :: l) = om d.cells fun cs => if cs.length = es ∧ i < els.length then fillE es (els.set i cs) l else none := by
 simp only [fillE, om]
 cases d.cells with
 | none => rfl
 | some x => rfl
theorem wt_n (h : T Ob) : wrT h [] = h := rfl
theorem wt_s (h : T Ob) (id : Nat) (ob : Ob) (l : List (Nat × Option Ob)) : wrT h ((id, some ob) :: l) = wrT (h.set id ob) l := rfl
theorem wt_d (h : T Ob) (id : Nat) (l : List (Nat × Option Ob)) : wrT h ((id, none) :: l) = wrT (h.del id) l := rfl
theorem wo_n (c : Nat) : wrOk c [] = true := rfl
theorem wo_c (c id : Nat) (o : Option Ob) (l : List (Nat × Option Ob)) : wrOk c ((id, o) :: l) = (Nat.blt id c && wrOk c l) := rfl
def roO (h : Nat → Option Ob) (id : Nat) (l : List Nat) : Option Ob → List (Nat × Option Ob)
 | some (.arr es ro els) => if els.length ≤ ro then roMarks h l else (id, some (.arr es els.length els)) :: roMarks h l
 | _ => roMarks h l
theorem ro_n (h : Nat → Option Ob) : roMarks h [] = [] := rfl
theorem ro_c (h : Nat → Option Ob) (id : Nat) (l : List Nat) : roMarks h (id :: l) = roO h id l (h id) := by
 simp only [roMarks, roO]
 cases h id with
 | none => rfl
 | some o => cases o <;> rfl
theorem ro_arr (h : Nat → Option Ob) (id : Nat) (l : List Nat) (es ro : Nat) (els : List (List D)) : roO h id l (some (.arr es ro els)) = if els.length ≤ ro then roMarks h l else (id, some (.arr es els.length els)) :: roMarks h l := rfl
structure WD [Globs] (pr : Pr) (ops : List (Op × Nat)) (s : St) (Q : Ex → St → Prop) : Prop where
 out : wpC pr (.dreg ops) s Q
theorem k_dreg [Globs] {pr : Pr} {ops : List (Op × Nat)} {s : St} {Q : Ex → St → Prop} : wpC pr (.dreg ops) s Q = WD pr ops s Q := propext ⟨fun h => ⟨h⟩, fun h => h.out⟩
theorem dreg_i [Globs] {pr : Pr} {ops : List (Op × Nat)} {s : St} {Q : Ex → St → Prop} (h : wpE pr [] ops s (Q .nrm)) : WD pr ops s Q := ⟨c_dreg h⟩
theorem v_ext (h : Nat → Option Ob) (c : Nat) (cs : List D) (i : Nat) : opv h c (.ext (.tu cs) i) = om cs[i]? fun d => some { d, c } := by
 simp only [opv, om, okD]
 cases cs[i]? <;> rfl
theorem v_not (h : Nat → Option Ob) (c : Nat) (b : Bool) : opv h c (.un .not (.f (.b b))) = some { d := .f (.b !b), c } := rfl
theorem v_eqa (h : Nat → Option Ob) (c : Nat) (ks : List Nat) (ne : Bool) (a b : List D) : opv h c (.eqa ks ne (.ag a) (.ag b)) = om (eqCells ks a b) fun t => some { d := .f (.b (if ne then !t else t)), c } := by
 simp only [opv, om, okF]
 cases eqCells ks a b <;> rfl
theorem v_cvi (h : Nat → Option Ob) (c : Nat) (k k' : IntKind) (n : Int) : opv h c (.cvi k (.f (.i k' n))) = some { d := .f (.i k (k.wrap n)), c } := rfl
theorem v_slc (h : Nat → Option Ob) (c es : Nat) (x : D) (lo hi mx : Option D) : opv h c (.slc es x lo hi mx) = om (sliceB es h x lo hi mx) fun p => some { d := p.1, rd := p.2, c } := by
 simp only [opv, om]
 cases sliceB es h x lo hi mx <;> rfl
theorem v_app (h : Nat → Option Ob) (c es byt : Nat) (s x : D) : opv h c (.app es byt s x) = om (elemsOf es h x) fun p => appendB es byt h c s p.1 p.2 := by
 simp only [opv, om]
 cases elemsOf es h x <;> rfl
theorem v_bsl (h : Nat → Option Ob) (c es m : Nat) (z : List F) (ps : List (Nat × D)) : opv h c (.bsl es z m ps) = om (fillE es (List.replicate m (z.map D.f)) ps) fun els => some { d := .sl c 0 m es m true, wr := [(c, some (.arr es 0 els))], c := c + 1 } := by
 simp only [opv, om]
 cases fillE es (List.replicate m (z.map D.f)) ps <;> rfl
def bsfR (c es m : Nat) (els : List (List D)) : Option (List (List F)) → Option Rs
 | some fs => some { d := .f (.sl es fs), c }
 | none => some { d := .sl c 0 m es m true, wr := [(c, some (.arr es 0 els))], c := c + 1 }
theorem bsfR_s (c es m : Nat) (els : List (List D)) (fs : List (List F)) : bsfR c es m els (some fs) = some { d := .f (.sl es fs), c } := rfl
theorem bsfR_n (c es m : Nat) (els : List (List D)) : bsfR c es m els none = some { d := .sl c 0 m es m true, wr := [(c, some (.arr es 0 els))], c := c + 1 } := rfl
theorem v_bsf (h : Nat → Option Ob) (c es m : Nat) (z : List F) (ps : List (Nat × D)) : opv h c (.bsf es z m ps) = om (fillE es (List.replicate m (z.map D.f)) ps) fun els => bsfR c es m els (fzRows els) := by
 simp only [opv, om, okF]
 cases fillE es (List.replicate m (z.map D.f)) ps with
 | none => rfl
 | some els => simp only [Option.bind_some]; cases fzRows els <;> rfl
theorem fc_n : fzCells [] = some [] := rfl
theorem fc_f (x : F) (l : List D) : fzCells (.f x :: l) = om (fzCells l) fun m => some (x :: m) := by
 simp only [fzCells, om]
 cases fzCells l <;> rfl
theorem fc_sl (a b c d e : Nat) (x : Bool) (l : List D) : fzCells (.sl a b c d e x :: l) = none := rfl
theorem fw_n : fzRows [] = some [] := rfl
theorem fw_c (x : List D) (l : List (List D)) : fzRows (x :: l) = om (fzCells x) fun y => om (fzRows l) fun m => some (y :: m) := by
 simp only [fzRows, om]
 cases fzCells x with
 | none => rfl
 | some y => cases fzRows l <;> rfl
def elO (es id off len es' : Nat) : Ob → Option (List (List D) × List Nat)
 | .arr es'' _ els => if es = es' ∧ es' = es'' ∧ off + len ≤ els.length then some ((els.drop off).take len, [id]) else none
 | _ => none
theorem elO_arr {es id off len es' es'' ro : Nat} {els : List (List D)} : elO es id off len es' (.arr es'' ro els) = if es = es' ∧ es' = es'' ∧ off + len ≤ els.length then some ((els.drop off).take len, [id]) else none := rfl
theorem el_sl {es id off len es' lim : Nat} {ex : Bool} {h : Nat → Option Ob} : elemsOf es h (.sl id off len es' lim ex) = om (h id) (elO es id off len es') := by
 simp only [elemsOf, om]
 cases h id with
 | none => rfl
 | some o => cases o <;> rfl
theorem el_slc {es es' : Nat} {h : Nat → Option Ob} {l : List (List F)} (he : es = es') : elemsOf es h (.f (slc es' l)) = some (l.map (·.map D.f), []) := by
 subst he
 cases l with
 | nil => rfl
 | cons x l => simp [slc, elemsOf]
def apO (es byt c id off len es' lim : Nat) (ex : Bool) (new : List (List D)) (rd : List Nat) : Ob → Option Rs
  | .arr es'' ro els => if es = es' ∧ es' = es'' ∧ off + len ≤ els.length then
        if off + len + new.length ≤ lim then
          if off + len + new.length ≤ els.length ∧ ro ≤ off + len ∧ okHd els (els.take (off + len) ++ new ++ els.drop (off + len + new.length)) = true then
            some { d := .sl id off (len + new.length) es lim ex, rd := id :: rd,
                   wr := [(id, some (.arr es ro (els.take (off + len) ++ new ++ els.drop (off + len + new.length))))], c }
          else none
        else if len + new.length ≤ maxBytes ∧ (len + new.length) * byt ≤ maxBytes then
          if ex = true then
            some { d := .sl c 0 (len + new.length) es (len + new.length) false, rd := id :: rd,
                   wr := [(c, some (.arr es 0 ((els.drop off).take len ++ new)))], c := c + 1 }
          else if off = 0 ∧ len = els.length ∧ ro ≤ len then
            some { d := .sl c 0 (off + len + new.length) es (off + len + new.length) false, rd := id :: rd, wr := [(id, none), (c, some (.arr es ro (els ++ new)))], c := c + 1 }
          else if off = 0 ∧ ro ≤ len ∧ els.length ≤ off + len + new.length ∧ okHd els (els.take len ++ new) = true then
            some { d := .sl c 0 (off + len + new.length) es (off + len + new.length) false, rd := id :: rd, wr := [(id, none), (c, some (.arr es ro (els.take len ++ new)))], c := c + 1 }
          else none
        else none
      else none
  | _ => none
theorem ap_nils {es byt c : Nat} {h : Nat → Option Ob} {new : List (List D)} {rd : List Nat} : appendB es byt h c (.f .nils) new rd = if new.length = 0 then some { d := .f .nils, rd, c } else
  if new.length ≤ maxBytes ∧ new.length * byt ≤ maxBytes then some { d := .sl c 0 new.length es new.length false, rd, wr := [(c, some (.arr es 0 new))], c := c + 1 } else none := rfl
theorem ap_sl [Globs] {es byt c id off len es' lim : Nat} {ex : Bool} {h : Nat → Option Ob} {new : List (List D)} {rd : List Nat} : appendB es byt h c (.sl id off len es' lim ex) new rd =
  if new.length = 0 then some { d := .sl id off len es' lim ex, rd, c } else om (h id) (apO es byt c id off len es' lim ex new rd) := by
 rw [appB_sl]
 split
 ·rfl
 ·simp only [om]
  cases h id with
  | none => rfl
  | some o => cases o <;> rfl
theorem rd_1 (s : St) (v : Rv) : resD s [v] = resV s v := by
 simp only [resD, mapO]
 cases resV s v <;> rfl
theorem rd_2 (s : St) (v w : Rv) : resD s [v, w] = om (resV s v) fun x => om (resV s w) fun y => some (.tu [x, y]) := by
 simp only [resD, mapO, om]
 cases resV s v with
 | none => rfl
 | some x => cases resV s w <;> rfl
theorem rv_t (s : St) (n : Nat) : resV s (.t n) = s.tm.get n := rfl
theorem rv_c (s : St) (n sz : Nat) (g : Bool) : resV s (.cell n g sz) = om (s.tm.get n) fun p => om (loadB g sz s.h.get p) fun y => some y.1 := by
 simp only [resV, om]
 cases s.tm.get n with
 | none => rfl
 | some p => simp only [Option.bind_some]; cases loadB g sz s.h.get p <;> rfl
theorem endP_r {res : List Rv} {y : F} {s : St} : endP res y .ret s ↔ oB (resD s res) fun d => oB (frz s.h.get 12 d) fun p => p.1 = y := by
 simp only [endP, true_and, oB]
 cases resD s res with
 | none => simp
 | some d =>
  simp only [Option.some.injEq, exists_eq_left']
  cases frz s.h.get 12 d with
  | none => simp
  | some p => obtain ⟨a, b⟩ := p; simp
theorem endP_n {res : List Rv} {y : F} {s : St} : endP res y .nrm s ↔ oB (resD s res) fun d => oB (frz s.h.get 12 d) fun p => p.1 = y := by
 rw [← endP_r]; rfl
end Go.Vse
