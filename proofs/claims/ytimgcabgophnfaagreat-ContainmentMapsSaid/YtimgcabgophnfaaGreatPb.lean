/- A term put into an ascending list of terms. -/
import Derived.Test.YtimgcabgophnfaaGreatPa
import Derived.KernelRfl
import Derived.IntWalk
import Derived.Test.YtimgcabgophnfaaGreatAll
import Derived.Test.YtimgcabgophnfaaGreatHb
set_option linter.all false
noncomputable section
section
namespace Go.Proofs.YtimgcabgophnfaaGreat
open Go Go.Vse Go.Vse.Sm
set_option maxRecDepth 100000
set_option maxHeartbeats 1000000
set_option linter.all false
def zcf : List Trm → Trm → List Trm
 | [],t => [t]
 | a :: l,t => if zaK a t < 0 then a :: zcf l t else if za0 a t = true then a :: l else t :: a :: l
theorem zr1 : ∀ (l : List Trm) (t : Trm),(∀ a ∈ l,(!decide (zaK a t < 0)) = false) → zcf l t = l ++ [t]
 | [],_,_ => rfl
 | a :: l,t,h => by
  have h1 : zaK a t < 0 := by simpa using h a (by simp)
  simp only [zcf,h1,if_true,List.cons_append];rw [zr1 l t fun b hb => h b (by simp [hb])]
theorem ztp : ∀ (l : List Trm) (t : Trm) (n : Nat) (h : n < l.length),(!decide (zaK l[n] t < 0)) = true → (∀ m (h' : m < n),(!decide (zaK (l[m]'(by omega)) t < 0)) = false) → zcf l t = if za0 l[n] t = true then l else l.take n ++ t :: l.drop n
 | [],_,_,h,_,_ => by simp at h
 | a :: l,t,0,_,h1,_ => by
  have h1 : ¬ zaK a t < 0 := by simpa using h1
  simp [zcf,h1]
 | a :: l,t,n + 1,h,h1,h2 => by
  have h0 : zaK a t < 0 := by simpa using h2 0 (by omega)
  simp only [zcf,h0,if_true];rw [ztp l t n (by simpa using h) (by simpa using h1) fun m hm => by simpa using h2 (m + 1) (by omega)];simp only [List.getElem_cons_succ];split
  ·rfl
  ·rfl
theorem zEc (l : List Trm) (n : Nat) (h : n ≤ l.length) : ∃ x : F,x.d = .f x ∧ (∀ h : Nat → Option Ob,sliceB 4 h (.f (zaW l)) none (some (.f (.i .i64 n))) none = some (.f x,[])) ∧ ∀ h : Nat → Option Ob,elemsOf 4 h (.f x) = some (zaw (l.take n),[]) := by
 obtain ⟨x,h1,_,h3,_,h5⟩ := zrO (es := 4) (l.map tmF) 0 n (by omega) (by simpa using h);refine ⟨x,h1,h3 rfl,fun h => ?_⟩;rw [h5 h];simp [zaw,List.map_take]
theorem zEz (l : List Trm) (n : Nat) (h : n ≤ l.length) : ∃ x : F,x.d = .f x ∧ (∀ h : Nat → Option Ob,sliceB 4 h (.f (zaW l)) (some (.f (.i .i64 n))) none none = some (.f x,[])) ∧ ∀ h : Nat → Option Ob,elemsOf 4 h (.f x) = some (zaw (l.drop n),[]) := by
 obtain ⟨x,h1,_,_,h4,h5⟩ := zrO (es := 4) (l.map tmF) n l.length h (by simp);refine ⟨x,h1,h4 (by simp),fun h => ?_⟩;rw [h5 h];have : ((l.map tmF).drop n).take (l.length - n) = (l.drop n).map tmF := by
  rw [← List.map_drop,List.take_of_length_le (by simp)]
 rw [this]; rfl
def i75 : C := oZ [oR 40 (.bsl 4 [.s [],.i .i64 0,.i .i64 0,.s []] 0 []),oM 41 0,oM 42 5,oR 43 (.slc 4 (.t 41) none (some (.t 42)) none),oR 44 (.app 4 48 (.t 40) (.t 43)),oM 6 44]
 (.seq (.dreg [(oM 45 6,0),(oL 46 4 3,1),(oM 49 0,3),(oM 50 5,7),(oR 51 (.slc 4 (.t 49) (some (.t 50)) none none),3),(oR 47 (.bsf 4 [.s [],.i .i64 0,.i .i64 0,.s []] 1 [(0,(.t 46))]),29),(oR 48 (.app 4 48 (.t 45) (.t 47)),28),(oR 52 (.app 4 48 (.t 48) (.t 51)),0),(oM 4 52,0)])
 .ret)
theorem zsH {l : List Trm} (h : l ≠ []) : zaw l ≠ [] := by
 intro e;have := zaR l;rw [e] at this;exact h (List.length_eq_zero_iff.1 this.symm)
theorem zh0 (l m : List Trm) : zaw l ++ zaw m = zaw (l ++ m) := by simp [zaw]
theorem zF0 (l : List Trm) (t : Trm) (hn : l.length < 1000) (n : Nat) (hnl : n ≤ l.length) (S : St) (hS : S.tm.get 0 = some (.f (zaW l)) ∧ S.tm.get 3 = some (.ptr 0 4 0 0) ∧ S.tm.get 5 = some (.f (.i .i64 n)) ∧ S.h.get 0 = some (.arr 4 0 [F.dL (tmF t)]) ∧ 1 ≤ S.c) :
  wpC pr i75 S (zjw [.t 4] (zaW (l.take n ++ t :: l.drop n))) := by
 obtain ⟨h0,h3,h5,g0,hc⟩ := hS;have c0 : (0 : Nat) ≠ S.c := by omega
 obtain ⟨x,hx1,hx2,hx3⟩ := zEc l n hnl;obtain ⟨z,hz1,hz2,hz3⟩ := zEz l n hnl;have hP : (l.take n).length ≤ 1000 := by simp; omega
 have hQ : (l.drop n).length ≤ 1000 := by simp; omega
 generalize l.take n = P at hx3 hP ⊢;generalize l.drop n = Q at hz3 hQ ⊢;unfold i75;dsimp only [oR,oM,oN,oG,oH,oF,oL,oK,oI,oS,oZ,oD];have m1 : (1 ≤ zak) = True := zaV (by omega);have m48 : (48 ≤ zak) = True := zaV (by omega)
 by_cases hPe : P = []
 ·subst hPe;have hx3' : ∀ h,elemsOf 4 h (.f x) = some ([],[]) := hx3
  by_cases hQe : Q = []
  ·subst hQe;have hz3' : ∀ h,elemsOf 4 h (.f z) = some ([],[]) := hz3
   simp -implicitDefEqProofs [rR,h0,h3,h5,g0,hx1,hx2,hx3',hz1,hz2,hz3',m1,m48];refine zaC ?_;simp -implicitDefEqProofs [rR,h0,h3,h5,g0,hx1,hx2,hx3',hz1,hz2,hz3',m1,m48,tmE,c0];rw [← tmE]; rfl
  ·have hne := zsH hQe;have e : ([D.f (.s (tv t)),D.f (.i .i64 (tk t)),D.f (.i .i64 (tn t)),D.f (.s [])] :: zaw Q) = zaw (t :: Q) := by simp [zaw,tmE]
   have hz : ∀ h,zaT (frz h 11) (zaw (t :: Q)) = some ((t :: Q).map tmF,[]) := fun h => zgJ h 10 _
   have hs := zlI (l := t :: Q) (by simp);have hl1 : (zaw (t :: Q)).length = 1 + Q.length := by rw [zaR,List.length_cons]; omega
   have htk : (zaw (t :: Q)).take (1 + Q.length) = zaw (t :: Q) := by rw [← hl1,List.take_length]
   generalize t :: Q = M at e hz hs hl1 htk ⊢;simp -implicitDefEqProofs [rR,h0,h3,h5,g0,hx1,hx2,hx3',hz1,hz2,hz3,m1,m48,tmE,c0,hne,e,zaR,hQe,hz,hs,(zaV (by omega) : (1 + Q.length ≤ zak) = True),(zaV (by omega) : ((1 + Q.length) * 48 ≤ zak) = True)];refine zaC ?_;simp -implicitDefEqProofs [rR,h0,h3,h5,g0,hx1,hx2,hx3',hz1,hz2,hz3,m1,m48,tmE,c0,hne,e,zaR,hQe,hz,hs,(zaV (by omega) : (1 + Q.length ≤ zak) = True),(zaV (by omega) : ((1 + Q.length) * 48 ≤ zak) = True),hl1,htk,(leF (by have := List.length_pos_iff.2 hQe; omega) : (1 + Q.length ≤ 1) = False)]
 ·have hne := zsH hPe;have e1 : zaw P ++ [[D.f (.s (tv t)),D.f (.i .i64 (tk t)),D.f (.i .i64 (tn t)),D.f (.s [])]] = zaw (P ++ [t]) := by rw [znk,tmE]; rfl
  have hl1 : (P ++ [t]).length = P.length + 1 := by simp
  by_cases hQe : Q = []
  ·subst hQe;have hz3' : ∀ h,elemsOf 4 h (.f z) = some ([],[]) := hz3
   have hs := zlI (l := P ++ [t]) (by simp);generalize P ++ [t] = M at e1 hl1 hs ⊢;have hz : ∀ h,zaT (frz h 11) (zaw M) = some (M.map tmF,[]) := fun h => zgJ h 10 _
   have htk : (zaw M).take (P.length + 1) = zaw M := by rw [← hl1,← zaR M,List.take_length]
   simp -implicitDefEqProofs [rR,h0,h3,h5,g0,hx1,hx2,hx3,hz1,hz2,hz3',m1,m48,c0,hne,zaR,hPe,(zaV (by omega) : (P.length ≤ zak) = True),(zaV (by omega) : (P.length * 48 ≤ zak) = True)];refine zaC ?_;simp -implicitDefEqProofs [rR,h0,h3,h5,g0,hx1,hx2,hx3,hz1,hz2,hz3',m1,m48,tmE,c0,hne,e1,zaR,hPe,hz,hs,hl1,htk,(zaV (by omega) : (P.length + 1 ≤ zak) = True),(zaV (by omega) : ((P.length + 1) * 48 ≤ zak) = True),(leF (by omega) : (P.length + 1 ≤ P.length) = False)]
  ·have hneQ := zsH hQe;have hq0 := List.length_pos_iff.2 hQe;have hR : P ++ t :: Q = (P ++ [t]) ++ Q := by simp
   have hs := zlI (l := P ++ t :: Q) (by simp);have e2 : zaw (P ++ [t]) ++ zaw Q = zaw (P ++ t :: Q) := by rw [zh0,hR]
   have hl2 : (P ++ t :: Q).length = P.length + 1 + Q.length := by simp; omega
   generalize P ++ t :: Q = R at e2 hl2 hs ⊢;generalize P ++ [t] = M at e1 e2 hl1;have hz : ∀ h,zaT (frz h 11) (zaw R) = some (R.map tmF,[]) := fun h => zgJ h 10 _
   have htk : (zaw R).take (P.length + 1 + Q.length) = zaw R := by rw [← hl2,← zaR R,List.take_length]
   simp -implicitDefEqProofs [rR,h0,h3,h5,g0,hx1,hx2,hx3,hz1,hz2,hz3,m1,m48,c0,hne,zaR,hPe,(zaV (by omega) : (P.length ≤ zak) = True),(zaV (by omega) : (P.length * 48 ≤ zak) = True)];refine zaC ?_;simp -implicitDefEqProofs [rR,h0,h3,h5,g0,hx1,hx2,hx3,hz1,hz2,hz3,m1,m48,tmE,c0,hne,hneQ,hQe,e1,e2,zaR,hPe,hz,hs,hl1,hl2,htk,(zaV (by omega) : (P.length + 1 ≤ zak) = True),(zaV (by omega) : ((P.length + 1) * 48 ≤ zak) = True),(leF (by omega) : (P.length + 1 ≤ P.length) = False),(leF (by omega) : (P.length + 1 + Q.length ≤ P.length + 1) = False),(zaV (by omega) : (P.length + 1 + Q.length ≤ zak) = True),(zaV (by omega) : ((P.length + 1 + Q.length) * 48 ≤ zak) = True)]
def lo75 : C := .seq (.seq (.dreg [(oM 12 5,0),(oM 13 0,1),(oR 14 (.len (.t 13)),1),(oR 15 (.bin .lss (.t 12) (.t 14)),0),(oM 16 15,0),(oG 17 16 (.mv (.t 0)),0),(oG 18 16 (.mv (.t 5)),32),(oG 19 16 (.ia 4 (.t 17) (.t 18)),0),(oG 20 16 (.ld true 4 (.t 19)),0),(oG 21 16 (.ld true 4 (.t 3)),480),(oG 22 16 (.callp 103 [(.t 20),(.t 21)]),0),(oG 23 16 (.bin .lss (.t 22) (.k (.i .i64 0))),0),(oR 24 (.pick (.t 16) (.t 23) (.k (.b false))),0)])
 (.cond (.t 24) .skip (.exit 0)))
 (.blk 1 (.reg [oM 25 5,oR 26 (.bin .add (.t 25) (.k (.i .i64 1))),oM 5 26]))
def t75 : C := .seq (.seq (.dreg [(oM 27 5,0),(oM 28 0,1),(oR 29 (.len (.t 28)),1),(oR 30 (.bin .lss (.t 27) (.t 29)),0),(oM 31 30,0),(oG 32 31 (.mv (.t 0)),0),(oG 33 31 (.mv (.t 5)),32),(oG 34 31 (.ia 4 (.t 32) (.t 33)),0),(oG 35 31 (.ld true 4 (.t 34)),0),(oG 36 31 (.ld true 4 (.t 3)),480),(oG 37 31 (.callp 104 [(.t 35),(.t 36)]),0),(oR 38 (.pick (.t 31) (.t 37) (.k (.b false))),0)])
 (.cond (.t 38) (oZ [oM 39 0,oM 4 39]
 .ret) .skip))
 i75
theorem zNv (l : List Trm) (t : Trm) (hl : ∀ a ∈ l,zau a) (ht : zau t) (hn : l.length < 1000) (n : Nat) (hnl : n ≤ l.length) (S : St) (hS : S.tm.get 0 = some (.f (zaW l)) ∧ S.tm.get 3 = some (.ptr 0 4 0 0) ∧ S.tm.get 5 = some (.f (.i .i64 n)) ∧ S.h.get 0 = some (.arr 4 0 [F.dL (tmF t)]) ∧ 1 ≤ S.c) :
    wpC pr t75 S (zjw [.t 4] (zaW (if (l[n]?.any (za0 · t)) = true then l else l.take n ++ t :: l.drop n))) := by
  obtain ⟨h0,h3,h5,g0,hc⟩ := hS;have c0 : (0 : Nat) ≠ S.c := by omega
  unfold t75;dsimp only [oR,oM,oN,oG,oH,oF,oL,oK,oI,oS,oZ,oD]
  by_cases hlt : n < l.length
  · have q := fun k => zav (k := k) (zi3 l[n] t (hl _ (List.getElem_mem hlt)) ht)
    simp only [tmE] at q;rw [List.getElem?_eq_getElem hlt,Option.any_some];generalize za0 l[n] t = b at q ⊢;cases b with
    | true =>
      simp -implicitDefEqProofs [rR,h0,h3,h5,g0];refine zaC ?_;simp -implicitDefEqProofs [rR,h0,h3,h5,g0,zaM,zbk,hlt,tmE,q,zaO]
    | false =>
      simp -implicitDefEqProofs [rR,h0,h3,h5,g0];refine zaC ?_;simp -implicitDefEqProofs [rR,h0,h3,h5,g0,zaM,zbk,hlt,tmE,q,zaO];refine zF0 l t hn n hnl _ ?_;simp -implicitDefEqProofs [rR,h0,h3,h5,g0]
  · rw [List.getElem?_eq_none (by omega)];simp -implicitDefEqProofs [rR,h0,h3,h5,g0];refine zaC ?_;simp -implicitDefEqProofs [rR,h0,h3,h5,g0,zaM,zbk,hlt,tmE,zaO];refine zF0 l t hn n hnl _ ?_;simp -implicitDefEqProofs [rR,h0,h3,h5,g0]
theorem zy2 (l : List Trm) (t : Trm) (hl : ∀ a ∈ l,zau a) (ht : zau t) (hn : l.length < 1000) : Ans pr 75 [zaW l,.ag (tmF t)] (zaW (zcf l t)) := by
  refine zbN fn75 ?_;unfold g75;dsimp only [oR,oM,oN,oG,oH,oF,oL,oK,oI,oS,oZ,oD];have fin : ∀ (n : Nat) (s : St),n ≤ l.length → zcf l t = (if (l[n]?.any (za0 · t)) = true then l else l.take n ++ t :: l.drop n) → (s.tm.get 0 = some (.f (zaW l)) ∧ s.tm.get 3 = some (.ptr 0 4 0 0) ∧ s.tm.get 5 = some (.f (.i .i64 n)) ∧ s.h.get 0 = some (.arr 4 0 [F.dL (tmF t)]) ∧ 1 ≤ s.c) → wpC pr t75 s (zjw [.t 4] (zaW (zcf l t))) := by
    intro n s hnl he hS;rw [he];exact zNv l t hl ht hn n hnl s hS
  have lp : ∀ S : St,(S.tm.get 0 = some (.f (zaW l)) ∧ S.tm.get 3 = some (.ptr 0 4 0 0) ∧ S.tm.get 5 = some (.f (.i .i64 0)) ∧ S.h.get 0 = some (.arr 4 0 [F.dL (tmF t)]) ∧ 1 ≤ S.c) → WL pr lo75 S (kb 0 (sq pr t75 (zjw [.t 4] (zaW (zcf l t))))) := by
    rintro S ⟨h0,h3,h5,g0,hc⟩;unfold lo75;dsimp only [oR,oM,oN,oG,oH,oF,oL,oK,oI,oS,oZ,oD];refine zes l (fun a => !decide (zaK a t < 0)) (fun n s => s.tm.get 0 = some (.f (zaW l)) ∧ s.tm.get 3 = some (.ptr 0 4 0 0) ∧ s.tm.get 5 = some (.f (.i .i64 n)) ∧ s.h.get 0 = some (.arr 4 0 [F.dL (tmF t)]) ∧ 1 ≤ s.c) (fun x s => x = .exit 0 ∧ s.tm.get 0 = some (.f (zaW l)) ∧ s.tm.get 3 = some (.ptr 0 4 0 0) ∧ s.tm.get 5 = some (.f (.i .i64 l.length)) ∧ s.h.get 0 = some (.arr 4 0 [F.dL (tmF t)]) ∧ 1 ≤ s.c) (fun n x s => x = .exit 0 ∧ s.tm.get 0 = some (.f (zaW l)) ∧ s.tm.get 3 = some (.ptr 0 4 0 0) ∧ s.tm.get 5 = some (.f (.i .i64 n)) ∧ s.h.get 0 = some (.arr 4 0 [F.dL (tmF t)]) ∧ 1 ≤ s.c) ?_ ?_ _ ?_ ?_ ?_
    · rintro n s hlt ⟨h0,h3,h5,g0,hc⟩;have hw := zaB n (by omega);have q := fun k => zav (k := k) (zsz l[n] t (hl _ (List.getElem_mem hlt)) ht)
      simp only [tmE] at q;generalize zaK l[n] t = o at q ⊢
      by_cases ho : o < 0
      · simp -implicitDefEqProofs [rR,h0,h3,h5,g0];refine zaC ?_;simp -implicitDefEqProofs [rR,h0,h3,h5,g0,zaM,zbk,hlt,tmE,q,ho,hw,hc]
      · simp -implicitDefEqProofs [rR,h0,h3,h5,g0];refine zaC ?_;simp -implicitDefEqProofs [rR,h0,h3,h5,g0,zaM,zbk,hlt,tmE,q,ho,hw,hc];omega
    · rintro s ⟨h0,h3,h5,g0,hc⟩;simp -implicitDefEqProofs [rR,h0,h3,h5,g0];refine zaC ?_;simp -implicitDefEqProofs [rR,h0,h3,h5,g0,zaM,hc]
    · simp -implicitDefEqProofs [rR,h0,h3,h5,g0,hc]
    · rintro h x s ⟨rfl,hS⟩;rw [zlP,if_pos rfl,zoF];refine fin l.length s (Nat.le_refl _) ?_ hS;rw [zr1 l t h]; simp
    · rintro n hlt hp hm x s ⟨rfl,hS⟩;rw [zlP,if_pos rfl,zoF];refine fin n s (by omega) ?_ hS;rw [ztp l t n hlt hp hm,List.getElem?_eq_getElem hlt,Option.any_some]
  cases t with
  | cst v =>
    simp -implicitDefEqProofs [rR,st0,zae,zaO,tmE,tv,tk,tn];refine lp _ ?_;simp -implicitDefEqProofs [rR,st0,zae,tmE,tv,tk,tn]
  | var v =>
    have hv : v ≠ [] := ht;simp -implicitDefEqProofs [rR,st0,zae,zaO,tmE,tv,tk,tn,hv];refine lp _ ?_;simp -implicitDefEqProofs [rR,st0,zae,tmE,tv,tk,tn]
end Go.Proofs.YtimgcabgophnfaaGreat
end
section
namespace Go.Proofs.YtimgcabgophnfaaGreat
open Go Go.Vse Go.Vse.Sm
set_option maxRecDepth 100000
set_option maxHeartbeats 1000000
set_option linter.all false
def zfN (l : List Trm) (ts : List Trm) : List Trm := ts.foldl zcf l
def zhu (c : CQ) : List Trm := c.cs.foldl (fun l k => zcf (zcf l k.l) k.r) (c.as.foldl (fun l a => zfN l a.ts) [])
theorem zvo {l : List Trm} {t : Trm} (hl : ∀ a ∈ l,zau a) (ht : zau t) : ∀ a ∈ zcf l t,zau a := by
 induction l with
 | nil => intro a ha; simp [zcf] at ha; rw [ha]; exact ht
 | cons b l ih =>
  intro a ha;unfold zcf at ha;split at ha
  ·rcases List.mem_cons.1 ha with h | h
   ·rw [h]; exact hl b (by simp)
   ·exact ih (fun x hx => hl x (by simp [hx])) a h
  ·split at ha
   ·exact hl a ha
   ·rcases List.mem_cons.1 ha with h | h
    ·rw [h]; exact ht
    ·exact hl a h
theorem ztG (l : List Trm) (t : Trm) : (zcf l t).length ≤ l.length + 1 := by
 induction l with
 | nil => simp [zcf]
 | cons b l ih =>
  unfold zcf;split
  ·simp; exact ih
  ·split <;> simp
def zgd (n : Nat) (l : List Trm) : Prop := (∀ a ∈ l,zau a) ∧ l.length ≤ n
theorem zgd.add {n : Nat} {l : List Trm} {t : Trm} (h : zgd n l) (ht : zau t) : zgd (n + 1) (zcf l t) := ⟨zvo h.1 ht,Nat.le_trans (ztG l t) (by have := h.2; omega)⟩
theorem zgd.adds {ts : List Trm} : ∀ {n : Nat} {l : List Trm},zgd n l → (∀ t ∈ ts,zau t) → zgd (n + ts.length) (zfN l ts) := by
 unfold zfN
 induction ts with
 | nil => intro n l h _; exact h
 | cons t ts ih =>
  intro n l h ht;have := ih (h.add (ht t (by simp))) fun u hu => ht u (by simp [hu])
  simpa [Nat.add_assoc,Nat.add_comm 1] using this
structure zei (c : CQ) : Prop extends CqOk c where
 sa : c.as.length ≤ 12
 st : ∀ a ∈ c.as,a.ts.length ≤ 12
 sc : c.cs.length ≤ 12
 s2 : ∀ a ∈ c.as,a.ts.length ≤ 2
theorem zpe {l : List Atm} (hl : ∀ a ∈ l,zb8 a ∧ a.ts.length ≤ 12) : ∀ {n : Nat} {x : List Trm},zgd n x → zgd (n + 12 * l.length) (l.foldl (fun l a => zfN l a.ts) x) := by
 induction l with
 | nil => intro n x h; exact h
 | cons a l ih =>
  intro n x h;have h1 := h.adds (hl a (by simp)).1.1;have h2 : zgd (n + 12) (zfN x a.ts) := ⟨h1.1,Nat.le_trans h1.2 (by have := (hl a (by simp)).2; omega)⟩
  have := ih (fun b hb => hl b (by simp [hb])) h2;exact ⟨this.1,Nat.le_trans this.2 (by simp; omega)⟩
theorem zwh {l : List Cm} (hl : ∀ k ∈ l,zb7 k) : ∀ {n : Nat} {x : List Trm},zgd n x → zgd (n + 2 * l.length) (l.foldl (fun l k => zcf (zcf l k.l) k.r) x) := by
 induction l with
 | nil => intro n x h; exact h
 | cons a l ih =>
  intro n x h;have h1 := (h.add (hl a (by simp)).1).add (hl a (by simp)).2;have := ih (fun b hb => hl b (by simp [hb])) h1;exact ⟨this.1,Nat.le_trans this.2 (by simp; omega)⟩
theorem zKj {c : CQ} (hc : zei c) : zgd 168 (zhu c) := by
 have h1 := zpe (l := c.as) (n := 0) (x := []) (fun a ha => ⟨hc.as a ha,hc.st a ha⟩) ⟨by simp,by simp⟩;have h2 := zwh hc.cs h1;exact ⟨h2.1,Nat.le_trans h2.2 (by have := hc.sa; have := hc.sc; omega)⟩
theorem ans34 (c : CQ) (hc : zei c) : Ans pr 34 [.ag (cqF c)] (zaW (zhu c)) := by
 refine zbN fn34 ?_;unfold g34;dsimp only [oR,oM,oN,oG,oH,oF,oL,oK,oI,oS,oZ,oD];simp -implicitDefEqProofs [rR,st0,zae,cqE,zbu,zbr];refine zeW c.as (fun l a => zfN l a.ts) [] (fun n a s => s.tm.get 1 = some (.ptr 0 2 0 0) ∧ s.tm.get 3 = some (.f (zaW a)) ∧ s.tm.get 4 = some (.f (.i .i64 n)) ∧ s.h.get 0 = some (.arr 2 0 [[.f (za5 c.as),.f (zaX c)]])) (fun x s => x = .exit 0 ∧ s.tm.get 1 = some (.ptr 0 2 0 0) ∧ s.tm.get 3 = some (.f (zaW (c.as.foldl (fun l a => zfN l a.ts) []))) ∧ s.h.get 0 = some (.arr 2 0 [[.f (za5 c.as),.f (zaX c)]])) ?_ ?_ _ ?_ ?_
 ·rintro n a s hn ha ⟨h1,h3,h4,g0⟩;have hw := zaB n (by have := hc.sa; omega);have hok := zpe (l := c.as.take n) (n := 0) (x := []) (fun b hb => ⟨hc.as b (List.mem_of_mem_take hb),hc.st b (List.mem_of_mem_take hb)⟩) ⟨by simp,by simp⟩;rw [← ha] at hok;have hok2 : zgd 144 a := ⟨hok.1,Nat.le_trans hok.2 (by have := hc.sa; simp; omega)⟩
  have hat := hc.as _ (List.getElem_mem hn);have hst := hc.st _ (List.getElem_mem hn);generalize hA : c.as[n] = A at hat hst ⊢;simp -implicitDefEqProofs [rR,h1,h3,h4,g0,zbj,hn];refine zeW A.ts zcf a (fun m b s => s.tm.get 1 = some (.ptr 0 2 0 0) ∧ s.tm.get 3 = some (.f (zaW b)) ∧ s.tm.get 4 = some (.f (.i .i64 n)) ∧ s.tm.get 5 = some (.f (.i .i64 m)) ∧ s.h.get 0 = some (.arr 2 0 [[.f (za5 c.as),.f (zaX c)]])) (fun x s => x = .exit 2 ∧ s.tm.get 1 = some (.ptr 0 2 0 0) ∧ s.tm.get 3 = some (.f (zaW (zfN a A.ts))) ∧ s.tm.get 4 = some (.f (.i .i64 n)) ∧ s.h.get 0 = some (.arr 2 0 [[.f (za5 c.as),.f (zaX c)]])) ?_ ?_ _ ?_ ?_
  ·rintro m b s hm hb ⟨h1,h3,h4,h5,g0⟩;have hwm := zaB m (by omega);have hb2 := hok2.adds (ts := A.ts.take m) (fun t ht => hat.1 t (List.mem_of_mem_take ht));rw [show zfN a (A.ts.take m) = b from hb.symm] at hb2;have q := fun k => zav (k := k) (zy2 b A.ts[m] hb2.1 (hat.1 _ (List.getElem_mem hm)) (by have := hb2.2; simp at this; omega))
   simp only [tmE] at q;simp -implicitDefEqProofs [rR,h1,h3,h4,h5,g0,zbj,zdQ,zaM,zbk,hn,hA,atE,hm,tmE,zaO,q,hwm]
  ·rintro s ⟨h1,h3,h4,h5,g0⟩;simp -implicitDefEqProofs [rR,h1,h3,h4,h5,g0,zdQ,zaM,hn,hA,atE];rfl
  ·simp -implicitDefEqProofs [rR,h1,h3,h4,g0]
  ·rintro x s ⟨rfl,h1,h3,h4,g0⟩;simp -implicitDefEqProofs [rR,h1,h3,h4,g0,hw]
 ·rintro s ⟨h1,h3,h4,g0⟩;simp -implicitDefEqProofs [rR,h1,h3,h4,g0,zbj]
 ·simp -implicitDefEqProofs [rR,st0,zae,cqE,zbu,zbr,(show zaW [] = .nils from rfl)]
 ·rintro x s ⟨rfl,h1,h3,g0⟩;have h0 := zpe (l := c.as) (n := 0) (x := []) (fun b hb => ⟨hc.as b hb,hc.st b hb⟩) ⟨by simp,by simp⟩;have hok : zgd 144 (c.as.foldl (fun l a => zfN l a.ts) []) := ⟨h0.1,Nat.le_trans h0.2 (by have := hc.sa; omega)⟩
  have ht : zhu c = c.cs.foldl (fun l k => zcf (zcf l k.l) k.r) (c.as.foldl (fun l a => zfN l a.ts) []) := rfl;rw [ht];clear h0 ht;generalize c.as.foldl (fun l a => zfN l a.ts) [] = x0 at hok h3 ⊢;generalize hres : c.cs.foldl (fun l k => zcf (zcf l k.l) k.r) x0 = res;simp -implicitDefEqProofs [rR,h1,h3,g0];refine zeW c.cs (fun l k => zcf (zcf l k.l) k.r) x0 (fun n a s => s.tm.get 1 = some (.ptr 0 2 0 0) ∧ s.tm.get 3 = some (.f (zaW a)) ∧ s.tm.get 6 = some (.f (.i .i64 n)) ∧ s.h.get 0 = some (.arr 2 0 [[.f (za5 c.as),.f (zaX c)]])) (fun x s => x = .exit 4 ∧ s.tm.get 3 = some (.f (zaW res))) ?_ ?_ _ ?_ ?_
  ·rintro n a s hn ha ⟨h1,h3,h6,g0⟩;have hw := zaB n (by have := hc.sc; omega);have hok2 := zwh (l := c.cs.take n) (fun b hb => hc.cs b (List.mem_of_mem_take hb)) hok;rw [← ha] at hok2;have hk := hc.cs _ (List.getElem_mem hn);have hl2 : a.length ≤ 168 := Nat.le_trans hok2.2 (by have := hc.sc; simp; omega);generalize hK : c.cs[n] = K at hk ⊢;have q1 := fun k => zav (k := k) (zy2 a K.l hok2.1 hk.1 (by omega))
   have q2 := fun k => zav (k := k) (zy2 (zcf a K.l) K.r (zvo hok2.1 hk.1) hk.2 (by have := ztG a K.l; omega))
   simp only [tmE] at q1 q2;simp -implicitDefEqProofs [rR,h1,h3,h6,g0,za9,hn];refine zaC ?_;simp -implicitDefEqProofs [rR,h1,h3,h6,g0,za9,zcm,hn,hK,cmF,tmE,zaO,q1,q2,hw]
  ·rintro s ⟨h1,h3,h6,g0⟩;rw [hres] at h3;simp -implicitDefEqProofs [rR,h1,h3,h6,g0,za9]
  ·simp -implicitDefEqProofs [rR,h1,h3,g0]
  ·rintro x s ⟨rfl,h3⟩;simp -implicitDefEqProofs [rR,h3,zaO]
end Go.Proofs.YtimgcabgophnfaaGreat
end
section
namespace Go.Proofs.YtimgcabgophnfaaGreat
open Go Go.Vse Go.Vse.Sm
set_option maxRecDepth 100000
set_option maxHeartbeats 1000000
set_option linter.all false
theorem zbQ : zq0 pr := zCZ prOk
def zct (l : List Str) (s : Str) : List Str := if s = [] ∨ l.any (· == s) = true then l else l ++ [s]
def zci (l : List Str) : List (List D) := l.map fun s => [D.f (.s s)]
theorem zbv (l : List Str) : (zci l).length = l.length := by simp [zci]
theorem ze1 (h : Nat → Option Ob) (k : Nat) (l : List Str) : zaT (frz h (k + 1)) (zci l) = some (l.map fun s => [F.s s],[]) := zwG h k F.s l
theorem zrG {l : List Str} (h : l ≠ []) : F.sl 1 (l.map fun s => [F.s s]) = za1 l := zfx (by simpa using h)
theorem zri {l : List Str} (h : zci l = []) : l = [] := by simpa [zci] using h
theorem zwD (l : List Str) (x : Str) (hl : l.length < 100000) {h : T Ob} {lo c : Nat} {d : D} (hg : Gro h lo c 1 d (zci l)) (hlo : lo ≤ c) :
  Eff pr 74 [d,.f (.s x)] h c fun d' h' c' => Gro h' lo c' 1 d' (zci (zct l x)) ∧ ∀ id,id < c → d.oid ≠ some id → h'.get id = h.get id := by
 refine zea zbQ fn74 ?_;unfold g74;dsimp only [oR,oM,oN,oG,oH,oF,oL,oK,oI,oS,oZ,oD];have q := fun k => zav (k := k) (zMn l x (by omega))
 have m1 : (1 ≤ zak) = True := zaV (by omega);have m2 : (16 ≤ zak) = True := zaV (by omega);unfold zct;rcases hg with ⟨rfl,hn⟩ | ⟨id,ro,rfl,hne,hid,hro,hlid,hidc⟩
 ·have := zri hn;subst this;rw [(show za1 [] = .nils from rfl)] at q
  by_cases hx : x = []
  ·simp [rW,st0,zae,hx,zcF];exact .inl ⟨rfl,rfl⟩
  ·simp [rW,st0,zae,hx,zcF,q,m1,m2];exact ⟨.inr ⟨c,0,rfl,by simp [zci],by simp [T.zab,zci],Nat.zero_le _,hlo,by omega⟩,fun id h1 h2 => by omega⟩
 ·rw [zbv] at *;have hl0 : l ≠ [] := fun e => hne (by rw [e]; rfl)
  have hz := zrG hl0;have ht : (zci l).take l.length = zci l := by rw [← zbv l,List.take_length]
  by_cases hx : x = []
  ·simp [rW,st0,zae,hx,zcF];exact .inr ⟨id,ro,by rw [zbv],hne,hid,by rw [zbv]; exact hro,hlid,hidc⟩
  ·have m3 : (l.length + 1 ≤ zak) = True := zaV (by omega);have m4 : ((l.length + 1) * 16 ≤ zak) = True := zaV (by omega);have hlt : (l.length + 1 ≤ l.length) = False := leF (by omega)
   by_cases hr : l.length ≤ ro
   ·by_cases hm : x ∈ l
    ·simp [rW,st0,zae,hx,zcF,q,m1,m2,hid,zbv,ze1,hz,ht,hr,hm,hidc];exact .inr ⟨id,ro,by rw [zbv],hne,hid,by rw [zbv]; exact hro,hlid,hidc⟩
    ·simp [rW,st0,zae,hx,zcF,q,m1,m2,m3,m4,hid,zbv,ze1,hz,ht,hr,hm,hidc,hro,hlt];refine ⟨by omega,.inr ⟨c,ro,by simp [zci],by simp [zci],by simp [T.zab,zci],(by rw [zbv,List.length_append]; omega),hlo,by omega⟩,fun i h1 h2 => by simp [show i ≠ c by omega,show i ≠ id from fun e => h2 e.symm]⟩
   ·by_cases hm : x ∈ l
    ·simp [rW,st0,zae,hx,zcF,q,m1,m2,hid,zbv,ze1,hz,ht,hr,hm,hidc];exact ⟨.inr ⟨id,l.length,by rw [zbv],hne,by simp [T.zab],by simp [zci],hlid,hidc⟩,fun i h1 h2 h3 => absurd h3.symm h2⟩
    ·simp [rW,st0,zae,hx,zcF,q,m1,m2,m3,m4,hid,zbv,ze1,hz,ht,hr,hm,hidc,hro,hlt];refine ⟨by omega,.inr ⟨c,l.length,by simp [zci],by simp [zci],by simp [T.zab,zci],(by rw [zbv,List.length_append]; omega),hlo,by omega⟩,fun i h1 h2 => by simp [show i ≠ c by omega,show i ≠ id from fun e => h2 e.symm]⟩
def zdr (l : List Str) (ts : List Trm) : List Str := ts.foldl (fun l t => zct l (tv t)) l
def vrs (c : CQ) : List Str := c.cs.foldl (fun l k => zct (zct l (tv k.l)) (tv k.r)) (c.as.foldl (fun l a => zdr l a.ts) [])
theorem zjP (l : List Str) (s : Str) : (zct l s).length ≤ l.length + 1 := by
 unfold zct; split
 ·omega
 ·simp
theorem zkk (ts : List Trm) : ∀ l : List Str,(zdr l ts).length ≤ l.length + ts.length := by
 unfold zdr
 induction ts with
 | nil => intro l; simp
 | cons t ts ih =>
  intro l;have h1 := zjP l (tv t);have h2 := ih (zct l (tv t));simp only [List.foldl_cons,List.length_cons];omega
theorem zpF {l : List Atm} (hl : ∀ a ∈ l,a.ts.length ≤ 12) : ∀ x : List Str,(l.foldl (fun l a => zdr l a.ts) x).length ≤ x.length + 12 * l.length := by
 induction l with
 | nil => intro x; simp
 | cons a l ih =>
  intro x;have h1 := zkk a.ts x;have h2 := hl a (by simp);have h3 := ih (fun b hb => hl b (by simp [hb])) (zdr x a.ts);simp only [List.foldl_cons,List.length_cons];omega
theorem zuk (l : List Cm) : ∀ x : List Str,(l.foldl (fun l k => zct (zct l (tv k.l)) (tv k.r)) x).length ≤ x.length + 2 * l.length := by
 induction l with
 | nil => intro x; simp
 | cons a l ih =>
  intro x;have h1 := zjP x (tv a.l);have h2 := zjP (zct x (tv a.l)) (tv a.r);have h3 := ih (zct (zct x (tv a.l)) (tv a.r));simp only [List.foldl_cons,List.length_cons];omega
theorem zlU {c : CQ} (hc : zei c) : (vrs c).length ≤ 168 := by
 have h1 := zpF hc.st [];have h2 := zuk c.cs (c.as.foldl (fun l a => zdr l a.ts) []);have := hc.sa; have := hc.sc;unfold vrs;simp at h1;omega
theorem zpx {h : T Ob} {lo c es k : Nat} {d : D} {els : List (List D)} {L : List (List F)} (hg : Gro h lo c es d els) (hf : zaT (frz h.get k) els = some (L,[])) (hL : L = [] ↔ els = []) : ∃ rd,frz h.get (k + 1) d = some (slc es L,rd) := by
 rcases hg with ⟨rfl,rfl⟩ | ⟨id,ro,rfl,he,ho,hr,hl,hc⟩
 ·rw [hL.2 rfl]; exact ⟨[],rfl⟩
 ·refine ⟨[id],?_⟩;rw [zlG,ho,zlD,zlM];simp only [true_and,Nat.zero_add,Nat.le_refl,if_true,List.drop_zero,List.take_length,hf,zlD];rw [zfx (fun e => he (hL.1 e))]
theorem zvw {h : T Ob} {lo c : Nat} {d : D} {l : List Str} (hg : Gro h lo c 1 d (zci l)) : ∃ rd,frz h.get 12 d = some (za1 l,rd) :=
 zpx (k := 11) hg (ze1 _ 10 l) (by simp [zci])
def V1 (c : CQ) (l : List Str) (n : Nat) (s : St) : Prop := ∃ d,s.tm.get 1 = some (.ptr 0 2 0 0) ∧ s.tm.get 4 = some (.f (.i .i64 n)) ∧ s.tm.get 3 = some (d) ∧ s.h.get 0 = some (.arr 2 0 [[.f (za5 c.as),.f (zaX c)]]) ∧ Gro s.h 1 s.c 1 d (zci l) ∧ 1 ≤ s.c
def V2 (c : CQ) (n : Nat) (l : List Str) (m : Nat) (s : St) : Prop := ∃ d,s.tm.get 1 = some (.ptr 0 2 0 0) ∧ s.tm.get 4 = some (.f (.i .i64 n)) ∧ s.tm.get 5 = some (.f (.i .i64 m)) ∧ s.tm.get 3 = some (d) ∧ s.h.get 0 = some (.arr 2 0 [[.f (za5 c.as),.f (zaX c)]]) ∧ Gro s.h 1 s.c 1 d (zci l) ∧ 1 ≤ s.c
def V3 (c : CQ) (l : List Str) (n : Nat) (s : St) : Prop := ∃ d,s.tm.get 1 = some (.ptr 0 2 0 0) ∧ s.tm.get 6 = some (.f (.i .i64 n)) ∧ s.tm.get 3 = some (d) ∧ s.h.get 0 = some (.arr 2 0 [[.f (za5 c.as),.f (zaX c)]]) ∧ Gro s.h 1 s.c 1 d (zci l) ∧ 1 ≤ s.c
theorem zfy {h : T Ob} {lo c es : Nat} {d : D} {els : List (List D)} (hg : Gro h lo c es d els) {i : Nat} (hi : i < lo) : d.oid ≠ some i := by
 rcases hg with ⟨rfl,_⟩ | ⟨id,ro,rfl,_,_,_,hl,_⟩
 ·simp [D.oid]
 ·simp [D.oid]; omega
theorem ans33 (c : CQ) (hc : zei c) : Ans pr 33 [.ag (cqF c)] (za1 (vrs c)) := by
 refine zbN fn33 ?_;unfold g33;dsimp only [oR,oM,oN,oG,oH,oF,oL,oK,oI,oS,oZ,oD];simp -implicitDefEqProofs [rR,st0,zae,cqE,zbu,zbr];refine zeW c.as (fun l a => zdr l a.ts) [] (fun n a s => V1 c a n s) (fun x s => x = .exit 0 ∧ ∃ n,V1 c (c.as.foldl (fun l a => zdr l a.ts) []) n s) ?_ ?_ _ ?_ ?_
 ·rintro n a s hn ha ⟨d,h1,h4,h3,g0,hg,hc1⟩;have hw := zaB n (by have := hc.sa; omega);have hal : a.length ≤ 144 := by
   have := zpF (l := c.as.take n) (fun b hb => hc.st b (List.mem_of_mem_take hb)) [];rw [← ha] at this;have := hc.sa;simp at *;omega
  have hat := hc.as _ (List.getElem_mem hn);have hst := hc.st _ (List.getElem_mem hn);generalize hA : c.as[n] = A at hat hst ⊢;simp [rW,h1,h4,h3,g0,zbj,hn];refine zeW A.ts (fun l t => zct l (tv t)) a (fun m b s => V2 c n b m s) (fun x s => x = .exit 2 ∧ ∃ m,V2 c n (zdr a A.ts) m s) ?_ ?_ _ ?_ ?_
  ·rintro m b s hm hb ⟨d,h1,h4,h5,h3,g0,hg,hc1⟩;have hwm := zaB m (by omega);have hbl : b.length ≤ 200 := by
    have := zkk (A.ts.take m) a;rw [show zdr a (A.ts.take m) = b from hb.symm] at this;simp at this;omega
   simp [rW,h1,h4,h5,h3,g0,zbj,zdQ,zaM,zbk,hn,hA,atE,hm,tmE,zaO];refine zgs ?_ ?_ (zwD b (tv A.ts[m]) (by omega) hg hc1) ?_
   ·simp only [rG]
   ·simp only [rG]
   rintro d' h' c' lw' mx' ⟨hg',hf⟩ hcc;have e0 := hf 0 (by omega) (zfy hg (by omega));simp [rW,h1,h4,h5,h3,g0,e0,hwm,V2,hg'];exact Nat.le_trans hc1 hcc
  ·rintro s ⟨d,h1,h4,h5,h3,g0,hg,hc1⟩;simp [rW,h1,h4,h5,h3,g0,zbj,zdQ,zaM,zbk,hn,hA,atE,zaO,V2,hc1];exact ⟨⟨_,rfl⟩,hg⟩
  ·simp [rW,h1,h4,h3,g0,V2,hc1,hg]
  ·rintro x s ⟨rfl,m,d,h1,h4,h5,h3,g0,hg,hc1⟩;simp [rW,h1,h4,h5,h3,g0,V1,hg,hc1,hw]
 ·rintro s ⟨d,h1,h4,h3,g0,hg,hc1⟩;simp [rW,h1,h4,h3,g0,zbj,V1,hg,hc1];exact ⟨_,rfl⟩
 ·simp [rW,V1,Gro.nil];exact .inl ⟨rfl,rfl⟩
 ·rintro x s ⟨rfl,n,d,h1,h4,h3,g0,hg,hc1⟩;have h0 := zpF (l := c.as) hc.st [];have hv : vrs c = c.cs.foldl (fun l k => zct (zct l (tv k.l)) (tv k.r)) (c.as.foldl (fun l a => zdr l a.ts) []) := rfl;rw [hv];clear hv;generalize c.as.foldl (fun l a => zdr l a.ts) [] = x0 at h0 hg ⊢;have hx0 : x0.length ≤ 144 := by have := hc.sa; simp at h0; omega
  generalize hres : c.cs.foldl (fun l k => zct (zct l (tv k.l)) (tv k.r)) x0 = res;simp [rW,h1,h3,g0];refine zeW c.cs (fun l k => zct (zct l (tv k.l)) (tv k.r)) x0 (fun n a s => V3 c a n s) (fun x s => x = .exit 4 ∧ ∃ n,V3 c res n s) ?_ ?_ _ ?_ ?_
  ·rintro n a s hn ha ⟨d,h1,h6,h3,g0,hg,hc1⟩;have hw := zaB n (by have := hc.sc; omega);have hal : a.length ≤ 200 := by
    have := zuk (c.cs.take n) x0;rw [← ha] at this;have := hc.sc;simp at *;omega
   generalize hK : c.cs[n] = K;simp [rW,h1,h6,h3,g0,za9,hn];refine za4 ?_;simp [rW,h1,h6,h3,g0,za9,zcm,hn,hK,cmF,tmE];refine zwQ (c := s.c + 8) ?_ ?_ (zwD a (tv K.l) (by omega) (zfc hg (Nat.le_add_right _ _) fun _ _ _ => rfl) (by omega)) ?_
   ·simp only [rG]
   ·simp only [rG]
   rintro d1 h1' c1 lw1 mx1 ⟨hg1,hf1⟩ hcc1 hm1;have e0 := hf1 0 (by omega) (zfy hg (by omega));simp [rW,h1,h6,h3,g0,e0,zcm,hn,hK,cmF,tmE];have hal2 := zjP a (tv K.l);refine zwQ (h := h1') (c := mx1 + 7) ?_ ?_ (zwD (zct a (tv K.l)) (tv K.r) (by omega) (zfc hg1 (by omega) fun _ _ _ => rfl) (by omega)) ?_
   ·simp only [rG]
   ·simp only [rG]
   rintro d2 h2' c2 lw2 mx2 ⟨hg2,hf2⟩ hcc2 hm2;have e2 := hf2 0 (by omega) (zfy hg1 (by omega));simp [rW,h1,h6,h3,g0,e0,e2,V3,hw];exact zfc hg2 (by omega) fun _ _ _ => rfl
  ·rintro s ⟨d,h1,h6,h3,g0,hg,hc1⟩;rw [hres] at hg;simp [rW,h1,h6,h3,g0,za9,V3,hg,hc1];exact ⟨_,rfl⟩
  ·simp [rW,h1,h3,g0,V3,hg,hc1]
  ·rintro x s ⟨rfl,n,d,h1,h6,h3,g0,hg,hc1⟩;obtain ⟨rd,hz⟩ := zvw hg;simp [rW,h1,h6,h3,g0,hz]
def zrP (a b : CQ) (hd : List Str) : Option (List Trm) := zdN a b (vrs a) (zhu b) hd (vrs a).length []
theorem ans9 (a b : CQ) (hd : List Str) (ha : zei a) (hb : zei b) (hh : hd.length < 1000) : Ans pr 9 [.ag (cqF a),.ag (cqF b),za1 hd] (zf1 (zrP a b hd)) := by
 refine zbN fn9 ?_;unfold g9;dsimp only [oR,oM,oN,oG,oH,oF,oL,oK,oI,oS,oZ,oD];have q1 := fun k => zav (k := k) (ans33 a ha)
 have q2 := fun k => zav (k := k) (ans34 b hb)
 have hv := zlU ha;have ht := zKj hb;have q3 := fun k => zav (k := k) (ans32 a b (vrs a) (zhu b) hd ha.toCqOk hb.toCqOk (by omega) ht.1 (by have := ht.2; omega) hh (vrs a).length [] (by simp) (by simp))
 rw [show zdN a b (vrs a) (zhu b) hd (vrs a).length [] = zrP a b hd from rfl,(show zaW [] = .nils from rfl)] at q3;simp only [cqE] at q1 q2 q3;generalize zrP a b hd = r at q3 ⊢;simp [rW,st0,zae,cqE,zbu,zbr,za8];refine zaC ?_;cases r with
 | none => simp [rW,st0,zae,cqE,zbu,zbr,za8,zaO,q1,q2,q3,zf1]
 | some l => simp [rW,st0,zae,cqE,zbu,zbr,za8,zaO,q1,q2,q3,zf1]
end Go.Proofs.YtimgcabgophnfaaGreat
end
section
namespace Go.Proofs.YtimgcabgophnfaaGreat
open Go Go.Vse Go.Vse.Sm
set_option maxRecDepth 100000
set_option maxHeartbeats 1000000
set_option linter.all false
theorem fn145 : pr.fn 145 = some zyZ := by kernel_rfl
theorem fn146 : pr.fn 146 = some zy1 := by kernel_rfl
theorem fn126 : pr.fn 126 = some zyG := by kernel_rfl
theorem fn127 : pr.fn 127 = some zwB := by kernel_rfl
theorem fn91 : pr.fn 91 = some g91 := by kernel_rfl
theorem fn125 : pr.fn 125 = some zx1 := by kernel_rfl
theorem fn90 : pr.fn 90 = some g90 := by kernel_rfl
theorem fn58 : pr.fn 58 = some g58 := by kernel_rfl
theorem fn60 : pr.fn 60 = some g60 := by kernel_rfl
theorem fn56 : pr.fn 56 = some g56 := by kernel_rfl
theorem fn111 : pr.fn 111 = some zyS := by kernel_rfl
theorem fn82 : pr.fn 82 = some g82 := by kernel_rfl
theorem fn114 : pr.fn 114 = some zxE := by kernel_rfl
theorem fn87 : pr.fn 87 = some g87 := by kernel_rfl
theorem fn86 : pr.fn 86 = some g86 := by kernel_rfl
theorem fn54 : pr.fn 54 = some g54 := by kernel_rfl
theorem fn28 : pr.fn 28 = some g28 := by kernel_rfl
theorem fn29 : pr.fn 29 = some g29 := by kernel_rfl
theorem fn94 : pr.fn 94 = some g94 := by kernel_rfl
theorem zMp {f : Nat} {args : List D} {h : T Ob} {c : Nat} {x : F} (h1 : pr.fn f = none) (h2 : pr.ext f args = some x) : RO pr f args h c x.d := by
 refine ⟨c,Nat.le_refl _,1,fun n hn => ?_⟩;obtain ⟨m,rfl⟩ : ∃ m,n = m + 1 := ⟨n - 1,by omega⟩
 simp only [zcN,h1,h2]
theorem zvc : ∀ a b : Str,Go.Lib.compareBytes a b = zd7 a b
 | [],[] => rfl
 | [],b :: l => by simp [Go.Lib.compareBytes,zd7,Go.Op.bytesLess]
 | a :: l,[] => by simp [Go.Lib.compareBytes,zd7,Go.Op.bytesLess]
 | a :: l,b :: m => by
  have ih := zvc l m;unfold Go.Lib.compareBytes zd7 Go.Op.bytesLess
  by_cases h1 : a < b
  ·simp [h1]
  ·by_cases h2 : b < a
   ·have h3 : a ≠ b := fun e => by subst e; exact h1 h2
    simp [h1,h2,h3]
   ·have h3 : a = b := UInt8.le_antisymm (UInt8.not_lt.1 h2) (UInt8.not_lt.1 h1);subst h3;simp only [h1,if_false,ih,zd7];simp
theorem ro128 (a b : Str) (h : T Ob) (c : Nat) : RO pr 128 [.f (.s a),.f (.s b)] h c (.f (.i .i64 (zd7 a b))) := by
 have := zMp (h := h) (c := c) (f := 128) (args := [.f (.s a),.f (.s b)]) (x := .i .i64 (Go.Lib.compareBytes a b)) (by kernel_rfl) rfl;rw [zvc] at this;exact this
theorem zz8 (a : Int) : Ans pr 145 [.i .i64 a] (.b false) := by
 refine zbN fn145 ?_;unfold zyZ;dsimp only [oR,oM,oN,oG,oH,oF,oL,oK,oI,oS,oZ,oD];simp [rW,st0,zae]
theorem zBE (a : Int) : Ans pr 146 [.i .i64 a] (.b false) := by
 refine zbN fn146 ?_;unfold zy1;dsimp only [oR,oM,oN,oG,oH,oF,oL,oK,oI,oS,oZ,oD];simp [rW,st0,zae]
theorem zKU (a b : Int) : Ans pr 126 [.i .i64 a,.i .i64 b] (.i .i64 (zdw a b)) := by
 refine zbN fn126 ?_;unfold zyG;dsimp only [oR,oM,oN,oG,oH,oF,oL,oK,oI,oS,oZ,oD];have q1 := fun k => zav (k := k) (zz8 a)
 have q2 := fun k => zav (k := k) (zz8 b)
 unfold zdw
 by_cases h1 : a < b
 ·have h2 : ¬ a = b := by omega
  simp [rW,st0,zae,q1,q2,h1,h2]
 ·by_cases h2 : b < a
  ·have h3 : ¬ a = b := by omega
   simp [rW,st0,zae,q1,q2,h1,h2,h3]
  ·have h3 : a = b := by omega
   simp [rW,st0,zae,q1,q2,h1,h2,h3]
theorem zLs (a b : Int) : Ans pr 127 [.i .i64 a,.i .i64 b] (.i .i64 (zdw a b)) := by
 refine zbN fn127 ?_;unfold zwB;dsimp only [oR,oM,oN,oG,oH,oF,oL,oK,oI,oS,oZ,oD];have q1 := fun k => zav (k := k) (zBE a)
 have q2 := fun k => zav (k := k) (zBE b)
 unfold zdw
 by_cases h1 : a < b
 ·have h2 : ¬ a = b := by omega
  simp [rW,st0,zae,q1,q2,h1,h2]
 ·by_cases h2 : b < a
  ·have h3 : ¬ a = b := by omega
   simp [rW,st0,zae,q1,q2,h1,h2,h3]
  ·have h3 : a = b := by omega
   simp [rW,st0,zae,q1,q2,h1,h2,h3]
theorem zxv (a b : Str) : Ans pr 91 [.s a,.s b] (.i .i64 (zd7 a b)) := by
 refine zbN fn91 ?_;unfold g91;dsimp only [oR,oM,oN,oG,oH,oF,oL,oK,oI,oS,oZ,oD];simp [rW,st0,zae];refine zco (ro128 a b _ _) ?_ ?_
 ·simp only [rG]; omega
 ·intro mx;simp [rW,st0,zae]
theorem zLq (a b c : Int) : Ans pr 125 [.sl 1 [[.i .i64 a],[.i .i64 b],[.i .i64 c]]] (.i .i64 (if a ≠ 0 then a else if b ≠ 0 then b else c)) := by
 refine zbN fn125 ?_;unfold zx1;dsimp only [oR,oM,oN,oG,oH,oF,oL,oK,oI,oS,oZ,oD];have w1 : IntKind.i64.wrap 1 = 1 := rfl;have w2 : IntKind.i64.wrap 2 = 2 := rfl;have w3 : IntKind.i64.wrap 3 = 3 := rfl;simp [rW,st0,zae];refine round ?_
 by_cases ha : a = 0
 ·by_cases hb : b = 0
  ·simp [rW,ha,hb,w1];refine round ?_;simp [rW,ha,hb,w2];refine round ?_
   by_cases hc : c = 0
   ·simp [rW,hc,w3];refine round ?_;simp [rW,hc]
   ·simp [rW,hc]
  ·simp [rW,ha,hb,w1];refine round ?_;simp [rW,hb]
 ·simp [rW,ha]
theorem zxF (a b : Int) : Ans pr 90 [.ag (vF a),.ag (vF b)] (.i .i64 (zdw a b)) := by
 refine zbN fn90 ?_;unfold g90;dsimp only [oR,oM,oN,oG,oH,oF,oL,oK,oI,oS,oZ,oD];have q1 := fun k => zav (k := k) (zKU 1 1)
 have q2 := fun k => zav (k := k) (zLs a b)
 have q3 := fun k => zav (k := k) (zxv [] [])
 have q4 := fun k => zav (k := k) (zLq (zdw 1 1) (zdw a b) (zd7 [] []))
 rw [(show zdw 1 1 = 0 from rfl)] at q1 q4;rw [(show zd7 [] [] = 0 from rfl)] at q3 q4;have e : (if (0 : Int) ≠ 0 then 0 else if zdw a b ≠ 0 then zdw a b else 0) = zdw a b := by
  simp only [ne_eq,not_true_eq_false,if_false];split
  ·rfl
  ·rename_i h; simp at h; exact h.symm
 rw [e] at q4;simp [rW,st0,zae,vF];refine zaC ?_;simp [rW,st0,zae,vF,q1,q2,q3,q4]
theorem zFf (a b : Trm) (ha : zau a) (hb : zau b) : Ans pr 58 [.ag (tmF a),.ag (tmF b)] (.i .i64 (zaK a b)) := by
 refine zbN fn58 ?_;unfold g58;dsimp only [oR,oM,oN,oG,oH,oF,oL,oK,oI,oS,oZ,oD];cases a with
 | cst a =>
  cases b with
  | cst b =>
   have q := fun k => zav (k := k) (zxF a b)
   simp only [vF] at q;simp [rW,st0,zae,tmF,vF,zaK,q]
  | var b =>
   simp only [zau] at hb;simp [rW,st0,zae,tmF,zaK,hb]
 | var a =>
  cases b with
  | cst b =>
   simp only [zau] at ha;simp [rW,st0,zae,tmF,zaK,ha]
  | var b =>
   simp only [zau] at ha hb;have q := fun k => zav (k := k) (zxv a b)
   simp [rW,st0,zae,tmF,zaK,ha,hb,q]
theorem zj8 (a b : Trm) (ha : zau a) (hb : zau b) : Ans pr 60 [.ag (tmF a),.ag (tmF b)] (.b (za0 a b)) := by
 unfold za0;refine zbN fn60 ?_;unfold g60;dsimp only [oR,oM,oN,oG,oH,oF,oL,oK,oI,oS,oZ,oD];have q := fun k => zav (k := k) (zFf a b ha hb)
 simp only [tmE] at q;simp [rW,st0,zae,tmE,q]
theorem ans56 (t : Trm) (ht : zau t) : Ans pr 56 [.ag (tmF t)] (.ag (tmF t)) := by
 refine zbN fn56 ?_;unfold g56;dsimp only [oR,oM,oN,oG,oH,oF,oL,oK,oI,oS,oZ,oD];cases t with
 | cst v => simp [rW,st0,zae,tmF]
 | var v =>
  simp only [zau] at ht;simp [rW,st0,zae,tmF,ht]
end Go.Proofs.YtimgcabgophnfaaGreat
end
section
namespace Go.Proofs.YtimgcabgophnfaaGreat
open Go Go.Vse Go.Vse.Sm
set_option maxRecDepth 100000
set_option maxHeartbeats 1000000
set_option linter.all false
def ixP {α : Type} (l : List α) (p : α → Bool) : Int := match l.findIdx? p with
 | some n => n
 | none => -1
theorem zjc {α : Type} {l : List α} {p : α → Bool} (h : ∀ a ∈ l,p a = false) : ixP l p = -1 := by
 have : l.findIdx? p = none := List.findIdx?_eq_none_iff.2 h;simp [ixP,this]
theorem zia {α : Type} {l : List α} {p : α → Bool} {n : Nat} (h : n < l.length) (h1 : p l[n] = true) (h2 : ∀ m (h' : m < n),p (l[m]'(by omega)) = false) : ixP l p = n := by
 have : l.findIdx? p = some n := by
  rw [List.findIdx?_eq_some_iff_getElem];exact ⟨h,h1,fun j hj => by simpa using h2 j hj⟩
 simp [ixP,this]
theorem zlx {α : Type} (l : List α) (p : α → Bool) : decide (ixP l p ≥ 0) = l.any p := by
 cases h : l.any p with
 | true =>
  unfold ixP;cases h2 : l.findIdx? p with
  | some n => simp
  | none => rw [List.findIdx?_eq_none_iff] at h2; simp at h; obtain ⟨x,hx,hp⟩ := h; rw [h2 x hx] at hp; cases hp
 | false =>
  have := zjc (l := l) (p := p) (by simpa using h);simp [this]
theorem zMh (l : List Str) (x : Str) (hl : l.length < 1000000) : Ans pr 111 [za1 l,.s x] (.i .i64 (ixP l (x == ·))) := by
 refine zbN fn111 ?_;unfold zyS;dsimp only [oR,oM,oN,oG,oH,oF,oL,oK,oI,oS,oZ,oD];simp [rW,st0,zae,za8,zbU];refine zes l (x == ·) (fun n s => s.tm.get 0 = some (.f (za1 l)) ∧ s.tm.get 1 = some (.f (.s x)) ∧ s.tm.get 7 = some (.f (.i .i64 l.length)) ∧ s.tm.get 8 = some (.f (.i .i64 n))) (fun x s => x = .exit 0) (fun n y s => y = .ret ∧ s.tm.get 4 = some (.f (.i .i64 n))) ?_ ?_ _ ?_ ?_ ?_
 ·rintro n s hn ⟨h0,h1,h7,h8⟩;have hw := zaB n (by omega)
  by_cases he : x = l[n]
  ·simp [rW,h0,h1,h7,h8,zbU,zcI,hn,he]
  ·simp [rW,h0,h1,h7,h8,zbU,zcI,hn,he,hw]
 ·rintro s ⟨h0,h1,h7,h8⟩;simp [rW,h0,h1,h7,h8,zbU]
 ·simp [rW,st0,zae]
 ·rintro h x s rfl;rw [zjc h];simp [rW,st0]
 ·rintro n hn hp hm x s ⟨rfl,h4⟩;rw [zia hn hp hm];simp [rW,h4]
theorem zCC (l : List Str) (x : Str) : l.any (x == ·) = l.any (· == x) := by
  congr 1; funext a; exact Bool.beq_comm
theorem ans82 (l : List Str) (x : Str) (hl : l.length < 1000000) : Ans pr 82 [za1 l,.s x] (.b (l.any (· == x))) := by
  refine zbN fn82 ?_;unfold g82;dsimp only [oR,oM,oN,oG,oH,oF,oL,oK,oI,oS,oZ,oD];have q := fun k => zav (k := k) (zMh l x hl)
  have e := zlx l (x == ·);rw [zCC] at e;rw [← e];simp [rW,st0,zae,za8,q]
def zer (l : List Nat) : F := slc 1 (l.map fun n : Nat => [F.i .i64 (n : Int)])
theorem zrt (l : List Nat) : (zer l).d = .f (zer l) := zjq ..
theorem zh7 (l : List Nat) : zcp (.f (zer l)) = some l.length := by simp [zer,zgR]
theorem zoW (l : List Nat) (n : Nat) : iaB 1 (.f (zer l)) n = (l[n]?).map fun k : Nat => D.fptr [F.i .i64 (k : Int)] := by simp [zer,zij,Function.comp_def]
theorem zNq (l : List Nat) (x : Nat) (hl : l.length < 1000000) : Ans pr 114 [zer l,.i .i64 x] (.i .i64 (ixP l (x == ·))) := by
 refine zbN fn114 ?_;unfold zxE;dsimp only [oR,oM,oN,oG,oH,oF,oL,oK,oI,oS,oZ,oD];simp [rW,st0,zae,zrt,zh7];refine zes l (x == ·) (fun n s => s.tm.get 0 = some (.f (zer l)) ∧ s.tm.get 1 = some (.f (.i .i64 x)) ∧ s.tm.get 7 = some (.f (.i .i64 l.length)) ∧ s.tm.get 8 = some (.f (.i .i64 n))) (fun x s => x = .exit 0) (fun n y s => y = .ret ∧ s.tm.get 4 = some (.f (.i .i64 n))) ?_ ?_ _ ?_ ?_ ?_
 ·rintro n s hn ⟨h0,h1,h7,h8⟩;have hw := zaB n (by omega)
  by_cases he : x = l[n]
  ·simp [rW,h0,h1,h7,h8,zh7,zoW,hn,he]
  ·have he' : ¬ ((x : Int) = (l[n] : Int)) := by omega
   simp [rW,h0,h1,h7,h8,zh7,zoW,hn,he,he',hw]
 ·rintro s ⟨h0,h1,h7,h8⟩;simp [rW,h0,h1,h7,h8,zh7]
 ·simp [rW,st0,zae]
 ·rintro h x s rfl;rw [zjc h];simp [rW,st0]
 ·rintro n hn hp hm x s ⟨rfl,h4⟩;rw [zia hn hp hm];simp [rW,h4]
theorem ans87 (l : List Nat) (x : Nat) (hl : l.length < 1000000) : Ans pr 87 [zer l,.i .i64 x] (.b (l.any (x == ·))) := by
 refine zbN fn87 ?_;unfold g87;dsimp only [oR,oM,oN,oG,oH,oF,oL,oK,oI,oS,oZ,oD];have q := fun k => zav (k := k) (zNq l x hl)
 have e := zlx l (x == ·);rw [← e];simp [rW,st0,zae,zrt,q]
def tsA (c : CQ) : List Trm := c.as.flatMap (·.ts)
def ts2 (k : Cm) : List Trm := [k.l,k.r]
def tsC (c : CQ) : List Trm := tsA c ++ c.cs.flatMap ts2
theorem zrY (l : List Trm) : (zaw l).take l.length = zaw l := by rw [← zaR l,List.take_length]
def T1 (c : CQ) (l : List Trm) (n : Nat) (s : St) : Prop := ∃ d,s.tm.get 1 = some (.ptr 0 2 0 0) ∧ s.tm.get 11 = some (.f (.i .i64 n)) ∧ s.tm.get 9 = some (.f (za5 c.as)) ∧ s.tm.get 10 = some (.f (.i .i64 c.as.length)) ∧ s.tm.get 3 = some (d) ∧ s.h.get 0 = some (.arr 2 0 [[.f (za5 c.as),.f (zaX c)]]) ∧ Gro s.h 1 s.c 4 d (zaw l) ∧ 1 ≤ s.c
def T2 (c : CQ) (l : List Trm) (n : Nat) (s : St) : Prop := ∃ d,s.tm.get 23 = some (.f (.i .i64 n)) ∧ s.tm.get 21 = some (.f (zaX c)) ∧ s.tm.get 22 = some (.f (.i .i64 c.cs.length)) ∧ s.tm.get 3 = some (d) ∧ Gro s.h 1 s.c 4 d (zaw l) ∧ 1 ≤ s.c
theorem zgg {α β : Type} (f : α → List β) (m : Nat) : ∀ (l : List α),(∀ a ∈ l,(f a).length ≤ m) → (l.flatMap f).length ≤ m * l.length
 | [],_ => by simp
 | a :: l,h => by
  have h1 := h a (by simp);have h2 := zgg f m l fun b hb => h b (by simp [hb])
  rw [List.flatMap_cons,List.length_append,List.length_cons,Nat.mul_add];omega
theorem zpJ {c : CQ} (hc : zei c) : (tsC c).length ≤ 48 := by
 have h1 := zgg (·.ts) 2 c.as hc.s2;have h2 := zgg ts2 2 c.cs (by simp [ts2]);have := hc.sa; have := hc.sc;simp only [tsC,tsA,List.length_append];omega
theorem ze8 {α β : Type} (f : α → List β) : ∀ (l : List α) (x : List β),l.foldl (fun x a => x ++ f a) x = x ++ l.flatMap f
 | [],x => by simp
 | a :: l,x => by rw [List.foldl_cons,ze8 f l,List.flatMap_cons,List.append_assoc]
theorem zJr {h : T Ob} {lo c : Nat} {d : D} {l : List Trm} (hg : Gro h lo c 4 d (zaw l)) : ∃ rd,frz h.get 12 d = some (zaW l,rd) :=
 zpx (k := 11) hg (zgJ _ 10 l) (by simp [zaw])
theorem ans86 (c : CQ) (hc : zei c) : Ans pr 86 [.ag (cqF c)] (zaW (tsC c)) := by
 refine zbN fn86 ?_;unfold g86;dsimp only [oR,oM,oN,oG,oH,oF,oL,oK,oI,oS,oZ,oD];simp [rW,st0,zae,cqE,zbu,zbr,zbj];refine zeW c.as (fun x a => x ++ a.ts) [] (fun n a s => T1 c a n s) (fun x s => x = .exit 0 ∧ ∃ n,T1 c (tsA c) n s) ?_ ?_ _ ?_ ?_
 ·rintro n a s hn ha ⟨d,h1,h11,h9,h10,h3,g0,hg,hc1⟩;have hw := zaB n (by have := hc.sa; omega);have hal : a.length ≤ 144 := by
   rw [ze8,List.nil_append] at ha;have := zgg (fun a : Atm => a.ts) 12 (c.as.take n) fun b hb => hc.st b (List.mem_of_mem_take hb)
   rw [← ha] at this;have := hc.sa;simp at *;omega
  have hst := hc.st _ (List.getElem_mem hn);generalize hA : c.as[n] = A at hst ⊢;simp [rW,h1,h11,h9,h10,h3,g0,zbj,zdQ,hn,hA,atE,zaO,zhr];refine znD (zfc (c' := s.c + 1) hg (by omega) fun id _ h2 => ?_) (by omega) (by simp only [zaR]; omega) (by omega) ?_
  ·rw [Vse.T.zab,if_neg (by omega),Vse.T.zab,if_neg (by omega)]
  ·intro r hr1 hr2 hr3 hr4 _ _;have e0 := hr4 0 (by omega) (zfy hg (by omega));have c0 : ¬ 0 = s.c := by omega
   rw [Vse.T.zab,if_neg c0,Vse.T.zab,if_neg c0] at e0;refine ⟨hr1,?_⟩;simp [rW,h1,h11,h9,h10,h3,g0,e0,hw,T1];rw [← zh0];exact ⟨hr2,by omega⟩
 ·rintro s ⟨d,h1,h11,h9,h10,h3,g0,hg,hc1⟩;rw [ze8,List.nil_append] at hg;simp [rW,h1,h11,h9,h10,h3,g0,zbj,T1,hc1];exact ⟨⟨_,rfl⟩,hg⟩
 ·simp [rW,T1];exact .inl ⟨rfl,rfl⟩
 ·rintro x s ⟨rfl,n,d,h1,h11,h9,h10,h3,g0,hg,hc1⟩;simp [rW,h1,h11,h9,h10,h3,g0,za9];have hl0 : (tsA c).length ≤ 144 := by
   have := zgg (fun a : Atm => a.ts) 12 c.as hc.st;have := hc.sa;unfold tsA;omega
  refine zeW c.cs (fun x k => x ++ ts2 k) (tsA c) (fun n a s => T2 c a n s) (fun x s => x = .exit 2 ∧ ∃ n,T2 c (tsC c) n s) ?_ ?_ _ ?_ ?_
  ·rintro n a s hn ha ⟨d,h23,h21,h22,h3,hg,hc1⟩;have hw := zaB n (by have := hc.sc; omega);have hal : a.length ≤ 168 := by
    rw [ze8] at ha;have := zgg ts2 2 (c.cs.take n) (by simp [ts2]);rw [ha,List.length_append];have := hc.sc;simp at *;omega
   generalize hK : c.cs[n] = K;simp [rW,h23,h21,h22,h3,za9,zcm,hn,hK,cmF,tmE];refine znD (zfc (c' := s.c + 1) hg (by omega) fun id _ h2 => ?_) (by omega) (by simp only [zaR]; simp; omega) (by omega) ?_
   ·rw [Vse.T.zab,if_neg (by omega),Vse.T.zab,if_neg (by omega)]
   ·intro r hr1 hr2 hr3 hr4 _ _;refine ⟨hr1,?_⟩;simp [rW,h23,h21,h22,h3,hw,T2];rw [← zh0];simp only [ts2,zaw,List.map_cons,List.map_nil,tmE] at hr2 ⊢;exact ⟨hr2,by omega⟩
  ·rintro s ⟨d,h23,h21,h22,h3,hg,hc1⟩;rw [ze8] at hg;simp [rW,h23,h21,h22,h3,za9,T2,hc1];exact ⟨⟨_,rfl⟩,hg⟩
  ·simp [rW,h1,h11,h9,h10,h3,g0,T2,hc1,hg]
  ·rintro x s ⟨rfl,n,d,h23,h21,h22,h3,hg,hc1⟩;obtain ⟨rd,hz⟩ := zJr hg;simp [rW,h3,hz]
end Go.Proofs.YtimgcabgophnfaaGreat
end
