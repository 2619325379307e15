/- The constraints of a homomorphism; the program's search as a search of W26. -/
import Derived.Test.YtimgcabgophnfaaGreatPj
import Derived.KernelRfl
import Derived.IntWalk
import Derived.Test.YtimgcabgophnfaaGreatFc
set_option linter.all false
section
namespace Go.Proofs.YtimgcabgophnfaaGreat
open Go Go.Vse Go.Vse.Sm
set_option maxRecDepth 100000
set_option maxHeartbeats 1000000
set_option linter.all false
def tI (ns : List Str) (h : Nat → Trm) : Trm → Trm
 | .cst n => .cst n
 | .var v => h (vix ns v)
def fullA (ns : List Str) (b : CQ) (x : Atm) (h : Nat → Trm) : Prop := ∃ y ∈ b.as,x.r = y.r ∧ x.neg = y.neg ∧ x.ts.map (tI ns h) = y.ts
def zfX (ns : List Str) (b : CQ) (k : Cm) (h : Nat → Trm) : Prop := zjW b ⟨k.op,tI ns h k.l,tI ns h k.r⟩ = true
abbrev Kd (a : CQ) : Type := {x // x ∈ a.as} ⊕ {k // k ∈ a.cs}
theorem zlz (f : Trm → Trm) : ∀ l : List Trm,∀ p ∈ l.zip (l.map f),p.2 = f p.1
 | [],p,h => by simp at h
 | x :: l,p,h => by
  simp only [List.map_cons,List.zip_cons_cons,List.mem_cons] at h;rcases h with rfl | h
  ·rfl
  ·exact zlz f l p h
theorem zn9 (f : Trm → Trm) : ∀ l m : List Trm,l.length = m.length → (∀ p ∈ l.zip m,f p.1 = p.2) → l.map f = m
 | [],[],_,_ => rfl
 | [],_ :: _,h,_ => by simp at h
 | _ :: _,[],h,_ => by simp at h
 | x :: l,y :: m,h,h2 => by
  simp only [List.zip_cons_cons] at h2;rw [List.map_cons,zn9 f l m (by simpa using h) fun p hp => h2 p (by simp [hp])];rw [show f x = y from h2 (x,y) (by simp)]
theorem zgQ {ns : List Str} {im : List Trm} {asg : List Bool} {h : Nat → Trm} (he : Ext im asg h) {t : Trm} (ht : (zcZ ns im asg t).2 = true) : (zcZ ns im asg t).1 = tI ns h t := by
 cases t with
 | cst n => rfl
 | var v => exact (he _ ht).symm
theorem zmh {ns : List Str} {im : List Trm} {asg : List Bool} {ts : List Trm} (h : ∀ u ∈ nums ns ts,asg.getD u false = true) {t : Trm} (ht : t ∈ ts) (hi : InV ns t) : (zcZ ns im asg t).2 = true := by
 cases t with
 | cst n => rfl
 | var v => exact h _ (zrD.2 ⟨_,ht,hi.2 v rfl,hi.1,rfl⟩)
theorem zyC {ns : List Str} {h h' : Nat → Trm} {ts : List Trm} (he : ∀ u ∈ nums ns ts,h u = h' u) {t : Trm} (ht : t ∈ ts) (hi : InV ns t) : tI ns h t = tI ns h' t := by
 cases t with
 | cst n => rfl
 | var v => exact he _ (zrD.2 ⟨_,ht,hi.2 v rfl,hi.1,rfl⟩)
def csp (ns : List Str) (a b : CQ) (hv : zfb ns a) : Csp (Kd a) where
 vars := fun k => match k with
  | .inl x => nums ns x.1.ts
  | .inr k => nums ns (ts2 k.1)
 full := fun k h => match k with
  | .inl x => fullA ns b x.1 h
  | .inr k => zfX ns b k.1 h
 ok := fun k im asg => match k with
  | .inl x => b.as.any (zht ns im asg x.1) = true
  | .inr k => okK ns im asg b k.1 = true
 p1 := by
  rintro (⟨x,hx⟩ | ⟨k,hk⟩) im asg h he hf
  ·obtain ⟨y,hy,h1,h2,h3⟩ := hf;refine List.any_eq_true.2 ⟨y,hy,?_⟩;unfold zht;simp only [Bool.and_eq_true,beq_iff_eq,decide_eq_true_eq,List.all_eq_true,Bool.not_eq_true',Bool.and_eq_false_iff];refine ⟨h1,h2,by rw [← h3,List.length_map],fun p hp => ?_⟩;rw [← h3] at hp;have e := zlz _ _ p hp;cases hz : (zcZ ns im asg p.1).2 with
   | false => exact .inl rfl
   | true =>
    refine .inr ?_;rw [zgQ he hz,e];simp [zmq]
  ·have hf : zfX ns b k h := hf;show okK ns im asg b k = true;unfold okK;cases hl : (zcZ ns im asg k.l).2 with
   | false => rfl
   | true =>
    cases hr : (zcZ ns im asg k.r).2 with
    | false => rfl
    | true =>
     rw [zgQ he hl,zgQ he hr];unfold zfX at hf;rw [hf]; rfl
 p2 := by
  rintro (⟨x,hx⟩ | ⟨k,hk⟩) im asg h hu hok he
  ·obtain ⟨y,hy,hf⟩ := List.any_eq_true.1 hok;unfold zht at hf;simp only [Bool.and_eq_true,beq_iff_eq,decide_eq_true_eq,List.all_eq_true,Bool.not_eq_true',Bool.and_eq_false_iff] at hf;obtain ⟨h1,h2,h3,h4⟩ := hf;refine ⟨y,hy,h1,h2,zn9 _ _ _ h3 fun p hp => ?_⟩;have hz := zmh (im := im) hu (List.of_mem_zip hp).1 (hv.va x hx _ (List.of_mem_zip hp).1);rcases h4 p hp with h5 | h5
   ·rw [hz] at h5; cases h5
   ·rw [zgQ he hz] at h5;simpa [zmq] using h5
  ·have hok : okK ns im asg b k = true := hok;show zfX ns b k h;have hl := zmh (im := im) (t := k.l) hu (by simp [ts2]) (hv.vc k hk).1;have hr := zmh (im := im) (t := k.r) hu (by simp [ts2]) (hv.vc k hk).2;unfold okK at hok;rw [hl,hr,zgQ he hl,zgQ he hr] at hok;unfold zfX;simpa using hok
 p3 := by
  rintro (⟨x,hx⟩ | ⟨k,hk⟩) h h' he hf
  ·obtain ⟨y,hy,h1,h2,h3⟩ := hf;refine ⟨y,hy,h1,h2,?_⟩;rw [← h3];refine List.map_congr_left fun t ht => ?_
   exact (zyC he ht (hv.va x hx t ht)).symm
  ·have hf : zfX ns b k h := hf;show zfX ns b k h';unfold zfX at *;rw [← zyC (t := k.l) he (by simp [ts2]) (hv.vc k hk).1,← zyC (t := k.r) he (by simp [ts2]) (hv.vc k hk).2];exact hf
theorem zBc {ns : List Str} {a : CQ} {i v : Nat} : i ∈ fA ns a a.as.length v ↔ ∃ h : i < a.as.length,v ∈ nums ns a.as[i].ts := by
 unfold fA;rw [List.mem_filter,List.mem_range];unfold zxR;constructor
 ·rintro ⟨h,h2⟩;rw [List.getElem?_eq_getElem h] at h2;exact ⟨h,by simpa using h2⟩
 ·rintro ⟨h,h2⟩;rw [List.getElem?_eq_getElem h];exact ⟨h,by simpa using h2⟩
theorem zBk {ns : List Str} {a : CQ} {i v : Nat} : i ∈ fC ns a a.cs.length v ↔ ∃ h : i < a.cs.length,v ∈ nums ns (ts2 a.cs[i]) := by
 unfold fC;rw [List.mem_filter,List.mem_range];unfold zwN;constructor
 ·rintro ⟨h,h2⟩;rw [List.getElem?_eq_getElem h] at h2;exact ⟨h,by simpa using h2⟩
 ·rintro ⟨h,h2⟩;rw [List.getElem?_eq_getElem h];exact ⟨h,by simpa using h2⟩
theorem zns {ns : List Str} {im : List Trm} {asg : List Bool} {a b : CQ} {i : Nat} (h : i < a.as.length) : okA ns im asg a b i = b.as.any (zht ns im asg a.as[i]) := by
 unfold okA; rw [List.getElem?_eq_getElem h]
theorem znJ {ns : List Str} {im : List Trm} {asg : List Bool} {a b : CQ} {i : Nat} (h : i < a.cs.length) : okC ns im asg a b i = okK ns im asg b a.cs[i] := by
 unfold okC; rw [List.getElem?_eq_getElem h]
def zo4 (ns : List Str) (a b : CQ) (v : Nat) (im : List Trm) (asg : List Bool) : Bool := acc ns im asg a b (fA ns a a.as.length v) (fC ns a a.cs.length v)
theorem zmV {ns : List Str} {a b : CQ} (hv : zfb ns a) (v : Nat) (im : List Trm) (asg : List Bool) : zo4 ns a b v im asg = true ↔ ∀ k,v ∈ (csp ns a b hv).vars k → (csp ns a b hv).ok k im asg := by
 unfold zo4 acc;rw [Bool.and_eq_true,List.all_eq_true,List.all_eq_true];constructor
 ·rintro ⟨h1,h2⟩ (⟨x,hx⟩ | ⟨k,hk⟩) hk2
  ·obtain ⟨i,hi,rfl⟩ := List.getElem_of_mem hx;have := h1 i (zBc.2 ⟨hi,hk2⟩);rw [zns hi] at this;exact this
  ·obtain ⟨i,hi,rfl⟩ := List.getElem_of_mem hk;have := h2 i (zBk.2 ⟨hi,hk2⟩);rw [znJ hi] at this;exact this
 ·intro h;refine ⟨fun i hi => ?_,fun i hi => ?_⟩
  ·obtain ⟨h1,h2⟩ := zBc.1 hi;rw [zns h1];exact h (.inl ⟨a.as[i],List.getElem_mem h1⟩) h2
  ·obtain ⟨h1,h2⟩ := zBk.1 hi;rw [znJ h1];exact h (.inr ⟨a.cs[i],List.getElem_mem h1⟩) h2
theorem zv9 {ns : List Str} {a b : CQ} (hv : zfb ns a) (im : List Trm) (asg : List Bool) : acc ns im asg a b (List.range a.as.length) (List.range a.cs.length) = true ↔ ∀ k,(csp ns a b hv).ok k im asg := by
 unfold acc;rw [Bool.and_eq_true,List.all_eq_true,List.all_eq_true];constructor
 ·rintro ⟨h1,h2⟩ (⟨x,hx⟩ | ⟨k,hk⟩)
  ·obtain ⟨i,hi,rfl⟩ := List.getElem_of_mem hx;have := h1 i (by simpa using hi);rw [zns hi] at this;exact this
  ·obtain ⟨i,hi,rfl⟩ := List.getElem_of_mem hk;have := h2 i (by simpa using hi);rw [znJ hi] at this;exact this
 ·intro h;refine ⟨fun i hi => ?_,fun i hi => ?_⟩
  ·have h1 : i < a.as.length := by simpa using hi
   rw [zns h1];exact h (.inl ⟨a.as[i],List.getElem_mem h1⟩)
  ·have h1 : i < a.cs.length := by simpa using hi
   rw [znJ h1];exact h (.inr ⟨a.cs[i],List.getElem_mem h1⟩)
theorem zBR (ns : List Str) (a b : CQ) (cand : List Trm) : ∀ (vs : List Nat) (im : List Trm) (asg : List Bool),zgo ns a b cand (fA ns a a.as.length) (fC ns a a.cs.length) vs im asg = zgH (zo4 ns a b) cand vs im asg
 | [],im,asg => rfl
 | v :: vs,im,asg => by
  simp only [zgo,zgH]
  congr 1
  funext t
  rw [zBR ns a b cand vs];rfl
theorem zvO (ns : List Str) (a b : CQ) (cand : List Trm) : stepG ns a b cand (fA ns a a.as.length) (fC ns a a.cs.length) = zc3 (zo4 ns a b) cand := by
 funext st g
 unfold stepG zc3;rw [zBR]
 first | done | (cases zgH (zo4 ns a b) cand g st.1 st.2 <;> rfl)
theorem zyQ {ns : List Str} {a b : CQ} (hv : zfb ns a) (asg : List Bool) : zjh (csp ns a b hv) ns.length asg (zd6 asg ns a) where
 srt := zDm
 rng := fun g hg v hvg => ((zi7 g hg).2.2 v hvg).1
 dis := zrZ
 sep := by
  rintro (⟨x,hx⟩ | ⟨k,hk⟩) g hg h
  ·exact zrJ (List.mem_append_left _ (List.mem_map.2 ⟨x,hx,rfl⟩)) hg h
  ·exact zrJ (List.mem_append_right _ (List.mem_map.2 ⟨k,hk,rfl⟩)) hg h
end Go.Proofs.YtimgcabgophnfaaGreat
end
section
namespace Go.Proofs.YtimgcabgophnfaaGreat
open Go Go.Vse Go.Vse.Sm
set_option maxRecDepth 100000
set_option maxHeartbeats 1000000
set_option linter.all false
structure Sol (ns : List Str) (a b : CQ) (hd : List Str) (cand : List Trm) (hv : zfb ns a) (h : Nat → Trm) : Prop where
 full : ∀ k,(csp ns a b hv).full k h
 cd : ∀ v,v < ns.length → h v ∈ cand
 hd : ∀ x ∈ hd,x ∈ ns → h (vix ns x) = .var x
structure Fxd (ns : List Str) (cand : List Trm) (hd : List Str) (st : List Trm × List Bool) : Prop where
 l1 : st.1.length = ns.length
 l2 : st.2.length = ns.length
 asn : ∀ v,st.2.getD v false = true → ∃ x ∈ hd,x ∈ ns ∧ vix ns x = v ∧ fnL st.1 v = .var x ∧ Trm.var x ∈ cand
theorem zv1 {cand : List Trm} {x : Str} : cand.any (fun t => za0 t (.var x)) = true ↔ Trm.var x ∈ cand := by
 rw [List.any_eq_true];constructor
 ·rintro ⟨t,ht,h⟩;rw [← (zeU _ _).1 h]; exact ht
 ·intro h;exact ⟨_,h,(zeU _ _).2 rfl⟩
theorem zJV {ns : List Str} {x y : Str} (hx : x ∈ ns) (hy : y ∈ ns) (h : vix ns x = vix ns y) : x = y := by
 have h1 := zlO hx;have h2 := zlO hy;rw [← h1,← h2]
 congr 1
theorem zDT {ns : List Str} {cand : List Trm} {hd : List Str} {st st' : List Trm × List Bool} {x : Str} (hx : x ∈ hd) (H : Fxd ns cand hd st) (h : fixF ns cand st x = .inl st') : Fxd ns cand hd st' ∧ (x ∈ ns → st'.2.getD (vix ns x) false = true) ∧ ∀ v,st.2.getD v false = true → st'.2.getD v false = true := by
 unfold fixF at h;split at h
 ·rename_i hm;split at h
  ·rename_i hc;cases h;have hl := zgn hm;refine ⟨⟨by simpa using H.l1,by simpa using H.l2,fun v hv => ?_⟩,fun _ => zeA _ _ _ _ (by rw [H.l2]; exact hl),fun v hv => ?_⟩
   ·by_cases e : vix ns x = v
    ·subst e;exact ⟨x,hx,hm,rfl,zeA _ _ _ _ (by rw [H.l1]; exact hl),zv1.1 hc⟩
    ·simp only at hv;rw [getD_set_ne _ _ _ _ _ e] at hv;obtain ⟨y,h1,h2,h3,h4,h5⟩ := H.asn v hv;exact ⟨y,h1,h2,h3,(getD_set_ne _ _ _ _ _ e).trans h4,h5⟩
   ·by_cases e : vix ns x = v
    ·subst e;exact zeA _ _ _ _ (by rw [H.l2]; exact hl)
    ·exact (getD_set_ne _ _ _ _ _ e).trans hv
  ·cases h
 ·rename_i hm;cases h;exact ⟨H,fun h => absurd h hm,fun _ h => h⟩
theorem zoX {ns : List Str} {cand : List Trm} {hd : List Str} : ∀ (l : List Str) (st st' : List Trm × List Bool),(∀ x ∈ l,x ∈ hd) → Fxd ns cand hd st → zcG (fixF ns cand) st l = .inl st' → Fxd ns cand hd st' ∧ (∀ x ∈ l,x ∈ ns → st'.2.getD (vix ns x) false = true) ∧ ∀ v,st.2.getD v false = true → st'.2.getD v false = true
 | [],st,st',_,H,h => by
  cases h;exact ⟨H,by simp,fun _ h => h⟩
 | x :: l,st,st',hl,H,h => by
  rw [zgO] at h;cases hf : fixF ns cand st x with
  | inr r => rw [hf] at h; cases h
  | inl s1 =>
   rw [hf] at h;obtain ⟨k1,k2,k3⟩ := zDT (hl x (by simp)) H hf;obtain ⟨k4,k5,k6⟩ := zoX l s1 st' (fun y hy => hl y (by simp [hy])) k1 h;refine ⟨k4,fun y hy hyn => ?_,fun v hv => k6 v (k3 v hv)⟩;rcases List.mem_cons.1 hy with rfl | hy
   ·exact k6 _ (k2 hyn)
   ·exact k5 y hy hyn
theorem zuz {ns : List Str} {cand : List Trm} : ∀ (l : List Str) (st : List Trm × List Bool) (r : Unit),zcG (fixF ns cand) st l = .inr r → ∃ x ∈ l,x ∈ ns ∧ Trm.var x ∉ cand
 | [],st,r,h => by cases h
 | x :: l,st,r,h => by
  rw [zgO] at h;cases hf : fixF ns cand st x with
  | inr r1 =>
   unfold fixF at hf;split at hf
   ·rename_i hm;split at hf
    ·cases hf
    ·rename_i hc;exact ⟨x,by simp,hm,fun h2 => hc (zv1.2 h2)⟩
   ·cases hf
  | inl s1 =>
   rw [hf] at h;obtain ⟨y,h1,h2⟩ := zuz l s1 r h;exact ⟨y,by simp [h1],h2⟩
section
variable {ns : List Str} {a b : CQ} {cand : List Trm} {hd : List Str} (hv : zfb ns a)
def ziI (ns : List Str) : List Trm × List Bool := (List.replicate ns.length (.var []),List.replicate ns.length false)
theorem zFN : Fxd ns cand hd (ziI ns) :=
 ⟨by simp [ziI],by simp [ziI],fun v hv => by
  simp only [ziI,List.getD_eq_getElem?_getD,List.getElem?_replicate] at hv;split at hv <;> simp at hv⟩
def zm7 (ns : List Str) (a b : CQ) (hd : List Str) (cand : List Trm) : Option (List Trm) := zni ns a b cand (fA ns a a.as.length) (fC ns a a.cs.length) (zcG (fixF ns cand) (ziI ns) hd)
theorem zye {st : List Trm × List Bool} (H : Fxd ns cand hd st) : zlW ns.length st.1 st.2 (zd6 st.2 ns a) st :=
 ⟨H.l1,H.l2,fun v hv => ⟨hv,rfl⟩,fun g hg v hvg => ((zi7 g hg).2.2 v hvg).2⟩
theorem zJu : ∀ k,∀ u ∈ (csp ns a b hv).vars k,u < ns.length := by
 rintro (⟨x,hx⟩ | ⟨k,hk⟩) u hu
 ·exact zga _ [] (by simp) u hu
 ·exact zga _ [] (by simp) u hu
theorem zAw {im : List Trm} (h : zm7 ns a b hd cand = some im) : im.length = ns.length ∧ Sol ns a b hd cand hv (fnL im) := by
 unfold zm7 at h;cases hf : zcG (fixF ns cand) (ziI ns) hd with
 | inr r => rw [hf] at h; simp [zni] at h
 | inl st =>
  rw [hf] at h;simp only [zni] at h;split at h
  ·rename_i hacc;obtain ⟨HF,hall,_⟩ := zoX hd (ziI ns) st (fun x hx => hx) zFN hf;simp only [zxo,zvO] at h;cases hg : zcG (zc3 (zo4 ns a b) cand) st (zd6 st.2 ns a) with
   | inr r => rw [hg] at h; cases h
   | inl r =>
    rw [hg] at h;cases h;obtain ⟨k1,k2,k3,k4,k5⟩ := zin (csp ns a b hv) (fun v im asg hc => (zmV hv v im asg).1 hc) _ st r (zyQ hv st.2) (zye HF) hg;refine ⟨k1,⟨fun k => ?_,fun v hvn => ?_,fun x hx hxn => ?_⟩⟩
    ·by_cases hex : ∃ v ∈ (csp ns a b hv).vars k,st.2.getD v false = false
     ·obtain ⟨v,hvk,hz⟩ := hex;obtain ⟨g,hg,hvg⟩ := zmt (a := a) (zJu hv k v hvk) hz;exact k5 k g hg ⟨v,hvg,hvk⟩
     ·refine (csp ns a b hv).p2 k st.1 st.2 _ (fun u hu => ?_) ((zv9 hv _ _).1 hacc k) fun v hz => k2 v hz
      cases hz : st.2.getD u false with
      | true => rfl
      | false => exact absurd ⟨u,hu,hz⟩ hex
    ·cases hz : st.2.getD v false with
     | true =>
      obtain ⟨x,h1,h2,h3,h4,h5⟩ := HF.asn v hz;rw [k2 v hz,h4]; exact h5
     | false =>
      obtain ⟨g,hg,hvg⟩ := zmt (a := a) hvn hz;exact k4 g hg v hvg
    ·have hz := hall x hx hxn;obtain ⟨y,h1,h2,h3,h4,h5⟩ := HF.asn _ hz;rw [k2 _ hz,h4,zJV h2 hxn h3]
  ·cases h
theorem zrW (hs : cand.Pairwise tLt) {h : Nat → Trm} (H : Sol ns a b hd cand hv h) : ∃ im,zm7 ns a b hd cand = some im ∧ ¬ zmy (List.range ns.length) h (fnL im) := by
 unfold zm7;cases hf : zcG (fixF ns cand) (ziI ns) hd with
 | inr r =>
  obtain ⟨x,h1,h2,h3⟩ := zuz hd (ziI ns) r hf;exact absurd (by rw [← H.hd x h1 h2]; exact H.cd _ (zgn h2)) h3
 | inl st =>
  obtain ⟨HF,hall,_⟩ := zoX hd (ziI ns) st (fun x hx => hx) zFN hf;have hext : Ext st.1 st.2 h := fun v hz => by
   obtain ⟨x,h1,h2,h3,h4,h5⟩ := HF.asn v hz;rw [← h3,H.hd x h1 h2,h3]; exact h4.symm
  have hacc := (zv9 hv st.1 st.2).2 fun k => (csp ns a b hv).p1 k _ _ h hext (H.full k)
  obtain ⟨r,hr,hl⟩ := zsY (csp ns a b hv) (zmV hv) hs h hext (zd6 st.2 ns a) st (zyQ hv st.2) (zye HF) (fun g hg v hvg => H.cd v ((zi7 g hg).2.2 v hvg).1) (fun k g hg hk => H.full k);have hk := zin (csp ns a b hv) (fun v im asg hc => (zmV hv v im asg).1 hc) _ st r (zyQ hv st.2) (zye HF) hr;refine ⟨r.1,?_,?_⟩
  ·simp only [zni,hacc,if_true,zxo,zvO,hr]
  ·rintro ⟨w,hw,hwl,hwe⟩;have hwn : w < ns.length := by simpa using hw
   cases hz : st.2.getD w false with
   | true =>
    rw [hk.2.1 w hz,hext w hz] at hwl;exact zej _ hwl
   | false =>
    obtain ⟨g,hg,hwg⟩ := zmt (a := a) hwn hz;refine hl g hg ⟨w,hwg,hwl,fun u hu hlt => hwe u ?_ hlt⟩;simpa using ((zi7 g hg).2.2 u hu).1
end
theorem zNu {n : Nat} {h h' : Nat → Trm} (h1 : ¬ zmy (List.range n) h h') (h2 : ¬ zmy (List.range n) h' h) : ∀ v,v < n → h v = h' v := by
 intro v
 induction v using Nat.strongRecOn with
 | ind v ih =>
  intro hv
  by_cases e : h v = h' v
  ·exact e
  ·by_cases hlt : tLt (h v) (h' v)
   ·exact absurd ⟨v,by simpa using hv,hlt,fun u hu huv => ih u huv (by omega)⟩ h1
   ·exact absurd ⟨v,by simpa using hv,zhZ e hlt,fun u hu huv => (ih u huv (by omega)).symm⟩ h2
end Go.Proofs.YtimgcabgophnfaaGreat
end
section
namespace Go.Proofs.YtimgcabgophnfaaGreat
open Go Go.Vse Go.Vse.Sm
set_option maxRecDepth 100000
set_option maxHeartbeats 1000000
set_option linter.all false
theorem zvx : ∀ l m : List Trm,zgp l m = 0 ↔ l = m
 | [],[] => by simp [zgp]
 | [],y :: m => by simp [zgp]; omega
 | x :: l,[] => by simp [zgp]; omega
 | x :: l,y :: m => by
  simp only [zgp]
  by_cases h : x = y
  ·subst h;rw [if_pos ((zoA x x).2 rfl),zvx l m];simp
  ·have h2 : ¬ zaK x y = 0 := fun e => h ((zoA x y).1 e)
   rw [if_neg h2];simp [h2,h]
theorem zqH (x y : Atm) : zfE x y = true ↔ x.r = y.r ∧ x.neg = y.neg ∧ x.ts = y.ts := by
 unfold zfE zyh;rw [beq_iff_eq]
 by_cases h : x.r = y.r
 ·rw [if_pos ((ztz _ _).2 h)]
  by_cases h2 : x.neg = y.neg
  ·rw [if_pos h2,zvx]; simp [h,h2]
  ·rw [if_neg h2]; simp only [h2,false_and,and_false,iff_false]; split <;> omega
 ·have h2 : ¬ zd7 x.r y.r = 0 := fun e => h ((ztz _ _).1 e)
  rw [if_neg h2];simp [h,h2]
theorem zjY (x y : Trm) : decide (x = y) = decide (y = x) := by
 by_cases h : x = y
 ·subst h; rfl
 ·have : ¬ y = x := fun e => h e.symm
  simp [h,this]
theorem zqo (x y : Cm) : zfS x y = zfA x y := by
 unfold zfS zfA;have e : (x.op == y.op) = (y.op == x.op) := by
  by_cases h : x.op = y.op
  ·rw [h]
  ·have h2 : ¬ y.op = x.op := fun e => h e.symm
   rw [beq_eq_false_iff_ne.2 h,beq_eq_false_iff_ne.2 h2]
 rw [e];simp only [zmq];rw [zjY x.l y.l,zjY x.r y.r,zjY x.l y.r,zjY x.r y.l];cases decide (y.l = x.l) <;> cases decide (y.r = x.r) <;> cases decide (y.r = x.l) <;> cases decide (y.l = x.r) <;> simp
theorem zpu (s : Str) : ∀ (ns : List Str) (im : List Trm),s ∈ ns → im.length ≤ ns.length → img ns im (.var s) = if vix ns s < im.length then some (fnL im (vix ns s)) else none
 | [],im,h,_ => by simp at h
 | x :: ns,[],h,_ => by simp [img]
 | x :: ns,t :: im,h,hl => by
  by_cases e : x = s
  ·subst e;have : vix (x :: ns) x = 0 := by simp [vix,List.findIdx_cons]
   rw [this];simp [img,fnL]
  ·have hb : (x == s) = false := by simpa using e
   have hb2 : (s == x) = false := by simpa using fun h => e h.symm
   have hs : s ∈ ns := by
    rcases List.mem_cons.1 h with h | h
    ·exact absurd h.symm e
    ·exact h
   have hvx : vix (x :: ns) s = vix ns s + 1 := by simp [vix,List.findIdx_cons,hb2]
   have ih := zpu s ns im hs (by simpa using hl);have e2 : img (x :: ns) (t :: im) (.var s) = img ns im (.var s) := by simp [img,hb]
   rw [e2,ih,hvx];simp [fnL]
theorem zlK {ns : List Str} {im : List Trm} (hl : im.length ≤ ns.length) {h : Nat → Trm} (he : ∀ v,v < im.length → h v = fnL im v) {t : Trm} (hi : InV ns t) (ht : isI ns im t = true) : imD ns im t = tI ns h t := by
 cases t with
 | cst n => rfl
 | var s =>
  have hm := hi.2 s rfl;unfold isI at ht;unfold imD;rw [zpu s ns im hm hl] at ht ⊢;split at ht
  ·rename_i h2;rw [if_pos h2];exact (he _ h2).symm
  ·cases ht
theorem zqM {ns : List Str} {im : List Trm} (hl : im.length = ns.length) {t : Trm} (hi : InV ns t) : isI ns im t = true := by
 cases t with
 | cst n => rfl
 | var s =>
  have hm := hi.2 s rfl;unfold isI;rw [zpu s ns im hm (by omega),if_pos (by have := zgn hm; omega)];rfl
theorem zuj {ns : List Str} {a b : CQ} (hv : zfb ns a) {im : List Trm} (hl : im.length ≤ ns.length) {h : Nat → Trm} (he : ∀ v,v < im.length → h v = fnL im v) (hf : ∀ k,(csp ns a b hv).full k h) : zg4 a b ns im = true := by
 unfold zg4;rw [Bool.and_eq_true,List.all_eq_true,List.all_eq_true];refine ⟨fun x hx => ?_,fun k hk => ?_⟩
 ·unfold atP;cases hz : x.ts.all (isI ns im) with
  | false => rfl
  | true =>
   rw [List.all_eq_true] at hz;obtain ⟨y,hy,h1,h2,h3⟩ := hf (.inl ⟨x,hx⟩);have : b.as.any (zfE (xA ns im x)) = true := by
    refine List.any_eq_true.2 ⟨y,hy,(zqH _ _).2 ⟨h1,h2,?_⟩⟩;rw [← h3];exact List.map_congr_left fun t ht => zlK hl he (hv.va x hx t ht) (hz t ht)
   rw [this]; rfl
 ·unfold cmP;have hfk : zfX ns b k h := hf (.inr ⟨k,hk⟩);unfold zfX zjW at hfk;cases h1 : isI ns im k.l with
  | false => rfl
  | true =>
   cases h2 : isI ns im k.r with
   | false => rfl
   | true =>
    have e : xC ns im k = ⟨k.op,tI ns h k.l,tI ns h k.r⟩ := by
     unfold xC;rw [zlK hl he (hv.vc k hk).1 h1,zlK hl he (hv.vc k hk).2 h2]
    have e2 : (zfS ⟨k.op,tI ns h k.l,tI ns h k.r⟩) = zfA ⟨k.op,tI ns h k.l,tI ns h k.r⟩ := funext fun y => zqo _ y
    rw [e,e2]
    revert hfk
    cases zh4 ⟨k.op,tI ns h k.l,tI ns h k.r⟩ <;> cases b.cs.any (zfA ⟨k.op,tI ns h k.l,tI ns h k.r⟩) <;> simp
theorem full_of {ns : List Str} {a b : CQ} (hv : zfb ns a) {im : List Trm} (hl : im.length = ns.length) (hp : zg4 a b ns im = true) : ∀ k,(csp ns a b hv).full k (fnL im) := by
 unfold zg4 at hp;rw [Bool.and_eq_true,List.all_eq_true,List.all_eq_true] at hp;rintro (⟨x,hx⟩ | ⟨k,hk⟩)
 ·have h := hp.1 x hx;unfold atP at h;have hz : x.ts.all (isI ns im) = true := List.all_eq_true.2 fun t ht => zqM hl (hv.va x hx t ht)
  rw [hz] at h;obtain ⟨y,hy,h2⟩ := List.any_eq_true.1 (by simpa using h);obtain ⟨h3,h4,h5⟩ := (zqH _ _).1 h2;refine ⟨y,hy,h3,h4,?_⟩;rw [← h5];exact List.map_congr_left fun t ht => (zlK (by omega) (fun _ _ => rfl) (hv.va x hx t ht) (zqM hl (hv.va x hx t ht))).symm
 ·have h := hp.2 k hk;show zfX ns b k (fnL im);unfold cmP at h;unfold zfX zjW;have h1 := zqM hl (hv.vc k hk).1;have h2 := zqM hl (hv.vc k hk).2;have e : xC ns im k = ⟨k.op,tI ns (fnL im) k.l,tI ns (fnL im) k.r⟩ := by
   unfold xC;rw [zlK (by omega) (fun _ _ => rfl) (hv.vc k hk).1 h1,zlK (by omega) (fun _ _ => rfl) (hv.vc k hk).2 h2]
  have e2 : (zfS ⟨k.op,tI ns (fnL im) k.l,tI ns (fnL im) k.r⟩) = zfA ⟨k.op,tI ns (fnL im) k.l,tI ns (fnL im) k.r⟩ := funext fun y => zqo _ y
  rw [h1,h2,e,e2] at h
  revert h
  cases zh4 ⟨k.op,tI ns (fnL im) k.l,tI ns (fnL im) k.r⟩ <;> cases b.cs.any (zfA ⟨k.op,tI ns (fnL im) k.l,tI ns (fnL im) k.r⟩) <;> simp
theorem zsL {im : List Trm} {t : Trm} {v : Nat} (h : v < im.length) : fnL (im ++ [t]) v = fnL im v := by
 simp [fnL,List.getD_eq_getElem?_getD,List.getElem?_append,h]
theorem zry {im : List Trm} {t : Trm} : fnL (im ++ [t]) im.length = t := by
 simp [fnL,List.getD_eq_getElem?_getD]
def hdC (hd : List Str) (x : Str) (t : Trm) : Bool := hd.any (· == x) && tv t != x
theorem zk4 {ns : List Str} {a b : CQ} {tg : List Trm} {hd : List Str} : ∀ (k : Nat) (im im' : List Trm),im.length + k = ns.length → zdN a b ns tg hd k im = some im' →
  im'.length = ns.length ∧ zg4 a b ns im' = true ∧ (∀ v,v < im.length → fnL im' v = fnL im v) ∧ ∀ v (hv : v < ns.length),im.length ≤ v → fnL im' v ∈ tg ∧ hdC hd ns[v] (fnL im' v) = false
 | 0,im,im',hl,h => by
  unfold zdN at h;have hn : ns[im.length]? = none := List.getElem?_eq_none (by omega);split at h
  ·rename_i hp;rw [hn] at h;cases h;exact ⟨by omega,hp,fun _ _ => rfl,fun v hv h1 => by omega⟩
  ·cases h
 | k + 1,im,im',hl,h => by
  unfold zdN at h;have hlt : im.length < ns.length := by omega
  have hn : ns[im.length]? = some ns[im.length] := List.getElem?_eq_getElem hlt;split at h
  ·rw [hn] at h;simp only at h;obtain ⟨t,ht,h⟩ := List.exists_of_findSome?_eq_some h;split at h
   ·cases h
   ·rename_i hc;obtain ⟨k1,k2,k3,k4⟩ := zk4 k (im ++ [t]) im' (by simp; omega) h;refine ⟨k1,k2,fun v hv => (k3 v (by simp; omega)).trans (zsL hv),fun v hv hv2 => ?_⟩
    by_cases e : v = im.length
    ·subst e;have e2 : fnL im' im.length = t := (k3 _ (by simp)).trans zry
     rw [e2];exact ⟨ht,by simpa [hdC] using hc⟩
    ·exact k4 v hv (by simp; omega)
  ·cases h
theorem zto {ns : List Str} {a b : CQ} {tg : List Trm} {hd : List Str} (hv : zfb ns a) (hs : tg.Pairwise tLt) {h : Nat → Trm} (hf : ∀ k,(csp ns a b hv).full k h) (hc : ∀ v,v < ns.length → h v ∈ tg) (hh : ∀ v (hv : v < ns.length),hdC hd ns[v] (h v) = false) :
  ∀ (k : Nat) (im : List Trm),im.length + k = ns.length → (∀ v,v < im.length → h v = fnL im v) → ∃ im',zdN a b ns tg hd k im = some im' ∧ ¬ zmy (List.range ns.length) h (fnL im')
 | 0,im,hl,he => by
  have hn : ns[im.length]? = none := List.getElem?_eq_none (by omega);refine ⟨im,?_,?_⟩
  ·unfold zdN;rw [if_pos (zuj hv (by omega) he hf),hn]
  ·rintro ⟨w,hw,hwl,_⟩;rw [he w (by simp at hw; omega)] at hwl;exact zej _ hwl
 | k + 1,im,hl,he => by
  have hlt : im.length < ns.length := by omega
  have hn : ns[im.length]? = some ns[im.length] := List.getElem?_eq_getElem hlt;obtain ⟨r0,h0,hl0⟩ := zto hv hs hf hc hh k (im ++ [h im.length]) (by simp; omega) (fun v hvl => by
   by_cases e : v = im.length
   ·subst e; exact zry.symm
   ·have : v < im.length := by simp at hvl; omega
    rw [zsL this]; exact he v this)
  have hc0 := hh _ hlt;obtain ⟨t,r,ht,hft,hfr,htl⟩ := zmx (fun t => if hdC hd ns[im.length] t = true then none else zdN a b ns tg hd k (im ++ [t])) tg hs (h im.length) (hc _ hlt) r0 (by simp only [hc0]; exact h0);refine ⟨r,?_,?_⟩
  ·unfold zdN;rw [if_pos (zuj hv (by omega) he hf),hn];exact hft
  ·split at hfr
   ·cases hfr
   ·have hk := (zk4 k (im ++ [t]) r (by simp; omega) hfr).2.2.1;have hrt : fnL r im.length = t := (hk _ (by simp)).trans zry
    rintro ⟨w,hw,hwl,hwe⟩;rcases Nat.lt_trichotomy w im.length with h1 | h1 | h1
    ·rw [hk w (by simp; omega),zsL h1,← he w h1] at hwl;exact zej _ hwl
    ·subst h1;rw [hrt] at hwl;rcases htl with h2 | h2
     ·exact zej _ (zfL hwl h2)
     ·rw [h2] at hwl; exact zej _ hwl
    ·have e := hwe im.length (by simp; omega) h1;rw [hrt] at e;rw [← e,h0] at hfr;cases hfr;exact hl0 ⟨w,hw,hwl,hwe⟩
theorem zzo {l : List Str} (hn : l.Nodup) {i j : Nat} (hi : i < l.length) (hj : j < l.length) (h : l[i] = l[j]) : i = j := by
 rcases Nat.lt_trichotomy i j with h1 | h1 | h1
 ·exact absurd h (List.pairwise_iff_getElem.1 hn i j hi hj h1)
 ·exact h1
 ·exact absurd h.symm (List.pairwise_iff_getElem.1 hn j i hj hi h1)
theorem zwd {ns : List Str} (hnd : ns.Nodup) (hne : [] ∉ ns) {hd : List Str} {h : Nat → Trm} : (∀ v (hv : v < ns.length),hdC hd ns[v] (h v) = false) ↔ ∀ x ∈ hd,x ∈ ns → h (vix ns x) = .var x := by
  constructor
  · intro H x hx hxn;have h1 := H (vix ns x) (zgn hxn);rw [zlO hxn] at h1;unfold hdC at h1;have h2 : hd.any (· == x) = true := List.any_eq_true.2 ⟨x,hx,by simp⟩;rw [h2] at h1;have h3 : tv (h (vix ns x)) = x := by simpa using h1
    have hx0 : x ≠ [] := fun e => hne (by rw [← e]; exact hxn)
    cases ht : h (vix ns x) with
    | cst n => rw [ht] at h3; exact absurd h3.symm hx0
    | var s => rw [ht] at h3; rw [show s = x from h3]
  · intro H v hv;unfold hdC;cases h1 : hd.any (· == ns[v]) with
    | false => rfl
    | true =>
      obtain ⟨x,hx,he⟩ := List.any_eq_true.1 h1;have he : x = ns[v] := by simpa using he
      subst he;have h2 := H ns[v] hx (List.getElem_mem hv);have h3 : vix ns ns[v] = v := by
        have h4 := zlO (List.getElem_mem hv);exact zzo hnd _ _ h4
      rw [h3] at h2;rw [h2];simp [tv]
theorem zAJ (a b : CQ) (hd : List Str) (ha : zei a) (hb : zei b) : zla a b hd = zrP a b hd := by
 obtain ⟨hnd,hne⟩ := zkw a;have hv := zBF ha.toCqOk;have hs : (zhu b).Pairwise tLt := by
  rw [zuw]; exact zlo _ _ (by simp)
 have e1 : zla a b hd = zm7 (vrs a) a b hd (zhu b) := by
  unfold zla zm7;rw [zDk];rfl
 rw [e1];unfold zrP;generalize vrs a = ns at *;generalize zhu b = tg at *;have S2 : ∀ im,zdN a b ns tg hd ns.length [] = some im → im.length = ns.length ∧ Sol ns a b hd tg hv (fnL im) := by
  intro im h;obtain ⟨k1,k2,_,k4⟩ := zk4 ns.length [] im (by simp) h;exact ⟨k1,full_of hv k1 k2,fun v hvn => (k4 v hvn (by simp)).1,(zwd hnd hne).1 fun v hvn => (k4 v hvn (by simp)).2⟩
 have B2 : ∀ h,Sol ns a b hd tg hv h → ∃ im,zdN a b ns tg hd ns.length [] = some im ∧ ¬ zmy (List.range ns.length) h (fnL im) := fun h H =>
  zto hv hs H.full H.cd ((zwd hnd hne).2 H.hd) ns.length [] (by simp) (by simp)
 cases hp : zm7 ns a b hd tg with
 | none =>
  cases hr : zdN a b ns tg hd ns.length [] with
  | none => rfl
  | some im =>
   obtain ⟨im',h,_⟩ := zrW hv hs (S2 im hr).2;rw [hp] at h; cases h
 | some im =>
  obtain ⟨l1,H1⟩ := zAw hv hp;obtain ⟨im2,hr,hl⟩ := B2 _ H1;rw [hr];obtain ⟨l2,H2⟩ := S2 im2 hr;obtain ⟨im3,hp3,hl3⟩ := zrW hv hs H2;rw [hp] at hp3;cases hp3;have e := zNu hl hl3
  congr 1
  refine List.ext_getElem (by omega) fun v h1 h2 => ?_
  have := e v (by omega);simpa [fnL,List.getD_eq_getElem?_getD,h1,h2] using this
end Go.Proofs.YtimgcabgophnfaaGreat
end
section
namespace Go.Proofs.YtimgcabgophnfaaGreat
open Go Go.Vse Go.Vse.Sm
set_option maxRecDepth 100000
set_option maxHeartbeats 1000000
set_option linter.all false
theorem fn10 : pr.fn 10 = some g10 := by kernel_rfl
theorem eqT (t : Trm) : zbh [1,0,0,1] [D.f (.s (tv t)),D.f (.i .i64 (tk t)),D.f (.i .i64 (tn t)),D.f (.s [])] [D.f (.s (tv t)),D.f (.i .i64 (tk t)),D.f (.i .i64 (tn t)),D.f (.s [])] = some true := by
 simp [zbh]
theorem zGB (l : List Trm) (hl : l.length < 1000) : Ans pr 10 [.sl 4 (l.map tmF),zaW l] (.b true) := by
 refine zbN fn10 ?_;unfold g10;dsimp only [oR,oM,oN,oG,oH,oF,oL,oK,oI,oS,oZ,oD];simp [rW,st0,zae,zaO,zaM];refine zgu l.length (fun n s => s.tm.get 0 = some (.f (.sl 4 (l.map tmF))) ∧ s.tm.get 1 = some (.f (zaW l)) ∧ s.tm.get 5 = some (.f (.i .i64 n))) (fun x s => x = .exit 0) ?_ ?_ _ ?_ ?_
 ·rintro n s hn ⟨h0,h1,h5⟩;have hw := zaB n (by omega);have hx : l[n]? = some l[n] := List.getElem?_eq_getElem hn;have he := eqT l[n];simp [rW,h0,h1,h5,hn,zaM];refine zaC ?_;simp [rW,h0,h1,h5,hn,zbk,hx,tmE,hw,he]
 ·rintro s ⟨h0,h1,h5⟩;simp [rW,h0,h1,h5]
 ·simp [rW,st0,zae]
 ·rintro x s rfl;simp [rW,st0,zae]
theorem zzV : Ans pr 10 [.nils,.nils] (.b true) := by
 refine zbN fn10 ?_;unfold g10;dsimp only [oR,oM,oN,oG,oH,oF,oL,oK,oI,oS,oZ,oD];simp [rW,st0,zae];refine zgu 0 (fun n s => s.tm.get 0 = some (.f .nils) ∧ s.tm.get 1 = some (.f .nils) ∧ s.tm.get 5 = some (.f (.i .i64 n))) (fun x s => x = .exit 0) ?_ ?_ _ ?_ ?_
 ·intro n s hn; omega
 ·rintro s ⟨h0,h1,h5⟩;simp [rW,h0,h1,h5]
 ·simp [rW,st0,zae]
 ·rintro x s rfl;simp [rW,st0,zae]
end Go.Proofs.YtimgcabgophnfaaGreat
end
section
namespace Go.Proofs.YtimgcabgophnfaaGreat
open Go Go.Vse Go.Vse.Sm
set_option maxRecDepth 100000
set_option maxHeartbeats 1000000
set_option linter.all false
theorem fn24 : pr.fn 24 = some g24 := by kernel_rfl
theorem fn5 : pr.fn 5 = some g5 := by kernel_rfl
theorem fn6 : pr.fn 6 = some g6 := by kernel_rfl
theorem fn8 : pr.fn 8 = some g8 := by kernel_rfl
def zhv (a b : CQ) : CQ := ⟨a.as ++ b.as,a.cs ++ b.cs,true⟩
theorem CqN.and {n m : Nat} {a b : CQ} (ha : CqN n a) (hb : CqN m b) : CqN (n + m) (zhv a b) := by
 refine ⟨fun x hx => ?_,fun x hx => ?_,?_,?_,by simp [zhv,ha.ne]⟩
 ·rcases List.mem_append.1 hx with h | h
  ·exact ha.al x h
  ·exact hb.al x h
 ·rcases List.mem_append.1 hx with h | h
  ·exact ha.cs x h
  ·exact hb.cs x h
 ·have := ha.la; have := hb.la; simp [zhv]; omega
 ·have := ha.lc; have := hb.lc; simp [zhv]; omega
theorem CqN.mono {n m : Nat} {a : CQ} (ha : CqN n a) (h : n ≤ m) : CqN m a := ⟨ha.al,ha.cs,by have := ha.la; omega,by have := ha.lc; omega,ha.ne⟩
theorem CqN.sm {n : Nat} {a : CQ} (ha : CqN n a) (hn : n ≤ 4) : zei a :=
 ⟨⟨fun x hx => (ha.al x hx).1,ha.cs,by have := ha.la; omega,by have := ha.lc; omega⟩,by have := ha.la; omega,fun x hx => by have := (ha.al x hx).2; omega,by have := ha.lc; omega,fun x hx => (ha.al x hx).2⟩
theorem zih (a : Int) (m : Nat) (hm : m < 2147483648) : ∃ r : Nat,r ≤ m ∧ zbR .and (.i .i64 a) (.i .i64 m) = some (.i .i64 r) := by
 refine ⟨(BitVec.ofInt 64 a &&& BitVec.ofInt 64 m).toNat,?_,?_⟩
 ·rw [BitVec.toNat_and];refine Nat.le_trans Nat.and_le_right ?_;rw [BitVec.toNat_ofInt];omega
 ·have hle : (BitVec.ofInt 64 a &&& BitVec.ofInt 64 m).toNat ≤ m := by
   rw [BitVec.toNat_and];refine Nat.le_trans Nat.and_le_right ?_;rw [BitVec.toNat_ofInt];omega
  have e : zbR .and (.i .i64 a) (.i .i64 m) = some (.i .i64 (IntKind.i64.wrap ((BitVec.ofInt 64 a &&& BitVec.ofInt 64 m).toNat : Int))) := rfl;rw [e,wrap_i64 _ (by omega) (by omega)]
theorem zJ3 (a b : Nat) (hb : b ≠ 0) : zbR .rem (.i .i64 a) (.i .i64 b) = some (.i .i64 ((a % b : Nat) : Int)) := by
 rw [zI9 _ _ (by omega)]; rfl
theorem zGv (n : Int) : ∃ c ∈ CQl,Ans pr 24 [.i .i64 n] (.ag (cqF c)) := by
 obtain ⟨r,hr,he⟩ := zih n 65535 (by omega);obtain ⟨z,hz⟩ : ∃ z : Int,zbR .shr (.i .i64 n) (.i .u64 6) = some (.i .i64 z) := ⟨_,rfl⟩
 obtain ⟨k,hk,hke⟩ := zih z 7 (by omega);have he' : zbR .and (.i .i64 n) (.i .i64 65535) = some (.i .i64 r) := he;have hke' : zbR .and (.i .i64 z) (.i .i64 7) = some (.i .i64 k) := hke;have hrem := zJ3 r 24 (by omega);rw [show ((24 : Nat) : Int) = 24 from rfl] at hrem;have hj : r % 24 < 24 := Nat.mod_lt _ (by omega);generalize r % 24 = j at hrem hj;obtain ⟨c,hc,p,hp,h38⟩ := rdAll j hj k (by omega);have hpl : paL.length = 24 := rfl;have hp2 : ∀ h : j < paL.length,paL[j] = [.s p] := fun h => by
  rw [List.getElem?_eq_getElem h] at hp;exact Option.some.inj hp
 simp only [cqE] at h38;have q37 := fun k => zav (k := k) ans37
 have q38 := fun k => zav (k := k) h38
 refine ⟨c,hc,zbN fn24 ?_⟩;unfold g24;dsimp only [oR,oM,oN,oG,oH,oF,oL,oK,oI,oS,oZ,oD];simp -implicitDefEqProofs [rR,st0,zae,q37,he',hz,hke',hrem,hp,hpl,hp2,hj,q38,cqE,zbu,zbr]
theorem zBX (h : Nat → Option Ob) (l : List Atm) : elemsOf 3 h (.f (za5 l)) = some ((l.map atF).map (·.map D.f),[]) := zBv rfl
theorem zAc (h : Nat → Option Ob) (c : CQ) : elemsOf 9 h (.f (zaX c)) = some ((c.cs.map cmF).map (·.map D.f),[]) := by
 unfold zaX csF; split
 ·rename_i hh; rw [hh.2]; rfl
 ·exact zBv rfl
theorem ans6 (a b : CQ) (ha : zei a) (hb : zei b) (hna : a.as ≠ []) (hnb : b.as ≠ []) : Ans pr 6 [.ag (cqF a),.ag (cqF b)] (.ag (cqF (zhv a b))) := by
 refine zbN fn6 ?_;unfold g6;dsimp only [oR,oM,oN,oG,oH,oF,oL,oK,oI,oS,oZ,oD];simp -implicitDefEqProofs [rR,st0,zae,cqE,zbu,zbr];refine zaC ?_;have eA := fun h => zBX h a.as
 have eB := fun h => zBX h b.as
 have eC := fun h => zAc h a
 have eE := fun h => zAc h b
 have fr : ∀ (l : List (List F)) h k,zaT (frz h (k + 1)) (l.map (·.map D.f)) = some (l,[]) := fun l h k => zx3 h k l
 have fA : ∀ h,zaT (frz h 10) (a.as.map fun x => (atF x).map D.f) = some (a.as.map atF,[]) := fun h => by simpa [List.map_map,Function.comp_def] using fr (a.as.map atF) h 9
 have fB : ∀ h,zaT (frz h 10) (b.as.map fun x => (atF x).map D.f) = some (b.as.map atF,[]) := fun h => by simpa [List.map_map,Function.comp_def] using fr (b.as.map atF) h 9
 have fC : ∀ h,zaT (frz h 10) (a.cs.map fun x => (cmF x).map D.f) = some (a.cs.map cmF,[]) := fun h => by simpa [List.map_map,Function.comp_def] using fr (a.cs.map cmF) h 9
 have fE : ∀ h,zaT (frz h 10) (b.cs.map fun x => (cmF x).map D.f) = some (b.cs.map cmF,[]) := fun h => by simpa [List.map_map,Function.comp_def] using fr (b.cs.map cmF) h 9
 have lA : ((a.as.map atF).map (·.map D.f)).length = a.as.length := by simp
 have lB : ((b.as.map atF).map (·.map D.f)).length = b.as.length := by simp
 have lC : ((a.cs.map cmF).map (·.map D.f)).length = a.cs.length := by simp
 have lE : ((b.cs.map cmF).map (·.map D.f)).length = b.cs.length := by simp
 have hA0 : 0 < a.as.length := List.length_pos_iff.2 hna;have hB0 : 0 < b.as.length := List.length_pos_iff.2 hnb;have hA1 := ha.sa;have hB1 := hb.sa;have hC1 := ha.sc;have hE1 := hb.sc;have hr1 : za5 (zhv a b).as = F.sl 3 (a.as.map atF ++ b.as.map atF) := by
  show slc 3 ((a.as ++ b.as).map atF) = _;rw [List.map_append,zfx (by simp [hna])]
 have hr2 : zaX (zhv a b) = F.sl 9 (a.cs.map cmF ++ b.cs.map cmF) := by
  unfold zaX csF;split
  ·rename_i hh;obtain ⟨h1,h2⟩ := List.append_eq_nil_iff.1 hh.2;rw [h1,h2]; rfl
  ·rename_i hh;have : (zhv a b).cs.map cmF = a.cs.map cmF ++ b.cs.map cmF := by simp [zhv]
   rw [this,zfx];intro e;obtain ⟨h1,h2⟩ := List.append_eq_nil_iff.1 e;exact hh ⟨rfl,by simp [zhv] at *; exact ⟨h1,h2⟩⟩
 rw [hr1,hr2];have m1 : (a.as.length ≤ zak) = True := zaV (by omega);have m2 : (a.as.length * 48 ≤ zak) = True := zaV (by omega);have m3 : (a.as.length + b.as.length ≤ zak) = True := zaV (by omega);have m4 : ((a.as.length + b.as.length) * 48 ≤ zak) = True := zaV (by omega);have m5 : (a.as.length + b.as.length ≤ a.as.length) = False := leF (by omega);have n1 : (a.cs.length ≤ zak) = True := zaV (by omega);have n2 : (a.cs.length * 104 ≤ zak) = True := zaV (by omega);have n3 : (a.cs.length + b.cs.length ≤ zak) = True := zaV (by omega);have n4 : ((a.cs.length + b.cs.length) * 104 ≤ zak) = True := zaV (by omega);have n5 : (b.cs.length ≤ zak) = True := zaV (by omega);have n6 : (b.cs.length * 104 ≤ zak) = True := zaV (by omega);have tA : List.take (a.as.length + b.as.length) ((a.as.map fun x => (atF x).map D.f) ++ (b.as.map fun x => (atF x).map D.f)) = (a.as.map fun x => (atF x).map D.f) ++ (b.as.map fun x => (atF x).map D.f) := List.take_of_length_le (by simp);have tC : List.take (a.cs.length + b.cs.length) ((a.cs.map fun x => (cmF x).map D.f) ++ (b.cs.map fun x => (cmF x).map D.f)) = (a.cs.map fun x => (cmF x).map D.f) ++ (b.cs.map fun x => (cmF x).map D.f) := List.take_of_length_le (by simp);have tC1 : List.take a.cs.length (a.cs.map fun x => (cmF x).map D.f) = (a.cs.map fun x => (cmF x).map D.f) := List.take_of_length_le (by simp)
 have tE1 : List.take b.cs.length (b.cs.map fun x => (cmF x).map D.f) = (b.cs.map fun x => (cmF x).map D.f) := List.take_of_length_le (by simp)
 by_cases hC : a.cs = []
 ·by_cases hE : b.cs = []
  ·simp -implicitDefEqProofs [rR,eA,eB,eC,eE,hC,hE,hna,hnb,zae,m1,m2,m3,m4,m5,fA,fB,fC,fE,tA,tC,tC1,tE1]
  ·simp -implicitDefEqProofs [rR,eA,eB,eC,eE,hC,hE,hna,hnb,zae,m1,m2,m3,m4,m5,n5,n6,fA,fB,fC,fE,tA,tC,tC1,tE1]
 ·by_cases hE : b.cs = []
  ·simp -implicitDefEqProofs [rR,eA,eB,eC,eE,hC,hE,hna,hnb,zae,m1,m2,m3,m4,m5,n1,n2,fA,fB,fC,fE,tA,tC,tC1,tE1]
  ·have hE0 : 0 < b.cs.length := List.length_pos_iff.2 hE;have n7 : (a.cs.length + b.cs.length ≤ a.cs.length) = False := leF (by omega);simp -implicitDefEqProofs [rR,eA,eB,eC,eE,hC,hE,hna,hnb,zae,m1,m2,m3,m4,m5,n1,n2,n3,n4,n7,fA,fB,fC,fE,tA,tC,tC1,tE1]
theorem ans8 (n : Int) : ∃ l : List Str,l.length ≤ 2 ∧ Ans pr 8 [.i .i64 n] (za1 l) := by
 obtain ⟨r,hr,he⟩ := zih n 3 (by omega);have he' : zbR .and (.i .i64 n) (.i .i64 3) = some (.i .i64 r) := he;obtain rfl | rfl | rfl | rfl : r = 0 ∨ r = 1 ∨ r = 2 ∨ r = 3 := by omega
 ·refine ⟨[],by decide,zbN fn8 ?_⟩;unfold g8;dsimp only [oR,oM,oN,oG,oH,oF,oL,oK,oI,oS,oZ,oD];simp -implicitDefEqProofs [rR,st0,zae,he'];rfl
 ·refine ⟨[[120]],by decide,zbN fn8 ?_⟩;unfold g8;dsimp only [oR,oM,oN,oG,oH,oF,oL,oK,oI,oS,oZ,oD];simp -implicitDefEqProofs [rR,st0,zae,he'];rfl
 ·refine ⟨[[120],[121]],by decide,zbN fn8 ?_⟩;unfold g8;dsimp only [oR,oM,oN,oG,oH,oF,oL,oK,oI,oS,oZ,oD];simp -implicitDefEqProofs [rR,st0,zae,he'];rfl
 ·refine ⟨[[119]],by decide,zbN fn8 ?_⟩;unfold g8;dsimp only [oR,oM,oN,oG,oH,oF,oL,oK,oI,oS,oZ,oD];simp -implicitDefEqProofs [rR,st0,zae,he'];rfl
end Go.Proofs.YtimgcabgophnfaaGreat
end
section
namespace Go.Proofs.YtimgcabgophnfaaGreat
open Go Go.Vse Go.Vse.Sm
set_option maxRecDepth 100000
set_option maxHeartbeats 1000000
set_option linter.all false
theorem fn3 : pr.fn 3 = some g3 := by kernel_rfl
theorem zDZ (a b : CQ) (ns : List Str) (tg : List Trm) (hd : List Str) : ∀ (k : Nat) (im : List Trm),im.length ≤ ns.length → ∀ l,zdN a b ns tg hd k im = some l → l.length ≤ ns.length := by
 intro k
 induction k with
 | zero =>
  intro im him l h;unfold zdN at h;split at h
  ·split at h
   ·simp only [Option.some.injEq] at h; rw [← h]; exact him
   ·simp at h
  ·simp at h
 | succ k ih =>
  intro im him l h;unfold zdN at h;split at h
  ·split at h
   ·simp only [Option.some.injEq] at h; rw [← h]; exact him
   ·rename_i x hx;have hlt : im.length < ns.length := by
     by_cases hh : im.length < ns.length
     ·exact hh
     ·rw [List.getElem?_eq_none (by omega)] at hx; simp at hx
    obtain ⟨t,_,ht⟩ := List.exists_of_findSome?_eq_some h;split at ht
    ·simp at ht
    ·exact ih _ (by simp; omega) l ht
  ·simp at h
theorem ans5 (n : Int) : ∃ c,CqN 2 c ∧ Ans pr 5 [.i .i64 n] (.ag (cqF c)) := by
 obtain ⟨c,hc,h24⟩ := zGv n;have hcN := zHu c hc;obtain ⟨z,hz⟩ : ∃ z : Int,zbR .shr (.i .i64 n) (.i .u64 12) = some (.i .i64 z) := ⟨_,rfl⟩
 obtain ⟨y,hy⟩ : ∃ z : Int,zbR .shr (.i .i64 n) (.i .u64 4) = some (.i .i64 z) := ⟨_,rfl⟩
 obtain ⟨k,hk,hke⟩ := zih z 3 (by omega);have hke' : zbR .and (.i .i64 z) (.i .i64 3) = some (.i .i64 k) := hke;obtain ⟨c2,hc2,h24b⟩ := zGv y;have hcN2 := zHu c2 hc2
 by_cases h3 : k = 3
 ·subst h3;have h6 := ans6 c c2 (hcN.sm (by omega)) (hcN2.sm (by omega)) hcN.ne hcN2.ne;refine ⟨zhv c c2,hcN.and hcN2,?_⟩;simp only [cqE] at h24 h24b h6 ⊢;have q1 := fun k => zav (k := k) h24
  have q2 := fun k => zav (k := k) h24b
  have q3 := fun k => zav (k := k) h6
  refine zbN fn5 ?_;unfold g5;dsimp only [oR,oM,oN,oG,oH,oF,oL,oK,oI,oS,oZ,oD];simp -implicitDefEqProofs [rR,st0,zae,q1,hz,hke',zbu,zbr];refine zaC ?_;simp -implicitDefEqProofs [rR,zae,q2,q3,hy,zbu,zbr]
 ·refine ⟨c,hcN.mono (by omega),?_⟩;have h3' : ¬ ((k : Int) = 3) := by omega
  simp only [cqE] at h24 ⊢;have q1 := fun k => zav (k := k) h24
  refine zbN fn5 ?_;unfold g5;dsimp only [oR,oM,oN,oG,oH,oF,oL,oK,oI,oS,oZ,oD];simp -implicitDefEqProofs [rR,st0,zae,q1,hz,hke',h3',zbu,zbr]
theorem ans3 (n m h : Int) : Ans pr 3 [.i .i64 n,.i .i64 m,.i .i64 h] (.b true) := by
 obtain ⟨a,ha,h5a⟩ := ans5 n;obtain ⟨b,hb,h5b⟩ := ans5 m;have hsa := ha.sm (by omega);have hsb := hb.sm (by omega);obtain ⟨z,hz⟩ : ∃ z : Int,zbR .shr (.i .i64 h) (.i .u64 2) = some (.i .i64 z) := ⟨_,rfl⟩
 obtain ⟨k,hk,hke⟩ := zih z 3 (by omega);have hke' : zbR .and (.i .i64 z) (.i .i64 3) = some (.i .i64 k) := hke;have h6 := ans6 b a hsb hsa hb.ne ha.ne;obtain ⟨hd,hhd,h8⟩ := ans8 h;obtain ⟨b2,hb2,hb2e⟩ : ∃ b2,zei b2 ∧ b2 = if k = 0 then zhv b a else b := by
  by_cases h0 : k = 0
  ·exact ⟨_,(hb.and ha).sm (by omega),by rw [if_pos h0]⟩
  ·exact ⟨_,hsb,by rw [if_neg h0]⟩
 have h7 := ans7 a b2 hd hsa hb2 (by omega);have h9 := ans9 a b2 hd hsa hb2 (by omega);rw [← zAJ a b2 hd hsa hb2] at h9;have hlen : ∀ l,zla a b2 hd = some l → l.length < 1000 := by
  intro l hl;rw [zAJ a b2 hd hsa hb2] at hl;have := zDZ _ _ _ _ _ _ _ (by simp) _ hl;have := zlU hsa;omega
 simp only [cqE] at h5a h5b h6 h7 h9;have q5a := fun k => zav (k := k) h5a
 have q5b := fun k => zav (k := k) h5b
 have q8 := fun k => zav (k := k) h8
 have q11 := fun k => zav (k := k) ans11
 refine zbN fn3 ?_;unfold g3;dsimp only [oR,oM,oN,oG,oH,oF,oL,oK,oI,oS,oZ,oD]
 by_cases h0 : k = 0
 ·have h0' : (k : Int) = 0 := by omega
  rw [if_pos h0] at hb2e;rw [← hb2e] at h6;have q6 := fun k => zav (k := k) h6
  clear hb2e
  by_cases hA : 5 < a.as.length
  ·have hA' : ¬ ((a.as.length : Int) ≤ 5) := by omega
   have hA2 : (5 : Int) < a.as.length := by omega
   simp -implicitDefEqProofs [rR,st0,zae,q5a,q5b,hz,hke',h0,h0',q6,zbu,zbr,zbj,hA',hA2,hA]
  have hA' : (a.as.length : Int) ≤ 5 := by omega
  have hA2 : ¬ ((5 : Int) < a.as.length) := by omega
  by_cases hB : 6 < b2.as.length
  ·have hB' : (6 : Int) < b2.as.length := by omega
   simp -implicitDefEqProofs [rR,st0,zae,q5a,q5b,hz,hke',h0,h0',q6,zbu,zbr,zbj,hA',hA2,hB',hB]
  have hB' : ¬ ((6 : Int) < b2.as.length) := by omega
  simp -implicitDefEqProofs [rR,st0,zae,q5a,q5b,hz,hke',h0,h0',q6,zbu,zbr,zbj,hA',hA2,hB',hB];cases hP : zla a b2 hd with
  | none =>
   rw [hP] at h7 h9;simp only [zjD,zf1] at h7 h9;have q7 := fun k => zav (k := k) h7
   have q9 := fun k => zav (k := k) h9
   have q10 := fun k => zav (k := k) zzV
   refine zaC ?_;simp -implicitDefEqProofs [rR,zae,q8,q7,zbu,zbr,za8];refine zaC ?_;simp -implicitDefEqProofs [rR,zae,q8,q9,zbu,zbr,za8,q10,q11]
  | some l =>
   rw [hP] at h7 h9;simp only [zjD,zf1] at h7 h9;have q7 := fun k => zav (k := k) h7
   have q9 := fun k => zav (k := k) h9
   have q10 := fun k => zav (k := k) (zGB l (hlen l hP))
   refine zaC ?_;simp -implicitDefEqProofs [rR,zae,q8,q7,zbu,zbr,za8,zaO];refine zaC ?_;simp -implicitDefEqProofs [rR,zae,q8,q9,zbu,zbr,za8,zaO,q10,q11]
 ·have h0' : ¬ ((k : Int) = 0) := by omega
  rw [if_neg h0] at hb2e;subst hb2e
  by_cases hA : 5 < a.as.length
  ·have hA' : ¬ ((a.as.length : Int) ≤ 5) := by omega
   have hA2 : (5 : Int) < a.as.length := by omega
   simp -implicitDefEqProofs [rR,st0,zae,q5a,q5b,hz,hke',h0,h0',zbu,zbr,zbj,hA',hA2,hA]
  have hA' : (a.as.length : Int) ≤ 5 := by omega
  have hA2 : ¬ ((5 : Int) < a.as.length) := by omega
  by_cases hB : 6 < b2.as.length
  ·have hB' : (6 : Int) < b2.as.length := by omega
   simp -implicitDefEqProofs [rR,st0,zae,q5a,q5b,hz,hke',h0,h0',zbu,zbr,zbj,hA',hA2,hB',hB]
  have hB' : ¬ ((6 : Int) < b2.as.length) := by omega
  simp -implicitDefEqProofs [rR,st0,zae,q5a,q5b,hz,hke',h0,h0',zbu,zbr,zbj,hA',hA2,hB',hB];cases hP : zla a b2 hd with
  | none =>
   rw [hP] at h7 h9;simp only [zjD,zf1] at h7 h9;have q7 := fun k => zav (k := k) h7
   have q9 := fun k => zav (k := k) h9
   have q10 := fun k => zav (k := k) zzV
   refine zaC ?_;simp -implicitDefEqProofs [rR,zae,q8,q7,zbu,zbr,za8];refine zaC ?_;simp -implicitDefEqProofs [rR,zae,q8,q9,zbu,zbr,za8,q10,q11]
  | some l =>
   rw [hP] at h7 h9;simp only [zjD,zf1] at h7 h9;have q7 := fun k => zav (k := k) h7
   have q9 := fun k => zav (k := k) h9
   have q10 := fun k => zav (k := k) (zGB l (hlen l hP))
   refine zaC ?_;simp -implicitDefEqProofs [rR,zae,q8,q7,zbu,zbr,za8,zaO];refine zaC ?_;simp -implicitDefEqProofs [rR,zae,q8,q9,zbu,zbr,za8,zaO,q10,q11]
end Go.Proofs.YtimgcabgophnfaaGreat
end
