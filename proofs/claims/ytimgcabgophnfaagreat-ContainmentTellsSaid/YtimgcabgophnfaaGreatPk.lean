/- The constraints of a homomorphism; the program's search as a search of W26. -/
import Derived.Test.YtimgcabgophnfaaGreatPj
import Derived.KernelRfl
import Derived.IntWalk
import Derived.Test.YtimgcabgophnfaaGreatFct
set_option linter.all false
section
namespace Go.Proofs.YtimgcabgophnfaaGreat
open Go Go.Vse Go.Vse.Sm
set_option maxRecDepth 100000
set_option maxHeartbeats 1000000
set_option linter.all false
def tI(ns:List Str)(h:Nat->Trm):Trm->Trm
 | .cst n=> .cst n
 | .var v=>h (vix ns v)
def fullA(ns:List Str)(b:CQ)(x:Atm)(h:Nat->Trm):Prop:=∃y∈b.as,x.r=y.r/\x.neg=y.neg/\x.ts.map (tI ns h)=y.ts
def zgx(ns:List Str)(b:CQ)(k:Cm)(h:Nat->Trm):Prop:=zix b ⟨k.op,tI ns h k.l,tI ns h k.r⟩ =true
abbrev Kd(a:CQ):Type:={x//x∈a.as}⊕{k//k∈a.cs}
theorem zmi(f:Trm->Trm):∀l:List Trm,∀p∈l.zip (l.map f),p.2=f p.1
 |[],p,h=>by simp at h
 |x::l,p,h=>by
  simp only[List.map_cons,List.zip_cons_cons,List.mem_cons]at h;rcases h with rfl|h
  ·rfl
  ·exact zmi f l p h
theorem zpi(f:Trm->Trm):∀l m:List Trm,l.length=m.length->(∀p∈l.zip m,f p.1=p.2)->l.map f=m
 |[],[],_,_=>rfl
 |[],_::_,h,_=>by simp at h
 |_::_,[],h,_=>by simp at h
 |x::l,y::m,h,h2=>by
  simp only[List.zip_cons_cons]at h2;rw[List.map_cons,zpi f l m (by simpa using h) fun p hp=>h2 p (by simp[hp])];rw[show f x=y from h2 (x,y) (by simp)]
theorem zhz{ns:List Str}{im:List Trm}{asg:List Bool}{h:Nat->Trm}(he:Ext im asg h){t:Trm}(ht:(zdm ns im asg t).2=true):(zdm ns im asg t).1=tI ns h t:=by
 cases t with
 |cst n=>rfl
 |var v=>exact (he _ ht).symm
theorem znS{ns:List Str}{im:List Trm}{asg:List Bool}{ts:List Trm}(h:∀u∈nums ns ts,asg.getD u false=true){t:Trm}(ht:t∈ts)(hi:InV ns t):(zdm ns im asg t).2=true:=by
 cases t with
 |cst n=>rfl
 |var v=>exact h _ (zu9.2 ⟨_,ht,hi.2 v rfl,hi.1,rfl⟩)
theorem zBl{ns:List Str}{h h':Nat->Trm}{ts:List Trm}(he:∀u∈nums ns ts,h u=h' u){t:Trm}(ht:t∈ts)(hi:InV ns t):tI ns h t=tI ns h' t:=by
 cases t with
 |cst n=>rfl
 |var v=>exact he _ (zu9.2 ⟨_,ht,hi.2 v rfl,hi.1,rfl⟩)
def csp(ns:List Str)(a b:CQ)(hv:zfi ns a):Csp (Kd a) where
 vars:=fun k=>match k with
  | .inl x=>nums ns x.1.ts
  | .inr k=>nums ns (ts2 k.1)
 full:=fun k h=>match k with
  | .inl x=>fullA ns b x.1 h
  | .inr k=>zgx ns b k.1 h
 ok:=fun k im asg=>match k with
  | .inl x=>b.as.any (zin ns im asg x.1)=true
  | .inr k=>okK ns im asg b k.1=true
 p1:=by
  rintro (⟨x,hx⟩ |⟨k,hk⟩) im asg h he hf
  ·obtain⟨y,hy,h1,h2,h3⟩ :=hf;refine List.any_eq_true.2 ⟨y,hy,?_⟩;unfold zin;simp only[Bool.and_eq_true,beq_iff_eq,decide_eq_true_eq,List.all_eq_true,Bool.not_eq_true',Bool.and_eq_false_iff];refine⟨h1,h2,by rw[<-h3,List.length_map],fun p hp=> ?_⟩;rw[<-h3]at hp;have e:=zmi _ _ p hp;cases hz:(zdm ns im asg p.1).2 with
   |false=>exact .inl rfl
   |true=>
    refine .inr ?_;rw[zhz he hz,e];simp[zn9]
  ·have hf:zgx ns b k h:=hf;show okK ns im asg b k=true;unfold okK;cases hl:(zdm ns im asg k.l).2 with
   |false=>rfl
   |true=>
    cases hr:(zdm ns im asg k.r).2 with
    |false=>rfl
    |true=>
     rw[zhz he hl,zhz he hr];unfold zgx at hf;rw[hf];rfl
 p2:=by
  rintro (⟨x,hx⟩ |⟨k,hk⟩) im asg h hu hok he
  ·obtain⟨y,hy,hf⟩ :=List.any_eq_true.1 hok;unfold zin at hf;simp only[Bool.and_eq_true,beq_iff_eq,decide_eq_true_eq,List.all_eq_true,Bool.not_eq_true',Bool.and_eq_false_iff]at hf;obtain⟨h1,h2,h3,h4⟩ :=hf;refine⟨y,hy,h1,h2,zpi _ _ _ h3 fun p hp=> ?_⟩;have hz:=znS (im:=im) hu (List.of_mem_zip hp).1 (hv.va x hx _ (List.of_mem_zip hp).1);rcases h4 p hp with h5|h5
   ·rw[hz]at h5;cases h5
   ·rw[zhz he hz]at h5;simpa [zn9]using h5
  ·have hok:okK ns im asg b k=true:=hok;show zgx ns b k h;have hl:=znS (im:=im) (t:=k.l) hu (by simp[ts2]) (hv.vc k hk).1;have hr:=znS (im:=im) (t:=k.r) hu (by simp[ts2]) (hv.vc k hk).2;unfold okK at hok;rw[hl,hr,zhz he hl,zhz he hr]at hok;unfold zgx;simpa using hok
 p3:=by
  rintro (⟨x,hx⟩ |⟨k,hk⟩) h h' he hf
  ·obtain⟨y,hy,h1,h2,h3⟩ :=hf;refine⟨y,hy,h1,h2,?_⟩;rw[<-h3];refine List.map_congr_left fun t ht=> ?_
   exact (zBl he ht (hv.va x hx t ht)).symm
  ·have hf:zgx ns b k h:=hf;show zgx ns b k h';unfold zgx at*;rw[<-zBl (t:=k.l) he (by simp[ts2]) (hv.vc k hk).1,<-zBl (t:=k.r) he (by simp[ts2]) (hv.vc k hk).2];exact hf
theorem zDD{ns:List Str}{a:CQ}{i v:Nat}:i∈fA ns a a.as.length v↔∃h:i<a.as.length,v∈nums ns a.as[i].ts:=by
 unfold fA;rw[List.mem_filter,List.mem_range];unfold zAC;constructor
 ·rintro⟨h,h2⟩;rw[List.getElem?_eq_getElem h]at h2;exact⟨h,by simpa using h2⟩
 ·rintro⟨h,h2⟩;rw[List.getElem?_eq_getElem h];exact⟨h,by simpa using h2⟩
theorem zDE{ns:List Str}{a:CQ}{i v:Nat}:i∈fC ns a a.cs.length v↔∃h:i<a.cs.length,v∈nums ns (ts2 a.cs[i]):=by
 unfold fC;rw[List.mem_filter,List.mem_range];unfold zAD;constructor
 ·rintro⟨h,h2⟩;rw[List.getElem?_eq_getElem h]at h2;exact⟨h,by simpa using h2⟩
 ·rintro⟨h,h2⟩;rw[List.getElem?_eq_getElem h];exact⟨h,by simpa using h2⟩
theorem zpm{ns:List Str}{im:List Trm}{asg:List Bool}{a b:CQ}{i:Nat}(h:i<a.as.length):okA ns im asg a b i=b.as.any (zin ns im asg a.as[i]):=by
 unfold okA;rw[List.getElem?_eq_getElem h]
theorem zpp{ns:List Str}{im:List Trm}{asg:List Bool}{a b:CQ}{i:Nat}(h:i<a.cs.length):okC ns im asg a b i=okK ns im asg b a.cs[i]:=by
 unfold okC;rw[List.getElem?_eq_getElem h]
def zp4(ns:List Str)(a b:CQ)(v:Nat)(im:List Trm)(asg:List Bool):Bool:=acc ns im asg a b (fA ns a a.as.length v) (fC ns a a.cs.length v)
theorem znl{ns:List Str}{a b:CQ}(hv:zfi ns a)(v:Nat)(im:List Trm)(asg:List Bool):zp4 ns a b v im asg=true↔∀k,v∈(csp ns a b hv).vars k->(csp ns a b hv).ok k im asg:=by
 unfold zp4 acc;rw[Bool.and_eq_true,List.all_eq_true,List.all_eq_true];constructor
 ·rintro⟨h1,h2⟩ (⟨x,hx⟩ |⟨k,hk⟩) hk2
  ·obtain⟨i,hi,rfl⟩ :=List.getElem_of_mem hx;have:=h1 i (zDD.2 ⟨hi,hk2⟩);rw[zpm hi]at this;exact this
  ·obtain⟨i,hi,rfl⟩ :=List.getElem_of_mem hk;have:=h2 i (zDE.2 ⟨hi,hk2⟩);rw[zpp hi]at this;exact this
 ·intro h;refine⟨fun i hi=> ?_,fun i hi=> ?_⟩
  ·obtain⟨h1,h2⟩ :=zDD.1 hi;rw[zpm h1];exact h (.inl ⟨a.as[i],List.getElem_mem h1⟩) h2
  ·obtain⟨h1,h2⟩ :=zDE.1 hi;rw[zpp h1];exact h (.inr ⟨a.cs[i],List.getElem_mem h1⟩) h2
theorem zwz{ns:List Str}{a b:CQ}(hv:zfi ns a)(im:List Trm)(asg:List Bool):acc ns im asg a b (List.range a.as.length) (List.range a.cs.length)=true↔∀k,(csp ns a b hv).ok k im asg:=by
 unfold acc;rw[Bool.and_eq_true,List.all_eq_true,List.all_eq_true];constructor
 ·rintro⟨h1,h2⟩ (⟨x,hx⟩ |⟨k,hk⟩)
  ·obtain⟨i,hi,rfl⟩ :=List.getElem_of_mem hx;have:=h1 i (by simpa using hi);rw[zpm hi]at this;exact this
  ·obtain⟨i,hi,rfl⟩ :=List.getElem_of_mem hk;have:=h2 i (by simpa using hi);rw[zpp hi]at this;exact this
 ·intro h;refine⟨fun i hi=> ?_,fun i hi=> ?_⟩
  ·have h1:i<a.as.length:=by simpa using hi
   rw[zpm h1];exact h (.inl ⟨a.as[i],List.getElem_mem h1⟩)
  ·have h1:i<a.cs.length:=by simpa using hi
   rw[zpp h1];exact h (.inr ⟨a.cs[i],List.getElem_mem h1⟩)
theorem zB0(ns:List Str)(a b:CQ)(cand:List Trm):∀(vs:List Nat) (im:List Trm) (asg:List Bool),zg4 ns a b cand (fA ns a a.as.length) (fC ns a a.cs.length) vs im asg=zhu (zp4 ns a b) cand vs im asg
 |[],im,asg=>rfl
 |v::vs,im,asg=>by
  simp only[zg4,zhu]
  congr 1
  funext t
  rw[zB0 ns a b cand vs];rfl
theorem zyC(ns:List Str)(a b:CQ)(cand:List Trm):stepG ns a b cand (fA ns a a.as.length) (fC ns a a.cs.length)=zdq (zp4 ns a b) cand:=by
 funext st g
 unfold stepG zdq;rw[zB0]
 first|done|(cases zhu (zp4 ns a b) cand g st.1 st.2<;>rfl)
theorem zAv{ns:List Str}{a b:CQ}(hv:zfi ns a)(asg:List Bool):zkz (csp ns a b hv) ns.length asg (zeD asg ns a) where
 srt:=zF6
 rng:=fun g hg v hvg=>((zkd g hg).2.2 v hvg).1
 dis:=zuC
 sep:=by
  rintro (⟨x,hx⟩ |⟨k,hk⟩) g hg h
  ·exact zuE (List.mem_append_left _ (List.mem_map.2 ⟨x,hx,rfl⟩)) hg h
  ·exact zuE (List.mem_append_right _ (List.mem_map.2 ⟨k,hk,rfl⟩)) hg h
structure Sol(ns:List Str)(a b:CQ)(hd:List Str)(cand:List Trm)(hv:zfi ns a)(h:Nat->Trm):Prop where
 full:∀k,(csp ns a b hv).full k h
 cd:∀v,v<ns.length->h v∈cand
 hd:∀x∈hd,x∈ns->h (vix ns x)= .var x
structure Fxd(ns:List Str)(cand:List Trm)(hd:List Str)(st:List Trm×List Bool):Prop where
 l1:st.1.length=ns.length
 l2:st.2.length=ns.length
 asn:∀v,st.2.getD v false=true->∃x∈hd,x∈ns/\vix ns x=v/\fnL st.1 v= .var x/\Trm.var x∈cand
theorem zwE{cand:List Trm}{x:Str}:cand.any (fun t=>zbi t (.var x))=true↔Trm.var x∈cand:=by
 rw[List.any_eq_true];constructor
 ·rintro⟨t,ht,h⟩;rw[<-(zeY _ _).1 h];exact ht
 ·intro h;exact⟨_,h,(zeY _ _).2 rfl⟩
theorem zOa{ns:List Str}{x y:Str}(hx:x∈ns)(hy:y∈ns)(h:vix ns x=vix ns y):x=y:=by
 have h1:=ziQ hx;have h2:=ziQ hy;rw[<-h1,<-h2]
 congr 1
theorem zFT{ns:List Str}{cand:List Trm}{hd:List Str}{st st':List Trm×List Bool}{x:Str}(hx:x∈hd)(H:Fxd ns cand hd st)(h:fixF ns cand st x= .inl st'):Fxd ns cand hd st'/\(x∈ns->st'.2.getD (vix ns x) false=true)/\∀v,st.2.getD v false=true->st'.2.getD v false=true:=by
 unfold fixF at h;split at h
 ·rename_i hm;split at h
  ·rename_i hc;cases h;have hl:=zf5 hm;refine⟨⟨by simpa using H.l1,by simpa using H.l2,fun v hv=> ?_⟩,fun _=>ze5 _ _ _ _ (by rw[H.l2];exact hl),fun v hv=> ?_⟩
   ·by_cases e:vix ns x=v
    ·subst e;exact⟨x,hx,hm,rfl,ze5 _ _ _ _ (by rw[H.l1];exact hl),zwE.1 hc⟩
    ·simp only at hv;rw[getD_set_ne _ _ _ _ _ e]at hv;obtain⟨y,h1,h2,h3,h4,h5⟩ :=H.asn v hv;exact⟨y,h1,h2,h3,(getD_set_ne _ _ _ _ _ e).trans h4,h5⟩
   ·by_cases e:vix ns x=v
    ·subst e;exact ze5 _ _ _ _ (by rw[H.l2];exact hl)
    ·exact (getD_set_ne _ _ _ _ _ e).trans hv
  ·cases h
 ·rename_i hm;cases h;exact⟨H,fun h=>absurd h hm,fun _ h=>h⟩
theorem zq4{ns:List Str}{cand:List Trm}{hd:List Str}:∀(l:List Str) (st st':List Trm×List Bool),(∀x∈l,x∈hd)->Fxd ns cand hd st->zc1 (fixF ns cand) st l= .inl st'->Fxd ns cand hd st'/\(∀x∈l,x∈ns->st'.2.getD (vix ns x) false=true)/\∀v,st.2.getD v false=true->st'.2.getD v false=true
 |[],st,st',_,H,h=>by
  cases h;exact⟨H,by simp,fun _ h=>h⟩
 |x::l,st,st',hl,H,h=>by
  rw[zhy]at h;cases hf:fixF ns cand st x with
  |inr r=>rw[hf]at h;cases h
  |inl s1=>
   rw[hf]at h;obtain⟨k1,k2,k3⟩ :=zFT (hl x (by simp)) H hf;obtain⟨k4,k5,k6⟩ :=zq4 l s1 st' (fun y hy=>hl y (by simp[hy])) k1 h;refine⟨k4,fun y hy hyn=> ?_,fun v hv=>k6 v (k3 v hv)⟩;rcases List.mem_cons.1 hy with rfl|hy
   ·exact k6 _ (k2 hyn)
   ·exact k5 y hy hyn
theorem zxG{ns:List Str}{cand:List Trm}:∀(l:List Str) (st:List Trm×List Bool) (r:Unit),zc1 (fixF ns cand) st l= .inr r->∃x∈l,x∈ns/\Trm.var x∉cand
 |[],st,r,h=>by cases h
 |x::l,st,r,h=>by
  rw[zhy]at h;cases hf:fixF ns cand st x with
  |inr r1=>
   unfold fixF at hf;split at hf
   ·rename_i hm;split at hf
    ·cases hf
    ·rename_i hc;exact⟨x,by simp,hm,fun h2=>hc (zwE.2 h2)⟩
   ·cases hf
  |inl s1=>
   rw[hf]at h;obtain⟨y,h1,h2⟩ :=zxG l s1 r h;exact⟨y,by simp[h1],h2⟩
section
variable {ns:List Str}{a b:CQ}{cand:List Trm}{hd:List Str}(hv:zfi ns a)
def zjW(ns:List Str):List Trm×List Bool:=(List.replicate ns.length (.var []),List.replicate ns.length false)
theorem zJh:Fxd ns cand hd (zjW ns):=
 ⟨by simp[zjW],by simp[zjW],fun v hv=>by
  simp only[zjW,List.getD_eq_getElem?_getD,List.getElem?_replicate]at hv;split at hv<;>simp at hv⟩
def znP(ns:List Str)(a b:CQ)(hd:List Str)(cand:List Trm):Option (List Trm):=znQ ns a b cand (fA ns a a.as.length) (fC ns a a.cs.length) (zc1 (fixF ns cand) (zjW ns) hd)
theorem zAw{st:List Trm×List Bool}(H:Fxd ns cand hd st):zmo ns.length st.1 st.2 (zeD st.2 ns a) st:=
 ⟨H.l1,H.l2,fun v hv=>⟨hv,rfl⟩,fun g hg v hvg=>((zkd g hg).2.2 v hvg).2⟩
theorem zN7:∀k,∀u∈(csp ns a b hv).vars k,u<ns.length:=by
 rintro (⟨x,hx⟩ |⟨k,hk⟩) u hu
 ·exact zgN _ [] (by simp) u hu
 ·exact zgN _ [] (by simp) u hu
theorem zDo{im:List Trm}(h:znP ns a b hd cand=some im):im.length=ns.length/\Sol ns a b hd cand hv (fnL im):=by
 unfold znP at h;cases hf:zc1 (fixF ns cand) (zjW ns) hd with
 |inr r=>rw[hf]at h;simp[znQ]at h
 |inl st=>
  rw[hf]at h;simp only[znQ]at h;split at h
  ·rename_i hacc;obtain⟨HF,hall,_⟩ :=zq4 hd (zjW ns) st (fun x hx=>hx) zJh hf;simp only[zAA,zyC]at h;cases hg:zc1 (zdq (zp4 ns a b) cand) st (zeD st.2 ns a)with
   |inr r=>rw[hg]at h;cases h
   |inl r=>
    rw[hg]at h;cases h;obtain⟨k1,k2,k3,k4,k5⟩ :=zjr (csp ns a b hv) (fun v im asg hc=>(znl hv v im asg).1 hc) _ st r (zAv hv st.2) (zAw HF) hg;refine⟨k1,⟨fun k=> ?_,fun v hvn=> ?_,fun x hx hxn=> ?_⟩⟩
    ·by_cases hex:∃v∈(csp ns a b hv).vars k,st.2.getD v false=false
     ·obtain⟨v,hvk,hz⟩ :=hex;obtain⟨g,hg,hvg⟩ :=znL (a:=a) (zN7 hv k v hvk) hz;exact k5 k g hg ⟨v,hvg,hvk⟩
     ·refine (csp ns a b hv).p2 k st.1 st.2 _ (fun u hu=> ?_) ((zwz hv _ _).1 hacc k) fun v hz=>k2 v hz
      cases hz:st.2.getD u false with
      |true=>rfl
      |false=>exact absurd ⟨u,hu,hz⟩ hex
    ·cases hz:st.2.getD v false with
     |true=>
      obtain⟨x,h1,h2,h3,h4,h5⟩ :=HF.asn v hz;rw[k2 v hz,h4];exact h5
     |false=>
      obtain⟨g,hg,hvg⟩ :=znL (a:=a) hvn hz;exact k4 g hg v hvg
    ·have hz:=hall x hx hxn;obtain⟨y,h1,h2,h3,h4,h5⟩ :=HF.asn _ hz;rw[k2 _ hz,h4,zOa h2 hxn h3]
  ·cases h
theorem zuJ(hs:cand.Pairwise tLt){h:Nat->Trm}(H:Sol ns a b hd cand hv h):∃im,znP ns a b hd cand=some im/\¬zm9 (List.range ns.length) h (fnL im):=by
 unfold znP;cases hf:zc1 (fixF ns cand) (zjW ns) hd with
 |inr r=>
  obtain⟨x,h1,h2,h3⟩ :=zxG hd (zjW ns) r hf;exact absurd (by rw[<-H.hd x h1 h2];exact H.cd _ (zf5 h2)) h3
 |inl st=>
  obtain⟨HF,hall,_⟩ :=zq4 hd (zjW ns) st (fun x hx=>hx) zJh hf;have hext:Ext st.1 st.2 h:=fun v hz=>by
   obtain⟨x,h1,h2,h3,h4,h5⟩ :=HF.asn v hz;rw[<-h3,H.hd x h1 h2,h3];exact h4.symm
  have hacc:=(zwz hv st.1 st.2).2 fun k=>(csp ns a b hv).p1 k _ _ h hext (H.full k)
  obtain⟨r,hr,hl⟩ :=zuB (csp ns a b hv) (znl hv) hs h hext (zeD st.2 ns a) st (zAv hv st.2) (zAw HF) (fun g hg v hvg=>H.cd v ((zkd g hg).2.2 v hvg).1) (fun k g hg hk=>H.full k);have hk:=zjr (csp ns a b hv) (fun v im asg hc=>(znl hv v im asg).1 hc) _ st r (zAv hv st.2) (zAw HF) hr;refine⟨r.1,?_,?_⟩
  ·simp only[znQ,hacc,if_true,zAA,zyC,hr]
  ·rintro⟨w,hw,hwl,hwe⟩;have hwn:w<ns.length:=by simpa using hw
   cases hz:st.2.getD w false with
   |true=>
    rw[hk.2.1 w hz,hext w hz]at hwl;exact zeL _ hwl
   |false=>
    obtain⟨g,hg,hwg⟩ :=znL (a:=a) hwn hz;refine hl g hg ⟨w,hwg,hwl,fun u hu hlt=>hwe u ?_ hlt⟩;simpa using((zkd g hg).2.2 u hu).1
end
theorem zQf{n:Nat}{h h':Nat->Trm}(h1:¬zm9 (List.range n) h h')(h2:¬zm9 (List.range n) h' h):∀v,v<n->h v=h' v:=by
 intro v
 induction v using Nat.strongRecOn with
 |ind v ih=>
  intro hv
  by_cases e:h v=h' v
  ·exact e
  ·by_cases hlt:tLt (h v) (h' v)
   ·exact absurd ⟨v,by simpa using hv,hlt,fun u hu huv=>ih u huv (by omega)⟩ h1
   ·exact absurd ⟨v,by simpa using hv,ziL e hlt,fun u hu huv=>(ih u huv (by omega)).symm⟩ h2
theorem zyH:∀l m:List Trm,zfU l m=0↔l=m
 |[],[]=>by simp[zfU]
 |[],y::m=>by simp[zfU];omega
 |x::l,[]=>by simp[zfU];omega
 |x::l,y::m=>by
  simp only[zfU]
  by_cases h:x=y
  ·subst h;rw[if_pos ((zpH x x).2 rfl),zyH l m];simp
  ·have h2:¬zaO x y=0:=fun e=>h ((zpH x y).1 e)
   rw[if_neg h2];simp[h2,h]
theorem zrO(x y:Atm):zf6 x y=true↔x.r=y.r/\x.neg=y.neg/\x.ts=y.ts:=by
 unfold zf6 zpU;rw[beq_iff_eq]
 by_cases h:x.r=y.r
 ·rw[if_pos ((zvx _ _).2 h)]
  by_cases h2:x.neg=y.neg
  ·rw[if_pos h2,zyH];simp[h,h2]
  ·rw[if_neg h2];simp only[h2,false_and,and_false,iff_false];split<;>omega
 ·have h2:¬zeo x.r y.r=0:=fun e=>h ((zvx _ _).1 e)
  rw[if_neg h2];simp[h,h2]
theorem zkN(x y:Trm):decide (x=y)=decide (y=x):=by
 by_cases h:x=y
 ·subst h;rfl
 ·have:¬y=x:=fun e=>h e.symm
  simp[h,this]
theorem zrU(x y:Cm):zgs x y=zfw x y:=by
 unfold zgs zfw;have e:(x.op==y.op)=(y.op==x.op):=by
  by_cases h:x.op=y.op
  ·rw[h]
  ·have h2:¬y.op=x.op:=fun e=>h e.symm
   rw[beq_eq_false_iff_ne.2 h,beq_eq_false_iff_ne.2 h2]
 rw[e];simp only[zn9];rw[zkN x.l y.l,zkN x.r y.r,zkN x.l y.r,zkN x.r y.l];cases decide (y.l=x.l)<;>cases decide (y.r=x.r)<;>cases decide (y.r=x.l)<;>cases decide (y.l=x.r)<;>simp
theorem zre(s:Str):∀(ns:List Str) (im:List Trm),s∈ns->im.length≤ns.length->img ns im (.var s)=if vix ns s<im.length then some (fnL im (vix ns s))else none
 |[],im,h,_=>by simp at h
 |x::ns,[],h,_=>by simp[img]
 |x::ns,t::im,h,hl=>by
  by_cases e:x=s
  ·subst e;have:vix (x::ns) x=0:=by simp[vix,List.findIdx_cons]
   rw[this];simp[img,fnL]
  ·have hb:(x==s)=false:=by simpa using e
   have hb2:(s==x)=false:=by simpa using fun h=>e h.symm
   have hs:s∈ns:=by
    rcases List.mem_cons.1 h with h|h
    ·exact absurd h.symm e
    ·exact h
   have hvx:vix (x::ns) s=vix ns s+1:=by simp[vix,List.findIdx_cons,hb2]
   have ih:=zre s ns im hs (by simpa using hl);have e2:img (x::ns) (t::im) (.var s)=img ns im (.var s):=by simp[img,hb]
   rw[e2,ih,hvx];simp[fnL]
theorem zmG{ns:List Str}{im:List Trm}(hl:im.length≤ns.length){h:Nat->Trm}(he:∀v,v<im.length->h v=fnL im v){t:Trm}(hi:InV ns t)(ht:isI ns im t=true):imD ns im t=tI ns h t:=by
 cases t with
 |cst n=>rfl
 |var s=>
  have hm:=hi.2 s rfl;unfold isI at ht;unfold imD;rw[zre s ns im hm hl]at ht⊢;split at ht
  ·rename_i h2;rw[if_pos h2];exact (he _ h2).symm
  ·cases ht
theorem zsH{ns:List Str}{im:List Trm}(hl:im.length=ns.length){t:Trm}(hi:InV ns t):isI ns im t=true:=by
 cases t with
 |cst n=>rfl
 |var s=>
  have hm:=hi.2 s rfl;unfold isI;rw[zre s ns im hm (by omega),if_pos (by have:=zf5 hm;omega)];rfl
theorem zya{ns:List Str}{a b:CQ}(hv:zfi ns a){im:List Trm}(hl:im.length≤ns.length){h:Nat->Trm}(he:∀v,v<im.length->h v=fnL im v)(hf:∀k,(csp ns a b hv).full k h):zgn a b ns im=true:=by
 unfold zgn;rw[Bool.and_eq_true,List.all_eq_true,List.all_eq_true];refine⟨fun x hx=> ?_,fun k hk=> ?_⟩
 ·unfold atP;cases hz:x.ts.all (isI ns im)with
  |false=>rfl
  |true=>
   rw[List.all_eq_true]at hz;obtain⟨y,hy,h1,h2,h3⟩ :=hf (.inl ⟨x,hx⟩);have:b.as.any (zf6 (xA ns im x))=true:=by
    refine List.any_eq_true.2 ⟨y,hy,(zrO _ _).2 ⟨h1,h2,?_⟩⟩;rw[<-h3];exact List.map_congr_left fun t ht=>zmG hl he (hv.va x hx t ht) (hz t ht)
   rw[this];rfl
 ·unfold cmP;have hfk:zgx ns b k h:=hf (.inr ⟨k,hk⟩);unfold zgx zix at hfk;cases h1:isI ns im k.l with
  |false=>rfl
  |true=>
   cases h2:isI ns im k.r with
   |false=>rfl
   |true=>
    have e:xC ns im k=⟨k.op,tI ns h k.l,tI ns h k.r⟩ :=by
     unfold xC;rw[zmG hl he (hv.vc k hk).1 h1,zmG hl he (hv.vc k hk).2 h2]
    have e2:(zgs ⟨k.op,tI ns h k.l,tI ns h k.r⟩)=zfw ⟨k.op,tI ns h k.l,tI ns h k.r⟩ :=funext fun y=>zrU _ y
    rw[e,e2]
    revert hfk
    cases zi6 ⟨k.op,tI ns h k.l,tI ns h k.r⟩ <;>cases b.cs.any (zfw ⟨k.op,tI ns h k.l,tI ns h k.r⟩)<;>simp
theorem full_of{ns:List Str}{a b:CQ}(hv:zfi ns a){im:List Trm}(hl:im.length=ns.length)(hp:zgn a b ns im=true):∀k,(csp ns a b hv).full k (fnL im):=by
 unfold zgn at hp;rw[Bool.and_eq_true,List.all_eq_true,List.all_eq_true]at hp;rintro (⟨x,hx⟩ |⟨k,hk⟩)
 ·have h:=hp.1 x hx;unfold atP at h;have hz:x.ts.all (isI ns im)=true:=List.all_eq_true.2 fun t ht=>zsH hl (hv.va x hx t ht)
  rw[hz]at h;obtain⟨y,hy,h2⟩ :=List.any_eq_true.1 (by simpa using h);obtain⟨h3,h4,h5⟩ :=(zrO _ _).1 h2;refine⟨y,hy,h3,h4,?_⟩;rw[<-h5];exact List.map_congr_left fun t ht=>(zmG (by omega) (fun _ _=>rfl) (hv.va x hx t ht) (zsH hl (hv.va x hx t ht))).symm
 ·have h:=hp.2 k hk;show zgx ns b k (fnL im);unfold cmP at h;unfold zgx zix;have h1:=zsH hl (hv.vc k hk).1;have h2:=zsH hl (hv.vc k hk).2;have e:xC ns im k=⟨k.op,tI ns (fnL im) k.l,tI ns (fnL im) k.r⟩ :=by
   unfold xC;rw[zmG (by omega) (fun _ _=>rfl) (hv.vc k hk).1 h1,zmG (by omega) (fun _ _=>rfl) (hv.vc k hk).2 h2]
  have e2:(zgs ⟨k.op,tI ns (fnL im) k.l,tI ns (fnL im) k.r⟩)=zfw ⟨k.op,tI ns (fnL im) k.l,tI ns (fnL im) k.r⟩ :=funext fun y=>zrU _ y
  rw[h1,h2,e,e2]at h
  revert h
  cases zi6 ⟨k.op,tI ns (fnL im) k.l,tI ns (fnL im) k.r⟩ <;>cases b.cs.any (zfw ⟨k.op,tI ns (fnL im) k.l,tI ns (fnL im) k.r⟩)<;>simp
theorem zuu{im:List Trm}{t:Trm}{v:Nat}(h:v<im.length):fnL (im++[t]) v=fnL im v:=by
 simp[fnL,List.getD_eq_getElem?_getD,List.getElem?_append,h]
theorem zut{im:List Trm}{t:Trm}:fnL (im++[t]) im.length=t:=by
 simp[fnL,List.getD_eq_getElem?_getD]
def hdC(hd:List Str)(x:Str)(t:Trm):Bool:=hd.any (· ==x)&&tv t != x
theorem zmb{ns:List Str}{a b:CQ}{tg:List Trm}{hd:List Str}:∀(k:Nat) (im im':List Trm),im.length+k=ns.length->zdv a b ns tg hd k im=some im'->
  im'.length=ns.length/\zgn a b ns im'=true/\(∀v,v<im.length->fnL im' v=fnL im v)/\∀v (hv:v<ns.length),im.length≤v->fnL im' v∈tg/\hdC hd ns[v] (fnL im' v)=false
 |0,im,im',hl,h=>by
  unfold zdv at h;have hn:ns[im.length]? =none:=List.getElem?_eq_none (by omega);split at h
  ·rename_i hp;rw[hn]at h;cases h;exact⟨by omega,hp,fun _ _=>rfl,fun v hv h1=>by omega⟩
  ·cases h
 |k+1,im,im',hl,h=>by
  unfold zdv at h;have hlt:im.length<ns.length:=by omega
  have hn:ns[im.length]? =some ns[im.length]:=List.getElem?_eq_getElem hlt;split at h
  ·rw[hn]at h;simp only at h;obtain⟨t,ht,h⟩ :=List.exists_of_findSome?_eq_some h;split at h
   ·cases h
   ·rename_i hc;obtain⟨k1,k2,k3,k4⟩ :=zmb k (im++[t]) im' (by simp;omega) h;refine⟨k1,k2,fun v hv=>(k3 v (by simp;omega)).trans (zuu hv),fun v hv hv2=> ?_⟩
    by_cases e:v=im.length
    ·subst e;have e2:fnL im' im.length=t:=(k3 _ (by simp)).trans zut
     rw[e2];exact⟨ht,by simpa [hdC]using hc⟩
    ·exact k4 v hv (by simp;omega)
  ·cases h
theorem zn4{ns:List Str}{a b:CQ}{tg:List Trm}{hd:List Str}(hv:zfi ns a)(hs:tg.Pairwise tLt){h:Nat->Trm}(hf:∀k,(csp ns a b hv).full k h)(hc:∀v,v<ns.length->h v∈tg)(hh:∀v (hv:v<ns.length),hdC hd ns[v] (h v)=false):
  ∀(k:Nat) (im:List Trm),im.length+k=ns.length->(∀v,v<im.length->h v=fnL im v)->∃im',zdv a b ns tg hd k im=some im'/\¬zm9 (List.range ns.length) h (fnL im')
 |0,im,hl,he=>by
  have hn:ns[im.length]? =none:=List.getElem?_eq_none (by omega);refine⟨im,?_,?_⟩
  ·unfold zdv;rw[if_pos (zya hv (by omega) he hf),hn]
  ·rintro⟨w,hw,hwl,_⟩;rw[he w (by simp at hw;omega)]at hwl;exact zeL _ hwl
 |k+1,im,hl,he=>by
  have hlt:im.length<ns.length:=by omega
  have hn:ns[im.length]? =some ns[im.length]:=List.getElem?_eq_getElem hlt;obtain⟨r0,h0,hl0⟩ :=zn4 hv hs hf hc hh k (im++[h im.length]) (by simp;omega) (fun v hvl=>by
   by_cases e:v=im.length
   ·subst e;exact zut.symm
   ·have:v<im.length:=by simp at hvl;omega
    rw[zuu this];exact he v this)
  have hc0:=hh _ hlt;obtain⟨t,r,ht,hft,hfr,htl⟩ :=znG (fun t=>if hdC hd ns[im.length] t=true then none else zdv a b ns tg hd k (im++[t])) tg hs (h im.length) (hc _ hlt) r0 (by simp only[hc0];exact h0);refine⟨r,?_,?_⟩
  ·unfold zdv;rw[if_pos (zya hv (by omega) he hf),hn];exact hft
  ·split at hfr
   ·cases hfr
   ·have hk:=(zmb k (im++[t]) r (by simp;omega) hfr).2.2.1;have hrt:fnL r im.length=t:=(hk _ (by simp)).trans zut
    rintro⟨w,hw,hwl,hwe⟩;rcases Nat.lt_trichotomy w im.length with h1|h1|h1
    ·rw[hk w (by simp;omega),zuu h1,<-he w h1]at hwl;exact zeL _ hwl
    ·subst h1;rw[hrt]at hwl;rcases htl with h2|h2
     ·exact zeL _ (zgj hwl h2)
     ·rw[h2]at hwl;exact zeL _ hwl
    ·have e:=hwe im.length (by simp;omega) h1;rw[hrt]at e;rw[<-e,h0]at hfr;cases hfr;exact hl0 ⟨w,hw,hwl,hwe⟩
theorem zDF{l:List Str}(hn:l.Nodup){i j:Nat}(hi:i<l.length)(hj:j<l.length)(h:l[i]=l[j]):i=j:=by
 rcases Nat.lt_trichotomy i j with h1|h1|h1
 ·exact absurd h (List.pairwise_iff_getElem.1 hn i j hi hj h1)
 ·exact h1
 ·exact absurd h.symm (List.pairwise_iff_getElem.1 hn j i hj hi h1)
theorem zq9{ns:List Str}(hnd:ns.Nodup)(hne:[]∉ns){hd:List Str}{h:Nat->Trm}:(∀v (hv:v<ns.length),hdC hd ns[v] (h v)=false)↔∀x∈hd,x∈ns->h (vix ns x)= .var x:=by
  constructor
  · intro H x hx hxn;have h1:=H (vix ns x) (zf5 hxn);rw[ziQ hxn]at h1;unfold hdC at h1;have h2:hd.any (· ==x)=true:=List.any_eq_true.2 ⟨x,hx,by simp⟩;rw[h2]at h1;have h3:tv (h (vix ns x))=x:=by simpa using h1
    have hx0:x≠[]:=fun e=>hne (by rw[<-e];exact hxn)
    cases ht:h (vix ns x)with
    |cst n=>rw[ht]at h3;exact absurd h3.symm hx0
    |var s=>rw[ht]at h3;rw[show s=x from h3]
  · intro H v hv;unfold hdC;cases h1:hd.any (· ==ns[v])with
    |false=>rfl
    | true=>
      obtain⟨x,hx,he⟩ :=List.any_eq_true.1 h1;have he:x=ns[v]:=by simpa using he
      subst he;have h2:=H ns[v] hx (List.getElem_mem hv);have h3:vix ns ns[v]=v:=by
        have h4:=ziQ (List.getElem_mem hv);exact zDF hnd _ _ h4
      rw[h3]at h2;rw[h2];simp[tv]
theorem zP5(a b:CQ)(hd:List Str)(ha:zbu a)(hb:zbu b):zuK a b hd=zhg a b hd:=by
 obtain⟨hnd,hne⟩ :=zij a;have hv:=zv3 ha.toCqOk;have hs:(zf4 b).Pairwise tLt:=by
  rw[zmR];exact zi9 _ _ (by simp)
 have e1:zuK a b hd=znP (vrs a) a b hd (zf4 b):=by
  unfold zuK znP;rw[zFx];rfl
 rw[e1];unfold zhg;generalize vrs a=ns at*;generalize zf4 b=tg at*;have S2:∀im,zdv a b ns tg hd ns.length []=some im->im.length=ns.length/\Sol ns a b hd tg hv (fnL im):=by
  intro im h;obtain⟨k1,k2,_,k4⟩ :=zmb ns.length [] im (by simp) h;exact⟨k1,full_of hv k1 k2,fun v hvn=>(k4 v hvn (by simp)).1,(zq9 hnd hne).1 fun v hvn=>(k4 v hvn (by simp)).2⟩
 have B2:∀h,Sol ns a b hd tg hv h->∃im,zdv a b ns tg hd ns.length []=some im/\¬zm9 (List.range ns.length) h (fnL im):=fun h H=>
  zn4 hv hs H.full H.cd ((zq9 hnd hne).2 H.hd) ns.length [] (by simp) (by simp)
 cases hp:znP ns a b hd tg with
 |none=>
  cases hr:zdv a b ns tg hd ns.length []with
  |none=>rfl
  |some im=>
   obtain⟨im',h,_⟩ :=zuJ hv hs (S2 im hr).2;rw[hp]at h;cases h
 |some im=>
  obtain⟨l1,H1⟩ :=zDo hv hp;obtain⟨im2,hr,hl⟩ :=B2 _ H1;rw[hr];obtain⟨l2,H2⟩ :=S2 im2 hr;obtain⟨im3,hp3,hl3⟩ :=zuJ hv hs H2;rw[hp]at hp3;cases hp3;have e:=zQf hl hl3
  congr 1
  refine List.ext_getElem (by omega) fun v h1 h2=> ?_
  have:=e v (by omega);simpa [fnL,List.getD_eq_getElem?_getD,h1,h2]using this
theorem fn24:pr.fn 24=some g24:=by kernel_rfl
theorem fn5:pr.fn 5=some g5:=by kernel_rfl
theorem fn6:pr.fn 6=some g6:=by kernel_rfl
theorem fn8:pr.fn 8=some g8:=by kernel_rfl
def zhs(a b:CQ):CQ:=⟨a.as++b.as,a.cs++b.cs,true,true⟩
theorem CqN.and{n m:Nat}{a b:CQ}(ha:CqN n a)(hb:CqN m b):CqN (n+m) (zhs a b):=by
 refine⟨fun x hx=> ?_,fun x hx=> ?_,?_,?_,by simp[zhs,ha.ne]⟩
 ·rcases List.mem_append.1 hx with h|h
  ·exact ha.al x h
  ·exact hb.al x h
 ·rcases List.mem_append.1 hx with h|h
  ·exact ha.cs x h
  ·exact hb.cs x h
 ·have:=ha.la;have:=hb.la;simp[zhs];omega
 ·have:=ha.lc;have:=hb.lc;simp[zhs];omega
theorem CqN.mono{n m:Nat}{a:CQ}(ha:CqN n a)(h:n≤m):CqN m a:=⟨ha.al,ha.cs,by have:=ha.la;omega,by have:=ha.lc;omega,ha.ne⟩
theorem CqN.sm{n:Nat}{a:CQ}(ha:CqN n a)(hn:n≤4):zbu a:=
 ⟨⟨fun x hx=>(ha.al x hx).1,ha.cs,by have:=ha.la;omega,by have:=ha.lc;omega⟩,by have:=ha.la;omega,fun x hx=>by have:=(ha.al x hx).2;omega,by have:=ha.lc;omega,fun x hx=>(ha.al x hx).2⟩
theorem zfW(a:Int)(m:Nat)(hm:m<2147483648):∃r:Nat,r≤m/\zbv .and (.i .i64 a) (.i .i64 m)=some (.i .i64 r):=by
 refine⟨(BitVec.ofInt 64 a&&& BitVec.ofInt 64 m).toNat,?_,?_⟩
 ·rw[BitVec.toNat_and];refine Nat.le_trans Nat.and_le_right ?_;rw[BitVec.toNat_ofInt];omega
 ·have hle:(BitVec.ofInt 64 a&&& BitVec.ofInt 64 m).toNat≤m:=by
   rw[BitVec.toNat_and];refine Nat.le_trans Nat.and_le_right ?_;rw[BitVec.toNat_ofInt];omega
  have e:zbv .and (.i .i64 a) (.i .i64 m)=some (.i .i64 (IntKind.i64.wrap ((BitVec.ofInt 64 a&&& BitVec.ofInt 64 m).toNat:Int))):=rfl;rw[e,wrap_i64 _ (by omega) (by omega)]
def zgt(x:F):Prop:=x= .nils\/∃zs:List Int,x= .sl 1 (zs.map fun z=>[.i .i64 z])
theorem zgg(a b:Nat)(hb:b≠0):zbv .rem (.i .i64 a) (.i .i64 b)=some (.i .i64 ((a%b:Nat):Int)):=by
 rw[zMe _ _ (by omega)];rfl
theorem zCK(h:Nat->Option Ob)(c:CQ):elemsOf 3 h (.f (zaC c))=some ((c.as.map atF).map (·.map D.f),[]):=by
 unfold zaC Sm.asF;split
 ·rename_i hh;rw[hh.2];rfl
 ·exact zCO rfl
theorem zCL(h:Nat->Option Ob)(c:CQ):elemsOf 9 h (.f (zaF c))=some ((c.cs.map cmF).map (·.map D.f),[]):=by
 unfold zaF csF;split
 ·rename_i hh;rw[hh.2];rfl
 ·exact zCO rfl
theorem ans6(a b:CQ)(ha:zbu a)(hb:zbu b)(hna:a.as≠[])(hnb:b.as≠[]):Ans pr 6 [.ag (cqF a),.ag (cqF b)] (.ag (cqF (zhs a b))):=by
 refine za1 fn6 ?_;simp only[g6,rU];simp -implicitDefEqProofs [rR,st0,zae,cqE,zaV,zaW];refine zay ?_;have eA:=fun h=>zCK h a
 have eB:=fun h=>zCK h b
 have eC:=fun h=>zCL h a
 have eE:=fun h=>zCL h b
 have fr:∀(l:List (List F)) h k,zaT (frz h (k+1)) (l.map (·.map D.f))=some (l,[]):=fun l h k=>zjq h k l
 have fA:∀h,zaT (frz h 10) (a.as.map fun x=>(atF x).map D.f)=some (a.as.map atF,[]):=fun h=>by simpa [List.map_map,Function.comp_def]using fr (a.as.map atF) h 9
 have fB:∀h,zaT (frz h 10) (b.as.map fun x=>(atF x).map D.f)=some (b.as.map atF,[]):=fun h=>by simpa [List.map_map,Function.comp_def]using fr (b.as.map atF) h 9
 have fC:∀h,zaT (frz h 10) (a.cs.map fun x=>(cmF x).map D.f)=some (a.cs.map cmF,[]):=fun h=>by simpa [List.map_map,Function.comp_def]using fr (a.cs.map cmF) h 9
 have fE:∀h,zaT (frz h 10) (b.cs.map fun x=>(cmF x).map D.f)=some (b.cs.map cmF,[]):=fun h=>by simpa [List.map_map,Function.comp_def]using fr (b.cs.map cmF) h 9
 have lA:((a.as.map atF).map (·.map D.f)).length=a.as.length:=by simp
 have lB:((b.as.map atF).map (·.map D.f)).length=b.as.length:=by simp
 have lC:((a.cs.map cmF).map (·.map D.f)).length=a.cs.length:=by simp
 have lE:((b.cs.map cmF).map (·.map D.f)).length=b.cs.length:=by simp
 have hA0:0<a.as.length:=List.length_pos_iff.2 hna;have hB0:0<b.as.length:=List.length_pos_iff.2 hnb;have hA1:=ha.sa;have hB1:=hb.sa;have hC1:=ha.sc;have hE1:=hb.sc;have hr1:zaC (zhs a b)=F.sl 3 (a.as.map atF++b.as.map atF):=by
  unfold zaC Sm.asF;split
  ·rename_i hh;exact absurd (List.append_eq_nil_iff.1 hh.2).1 hna
  ·have e:(zhs a b).as.map atF=a.as.map atF++b.as.map atF:=by simp[zhs]
   rw[e,zcX (by simp[hna])]
 have hr2:zaF (zhs a b)=F.sl 9 (a.cs.map cmF++b.cs.map cmF):=by
  unfold zaF csF;split
  ·rename_i hh;obtain⟨h1,h2⟩ :=List.append_eq_nil_iff.1 hh.2;rw[h1,h2];rfl
  ·rename_i hh;have:(zhs a b).cs.map cmF=a.cs.map cmF++b.cs.map cmF:=by simp[zhs]
   rw[this,zcX];intro e;obtain⟨h1,h2⟩ :=List.append_eq_nil_iff.1 e;exact hh ⟨rfl,by simp[zhs]at*;exact⟨h1,h2⟩⟩
 rw[hr1,hr2];have m1:(a.as.length≤zaj)=True:=zaR (by omega);have m2:(a.as.length*48≤zaj)=True:=zaR (by omega);have m3:(a.as.length+b.as.length≤zaj)=True:=zaR (by omega);have m4:((a.as.length+b.as.length)*48≤zaj)=True:=zaR (by omega);have m5:(a.as.length+b.as.length≤a.as.length)=False:=leF (by omega);have n1:(a.cs.length≤zaj)=True:=zaR (by omega);have n2:(a.cs.length*104≤zaj)=True:=zaR (by omega);have n3:(a.cs.length+b.cs.length≤zaj)=True:=zaR (by omega);have n4:((a.cs.length+b.cs.length)*104≤zaj)=True:=zaR (by omega);have n5:(b.cs.length≤zaj)=True:=zaR (by omega);have n6:(b.cs.length*104≤zaj)=True:=zaR (by omega);have tA:List.take (a.as.length+b.as.length) ((a.as.map fun x=>(atF x).map D.f)++(b.as.map fun x=>(atF x).map D.f))=(a.as.map fun x=>(atF x).map D.f)++(b.as.map fun x=>(atF x).map D.f):=List.take_of_length_le (by simp);have tC:List.take (a.cs.length+b.cs.length) ((a.cs.map fun x=>(cmF x).map D.f)++(b.cs.map fun x=>(cmF x).map D.f))=(a.cs.map fun x=>(cmF x).map D.f)++(b.cs.map fun x=>(cmF x).map D.f):=List.take_of_length_le (by simp);have tC1:List.take a.cs.length (a.cs.map fun x=>(cmF x).map D.f)=(a.cs.map fun x=>(cmF x).map D.f):=List.take_of_length_le (by simp)
 have tE1:List.take b.cs.length (b.cs.map fun x=>(cmF x).map D.f)=(b.cs.map fun x=>(cmF x).map D.f):=List.take_of_length_le (by simp)
 by_cases hC:a.cs=[]
 ·by_cases hE:b.cs=[]
  ·simp -implicitDefEqProofs [rR,eA,eB,eC,eE,hC,hE,hna,hnb,zae,m1,m2,m3,m4,m5,fA,fB,fC,fE,tA,tC,tC1,tE1]
  ·simp -implicitDefEqProofs [rR,eA,eB,eC,eE,hC,hE,hna,hnb,zae,m1,m2,m3,m4,m5,n5,n6,fA,fB,fC,fE,tA,tC,tC1,tE1]
 ·by_cases hE:b.cs=[]
  ·simp -implicitDefEqProofs [rR,eA,eB,eC,eE,hC,hE,hna,hnb,zae,m1,m2,m3,m4,m5,n1,n2,fA,fB,fC,fE,tA,tC,tC1,tE1]
  ·have hE0:0<b.cs.length:=List.length_pos_iff.2 hE;have n7:(a.cs.length+b.cs.length≤a.cs.length)=False:=leF (by omega);simp -implicitDefEqProofs [rR,eA,eB,eC,eE,hC,hE,hna,hnb,zae,m1,m2,m3,m4,m5,n1,n2,n3,n4,n7,fA,fB,fC,fE,tA,tC,tC1,tE1]
theorem ans8(n:Int):∃l:List Str,l.length≤2/\Ans pr 8 [.i .i64 n] (zas l):=by
 obtain⟨r,hr,he⟩ :=zfW n 3 (by omega);have he':zbv .and (.i .i64 n) (.i .i64 3)=some (.i .i64 r):=he;obtain rfl|rfl|rfl|rfl:r=0\/r=1\/r=2\/r=3:=by omega
 ·refine⟨[],by decide,za1 fn8 ?_⟩;simp only[g8,rU];simp -implicitDefEqProofs [rR,st0,zae,he'];rfl
 ·refine⟨[[120]],by decide,za1 fn8 ?_⟩;simp only[g8,rU];simp -implicitDefEqProofs [rR,st0,zae,he'];rfl
 ·refine⟨[[120],[121]],by decide,za1 fn8 ?_⟩;simp only[g8,rU];simp -implicitDefEqProofs [rR,st0,zae,he'];rfl
 ·refine⟨[[119]],by decide,za1 fn8 ?_⟩;simp only[g8,rU];simp -implicitDefEqProofs [rR,st0,zae,he'];rfl
theorem fn36:pr.fn 36=some g36:=by kernel_rfl
theorem fn38:pr.fn 38=some g38:=by kernel_rfl
theorem zzI:pr.fn 12=some g12:=by kernel_rfl
theorem fn13:pr.fn 13=some g13:=by kernel_rfl
theorem zQX(f:A->Option D)(x:A):(O.s2b x).res f=(f x).bind fun y=>some (.s2b y):=rfl
theorem zQE(f:A->Option D)(x:A):(O.b2s x).res f=(f x).bind fun y=>some (.b2s y):=rfl
theorem o_s2b{pr:Pr}{s:St}{Q:St->Prop}{dst:Option Nat}{l:List Go.Vse.Op}{x:A}:wpO pr (⟨dst,none,.s2b x⟩ ::l) s Q↔oB (((O.s2b x).res (zad s.tm)).bind (opv s.h.get s.c)) fun r=>zat r.c r.wr=true/\wpO pr l (s.aft dst r.d r.wr r.c) Q:=zd6 rfl
theorem o_b2s{pr:Pr}{s:St}{Q:St->Prop}{dst:Option Nat}{l:List Go.Vse.Op}{x:A}:wpO pr (⟨dst,none,.b2s x⟩ ::l) s Q↔oB (((O.b2s x).res (zad s.tm)).bind (opv s.h.get s.c)) fun r=>zat r.c r.wr=true/\wpO pr l (s.aft dst r.d r.wr r.c) Q:=zd6 rfl
def byE(l:Str):List (List D):=l.map fun x=>[D.f (.i .u8 x.toNat)]
theorem v_s2b{h:Nat->Option Ob}{c:Nat}{l:Str}(hl:l≠[]):opv h c (.s2b (.f (.s l)))=some {d:= .sl c 0 l.length 1 l.length false,wr:=[(c,some (.arr 1 0 (byE l)))],c:=c+1}:=by
 simp[opv,hl,byE]
theorem zIh:∀l:Str,zdZ (byE l)=some l
 |[]=>rfl
 |x::l=>by
  have:=zIh l;simp only[byE,List.map_cons,zdZ]at this⊢;rw[this];simp
theorem v_b2s{h:Nat->Option Ob}{c id len lim:Nat}{ex:Bool}{l:Str}(hg:h id=some (.arr 1 0 (byE l)))(hl:l.length=len):opv h c (.b2s (.sl id 0 len 1 lim ex))=some {d:= .f (.s l),rd:=[id],c:=c}:=by
 have h1:(byE l).length=l.length:=by simp[byE]
 have h2:elemsOf 1 h (.sl id 0 len 1 lim ex)=some (byE l,[id]):=by
  rw[zzD,hg,zdU,zqZ,if_pos ⟨rfl,rfl,by omega⟩,List.drop_zero,<-hl,<-h1,List.take_length]
 simp only[opv,h2,zIh]
end Go.Proofs.YtimgcabgophnfaaGreat
end
