/- The order of terms; the candidates are the reference's terms. -/
import Derived.Test.YtflgmemhalhdbaaGreatDoorPj
import Derived.KernelRfl
import Derived.IntWalk
import Derived.Test.YtflgmemhalhdbaaGreatDoorPn
set_option linter.all false
set_option maxRecDepth 100000
set_option maxHeartbeats 4000000
section
namespace Go.Proofs.YtflgmemhalhdbaaGreatDoor
open Go Go.Vse Go.Vse.Sm
theorem zxP:∀(l m:List Trm),l.Pairwise tLt->m.Pairwise tLt->(∀t,t∈l↔t∈m)->l=m
 |[],[],_,_,_=>rfl
 |[],y::m,_,_,h=>by have:=(h y).2 (by simp);simp at this
 |x::l,[],_,_,h=>by have:=(h x).1 (by simp);simp at this
 |x::l,y::m,h1,h2,h=>by
  rw[Z57]at h1 h2;have e:x=y:=by
   rcases Z6.1 ((h x).1 (by simp))with h3|h3
   .exact h3
   .rcases Z6.1 ((h y).2 (by simp))with h4|h4
    .exact h4.symm
    .exact absurd (zgV (h1.1 y h4) (h2.1 x h3)) (zgT _)
  subst e;rw[zxP l m h1.2 h2.2 ?_];intro t;constructor
  .intro ht;rcases Z6.1 ((h t).1 (by simp[ht]))with h3|h3
   .subst h3;exact absurd (h1.1 _ ht) (zgT _)
   .exact h3
  .intro ht;rcases Z6.1 ((h t).2 (by simp[ht]))with h3|h3
   .subst h3;exact absurd (h2.1 _ ht) (zgT _)
   .exact h3
theorem znU(t u:Trm):∀l:List Trm,u∈zei l t↔u=t\/u∈l
 |[]=>by simp[zei]
 |a::l=>by
  simp only[zei];split
  .rw[Z6,znU t u l,Z6];constructor<;>rintro (h|h|h)<;>simp[h]
  .split
   .rename_i h;have:=(zfv a t).1 h;subst this;simp
   .simp
theorem zty(t:Trm):∀l:List Trm,l.Pairwise tLt->(zei l t).Pairwise tLt
 |[],_=>by simp[zei]
 |a::l,h=>by
  rw[Z57]at h;simp only[zei];split
  .rename_i h1;rw[Z57];refine⟨fun u hu=> ?_,zty t l h.2⟩;rcases (znU t u l).1 hu with rfl|hu
   .exact h1
   .exact h.1 u hu
  .split
   .exact Z57.2 h
   .rename_i h1 h2;have h3:tLt t a:=zkY (fun e=>h2 ((zfv _ _).2 e)) h1;refine Z57.2 ⟨fun u hu=> ?_,Z57.2 h⟩;rcases Z6.1 hu with rfl|hu
    .exact h3
    .exact zgV h3 (h.1 u hu)
theorem zlR:∀(ts l:List Trm),l.Pairwise tLt->(ts.foldl zei l).Pairwise tLt
 |[],l,h=>h
 |t::ts,l,h=>zlR ts _ (zty t l h)
theorem zlQ(u:Trm):∀(ts l:List Trm),u∈ts.foldl zei l↔u∈ts\/u∈l
 |[],l=>by simp
 |t::ts,l=>by
  rw[Z43,zlQ u ts,znU,Z6];constructor
  .rintro (h|h|h)
   .exact .inl (.inr h)
   .exact .inl (.inl h)
   .exact .inr h
  .rintro ((h|h)|h)
   .exact .inr (.inl h)
   .exact .inl h
   .exact .inr (.inr h)
def zrO(b:CQ):zo5 b=(tsC b).foldl zei []:=by
 unfold zo5 tsC tsA;rw[Z143];have h1:∀(l:List Atm) (x:List Trm),l.foldl (fun l a=>zHu l a.ts) x=(l.flatMap (·.ts)).foldl zei x:=by
  intro l
  induction l with
  |nil=>intro x;rfl
  |cons a l ih=>intro x;rw[Z43,ih,Z93,Z143];rfl
 have h2:∀(l:List Cm) (x:List Trm),l.foldl (fun l k=>zei (zei l k.l) k.r) x=(l.flatMap ts2).foldl zei x:=by
  intro l
  induction l with
  |nil=>intro x;rfl
  |cons a l ih=>intro x;rw[Z43,ih,Z93,Z143];rfl
 rw[h1,h2]
def zDo(l:List Trm):(zfc l).Pairwise fun x y=>¬tLt y x:=by
 have:=List.pairwise_mergeSort (le:=fun x y=>!decide (zaX y x<0)) ?_ ?_ l
 .refine this.imp ?_;intro a b h;simpa [tLt]using h
 .intro a b c h1 h2;simp only[Z81,Z66]at*
  by_cases e:a=b
  .subst e;exact h2
  .have h3:=zkY (Ne.symm e) h1;intro h4;exact h2 (zgV (a:=c) (b:=a) (c:=b) h4 h3)
 .intro a b;simp only[Z116,Z81,Z66]
  by_cases h:zaX b a<0
  .exact .inr fun h2=>zgT a (zgV h2 h)
  .exact .inl h
theorem zn4:∀(l:List Trm) (p:Trm),(p::l).Pairwise (fun x y=>¬tLt y x)->(p::zfU p l).Pairwise tLt
 |[],p,_=>by simp[zfU]
 |x::l,p,h=>by
  rw[Z57]at h;simp only[zfU];split
  .rename_i h1;have:=(zfv x p).1 h1;subst this;exact zn4 l x h.2
  .rename_i h1;have h2:=zn4 l x h.2;have h3:tLt p x:=zkY (fun e=>h1 ((zfv _ _).2 e)) (h.1 x (by simp));refine Z57.2 ⟨fun u hu=> ?_,h2⟩;rcases Z6.1 hu with rfl|hu
   .exact h3
   .exact zgV h3 ((Z57.1 h2).1 u hu)
def zLc{l:List Trm}(h:l.Pairwise fun x y=>¬tLt y x):(cpt l).Pairwise tLt:=by
 cases l with
 |nil=>simp[cpt]
 |cons x l=>exact zn4 l x h
theorem zn2(u:Trm):∀(l:List Trm) (p:Trm),u∈l->u=p\/u∈zfU p l
 |x::l,p,h=>by
  simp only[zfU];split
  .rename_i h1;have:=(zfv x p).1 h1;subst this;rcases Z6.1 h with rfl|h
   .exact .inl rfl
   .exact zn2 u l x h
  .rcases Z6.1 h with rfl|h
   .exact .inr (by simp)
   .rcases zn2 u l x h with rfl|h
    .exact .inr (by simp)
    .exact .inr (by simp[h])
def zK9(u:Trm)(l:List Trm)(h:u∈l):u∈cpt l:=by
 cases l with
 |nil=>simp at h
 |cons x l=>
  simp only[cpt];rcases Z6.1 h with rfl|h
  .simp
  .rcases zn2 u l x h with rfl|h
   .simp
   .simp[h]
def zEo(b:CQ):zlb b=zo5 b:=by
 rw[zrO];refine zxP _ _ (zLc (zDo _)) (zlR _ _ (by simp)) fun t=> ?_
 rw[zlQ];simp only[Z165,or_false];constructor
 .intro h;have:=zwT t h;simpa [zfc]using this
 .intro h;exact zK9 t _ (by simpa [zfc]using h)
def Ext(im:List Trm)(asg:List Bool)(h:Nat->Trm):Prop:=∀v,asg.getD v false=true->h v=im.getD v (.var [])
def fnL(im:List Trm):Nat->Trm:=fun v=>im.getD v (.var [])
def zDT(vs:List Nat)(h' h:Nat->Trm):Prop:=∃v,v∈vs/\tLt (h' v) (h v)/\∀u∈vs,u<v->h' u=h u
structure Csp(κ:Type) where
 vars:κ->List Nat
 full:κ->(Nat->Trm)->Prop
 ok:κ->List Trm->List Bool->Prop
 p1:∀k im asg h,Ext im asg h->full k h->ok k im asg
 p2:∀k im asg h,(∀u∈vars k,asg.getD u false=true)->ok k im asg->Ext im asg h->full k h
 p3:∀k h h',(∀u∈vars k,h u=h' u)->full k h->full k h'
def zhB(chk:Nat->List Trm->List Bool->Bool)(cand:List Trm):List Nat->List Trm->List Bool->Option (List Trm×List Bool)
 |[],im,asg=>some (im,asg)
 |v::vs,im,asg=>cand.findSome? fun t=>if chk v (im.set v t) (asg.set v true)=true then zhB chk cand vs (im.set v t) (asg.set v true)else none
def zeY{α:Type}(l:List α)(v:Nat)(x y:α)(h:v<l.length):(l.set v x).getD v y=x:=by
 simp[Z49,h]
def getD_set_ne{α:Type}(l:List α)(v u:Nat)(x y:α)(h:v≠u):(l.set v x).getD u y=l.getD u y:=by
 simp[Z49,Z88,h]
theorem zuC{β:Type}(f:Trm->Option β):∀(l:List Trm),l.Pairwise tLt->∀t0∈l,∀r0,f t0=some r0->∃t r,t∈l/\l.findSome? f=some r/\f t=some r/\(tLt t t0\/t=t0)
 |x::l,hs,t0,ht,r0,h0=>by
  rw[Z57]at hs;cases hx:f x with
  |some r=>
   refine⟨x,r,by simp,by simp[Z185,hx],hx,?_⟩;rcases Z6.1 ht with h|h
   .exact .inr h.symm
   .exact .inl (hs.1 _ h)
  |none=>
   rcases Z6.1 ht with h|h
   .subst h;rw[hx]at h0;cases h0
   .obtain⟨t,r,h1,h2,h3,h4⟩ :=zuC f l hs.2 t0 h r0 h0;exact⟨t,r,by simp[h1],by simp[Z185,hx,h2],h3,h4⟩
theorem zjF{κ:Type}(P:Csp κ){chk:Nat->List Trm->List Bool->Bool}{cand:List Trm}(hchk:∀v im asg,chk v im asg=true->∀k,v∈P.vars k->P.ok k im asg):
  ∀(vs:List Nat) (im:List Trm) (asg:List Bool) (r:List Trm×List Bool),vs.Nodup->(∀v∈vs,v<im.length/\v<asg.length/\asg.getD v false=false)->zhB chk cand vs im asg=some r->
  r.1.length=im.length/\r.2.length=asg.length/\(∀u,u∉vs->fnL r.1 u=fnL im u/\r.2.getD u false=asg.getD u false)/\(∀u∈vs,fnL r.1 u∈cand/\r.2.getD u false=true)/\
  (∀k,(∃v∈vs,v∈P.vars k)->(∀u∈P.vars k,r.2.getD u false=true)->P.full k (fnL r.1))
 |[],im,asg,r,_,_,h=>by
  simp only[zhB,Z46]at h;subst h;exact⟨rfl,rfl,fun _ _=>⟨rfl,rfl⟩,by simp,by simp⟩
 |v::vs,im,asg,r,hnd,hpre,h=>by
  simp only[zhB]at h;obtain⟨t,ht,h⟩ :=Z193 h;rw[Z75]at hnd;obtain⟨hv1,hv2,hv3⟩ :=hpre v (by simp);split at h
  .rename_i hck;have hpre2:∀u∈vs,u< (im.set v t).length/\u< (asg.set v true).length/\(asg.set v true).getD u false=false:=by
    intro u hu;obtain⟨h1,h2,h3⟩ :=hpre u (by simp[hu]);have hne:v≠u:=fun e=>hnd.1 (by rw[e];exact hu)
    exact⟨by simpa using h1,by simpa using h2,by rw[getD_set_ne _ _ _ _ _ hne];exact h3⟩
   obtain⟨g1,g2,g3,g4,g5⟩ :=zjF P hchk vs _ _ r hnd.2 hpre2 h;refine⟨by simpa using g1,by simpa using g2,fun u hu=> ?_,fun u hu=> ?_,fun k hk hall=> ?_⟩
   .simp only[Z6,not_or]at hu;obtain⟨k1,k2⟩ :=g3 u hu.2;exact⟨k1.trans (getD_set_ne _ _ _ _ _ (Ne.symm hu.1)),k2.trans (getD_set_ne _ _ _ _ _ (Ne.symm hu.1))⟩
   .rcases Z6.1 hu with rfl|hu
    .obtain⟨k1,k2⟩ :=g3 u hnd.1;exact⟨by rw[k1];unfold fnL;rw[zeY _ _ _ _ hv1];exact ht,by rw[k2];exact zeY _ _ _ _ hv2⟩
    .exact g4 u hu
   .by_cases hex:∃w∈vs,w∈P.vars k
    .exact g5 k hex hall
    .have hvk:v∈P.vars k:=by
      obtain⟨w,hw,hwk⟩ :=hk;rcases Z6.1 hw with rfl|hw
      .exact hwk
      .exact absurd ⟨w,hw,hwk⟩ hex
     refine P.p2 k (im.set v t) (asg.set v true) (fnL r.1) (fun u hu=> ?_) (hchk v _ _ hck k hvk) fun u hu=> ?_
     .have hn:u∉vs:=fun h2=>hex ⟨u,h2,hu⟩
      rw[<-(g3 u hn).2];exact hall u hu
     .have hn:u∉vs:=fun h2=>by
       rw[(hpre2 u h2).2.2]at hu;cases hu
      exact (g3 u hn).1
  .cases h
theorem ztL{κ:Type}(P:Csp κ){chk:Nat->List Trm->List Bool->Bool}{cand:List Trm}(hchk:∀v im asg,chk v im asg=true↔∀k,v∈P.vars k->P.ok k im asg)(hs:cand.Pairwise tLt)(h:Nat->Trm):
    ∀(vs:List Nat) (im:List Trm) (asg:List Bool),vs.Pairwise (· < ·)->(∀v∈vs,v<im.length/\v<asg.length/\asg.getD v false=false)->Ext im asg h->(∀v∈vs,h v∈cand)->(∀k,(∃v∈vs,v∈P.vars k)->P.full k h)->
    ∃r,zhB chk cand vs im asg=some r/\¬zDT vs h (fnL r.1)
  |[],im,asg,_,_,_,_,_=>⟨(im,asg),rfl,fun⟨v,hv,_⟩ =>by simp at hv⟩
  | v::vs,im,asg,hnd,hpre,hex,hcd,hfu=>by
    rw[Z57]at hnd;obtain⟨hv1,hv2,hv3⟩ :=hpre v (by simp);have hvn:v∉vs:=fun h2=>by have:=hnd.1 v h2;omega
    have hpre2:∀t,∀u∈vs,u< (im.set v t).length/\u< (asg.set v true).length/\(asg.set v true).getD u false=false:=by
      intro t u hu;obtain⟨h1,h2,h3⟩ :=hpre u (by simp[hu]);have hne:v≠u:=fun e=>hvn (by rw[e];exact hu)
      exact⟨by simpa using h1,by simpa using h2,by rw[getD_set_ne _ _ _ _ _ hne];exact h3⟩
    have hex2:Ext (im.set v (h v)) (asg.set v true) h:=by
      intro u hu
      by_cases e:v=u
      . subst e;rw[zeY _ _ _ _ hv1]
      . rw[getD_set_ne _ _ _ _ _ e]at hu|-;exact hex u hu
    obtain⟨r0,h0,hl0⟩ :=ztL P hchk hs h vs _ _ hnd.2 (hpre2 (h v)) hex2 (fun u hu=>hcd u (by simp[hu])) (fun k ⟨w,hw,hwk⟩ =>hfu k ⟨w,by simp[hw],hwk⟩);have hck:chk v (im.set v (h v)) (asg.set v true)=true:=(hchk _ _ _).2 fun k hk=>P.p1 k _ _ h hex2 (hfu k ⟨v,by simp,hk⟩)
    obtain⟨t,r,ht,hf,hft,hlt⟩ :=zuC (fun t=>if chk v (im.set v t) (asg.set v true)=true then zhB chk cand vs (im.set v t) (asg.set v true)else none) cand hs (h v) (hcd v (by simp)) r0 (by simp only[hck,Z61];exact h0);refine⟨r,by simp only[zhB];exact hf,?_⟩;split at hft
    . have hrv:fnL r.1 v=t:=by
        have:=(zjF P (fun v im asg hc=>(hchk v im asg).1 hc) vs _ _ r (hnd.2.imp fun hab=>Nat.ne_of_lt hab) (hpre2 t) hft).2.2.1 v hvn;rw[this.1];exact zeY _ _ _ _ hv1
      rintro⟨w,hw,hwl,hwe⟩;rcases Z6.1 hw with rfl|hw
      . rw[hrv]at hwl;rcases hlt with hlt|rfl
        . exact zgT _ (zgV hwl hlt)
        . exact zgT _ hwl
      . have hvw:=hnd.1 w hw;have e:=hwe v (by simp) hvw;rw[hrv]at e;subst e;rw[h0]at hft;cases hft;exact hl0 ⟨w,hw,hwl,fun u hu hlt=>hwe u (by simp[hu]) hlt⟩
    . cases hft
def zdi(chk:Nat->List Trm->List Bool->Bool)(cand:List Trm)(st:List Trm×List Bool)(g:List Nat):(List Trm×List Bool)⊕Unit:=match zhB chk cand g st.1 st.2 with
 |some r=> .inl r
 |none=> .inr ()
structure zk5{κ:Type}(P:Csp κ)(n:Nat)(asg0:List Bool)(G:List (List Nat)):Prop where
  srt:∀g∈G,g.Pairwise (· < ·)
  rng:∀g∈G,∀v∈g,v<n
  dis:G.Pairwise fun g g'=>∀v∈g,v∉g'
  sep:∀k,∀g∈G,(∃v∈g,v∈P.vars k)->∀u∈P.vars k,u∈g\/asg0.getD u false=true
def zk5.tl{κ:Type}{P:Csp κ}{n:Nat}{asg0:List Bool}{g:List Nat}{G:List (List Nat)}(H:zk5 P n asg0 (g::G)):zk5 P n asg0 G:=
 ⟨fun x hx=>H.srt x (by simp[hx]),fun x hx=>H.rng x (by simp[hx]),(Z57.1 H.dis).2,fun k x hx=>H.sep k x (by simp[hx])⟩
structure zni(n:Nat)(im0:List Trm)(asg0:List Bool)(G:List (List Nat))(st:List Trm×List Bool):Prop where
 l1:st.1.length=n
 l2:st.2.length=n
 ext:∀v,asg0.getD v false=true->st.2.getD v false=true/\fnL st.1 v=fnL im0 v
 fre:∀g∈G,∀v∈g,st.2.getD v false=false
theorem zni.nx{κ:Type}{P:Csp κ}{chk:Nat->List Trm->List Bool->Bool}{cand:List Trm}(hchk:∀v im asg,chk v im asg=true->∀k,v∈P.vars k->P.ok k im asg){n:Nat}{im0:List Trm}{asg0:List Bool}{g:List Nat}{G:List (List Nat)}{st r:List Trm×List Bool}(HG:zk5 P n asg0 (g::G))(HS:zni n im0 asg0 (g::G) st)(hr:zhB chk cand g st.1 st.2=some r):zni n im0 asg0 G r/\(∀u,u∉g->fnL r.1 u=fnL st.1 u)/\(∀u∈g,fnL r.1 u∈cand/\r.2.getD u false=true)/\(∀u,st.2.getD u false=true->u∉g)/\
  (∀k,(∃v∈g,v∈P.vars k)->P.full k (fnL r.1)):=by
 have hnd:g.Nodup:=(HG.srt g (by simp)).imp fun hab=>Nat.ne_of_lt hab
 have hpre:∀v∈g,v<st.1.length/\v<st.2.length/\st.2.getD v false=false:=fun v hv=>⟨by rw[HS.l1];exact HG.rng g (by simp) v hv,by rw[HS.l2];exact HG.rng g (by simp) v hv,HS.fre g (by simp) v hv⟩
 obtain⟨g1,g2,g3,g4,g5⟩ :=zjF P hchk g _ _ r hnd hpre hr;have hfr:∀u,st.2.getD u false=true->u∉g:=fun u hu hg=>by rw[(hpre u hg).2.2]at hu;cases hu
 refine⟨⟨g1.trans HS.l1,g2.trans HS.l2,fun v hv=> ?_,fun g' hg' v hv=> ?_⟩,fun u hu=>(g3 u hu).1,g4,hfr,fun k hk=>g5 k hk fun u hu=> ?_⟩
 .obtain⟨h1,h2⟩ :=HS.ext v hv;obtain⟨h3,h4⟩ :=g3 v (hfr v h1);exact⟨h4.trans h1,h3.trans h2⟩
 .have hn:v∉g:=fun h=>(Z57.1 HG.dis).1 g' hg' v h hv
  rw[(g3 v hn).2];exact HS.fre g' (by simp[hg']) v hv
 .rcases HG.sep k g (by simp) hk u hu with h|h
  .exact (g4 u h).2
  .have h1:=(HS.ext u h).1;rw[(g3 u (hfr u h1)).2];exact h1
theorem zjO{κ:Type}(P:Csp κ){chk:Nat->List Trm->List Bool->Bool}{cand:List Trm}(hchk:∀v im asg,chk v im asg=true->∀k,v∈P.vars k->P.ok k im asg){n:Nat}{im0:List Trm}{asg0:List Bool}:
  ∀(G:List (List Nat)) (st r:List Trm×List Bool),zk5 P n asg0 G->zni n im0 asg0 G st->zdn (zdi chk cand) st G= .inl r->
  r.1.length=n/\(∀v,asg0.getD v false=true->fnL r.1 v=fnL im0 v)/\(∀u,st.2.getD u false=true->fnL r.1 u=fnL st.1 u)/\(∀g∈G,∀u∈g,fnL r.1 u∈cand)/\(∀k,∀g∈G,(∃v∈g,v∈P.vars k)->P.full k (fnL r.1))
 |[],st,r,HG,HS,h=>by
  cases h;exact⟨HS.l1,fun v hv=>(HS.ext v hv).2,fun _ _=>rfl,by simp,by simp⟩
 |g::G,st,r,HG,HS,h=>by
  rw[ziT]at h;cases hq:zhB chk cand g st.1 st.2 with
  |none=>
   have:zdi chk cand st g= .inr ():=by unfold zdi;rw[hq]
   rw[this]at h;cases h
  |some r1=>
   have:zdi chk cand st g= .inl r1:=by unfold zdi;rw[hq]
   rw[this]at h;obtain⟨HS1,h1,h2,h3,h4⟩ :=HS.nx hchk HG hq;obtain⟨k1,k2,k3,k4,k5⟩ :=zjO P hchk G r1 r HG.tl HS1 h;have key:∀u,(u∈g\/st.2.getD u false=true)->fnL r.1 u=fnL r1.1 u:=by
    intro u hu;refine k3 u ?_;rcases hu with hu|hu
    .exact (h2 u hu).2
    .have hpre:∀v∈g,v<st.1.length/\v<st.2.length/\st.2.getD v false=false:=fun v hv=>⟨by rw[HS.l1];exact HG.rng g (by simp) v hv,by rw[HS.l2];exact HG.rng g (by simp) v hv,HS.fre g (by simp) v hv⟩
     have hnd:g.Nodup:=(HG.srt g (by simp)).imp fun hab=>Nat.ne_of_lt hab
     rw[((zjF P hchk g _ _ r1 hnd hpre hq).2.2.1 u (h3 u hu)).2];exact hu
   refine⟨k1,k2,fun u hu=>(key u (.inr hu)).trans (h1 u (h3 u hu)),fun g' hg' u hu=> ?_,fun k g' hg' hk=> ?_⟩
   .rcases Z6.1 hg' with rfl|hg'
    .rw[key u (.inl hu)];exact (h2 u hu).1
    .exact k4 g' hg' u hu
   .rcases Z6.1 hg' with rfl|hg'
    .refine P.p3 k (fnL r1.1) (fnL r.1) (fun u hu=> ?_) (h4 k hk);rcases HG.sep k g' (by simp) hk u hu with hu2|hu2
     .exact (key u (.inl hu2)).symm
     .exact (key u (.inr (HS.ext u hu2).1)).symm
    .exact k5 k g' hg' hk
theorem zuM{κ:Type}(P:Csp κ){chk:Nat->List Trm->List Bool->Bool}{cand:List Trm}(hchk:∀v im asg,chk v im asg=true↔∀k,v∈P.vars k->P.ok k im asg)(hs:cand.Pairwise tLt){n:Nat}{im0:List Trm}{asg0:List Bool}(h:Nat->Trm)(h0:Ext im0 asg0 h):
  ∀(G:List (List Nat)) (st:List Trm×List Bool),zk5 P n asg0 G->zni n im0 asg0 G st->(∀g∈G,∀v∈g,h v∈cand)->(∀k,∀g∈G,(∃v∈g,v∈P.vars k)->P.full k h)->
  ∃r,zdn (zdi chk cand) st G= .inl r/\∀g∈G,¬zDT g h (fnL r.1)
 |[],st,_,_,_,_=>⟨st,rfl,by simp⟩
 |g::G,st,HG,HS,hcd,hfu=>by
  have hpre:∀v∈g,v<st.1.length/\v<st.2.length/\st.2.getD v false=false:=fun v hv=>⟨by rw[HS.l1];exact HG.rng g (by simp) v hv,by rw[HS.l2];exact HG.rng g (by simp) v hv,HS.fre g (by simp) v hv⟩
  let h2:Nat->Trm:=fun u=>if st.2.getD u false=true then fnL st.1 u else h u
  have e1:∀v∈g,h2 v=h v:=fun v hv=>by
   show(if st.2.getD v false=true then fnL st.1 v else h v)=h v;rw[(hpre v hv).2.2];rfl
  have e2:∀v,asg0.getD v false=true->h2 v=h v:=fun v hv=>by
   show(if st.2.getD v false=true then fnL st.1 v else h v)=h v;obtain⟨k1,k2⟩ :=HS.ext v hv;rw[k1,k2];exact (h0 v hv).symm
  obtain⟨r1,hq,hl⟩ :=ztL P hchk hs h2 g st.1 st.2 (HG.srt g (by simp)) hpre (fun v hv=>by
   show(if st.2.getD v false=true then fnL st.1 v else h v)=_;rw[hv];rfl) (fun v hv=>by rw[e1 v hv];exact hcd g (by simp) v hv) (fun k hk=>by
   refine P.p3 k h h2 (fun u hu=> ?_) (hfu k g (by simp) hk);rcases HG.sep k g (by simp) hk u hu with hu|hu
   .exact (e1 u hu).symm
   .exact (e2 u hu).symm)
  obtain⟨HS1,h1,h2',h3,h4⟩ :=HS.nx (fun v im asg hc=>(hchk v im asg).1 hc) HG hq;obtain⟨r,hr,hlr⟩ :=zuM P hchk hs h h0 G r1 HG.tl HS1 (fun g' hg'=>hcd g' (by simp[hg'])) (fun k g' hg'=>hfu k g' (by simp[hg']));refine⟨r,?_,fun g' hg'=> ?_⟩
  .have:zdi chk cand st g= .inl r1:=by unfold zdi;rw[hq]
   rw[ziT,this];exact hr
  .rcases Z6.1 hg' with rfl|hg'
   .rintro⟨w,hw,hwl,hwe⟩;have k3:=(zjO P (fun v im asg hc=>(hchk v im asg).1 hc) G r1 r HG.tl HS1 hr).2.2.1;have e3:∀u∈g',fnL r.1 u=fnL r1.1 u:=fun u hu=>k3 u (h2' u hu).2
    refine hl ⟨w,hw,?_,fun u hu hlt=> ?_⟩
    .rw[e1 w hw,<-e3 w hw];exact hwl
    .rw[e1 u hu,<-e3 u hu];exact hwe u hu hlt
   .exact hlr g' hg'
def ziZ{g:List Nat}{i:Nat}(h:¬g.getD i i<i):root g i=i:=by rw[root_eq,Z50 h]
def root_lt{g:List Nat}{i:Nat}(h:g.getD i i<i):root g i=root g (g.getD i i):=by rw[root_eq,Z52 h]
def zvv(g:List Nat):∀i,¬g.getD (root g i) (root g i)<root g i:=by
 intro i
 induction i using Nat.strongRecOn with
 |ind i ih=>
  by_cases h:g.getD i i<i
  .rw[root_lt h];exact ih _ h
  .rw[ziZ h];exact h
def zFJ{g:List Nat}{R s:Nat}(hR:¬g.getD R R<R)(hs:¬g.getD s s<s)(hsR:s<=R)(hl:R<g.length):∀x,root (g.set R s) x=if root g x=R then s else root g x:=by
 intro x
 induction x using Nat.strongRecOn with
 |ind x ih=>
  by_cases hx:x=R
  .subst hx;rw[Z52 (ziZ hR)];have e:(g.set x s).getD x x=s:=by simp[Z49,hl]
   by_cases h:s<x
   .rw[root_lt (by rw[e];exact h),e,ih s h,ziZ hs,Z50 (by omega)]
   .have:s=x:=by omega
    subst this;exact ziZ (by rw[e];omega)
  .have e:(g.set R s).getD x x=g.getD x x:=by
    have:¬R=x:=fun h=>hx h.symm
    simp[Z49,Z88,this]
   by_cases h:g.getD x x<x
   .rw[root_lt (by rw[e];exact h),e,ih _ h,root_lt h]
   .rw[ziZ (by rw[e];exact h),ziZ h,Z50 hx]
def zlG{g:List Nat}{a b:Nat}(ha:a<g.length)(hb:b<g.length)(x:Nat):root (uni g a b) x=if root g x=max (root g a) (root g b)then min (root g a) (root g b)else root g x:=by
 have h1:=zvv g a;have h2:=zvv g b;have h3:=ziX g a;have h4:=ziX g b;unfold uni;refine zFJ ?_ ?_ (by omega) (by omega) x
 .rcases Z197 (root g a) (root g b)with h|h
  .rw[Z163 h];exact h2
  .rw[Z170 h];exact h1
 .rcases Z197 (root g a) (root g b)with h|h
  .rw[Z74 h];exact h1
  .rw[Z203 h];exact h2
def zdk(g g':List Nat):Prop:=g'.length=g.length/\∀x y,root g x=root g y->root g' x=root g' y
def zdk.refl(g:List Nat):zdk g g:=⟨rfl,fun _ _ h=>h⟩
def zdk.trans{g g' g'':List Nat}(h1:zdk g g')(h2:zdk g' g''):zdk g g'':=⟨h2.1.trans h1.1,fun x y h=>h2.2 x y (h1.2 x y h)⟩
def zGa{g:List Nat}{a b:Nat}(ha:a<g.length)(hb:b<g.length):zdk g (uni g a b):=by
 refine⟨by simp[uni],fun x y h=> ?_⟩;rw[zlG ha hb,zlG ha hb,h]
def zF9{g:List Nat}{a b:Nat}(ha:a<g.length)(hb:b<g.length):root (uni g a b) a=root (uni g a b) b:=by
 rw[zlG ha hb,zlG ha hb];rcases Z197 (root g a) (root g b)with h|h
 .rw[Z163 h,Z74 h];simp
 .rw[Z170 h,Z203 h];simp
theorem zn1{asg:List Bool}:∀(l:List Nat) (st:Option Nat×List Nat),(∀v∈l,v<st.2.length)->(∀f,st.1=some f->f<st.2.length)->
  zdk st.2 (l.foldl (zfT asg) st).2/\(∀u∈l,asg.getD u false=false->∀f,st.1=some f->root (l.foldl (zfT asg) st).2 u=root (l.foldl (zfT asg) st).2 f)/\
  ∀u∈l,∀w∈l,asg.getD u false=false->asg.getD w false=false->root (l.foldl (zfT asg) st).2 u=root (l.foldl (zfT asg) st).2 w
 |[],st,_,_=>⟨zdk.refl _,by simp,by simp⟩
 |v::l,st,hl,hf=>by
  rw[Z43];have hv:=hl v (by simp);cases ha:asg.getD v false with
  |true=>
   have e:zfT asg st v=st:=by unfold zfT;rw[ha];rfl
   rw[e];obtain⟨k1,k2,k3⟩ :=zn1 l st (fun u hu=>hl u (by simp[hu])) hf;refine⟨k1,fun u hu hz=> ?_,fun u hu w hw hz hz2=> ?_⟩
   .rcases Z6.1 hu with rfl|hu
    .rw[ha]at hz;cases hz
    .exact k2 u hu hz
   .rcases Z6.1 hu with rfl|hu
    .rw[ha]at hz;cases hz
    .rcases Z6.1 hw with rfl|hw
     .rw[ha]at hz2;cases hz2
     .exact k3 u hu w hw hz hz2
  |false=>
   have e:zfT asg st v=(some v,st.1.elim st.2 fun f=>uni st.2 f v):=by unfold zfT;rw[ha];rfl
   rw[e];generalize hg1:(st.1.elim st.2 fun f=>uni st.2 f v)=g1;have hm:zdk st.2 g1/\∀f,st.1=some f->root g1 f=root g1 v:=by
    cases h1:st.1 with
    |none=>rw[h1]at hg1;subst hg1;exact⟨zdk.refl _,fun f h=>by cases h⟩
    |some f=>
     rw[h1]at hg1;subst hg1;have hfl:=hf f h1;exact⟨zGa hfl hv,fun f' h=>by cases h;exact zF9 hfl hv⟩
   obtain⟨k1,k2,k3⟩ :=zn1 (asg:=asg) l (some v,g1) (fun u hu=>by rw[hm.1.1];exact hl u (by simp[hu])) (fun f h=>by cases h;rw[hm.1.1];exact hv);have k4:∀u∈v::l,asg.getD u false=false->root (l.foldl (zfT asg) (some v,g1)).2 u=root (l.foldl (zfT asg) (some v,g1)).2 v:=by
    intro u hu hz;rcases Z6.1 hu with rfl|hu
    .rfl
    .exact k2 u hu hz v rfl
   refine⟨hm.1.trans k1,fun u hu hz f h1=> ?_,fun u hu w hw hz hz2=>(k4 u hu hz).trans (k4 w hw hz2).symm⟩;rw[k4 u hu hz];exact (k1.2 _ _ (hm.2 f h1)).symm
def zBE{asg:List Bool}{g:List Nat}(l:List Nat)(hl:∀v∈l,v<g.length):zdk g (zfj asg g l)/\∀u∈l,∀w∈l,asg.getD u false=false->asg.getD w false=false->root (zfj asg g l) u=root (zfj asg g l) w:=by
 obtain⟨k1,_,k3⟩ :=zn1 (asg:=asg) l (none,g) hl (fun f h=>by cases h);exact⟨k1,k3⟩
theorem zpy{asg:List Bool}:∀(Ls:List (List Nat)) (g:List Nat),(∀l∈Ls,∀v∈l,v<g.length)->zdk g (Ls.foldl (zfj asg) g)/\∀l∈Ls,∀u∈l,∀w∈l,asg.getD u false=false->asg.getD w false=false->root (Ls.foldl (zfj asg) g) u=root (Ls.foldl (zfj asg) g) w
 |[],g,_=>⟨zdk.refl _,by simp⟩
 |l::Ls,g,h=>by
  obtain⟨k1,k2⟩ :=zBE (asg:=asg) l (h l (by simp));obtain⟨k3,k4⟩ :=zpy (asg:=asg) Ls (zfj asg g l) (fun x hx v hv=>by rw[k1.1];exact h x (by simp[hx]) v hv);rw[Z43];refine⟨k1.trans k3,fun x hx u hu w hw hz hz2=> ?_⟩;rcases Z6.1 hx with rfl|hx
  .exact k3.2 _ _ (k2 u hu w hw hz hz2)
  .exact k4 x hx u hu w hw hz hz2
def parts(a:CQ):List (List Trm):=a.as.map (·.ts)++a.cs.map ts2
def zwi(asg:List Bool)(ns:List Str)(a:CQ):zfA asg ns a=((parts a).map (nums ns)).foldl (zfj asg) (List.range ns.length):=by
 unfold zfA parts;rw[Z21,Z143,Z34,Z34,List.foldl_map,List.foldl_map];rfl
def zzO{asg:List Bool}{ns:List Str}{a:CQ}{ts:List Trm}(ht:ts∈parts a){u w:Nat}(hu:u∈nums ns ts)(hw:w∈nums ns ts)(h1:asg.getD u false=false)(h2:asg.getD w false=false):root (zfA asg ns a) u=root (zfA asg ns a) w:=by
 rw[zwi];refine (zpy (asg:=asg) ((parts a).map (nums ns)) (List.range ns.length) ?_).2 (nums ns ts) (Z13.2 ⟨ts,ht,rfl⟩) u hu w hw h1 h2;intro l hl v hv;obtain⟨ts',_,rfl⟩ :=Z13.1 hl;rw[Z38];exact zgQ ts' [] (by simp) v hv
theorem zu9{ns:List Str}{u:Nat}:∀(ts:List Trm) (l:List Nat),u∈ts.foldl (addN ns) l↔u∈l\/∃t∈ts,tv t∈ns/\tv t≠[]/\vix ns (tv t)=u
  |[],l=>by simp
  | t::ts,l=>by
    rw[Z43,zu9 ts];have h1:u∈addN ns l t↔u∈l\/(tv t∈ns/\tv t≠[]/\vix ns (tv t)=u):=by
      unfold addN;split
      . rename_i hc;simp only[Z5,Z32];constructor
        . rintro (h|h)
          . exact .inl h
          . exact .inr ⟨hc.1,hc.2.1,h.symm⟩
        . rintro (h|h)
          . exact .inl h
          . exact .inr h.2.2.symm
      . rename_i hc;constructor
        . exact .inl
        . rintro (h|⟨g1,g2,g3⟩)
          . exact h
          . have h4:l.any (vix ns (tv t)== ·)=true:=by
              cases h5:l.any (vix ns (tv t)== ·)with
              |true=>rfl
              |false=>exact absurd ⟨g1,g2,h5⟩ hc
            obtain⟨x,hx,he⟩ :=Z31.1 h4;have:=beq_iff_eq.1 he;rw[<-g3,this];exact hx
    rw[h1,or_assoc];refine or_congr_right ?_;constructor
    . rintro (h|⟨t',h1,h2⟩)
      . exact⟨t,by simp,h⟩
      . exact⟨t',by simp[h1],h2⟩
    . rintro⟨t',h1,h2⟩;rcases Z6.1 h1 with rfl|h1
      . exact .inl h2
      . exact .inr ⟨t',h1,h2⟩
def zve{ns:List Str}{u:Nat}{ts:List Trm}:u∈nums ns ts↔∃t∈ts,tv t∈ns/\tv t≠[]/\vix ns (tv t)=u:=by
 unfold nums;rw[zu9];simp
def mem_iff{asg:List Bool}{g:List Nat}{k r i:Nat}:i∈mem asg g k r↔i<k/\asg.getD i false=false/\root g i=r:=by
 unfold mem;rw[Z58,Z175];simp
def zuP{asg:List Bool}{ns:List Str}{a:CQ}{g:List Nat}:g∈zey asg ns a->∃r,g=mem asg (zfA asg ns a) ns.length r:=by
 intro h;unfold zey at h;obtain⟨r,_,rfl⟩ :=Z13.1 (Z58.1 h).1;exact⟨r,rfl⟩
def zoA{asg:List Bool}{ns:List Str}{a:CQ}{v:Nat}(hv:v<ns.length)(h:asg.getD v false=false):∃g∈zey asg ns a,v∈g:=by
 have hm:v∈mem asg (zfA asg ns a) ns.length (root (zfA asg ns a) v):=mem_iff.2 ⟨hv,h,rfl⟩;refine⟨_,?_,hm⟩;unfold zey;refine Z58.2 ⟨Z13.2 ⟨root (zfA asg ns a) v,?_,rfl⟩,?_⟩
 .have:=ziX (zfA asg ns a) v;simp;omega
 .have:(mem asg (zfA asg ns a) ns.length (root (zfA asg ns a) v)).length≠0:=fun e=>by
   rw[Z18.1 e]at hm;simp at hm
  simpa using this
def zEZ{asg:List Bool}{ns:List Str}{a:CQ}:∀g∈zey asg ns a,g.Pairwise (· < ·):=by
  intro g hg;obtain⟨r,rfl⟩ :=zuP hg;exact Z173 _ List.pairwise_lt_range
def zuS{asg:List Bool}{ns:List Str}{a:CQ}{ts:List Trm}(ht:ts∈parts a){g:List Nat}(hg:g∈zey asg ns a)(h:∃v∈g,v∈nums ns ts):∀u∈nums ns ts,u∈g\/asg.getD u false=true:=by
 obtain⟨r,rfl⟩ :=zuP hg;obtain⟨v,hv,hvt⟩ :=h;intro u hu;obtain⟨h1,h2,h3⟩ :=mem_iff.1 hv;cases hz:asg.getD u false with
 |true=>exact .inr rfl
 |false=>
  refine .inl (mem_iff.2 ⟨zgQ ts [] (by simp) u hu,hz,?_⟩);rw[<-h3];exact zzO ht hu hvt hz h2
def tI(ns:List Str)(h:Nat->Trm):Trm->Trm
 | .cst n=> .cst n
 | .var v=>h (vix ns v)
def fullA(ns:List Str)(b:CQ)(x:Atm)(h:Nat->Trm):Prop:=∃y∈b.as,x.r=y.r/\x.neg=y.neg/\x.ts.map (tI ns h)=y.ts
def zjN(ns:List Str)(b:CQ)(k:Cm)(h:Nat->Trm):Prop:=zpW b ⟨k.op,tI ns h k.l,tI ns h k.r⟩ =true
abbrev Kd(a:CQ):Type:={x//x∈a.as}⊕{k//k∈a.cs}
theorem znh(f:Trm->Trm):∀l:List Trm,∀p∈l.zip (l.map f),p.2=f p.1
 |[],p,h=>by simp at h
 |x::l,p,h=>by
  simp only[Z11,List.zip_cons_cons,Z6]at h;rcases h with rfl|h
  .rfl
  .exact znh f l p h
theorem zp4(f:Trm->Trm):∀l m:List Trm,l.length=m.length->(∀p∈l.zip m,f p.1=p.2)->l.map f=m
 |[],[],_,_=>rfl
 |[],_::_,h,_=>by simp at h
 |_::_,[],h,_=>by simp at h
 |x::l,y::m,h,h2=>by
  simp only[List.zip_cons_cons]at h2;rw[Z11,zp4 f l m (by simpa using h) fun p hp=>h2 p (by simp[hp])];rw[show f x=y from h2 (x,y) (by simp)]
def zhL{ns:List Str}{im:List Trm}{asg:List Bool}{h:Nat->Trm}(he:Ext im asg h){t:Trm}(ht:(zdd ns im asg t).2=true):(zdd ns im asg t).1=tI ns h t:=by
 cases t with
 |cst n=>rfl
 |var v=>exact (he _ ht).symm
def zoF{ns:List Str}{im:List Trm}{asg:List Bool}{ts:List Trm}(h:∀u∈nums ns ts,asg.getD u false=true){t:Trm}(ht:t∈ts)(hi:InV ns t):(zdd ns im asg t).2=true:=by
 cases t with
 |cst n=>rfl
 |var v=>exact h _ (zve.2 ⟨_,ht,hi.2 v rfl,hi.1,rfl⟩)
def zAt{ns:List Str}{h h':Nat->Trm}{ts:List Trm}(he:∀u∈nums ns ts,h u=h' u){t:Trm}(ht:t∈ts)(hi:InV ns t):tI ns h t=tI ns h' t:=by
 cases t with
 |cst n=>rfl
 |var v=>exact he _ (zve.2 ⟨_,ht,hi.2 v rfl,hi.1,rfl⟩)
def csp(ns:List Str)(a b:CQ)(hv:zg7 ns a):Csp (Kd a) where
 vars:=fun k=>match k with
  | .inl x=>nums ns x.1.ts
  | .inr k=>nums ns (ts2 k.1)
 full:=fun k h=>match k with
  | .inl x=>fullA ns b x.1 h
  | .inr k=>zjN ns b k.1 h
 ok:=fun k im asg=>match k with
  | .inl x=>b.as.any (ziy ns im asg x.1)=true
  | .inr k=>okK ns im asg b k.1=true
 p1:=by
  rintro (⟨x,hx⟩ |⟨k,hk⟩) im asg h he hf
  .obtain⟨y,hy,h1,h2,h3⟩ :=hf;refine Z31.2 ⟨y,hy,?_⟩;unfold ziy;simp only[Z15,beq_iff_eq,Z87,Z51,Z81,Z148];refine⟨h1,h2,by rw[<-h3,Z19],fun p hp=> ?_⟩;rw[<-h3]at hp;have e:=znh _ _ p hp;cases hz:(zdd ns im asg p.1).2 with
   |false=>exact .inl rfl
   |true=>
    refine .inr ?_;rw[zhL he hz,e];simp[zv1]
  .have hf:zjN ns b k h:=hf;show okK ns im asg b k=true;unfold okK;cases hl:(zdd ns im asg k.l).2 with
   |false=>rfl
   |true=>
    cases hr:(zdd ns im asg k.r).2 with
    |false=>rfl
    |true=>
     rw[zhL he hl,zhL he hr];unfold zjN at hf;rw[hf];rfl
 p2:=by
  rintro (⟨x,hx⟩ |⟨k,hk⟩) im asg h hu hok he
  .obtain⟨y,hy,hf⟩ :=Z31.1 hok;unfold ziy at hf;simp only[Z15,beq_iff_eq,Z87,Z51,Z81,Z148]at hf;obtain⟨h1,h2,h3,h4⟩ :=hf;refine⟨y,hy,h1,h2,zp4 _ _ _ h3 fun p hp=> ?_⟩;have hz:=zoF (im:=im) hu (List.of_mem_zip hp).1 (hv.va x hx _ (List.of_mem_zip hp).1);rcases h4 p hp with h5|h5
   .rw[hz]at h5;cases h5
   .rw[zhL he hz]at h5;simpa [zv1]using h5
  .have hok:okK ns im asg b k=true:=hok;show zjN ns b k h;have hl:=zoF (im:=im) (t:=k.l) hu (by simp[ts2]) (hv.vc k hk).1;have hr:=zoF (im:=im) (t:=k.r) hu (by simp[ts2]) (hv.vc k hk).2;unfold okK at hok;rw[hl,hr,zhL he hl,zhL he hr]at hok;unfold zjN;simpa using hok
 p3:=by
  rintro (⟨x,hx⟩ |⟨k,hk⟩) h h' he hf
  .obtain⟨y,hy,h1,h2,h3⟩ :=hf;refine⟨y,hy,h1,h2,?_⟩;rw[<-h3];refine Z69 fun t ht=> ?_
   exact (zAt he ht (hv.va x hx t ht)).symm
  .have hf:zjN ns b k h:=hf;show zjN ns b k h';unfold zjN at*;rw[<-zAt (t:=k.l) he (by simp[ts2]) (hv.vc k hk).1,<-zAt (t:=k.r) he (by simp[ts2]) (hv.vc k hk).2];exact hf
def zCI{ns:List Str}{a:CQ}{i v:Nat}:i∈fA ns a a.as.length v↔∃h:i<a.as.length,v∈nums ns a.as[i].ts:=by
 unfold fA;rw[Z58,Z175];unfold zzZ;constructor
 .rintro⟨h,h2⟩;rw[Z0 h]at h2;exact⟨h,by simpa using h2⟩
 .rintro⟨h,h2⟩;rw[Z0 h];exact⟨h,by simpa using h2⟩
def zCJ{ns:List Str}{a:CQ}{i v:Nat}:i∈fC ns a a.cs.length v↔∃h:i<a.cs.length,v∈nums ns (ts2 a.cs[i]):=by
 unfold fC;rw[Z58,Z175];unfold zz0;constructor
 .rintro⟨h,h2⟩;rw[Z0 h]at h2;exact⟨h,by simpa using h2⟩
 .rintro⟨h,h2⟩;rw[Z0 h];exact⟨h,by simpa using h2⟩
def zp6{ns:List Str}{im:List Trm}{asg:List Bool}{a b:CQ}{i:Nat}(h:i<a.as.length):okA ns im asg a b i=b.as.any (ziy ns im asg a.as[i]):=by
 unfold okA;rw[Z0 h]
def zp9{ns:List Str}{im:List Trm}{asg:List Bool}{a b:CQ}{i:Nat}(h:i<a.cs.length):okC ns im asg a b i=okK ns im asg b a.cs[i]:=by
 unfold okC;rw[Z0 h]
def zqZ(ns:List Str)(a b:CQ)(v:Nat)(im:List Trm)(asg:List Bool):Bool:=acc ns im asg a b (fA ns a a.as.length v) (fC ns a a.cs.length v)
def znZ{ns:List Str}{a b:CQ}(hv:zg7 ns a)(v:Nat)(im:List Trm)(asg:List Bool):zqZ ns a b v im asg=true↔∀k,v∈(csp ns a b hv).vars k->(csp ns a b hv).ok k im asg:=by
 unfold zqZ acc;rw[Z15,Z51,Z51];constructor
 .rintro⟨h1,h2⟩ (⟨x,hx⟩ |⟨k,hk⟩) hk2
  .obtain⟨i,hi,rfl⟩ :=Z131 hx;have:=h1 i (zCI.2 ⟨hi,hk2⟩);rw[zp6 hi]at this;exact this
  .obtain⟨i,hi,rfl⟩ :=Z131 hk;have:=h2 i (zCJ.2 ⟨hi,hk2⟩);rw[zp9 hi]at this;exact this
 .intro h;refine⟨fun i hi=> ?_,fun i hi=> ?_⟩
  .obtain⟨h1,h2⟩ :=zCI.1 hi;rw[zp6 h1];exact h (.inl ⟨a.as[i],Z2 h1⟩) h2
  .obtain⟨h1,h2⟩ :=zCJ.1 hi;rw[zp9 h1];exact h (.inr ⟨a.cs[i],Z2 h1⟩) h2
def zwz{ns:List Str}{a b:CQ}(hv:zg7 ns a)(im:List Trm)(asg:List Bool):acc ns im asg a b (List.range a.as.length) (List.range a.cs.length)=true↔∀k,(csp ns a b hv).ok k im asg:=by
 unfold acc;rw[Z15,Z51,Z51];constructor
 .rintro⟨h1,h2⟩ (⟨x,hx⟩ |⟨k,hk⟩)
  .obtain⟨i,hi,rfl⟩ :=Z131 hx;have:=h1 i (by simpa using hi);rw[zp6 hi]at this;exact this
  .obtain⟨i,hi,rfl⟩ :=Z131 hk;have:=h2 i (by simpa using hi);rw[zp9 hi]at this;exact this
 .intro h;refine⟨fun i hi=> ?_,fun i hi=> ?_⟩
  .have h1:i<a.as.length:=by simpa using hi
   rw[zp6 h1];exact h (.inl ⟨a.as[i],Z2 h1⟩)
  .have h1:i<a.cs.length:=by simpa using hi
   rw[zp9 h1];exact h (.inr ⟨a.cs[i],Z2 h1⟩)
theorem zBs(ns:List Str)(a b:CQ)(cand:List Trm):∀(vs:List Nat) (im:List Trm) (asg:List Bool),zhb ns a b cand (fA ns a a.as.length) (fC ns a a.cs.length) vs im asg=zhB (zqZ ns a b) cand vs im asg
 |[],im,asg=>rfl
 |v::vs,im,asg=>by
  simp only[zhb,zhB]
  congr 1
  funext t
  rw[zBs ns a b cand vs];rfl
def zxW(ns:List Str)(a b:CQ)(cand:List Trm):stepG ns a b cand (fA ns a a.as.length) (fC ns a a.cs.length)=zdi (zqZ ns a b) cand:=by
 funext st g
 unfold stepG zdi;rw[zBs]
 first|done|(cases zhB (zqZ ns a b) cand g st.1 st.2<;>rfl)
theorem zzS{ns:List Str}{a b:CQ}(hv:zg7 ns a)(asg:List Bool):zk5 (csp ns a b hv) ns.length asg (zey asg ns a) where
 srt:=zEZ
 rng:=fun g hg v hvg=>((zkN g hg).2.2 v hvg).1
 dis:=zuN
 sep:=by
  rintro (⟨x,hx⟩ |⟨k,hk⟩) g hg h
  .exact zuS (Z103 _ (Z13.2 ⟨x,hx,rfl⟩)) hg h
  .exact zuS (Z97 _ (Z13.2 ⟨k,hk,rfl⟩)) hg h
structure Sol(ns:List Str)(a b:CQ)(hd:List Str)(cand:List Trm)(hv:zg7 ns a)(h:Nat->Trm):Prop where
 full:∀k,(csp ns a b hv).full k h
 cd:∀v,v<ns.length->h v∈cand
 hd:∀x∈hd,x∈ns->h (vix ns x)= .var x
structure Fxd(ns:List Str)(cand:List Trm)(hd:List Str)(st:List Trm×List Bool):Prop where
 l1:st.1.length=ns.length
 l2:st.2.length=ns.length
 asn:∀v,st.2.getD v false=true->∃x∈hd,x∈ns/\vix ns x=v/\fnL st.1 v= .var x/\Trm.var x∈cand
def zwD{cand:List Trm}{x:Str}:cand.any (fun t=>zb2 t (.var x))=true↔Trm.var x∈cand:=by
 rw[Z31];constructor
 .rintro⟨t,ht,h⟩;rw[<-(zfv _ _).1 h];exact ht
 .intro h;exact⟨_,h,(zfv _ _).2 rfl⟩
def zNs{ns:List Str}{x y:Str}(hx:x∈ns)(hy:y∈ns)(h:vix ns x=vix ns y):x=y:=by
 have h1:=zrR hx;have h2:=zrR hy;rw[<-h1,<-h2]
 congr 1
def zEN{ns:List Str}{cand:List Trm}{hd:List Str}{st st':List Trm×List Bool}{x:Str}(hx:x∈hd)(H:Fxd ns cand hd st)(h:fixF ns cand st x= .inl st'):Fxd ns cand hd st'/\(x∈ns->st'.2.getD (vix ns x) false=true)/\∀v,st.2.getD v false=true->st'.2.getD v false=true:=by
 unfold fixF at h;split at h
 .rename_i hm;split at h
  .rename_i hc;cases h;have hl:=ziw hm;refine⟨⟨by simpa using H.l1,by simpa using H.l2,fun v hv=> ?_⟩,fun _=>zeY _ _ _ _ (by rw[H.l2];exact hl),fun v hv=> ?_⟩
   .by_cases e:vix ns x=v
    .subst e;exact⟨x,hx,hm,rfl,zeY _ _ _ _ (by rw[H.l1];exact hl),zwD.1 hc⟩
    .simp only at hv;rw[getD_set_ne _ _ _ _ _ e]at hv;obtain⟨y,h1,h2,h3,h4,h5⟩ :=H.asn v hv;exact⟨y,h1,h2,h3,(getD_set_ne _ _ _ _ _ e).trans h4,h5⟩
   .by_cases e:vix ns x=v
    .subst e;exact zeY _ _ _ _ (by rw[H.l2];exact hl)
    .exact (getD_set_ne _ _ _ _ _ e).trans hv
  .cases h
 .rename_i hm;cases h;exact⟨H,fun h=>absurd h hm,fun _ h=>h⟩
theorem zq4{ns:List Str}{cand:List Trm}{hd:List Str}:∀(l:List Str) (st st':List Trm×List Bool),(∀x∈l,x∈hd)->Fxd ns cand hd st->zdn (fixF ns cand) st l= .inl st'->Fxd ns cand hd st'/\(∀x∈l,x∈ns->st'.2.getD (vix ns x) false=true)/\∀v,st.2.getD v false=true->st'.2.getD v false=true
 |[],st,st',_,H,h=>by
  cases h;exact⟨H,by simp,fun _ h=>h⟩
 |x::l,st,st',hl,H,h=>by
  rw[ziT]at h;cases hf:fixF ns cand st x with
  |inr r=>rw[hf]at h;cases h
  |inl s1=>
   rw[hf]at h;obtain⟨k1,k2,k3⟩ :=zEN (hl x (by simp)) H hf;obtain⟨k4,k5,k6⟩ :=zq4 l s1 st' (fun y hy=>hl y (by simp[hy])) k1 h;refine⟨k4,fun y hy hyn=> ?_,fun v hv=>k6 v (k3 v hv)⟩;rcases Z6.1 hy with rfl|hy
   .exact k6 _ (k2 hyn)
   .exact k5 y hy hyn
theorem zw2{ns:List Str}{cand:List Trm}:∀(l:List Str) (st:List Trm×List Bool) (r:Unit),zdn (fixF ns cand) st l= .inr r->∃x∈l,x∈ns/\Trm.var x∉cand
 |[],st,r,h=>by cases h
 |x::l,st,r,h=>by
  rw[ziT]at h;cases hf:fixF ns cand st x with
  |inr r1=>
   unfold fixF at hf;split at hf
   .rename_i hm;split at hf
    .cases hf
    .rename_i hc;exact⟨x,by simp,hm,fun h2=>hc (zwD.2 h2)⟩
   .cases hf
  |inl s1=>
   rw[hf]at h;obtain⟨y,h1,h2⟩ :=zw2 l s1 r h;exact⟨y,by simp[h1],h2⟩
section
variable {ns:List Str}{a b:CQ}{cand:List Trm}{hd:List Str}(hv:zg7 ns a)
def zkr(ns:List Str):List Trm×List Bool:=(List.replicate ns.length (.var []),List.replicate ns.length false)
def zIj:Fxd ns cand hd (zkr ns):=
 ⟨by simp[zkr],by simp[zkr],fun v hv=>by
  simp only[zkr,Z49,Z161]at hv;split at hv<;>simp at hv⟩
def zre(ns:List Str)(a b:CQ)(hd:List Str)(cand:List Trm):Option (List Trm):=zoE ns a b cand (fA ns a a.as.length) (fC ns a a.cs.length) (zdn (fixF ns cand) (zkr ns) hd)
def zzT{st:List Trm×List Bool}(H:Fxd ns cand hd st):zni ns.length st.1 st.2 (zey st.2 ns a) st:=
 ⟨H.l1,H.l2,fun v hv=>⟨hv,rfl⟩,fun g hg v hvg=>((zkN g hg).2.2 v hvg).2⟩
def zNr:∀k,∀u∈(csp ns a b hv).vars k,u<ns.length:=by
 rintro (⟨x,hx⟩ |⟨k,hk⟩) u hu
 .exact zgQ _ [] (by simp) u hu
 .exact zgQ _ [] (by simp) u hu
def zCr{im:List Trm}(h:zre ns a b hd cand=some im):im.length=ns.length/\Sol ns a b hd cand hv (fnL im):=by
 unfold zre at h;cases hf:zdn (fixF ns cand) (zkr ns) hd with
 |inr r=>rw[hf]at h;simp[zoE]at h
 |inl st=>
  rw[hf]at h;simp only[zoE]at h;split at h
  .rename_i hacc;obtain⟨HF,hall,_⟩ :=zq4 hd (zkr ns) st (fun x hx=>hx) zIj hf;simp only[zzY,zxW]at h;cases hg:zdn (zdi (zqZ ns a b) cand) st (zey st.2 ns a)with
   |inr r=>rw[hg]at h;cases h
   |inl r=>
    rw[hg]at h;cases h;obtain⟨k1,k2,k3,k4,k5⟩ :=zjO (csp ns a b hv) (fun v im asg hc=>(znZ hv v im asg).1 hc) _ st r (zzS hv st.2) (zzT HF) hg;refine⟨k1,⟨fun k=> ?_,fun v hvn=> ?_,fun x hx hxn=> ?_⟩⟩
    .by_cases hex:∃v∈(csp ns a b hv).vars k,st.2.getD v false=false
     .obtain⟨v,hvk,hz⟩ :=hex;obtain⟨g,hg,hvg⟩ :=zoA (a:=a) (zNr hv k v hvk) hz;exact k5 k g hg ⟨v,hvg,hvk⟩
     .refine (csp ns a b hv).p2 k st.1 st.2 _ (fun u hu=> ?_) ((zwz hv _ _).1 hacc k) fun v hz=>k2 v hz
      cases hz:st.2.getD u false with
      |true=>rfl
      |false=>exact absurd ⟨u,hu,hz⟩ hex
    .cases hz:st.2.getD v false with
     |true=>
      obtain⟨x,h1,h2,h3,h4,h5⟩ :=HF.asn v hz;rw[k2 v hz,h4];exact h5
     |false=>
      obtain⟨g,hg,hvg⟩ :=zoA (a:=a) hvn hz;exact k4 g hg v hvg
    .have hz:=hall x hx hxn;obtain⟨y,h1,h2,h3,h4,h5⟩ :=HF.asn _ hz;rw[k2 _ hz,h4,zNs h2 hxn h3]
  .cases h
def zE2(hs:cand.Pairwise tLt){h:Nat->Trm}(H:Sol ns a b hd cand hv h):∃im,zre ns a b hd cand=some im/\¬zDT (List.range ns.length) h (fnL im):=by
 unfold zre;cases hf:zdn (fixF ns cand) (zkr ns) hd with
 |inr r=>
  obtain⟨x,h1,h2,h3⟩ :=zw2 hd (zkr ns) r hf;exact absurd (by rw[<-H.hd x h1 h2];exact H.cd _ (ziw h2)) h3
 |inl st=>
  obtain⟨HF,hall,_⟩ :=zq4 hd (zkr ns) st (fun x hx=>hx) zIj hf;have hext:Ext st.1 st.2 h:=fun v hz=>by
   obtain⟨x,h1,h2,h3,h4,h5⟩ :=HF.asn v hz;rw[<-h3,H.hd x h1 h2,h3];exact h4.symm
  have hacc:=(zwz hv st.1 st.2).2 fun k=>(csp ns a b hv).p1 k _ _ h hext (H.full k)
  obtain⟨r,hr,hl⟩ :=zuM (csp ns a b hv) (znZ hv) hs h hext (zey st.2 ns a) st (zzS hv st.2) (zzT HF) (fun g hg v hvg=>H.cd v ((zkN g hg).2.2 v hvg).1) (fun k g hg hk=>H.full k);have hk:=zjO (csp ns a b hv) (fun v im asg hc=>(znZ hv v im asg).1 hc) _ st r (zzS hv st.2) (zzT HF) hr;refine⟨r.1,?_,?_⟩
  .simp only[zoE,hacc,Z61,zzY,zxW,hr]
  .rintro⟨w,hw,hwl,hwe⟩;have hwn:w<ns.length:=by simpa using hw
   cases hz:st.2.getD w false with
   |true=>
    rw[hk.2.1 w hz,hext w hz]at hwl;exact zgT _ hwl
   |false=>
    obtain⟨g,hg,hwg⟩ :=zoA (a:=a) hwn hz;refine hl g hg ⟨w,hwg,hwl,fun u hu hlt=>hwe u ?_ hlt⟩;simpa using((zkN g hg).2.2 u hu).1
end
def hT(h:Str->Trm):Trm->Trm
 | .cst n=> .cst n
 | .var v=>h v
def hA(h:Str->Trm)(a:Atm):Atm:=⟨a.r,a.neg,a.ts.map (hT h)⟩
def Hom(c d:CQ):Prop:=∃h:Str->Trm,∀a∈c.as,hA h a∈d.as
def zRQ(t:Trm):hT .var t=t:=by cases t<;>rfl
def zRP(a:Atm):hA .var a=a:=by
 have:a.ts.map (hT .var)=a.ts:=by
  conv=>rhs;rw[<-List.map_id a.ts]
  exact Z69 fun t _=>zRQ t
 unfold hA;rw[this]
def zhK{c d:CQ}(h:∀a∈c.as,a∈d.as):Hom c d:=⟨.var,fun a ha=>by rw[zRP];exact h a ha⟩
def zjk(c:CQ):Hom c c:=zhK fun _ h=>h
def zL2(f g:Str->Trm)(t:Trm):hT g (hT f t)=hT (fun v=>hT g (f v)) t:=by cases t<;>rfl
def zxb(f g:Str->Trm)(a:Atm):hA g (hA f a)=hA (fun v=>hT g (f v)) a:=by
 unfold hA;simp only[Z34]
 congr 1
 exact Z69 fun t _=>zL2 f g t
def zf5{a b c:CQ}(h1:Hom a b)(h2:Hom b c):Hom a c:=by
 obtain⟨f,hf⟩ :=h1;obtain⟨g,hg⟩ :=h2;exact⟨_,fun x hx=>by rw[<-zxb f g];exact hg _ (hf x hx)⟩
def inA(l:List Atm)(x:Str):Prop:=∃a∈l,Trm.var x∈a.ts
def zD3{l:List Str}{s x:Str}(h:x∈zcL l s):x∈l\/x=s:=by
 unfold zcL at h;split at h
 .exact .inl h
 .rcases Z5.1 h with h|h
  .exact .inl h
  .exact .inr (by simpa using h)
theorem zrV{x:Str}:∀{ts:List Trm} {l:List Str},x∈zd0 l ts->x∈l\/∃t∈ts,x=tv t
 |[],l,h=> .inl h
 |t::ts,l,h=>by
  rcases zrV (ts:=ts) (l:=zcL l (tv t)) h with h|⟨u,hu,e⟩
  .rcases zD3 h with h|h
   .exact .inl h
   .exact .inr ⟨t,by simp,h⟩
  .exact .inr ⟨u,by simp[hu],e⟩
def zx8{c:CQ}(hk:c.cs=[]){x:Str}(hx:x∈vrs c):inA c.as x:=by
 have hne:=(zgW c).2;have e:zd0 [] (tsC c)=vrs c:=zjA c;rw[<-e]at hx;rcases zrV hx with h|⟨t,ht,e2⟩
 .simp at h
 .have hx0:x≠[]:=fun e3=>hne (by rw[<-e,<-e3];exact hx)
  simp only[tsC,hk,Z167,Z23,tsA,Z39]at ht;obtain⟨a,ha,ht⟩ :=ht;cases t with
  |var v=>exact⟨a,ha,by rw[e2];exact ht⟩
  |cst n=>exact absurd e2 hx0
def zqU{c:CQ}(hc:CqOk c){x:Str}(hx:inA c.as x):x∈vrs c:=by
 obtain⟨a,ha,ht⟩ :=hx;exact ((zv9 hc).va a ha _ ht).2 x rfl
def zF7{d:CQ}{a:Atm}(ha:a∈d.as){t:Trm}(ht:t∈a.ts):t∈zo5 d:=by
 rw[zrO];refine (zlQ t _ _).2 (.inl ?_);simp only[tsC,tsA,Z5,Z39];exact .inl ⟨a,ha,ht⟩
def zuB{c d:CQ}(hc:CqOk c)(hk:c.cs=[]):exR [] c d=true↔Hom c d:=by
 have hv:=zv9 hc;have hs:(zo5 d).Pairwise tLt:=by
  rw[zrO];exact zlR _ _ (by simp)
 have e1:zrh c d []=zre (vrs c) c d [] (zo5 d):=by
  unfold zrh zre;rw[zEo];rfl
 unfold exR;rw[e1];constructor
 .intro h;obtain⟨im,him⟩ :=Z159.1 h;obtain⟨-,H⟩ :=zCr hv him;refine⟨fun v=>fnL im (vix (vrs c) v),fun a ha=> ?_⟩;obtain⟨y,hy,h1,h2,h3⟩ :=H.full (.inl ⟨a,ha⟩);have e:hA (fun v=>fnL im (vix (vrs c) v)) a=y:=by
   unfold hA;cases y;simp only at h1 h2 h3;have e3:a.ts.map (hT fun v=>fnL im (vix (vrs c) v))=a.ts.map (tI (vrs c) (fnL im)):=Z69 fun t _=>by cases t<;>rfl
   rw[h1,h2,<-h3,e3]
  rw[e];exact hy
 .rintro⟨h,hh⟩;have key:∀v∈vrs c,h ((vrs c)[vix (vrs c) v]?.getD [])=h v:=fun v hvm=>by
   rw[Z0 (ziw hvm),zrR hvm];rfl
  have H:Sol (vrs c) c d [] (zo5 d) hv (fun i=>h ((vrs c)[i]?.getD [])):=by
   refine⟨?_,fun i hi=> ?_,fun x hx=>by simp at hx⟩
   .rintro (⟨a,ha⟩ |⟨k,hkk⟩)
    .refine⟨hA h a,hh a ha,rfl,rfl,Z69 fun t ht=> ?_⟩;cases t with
     |cst n=>rfl
     |var v=>exact key v ((hv.va a ha _ ht).2 v rfl)
    .rw[hk]at hkk;simp at hkk
   .rw[Z0 hi];obtain⟨a,ha,ht⟩ :=zx8 hk (Z2 hi);exact zF7 (hh a ha) (Z13.2 ⟨_,ht,rfl⟩)
  obtain⟨im,him,-⟩ :=zE2 hv hs H;rw[him];rfl
end Go.Proofs.YtflgmemhalhdbaaGreatDoor
end
