/- The program's Homomorphism. -/
import Derived.Test.YtlnfpifjdcmmlaaGreatDoorPi
import Derived.KernelRfl
import Derived.IntWalk
set_option linter.all false
set_option maxRecDepth 100000
set_option maxHeartbeats 4000000
section
namespace Go.Proofs.YtlnfpifjdcmmlaaGreatDoor
open Go Go.Vse Go.Vse.Sm
def fn44:pr.fn 44=some g44:=by kernel_rfl
theorem zmw:∀(l:List Trm) (p:Trm),∀t∈zgQ p l,t=p\/t∈l
 |[],p,t,h=>by simpa [zgQ]using h
 |x::l,p,t,h=>by
  simp only[zgQ]at h;split at h
  .rcases zmw l x t h with rfl|h
   .exact .inr (by simp)
   .exact .inr (by simp[h])
  .rcases Z6.1 h with rfl|h
   .exact .inr (by simp)
   .rcases zmw l x t h with rfl|h
    .exact .inr (by simp)
    .exact .inr (by simp[h])
def zGc{l:List Trm}:∀t∈cpt l,t∈l:=by
 intro t h;cases l with
 |nil=>simpa [cpt]using h
 |cons x l=>
  simp only[cpt]at h;rcases Z6.1 h with rfl|h
  .simp
  .rcases zmw l x t h with rfl|h
   .simp
   .simp[h]
def zM0{a:CQ}(ha:CqOk a):zrF (vrs a) a:=by
 have key:∀(ts:List Trm) (l:List Str),(∀v∈l,v∈ts.foldl (fun l t=>zde l (tv t)) l)/\∀v,.var v∈ts->v≠[]->v∈ts.foldl (fun l t=>zde l (tv t)) l:=by
  intro ts
  induction ts with
  |nil=>intro l;exact⟨fun v h=>h,fun v h=>by simp at h⟩
  |cons t ts ih=>
   intro l;have h1:∀v∈l,v∈zde l (tv t):=by
    intro v hv;unfold zde;split
    .exact hv
    .simp[hv]
   refine⟨fun v hv=>(ih _).1 v (h1 v hv),fun v hv hne=> ?_⟩;rcases Z6.1 hv with h|h
   .refine (ih _).1 v ?_;subst h;show v∈zde l v;unfold zde;split
    .rename_i h2;rcases h2 with h2|h2
     .exact absurd h2 hne
     .obtain⟨x,hx,he⟩ :=Z31.1 h2;have:=(beq_iff_eq.1 he);subst this;exact hx
    .simp
   .exact (ih _).2 v h hne
 have hall:∀t∈tsC a,InV (vrs a) t:=by
  intro t ht;refine⟨zok ha t ht,fun v hv=> ?_⟩;subst hv;rw[<-zot];refine (key (tsC a) []).2 v ht ?_;exact zok ha _ ht
 refine⟨fun x hx t ht=>hall t ?_,fun k hk=>⟨hall _ ?_,hall _ ?_⟩⟩
 .unfold tsC tsA;exact List.mem_append_left _ (Z39.2 ⟨x,hx,ht⟩)
 .unfold tsC;exact List.mem_append_right _ (Z39.2 ⟨k,hk,by simp[ts2]⟩)
 .unfold tsC;exact List.mem_append_right _ (Z39.2 ⟨k,hk,by simp[ts2]⟩)
def zlF(b:CQ):List Trm:=cpt (zfG (tsC b))
theorem spla(a b:CQ)(ha:CqSm a)(hb:CqSm b):SPla a b (vrs a) (zlF b) (fA (vrs a) a a.as.length) (fC (vrs a) a a.cs.length) where
 ha:=ha.toCqOk
 hb:=hb.toCqOk
 hv:=zM0 ha.toCqOk
 hc:=fun t ht=>ztv (zok hb.toCqOk) t (zGc t ht)
 lc:=by
  have h1:=zyM (zfG (tsC b));have h2:=zpS hb;rw[zqN]at h1;unfold zlF;omega
 iA:=fun v hv=>⟨fun i hi=>by
   have:=(List.mem_filter.1 hi).1;simpa using this,by
   have:=zy4 (vrs a) a a.as.length v;have:=ha.sa;omega⟩
 iC:=fun v hv=>⟨fun i hi=>by
   have:=(List.mem_filter.1 hi).1;simpa using this,by
   have:=zy5 (vrs a) a a.cs.length v;have:=ha.sc;omega⟩
def Clr(im:List Trm)(asg:List Bool):Prop:=∀v,asg.getD v false=false->im.getD v (.var [])= .var []
def zGH{ns:List Str}{cand:List Trm}(hns:[]∉ns){st st':List Trm×List Bool}{x:Str}(h1:zeS st.1 st.2)(h2:Clr st.1 st.2)(hl:st.2.length=st.1.length)(h:fixF ns cand st x= .inl st'):zeS st'.1 st'.2/\Clr st'.1 st'.2/\st'.2.length=st'.1.length:=by
 unfold fixF at h;split at h
 .rename_i hm;split at h
  .cases h;refine⟨zkN h1 (fun e=>hns (by rw[<-e];exact hm)) (by omega),fun v hv=> ?_,by simpa using hl⟩;simp only[List.getD_eq_getElem?_getD,List.getElem?_set]at hv|-
   by_cases e:vix ns x=v
   .subst e
    by_cases hlt:vix ns x<st.2.length
    .simp[hlt]at hv
    .have:¬vix ns x<st.1.length:=by omega
     simp[this]
   .simp only[e,if_false]at hv|-;have:=h2 v (by simpa [List.getD_eq_getElem?_getD]using hv);simpa [List.getD_eq_getElem?_getD]using this
  .cases h
 .cases h;exact⟨h1,h2,hl⟩
theorem zy7{ns:List Str}{cand:List Trm}(hns:[]∉ns):∀(hd:List Str) {st st':List Trm×List Bool},zeS st.1 st.2->Clr st.1 st.2->st.2.length=st.1.length->zeW (fixF ns cand) st hd= .inl st'->zeS st'.1 st'.2/\Clr st'.1 st'.2
 |[],st,st',h1,h2,h3,h=>by
  cases h;exact⟨h1,h2⟩
 |x::hd,st,st',h1,h2,h3,h=>by
  rw[zuB]at h;cases hf:fixF ns cand st x with
  |inl s1=>
   rw[hf]at h;obtain⟨g1,g2,g3⟩ :=zGH hns h1 h2 h3 hf;exact zy7 hns hd g1 g2 g3 h
  |inr r=>rw[hf]at h;cases h
def stepG(ns:List Str)(a b:CQ)(cand:List Trm)(inA inC:Nat->List Nat)(st:List Trm×List Bool)(g:List Nat):(List Trm×List Bool)⊕Unit:=match zhB ns a b cand inA inC g st.1 st.2 with
 |some r=> .inl r
 |none=> .inr ()
def homG(ns:List Str)(a b:CQ)(cand:List Trm)(inA inC:Nat->List Nat)(st:List Trm×List Bool):Option (List Trm):=match zeW (stepG ns a b cand inA inC) st (zgR st.2 ns a)with
 | .inl r=>some r.1
 | .inr _=>none
def zBy(ns:List Str)(a b:CQ)(cand:List Trm)(inA inC:Nat->List Nat)(st:(List Trm×List Bool)⊕Unit):Option (List Trm):=match st with
 | .inr _=>none
 | .inl st=>if acc ns st.1 st.2 a b (List.range a.as.length) (List.range a.cs.length)=true then homG ns a b cand inA inC st else none
def zwW(a b:CQ)(hd:List Str):Option (List Trm):=zBy (vrs a) a b (zlF b) (fA (vrs a) a a.as.length) (fC (vrs a) a a.cs.length) (zeW (fixF (vrs a) (zlF b)) (List.replicate (vrs a).length (.var []),List.replicate (vrs a).length false) hd)
theorem zum{ns:List Str}{a b:CQ}{cand:List Trm}{inA inC:Nat->List Nat}(hc:∀t∈cand,zav t):∀(vs:List Nat) {im:List Trm} {asg:List Bool} {r:List Trm×List Bool},zeS im asg->asg.length<=im.length->zhB ns a b cand inA inC vs im asg=some r->
  zeS r.1 r.2/\r.1.length=im.length/\r.2.length=asg.length/\∀u,u∉vs->r.1.getD u (.var [])=im.getD u (.var [])/\r.2.getD u false=asg.getD u false
 |[],im,asg,r,h1,h2,h=>by
  simp only[zhB,Z46]at h;subst h;exact⟨h1,rfl,rfl,fun _ _=>⟨rfl,rfl⟩⟩
 |v::vs,im,asg,r,h1,h2,h=>by
  simp only[zhB]at h;obtain⟨t,ht,h⟩ :=List.exists_of_findSome?_eq_some h;split at h
  .obtain⟨g1,g2,g3,g4⟩ :=zum hc vs (zkN h1 (hc t ht) h2) (by simpa using h2) h;refine⟨g1,by simpa using g2,by simpa using g3,fun u hu=> ?_⟩;simp only[Z6,not_or]at hu;obtain⟨k1,k2⟩ :=g4 u hu.2;have hne:¬v=u:=fun e=>hu.1 e.symm
   refine⟨k1.trans ?_,k2.trans ?_⟩
   .simp[List.getD_eq_getElem?_getD,List.getElem?_set,hne]
   .simp[List.getD_eq_getElem?_getD,List.getElem?_set,hne]
  .cases h
def zGS{asg:List Bool}{ns:List Str}{a:CQ}:∀g∈zgR asg ns a,g.Nodup/\g.length<=ns.length/\∀v∈g,v<ns.length/\asg.getD v false=false:=by
 intro g hg;unfold zgR at hg;obtain⟨r,_,rfl⟩ :=Z13.1 (List.mem_filter.1 hg).1;refine⟨List.Pairwise.filter _ List.nodup_range,zuM _ _ _ _,fun v hv=> ?_⟩;unfold mem at hv;obtain⟨h1,h2⟩ :=List.mem_filter.1 hv;simp only[Z15,Bool.not_eq_true']at h2;exact⟨by simpa using h1,h2.1⟩
def zBu{asg:List Bool}{ns:List Str}{a:CQ}:(zgR asg ns a).Pairwise fun g g'=>∀v∈g,v∉g':=by
 unfold zgR;refine List.Pairwise.filter _ (List.pairwise_map.2 ?_);refine List.Pairwise.imp ?_ (List.pairwise_lt_range);intro r r' hlt v h1 h2;unfold mem at h1 h2;have e1:=(List.mem_filter.1 h1).2;have e2:=(List.mem_filter.1 h2).2;simp only[Z15,decide_eq_true_eq]at e1 e2;omega
def zBv{asg:List Bool}{ns:List Str}{a:CQ}:(zgR asg ns a).length<=ns.length:=by
 unfold zgR;refine Z4 (List.length_filter_le _ _) ?_;simp
def zCu{α:Type}{rows l:List α}{n k:Nat}(h:rows.take k=l)(hn:n<l.length):rows[n]? =some l[n]:=by
 subst h;have:n<k:=by simp at hn;omega
 rw[List.getElem_take];rw[Z0]
def G1(a b:CQ)(ns:List Str)(dA dC dT:D)(h2:T Ob)(c2 S M I A:Nat)(dG:D)(G:List (List Nat))(n:Nat)(st:List Trm×List Bool)(s:St):Prop:=
 (s.tm.get 8=some (.ptr S 11 0 0)/\s.tm.get 34=some (dG)/\s.tm.get 35=some (.f (.i .i64 G.length))/\s.tm.get 36=some (.f (.i .i64 n)))/\SAt a b ns st.1 st.2 dA dC dT s.h s.c S M I A/\FrI h2 s.h c2 I A/\c2<=s.c/\s.lw<=s.c/\zeS st.1 st.2/\∀j (hj:j<G.length),n<=j->∀v∈G[j],v<ns.length/\st.1.getD v (.var [])= .var []/\st.2.getD v false=false
def zmX:Option (List Trm)->F
 |none=> .tu [.nils,.b false]
 |some l=> .tu [.sl 4 (l.map tmF),.b true]
def ans44(a b:CQ)(hd:List Str)(ha:CqSm a)(hb:CqSm b)(hh:hd.length<1000):Ans pr 44 [.ag (cqF a),.ag (cqF b),zaQ hd] (zmX (zwW a b hd)):=by
 refine zco fn44 ?_;simp only[g44,rU];have HP:=spla a b ha hb;obtain⟨hnd,hne⟩ :=zlx a;have hnl:=zjD ha;have e25:=fun(h:T Ob) (c:Nat)=>eff56 a b ha hb (h:=h) (c:=c)
 simp[rW,st0,zaj,cqE,zcH,zcI,zbY];refine zd6 rfl rfl (e25 _ _) ?_;intro d h' c' lw mx hp hcc;obtain⟨S,M,I,A,dA,dC,dT,rfl,HS,HF,hf,b1,b2,b3,b4⟩ :=hp;have HF:zmc a b (vrs a) dA dC dT (zlF b) (fA (vrs a) a a.as.length) (fC (vrs a) a a.cs.length) h' c' I A:=HF;simp only[rG]at hf hcc b1;unfold zwW;generalize zlF b=cand at*;generalize fA (vrs a) a a.as.length=inA at*;generalize fC (vrs a) a a.cs.length=inC at*;generalize vrs a=ns at*;have ho:zeS (List.replicate ns.length (.var [])) (List.replicate ns.length false):=by
  intro i hi;simp[List.getD_eq_getElem?_getD,List.getElem?_replicate]at hi;split at hi<;>simp at hi
 have hclr:Clr (List.replicate ns.length (.var [])) (List.replicate ns.length false):=by
  intro v hv;simp[List.getD_eq_getElem?_getD,List.getElem?_replicate];split<;>rfl
 have e26:=fun(h:T Ob) (c:Nat) (H) (hT)=>eff57 (h:=h) (c:=c) (im:=List.replicate ns.length (.var [])) (asg:=List.replicate ns.length false) (dA:=dA) (dC:=dC) (dT:=dT) (a:=a) (b:=b) (S:=S) (M:=M) (I:=I) (A:=A) (ns:=ns) H hd (by omega) (fun x hx e=>hne (by rw[<-e];exact hx)) cand hT HF.tI HF.tA HP.lc HP.hc
 have hfix:=fun st=>zy7 (cand:=cand) hne hd (st:=(List.replicate ns.length (.var []),List.replicate ns.length false)) (st':=st) ho hclr (by simp)
 generalize zeW (fixF ns cand) (List.replicate ns.length (.var []),List.replicate ns.length false) hd=r at*;have q28:=fun k=>zaB (k:=k) (ans59 a ha.toCqOk.la)
 have q29:=fun k=>zaB (k:=k) (ans60 a ha.toCqOk.lc)
 simp[rW,];refine zeR (Q:=fun S=>WD pr _ S _) (P:=fun s=>(s.tm.get 2=some (.f (zaQ hd))/\s.tm.get 8=some (.ptr S 11 0 0))/\s.h=h'/\s.c=c'/\s.lw<=c') ?_ ?_
 .simp[rW,];exact Z4 (Nat.min_le_left _ _) (by simp (disch:=omega) only[zaV,za7];omega)
 rintro s ⟨⟨h2,h8⟩,eh,ec,hlw⟩;subst eh ec;refine za0 ?_;simp[rW,h2,h8];refine zxO ?_ ?_ (e26 s.h (s.c+2) (HS.up (fun _ _=>rfl) (by omega)) (HF.rT.up (fun _ _ _=>rfl) (by omega))) ?_
 .simp only[rG]
 .simp only[rG]
 intro d1 h1 c1 lw1 mx1 hp hcc1 hmm1;cases r with
 |inr r=>
  have hp:d1= .f (.b false):=hp;subst hp;simp[rW,h2,h8,zBy,zmX]
 |inl st=>
  obtain⟨rfl,HS1,hf1⟩ :=hp;obtain⟨ho1,hcl1⟩ :=hfix st rfl;have gS:=HS1.gS;simp[rW,h2,h8,zBy,gS,q28,q29,zsv];have hac:∀(H':T Ob) (c':Nat),(∀id,id<c1->H'.get id=h1.get id)->c1<=c'->RO pr 58 [.ptr S 11 0 0,.f (zex (List.range a.as.length)),.f (zex (List.range a.cs.length))] H' c' (.f (.b (acc ns st.1 st.2 a b (List.range a.as.length) (List.range a.cs.length)))):=
   fun H' c' e1 e2=>ro58 (HS1.up e1 e2) ho1 HP.ha HP.hb HP.hv (.inl rfl) (.inl rfl) (fun i hi=>by simpa using hi) (fun i hi=>by simpa using hi) (by have:=ha.sa;simp;omega) (by have:=ha.sc;simp;omega)
  generalize acc ns st.1 st.2 a b (List.range a.as.length) (List.range a.cs.length)=z at hac|-;refine zbv (hac _ _ ?_ ?_) ?_ ?_ ?_
  .intro id hid;simp only[rG]
  .simp only[rG];omega
  .simp only[rG];exact Z4 (Nat.min_le_left _ _) (by omega)
  .simp[ckG,ck1]
  .intro mx hmx;simp only[rG]at hmx;cases z with
   |false=>simp[rW,h2,h8,zmX]
   |true=>
    simp[rW,h2,h8];have HS2:=HS1.up (h':=h1) (c':=mx+2) (fun _ _=>rfl) (by omega);have e30:=eff61 HS2 ha hne hnl;have gin:=zGS (asg:=st.2) (ns:=ns) (a:=a);have gdis:=zBu (asg:=st.2) (ns:=ns) (a:=a);have glen:=zBv (asg:=st.2) (ns:=ns) (a:=a);have hbI:=HS1.bI;have hbA:=HS1.bA;simp only[if_true,homG];generalize zgR st.2 ns a=G at e30 gin gdis glen|-;refine zd6 ?_ ?_ e30 ?_
    .simp only[rG]
    .simp only[rG]
    rintro dG hB cB lw2 mx2 ⟨hf2,Mb,rows,lim,ex,es,rfl,gMb,bMb,cMb,hrows,hes,hRd⟩ hcc2;have HS3:=HS2.up hf2 hcc2;have HF2:zmc a b ns dA dC dT cand inA inC hB cB I A:=HF.upF (fun id k1 k2 k3=>by
     rw[hf2 id (by omega)];exact hf1 id (by omega) k2 k3) (by omega)
    simp[rW,h2,h8];generalize hres:zeW (stepG ns a b cand inA inC) st G=rr;refine zy9 G (stepG ns a b cand inA inC) st (G1 a b ns dA dC dT hB cB S M I A (.sl Mb 0 G.length 1 lim ex) G) (fun st' x s=>x= .exit 0/\(s.tm.get 8=some (.ptr S 11 0 0))/\SAt a b ns st'.1 st'.2 dA dC dT s.h s.c S M I A) (fun _ x s=>x= .ret/\s.tm.get 6=some (.f .nils)/\s.tm.get 7=some (.f (.b false))) ?_ ?_ _ ?_ ?_ ?_
    .rintro n st1 s hn ⟨⟨h8,h34,h35,h36⟩,HSn,hfn,hcn,hlw,hon,hemp⟩;have hw:=zaq n (by omega);have hne':n<es.length:=by omega
     have hrn:=zCu hrows (n:=n) (by simpa using hne');rw[List.getElem_map]at hrn;have gMb':s.h.get Mb=some (.arr 1 0 rows):=(hfn Mb bMb (by omega) (by omega)).trans gMb;obtain⟨hRdn,hoid⟩ :=hRd n hne' hn;have hdI:es[n].oid≠some I:=fun e=>by have:=hoid _ e;omega
     have hdA:es[n].oid≠some A:=fun e=>by have:=hoid _ e;omega
     obtain⟨gg1,gg2,gg3⟩ :=gin _ (Z2 hn);have e31:=eff62 HP G[n] HSn (HF2.upF hfn hcn) hon (hRdn.upF hdI hdA hfn hcn) hdI hdA (by omega) gg1 (fun v hv=>hemp n hn (Z3 _) v hv);have hnx:∀j (hj:j<G.length),n+1<=j->∀v∈G[j],v∉G[n]:=fun j hj hnj v hv hv2=>List.pairwise_iff_getElem.1 gdis n j hn hj (by omega) v hv2 hv
     have hok:=fun r=>zum (r:=r) (ns:=ns) (a:=a) (b:=b) (inA:=inA) (inC:=inC) HP.hc G[n] hon (by rw[HSn.lI,HSn.lA];exact Z3 _)
     unfold stepG;generalize zhB ns a b cand inA inC G[n] st1.1 st1.2=r at e31 hok|-;generalize es[n]=e at hrn e31;simp[rW,h8,h34,h35,h36,hn,gMb',hrn];refine zd6 ?_ ?_ e31 ?_
     .simp only[rG]
     .simp only[rG]
     rintro d31 h31 c31 lw31 mx31 hp hcc31;cases r with
     |none=>
      obtain⟨rfl,_,_⟩ :=hp;simp[rW,]
     |some st2=>
      obtain⟨rfl,HS4,hf4⟩ :=hp;obtain⟨k1,k2,k3,k4⟩ :=hok _ rfl;simp[rW,h8,h34,h35,h36,hw,G1];refine⟨HS4,hfn.trans hf4 hcn,by omega,?_,k1,fun j hj hnj v hv=> ?_⟩
      .exact Z4 (Nat.min_le_left _ _) (by omega)
      .obtain⟨m1,m2,m3⟩ :=hemp j hj (by omega) v hv;obtain⟨m4,m5⟩ :=k4 v (hnx j hj hnj v hv);simp only[List.getD_eq_getElem?_getD]at*;exact⟨m1,m4.trans m2,m5.trans m3⟩
    .rintro st1 s ⟨⟨h8,h34,h35,h36⟩,HSn,hfn,hcn,hlw,hon,hemp⟩;simp[rW,h8,h34,h35,h36];exact HSn
    .simp[rW,G1,h8];refine⟨HS3,FrI.refl,Z4 (Nat.min_le_left _ _) (by omega),ho1,fun j hj v hv=> ?_⟩;obtain⟨_,_,m3⟩ :=gin _ (Z2 hj);have m4:=m3 v hv;have m5:=hcl1 v m4.2;simp only[List.getD_eq_getElem?_getD]at*;exact⟨m4.1,m5,m4.2⟩
    .rintro st1 hst x s ⟨rfl,h8,HSn⟩;rw[hst]at hres;subst hres;have gS:=HSn.gS;have gI:=HSn.gI;have hlI:=HSn.lI;have hz:(om (s.h.get I) (fzS s.h.get 10 I 0 ns.length 4))=some (.sl 4 (st1.1.map tmF),[I]):=by
      rw[gI,<-hlI];show fzS s.h.get 10 I 0 st1.1.length 4 (.arr 4 0 (zaC st1.1))=_;have e1:(zaC st1.1).take st1.1.length=zaC st1.1:=by rw[<-zbt st1.1,Z8]
      rw[zfA,if_pos ⟨rfl,by simp[zbt]⟩,Z35,e1,zIi];rfl
     simp[rW,h8,gS,hz,zmX]
    .rintro r hr x s ⟨rfl,⟨h6,h7⟩⟩;rw[hr]at hres;subst hres;simp[rW,h6,h7,zmX]
def fn27:pr.fn 27=some g27:=by kernel_rfl
def zGy{a b:List Str}(hl:a.length=b.length)(h:∀i,i<a.length->a[i]? =b[i]?):a=b:=by
 apply List.ext_getElem?;intro i
 by_cases hi:i<a.length
 .exact h i hi
 .rw[List.getElem?_eq_none (by omega),List.getElem?_eq_none (by omega)]
def SQ40(a b:List Str)(k:Nat)(s:St):Prop:=∃n:Nat,(k=a.length - n/\n<=a.length/\∀i,i<n->a[i]? =b[i]?)/\(s.tm.get 0=some (.f (zaQ a))/\s.tm.get 1=some (.f (zaQ b))/\s.tm.get 12=some (.f (.i .i64 a.length))/\s.tm.get 13=some (.f (.i .i64 n)))
def ans27(a b:List Str)(hn:a.length<100000):Ans pr 27 [zaQ a,zaQ b] (.b (decide (a=b))):=by
 refine zco fn27 ?_;simp only[g27,rU]
 by_cases hl:a.length=b.length
 .have hl':(a.length:Int)=b.length:=by omega
  simp[rW,st0,zaj,zbY,zcs,hl,hl'];refine zcL (SQ40 a b) (fun x s=>(x= .exit 0/\a=b)\/(x= .ret/\a≠b/\s.tm.get 4=some (.f (.b false)))) ?_ a.length _ ?_ ?_
  .rintro k s ⟨n,⟨rfl,hn2,he⟩,⟨h0,h1,h12,h13⟩⟩
   by_cases hlt:n<a.length
   .have ha:a[n]? =some a[n]:=Z0 hlt;have hb:b[n]? =some b[n]:=Z0 (by omega);have hltb:n<b.length:=by omega
    have hw:=zaq n (by omega);generalize hA:a[n]=A at ha;generalize hB:b[n]=B at hb
    by_cases hq:A=B
    .subst hq;simp[rW,h0,h1,h12,h13,zcs,hlt,hltb,hl];refine zaL ?_;simp[rW,h0,h1,h12,h13,zdz,ha,hb,hlt,hltb,hA,hB];rw[zcf];refine⟨a.length - (n+1),by omega,n+1,⟨rfl,by omega,fun i hi=> ?_⟩,?_⟩
     .by_cases hi2:i=n
      .subst hi2;rw[ha,hb]
      .exact he i (by omega)
     .simp[rW,h0,h1,h12,h13,hw]
    .have hne:a≠b:=fun e=>hq (by subst e;rw[ha]at hb;exact Option.some.inj hb)
     simp[rW,h0,h1,h12,h13,zcs,hlt,hltb,hl];refine zaL ?_;simp[rW,h0,h1,h12,h13,zdz,ha,hb,hlt,hltb,hA,hB,hq,hne]
   .have e:a=b:=zGy hl fun i hi=>he i (by omega)
    have hltb:¬(n<b.length):=by omega
    simp[rW,h0,h1,h12,h13,zcs,hlt,hltb,hl];exact e
  .simp[rW,SQ40];exact⟨0,by simp,by simp[hl]⟩
  .rintro x s (⟨rfl,e⟩ |⟨rfl,e,h4⟩)
   .simp[rW,e]
   .simp[rW,h4,e]
 .have hl':¬((a.length:Int)=b.length):=by omega
  have hne:¬(a=b):=fun e=>hl (by rw[e])
  simp[rW,st0,zaj,zbY,zcs,hl,hl',hne]
def qsF(l:List CQ):F:=slc 2 (l.map cqF)
def zka(l:List CQ):(qsF l).d= .f (qsF l):=ziN ..
def zgz(l:List CQ):zbn (.f (qsF l))=some l.length:=by simp[qsF,zgi]
def zlT(l:List CQ)(n:Nat):iaB 2 (.f (qsF l)) n=(l[n]?).map fun c=>D.fptr (cqF c):=by simp[qsF,zhz,Function.comp_def]
def bnS(l:List Str)(a:Atm):List Str:=if a.neg=true then l else zes l a.ts
def bnd(c:CQ):List Str:=c.as.foldl bnS []
def cvA(hd l:List Str)(x:Str):List Str:=if hd.any (· ==x)=true then l++[x]else l
def cov(d w:CQ)(hd:List Str):Bool:=((vrs w).foldl (cvA hd) (vrs d)).all fun x=>(bnd d).any (· ==x)
def zeb{h:T Ob}{lo c es:Nat}{d:D}{els:List (List D)}(hg:Gro h lo c es d els){x:Nat}(hx:d.oid=some x):lo<=x/\x<c:=by
 rcases hg with⟨rfl,_⟩ |⟨id,ro,rfl,h2,h3,h4,h5,h6⟩
 .simp[D.oid]at hx
 .simp[D.oid]at hx;omega
def zda{h:T Ob}{lo c:Nat}{d:D}{l:List Str}(hg:Gro h lo c 1 d (zbi l)):zbn d=some l.length:=by
 rcases hg with⟨rfl,h2⟩ |⟨id,ro,rfl,h2,h3,h4,h5,h6⟩
 .have:=ztz h2;subst this;rfl
 .rw[zbW];rfl
def zfi(c:CQ)(i:Nat)(na:Bool):CQ:=⟨c.as.take i++c.as.drop (i+1),c.cs,c.ne,na⟩
def zyo{c:CQ}(hne:c.as≠[]):za1 c= .sl 3 (c.as.map atF):=by
 unfold za1 Sm.asF;rw[if_neg (fun h=>hne h.2),zd7 (by simpa using hne)]
def zJK{c:CQ}(hne:c.as≠[]){i:Nat}(hi:i<=c.as.length)(h:Nat->Option Ob):sliceB 3 h (.f (za1 c)) none (some (.f (.i .i64 i))) none=some (.f (.sl 3 ((c.as.take i).map atF)),[]):=by
 rw[zyo hne];simp[sliceB,za4,zbu,hi,List.map_take]
def zJL{c:CQ}(hne:c.as≠[]){i:Nat}(hi:i<=c.as.length)(h:Nat->Option Ob):sliceB 3 h (.f (za1 c)) (some (.f (.i .i64 i))) none none=some (.f (.sl 3 ((c.as.drop i).map atF)),[]):=by
 rw[zyo hne];simp[sliceB,za4,zbu,hi,List.map_drop];exact Z12 (by simp)
def zr9{c:CQ}(hc:CqSm c)(i:Nat)(na:Bool):CqSm (zfi c i na):=by
 have hm:∀a∈(zfi c i na).as,a∈c.as:=fun a ha=>by
  rcases Z5.1 ha with h|h
  .exact Z14 h
  .exact Z22 h
 have hl:(zfi c i na).as.length<=c.as.length:=by simp[zfi];omega
 exact⟨⟨fun a ha=>hc.as a (hm a ha),hc.cs,by have:=hc.la;omega,hc.lc⟩,by have:=hc.sa;omega,fun a ha=>hc.st a (hm a ha),hc.sc,fun a ha=>hc.s2 a (hm a ha)⟩
def exR(hd:List Str)(c d:CQ):Bool:=(zwW c d hd).isSome
def zmt(hd hd2:List Str)(l m:List CQ):Bool:=decide (hd=hd2)&&l.all fun d=>m.any fun c=>exR hd c d
def QOk(l:List CQ):Prop:=(∀c∈l,CqSm c)/\l.length<1000
def zcZ(l:List CQ):List (List D):=l.map fun c=>[D.f (za1 c),D.f (zaX c)]
def zdD(l:List CQ):(zcZ l).length=l.length:=by simp[zcZ]
def zhq(l:List CQ)(c:CQ):zcZ (l++[c])=zcZ l++[[D.f (za1 c),D.f (zaX c)]]:=by simp[zcZ]
def zmx(h:Nat->Option Ob)(k:Nat)(l:List CQ):zaU (frz h (k+1)) (zcZ l)=some (l.map cqF,[]):=by
 have:=ziF h k (l.map cqF);rw[Z34]at this;exact this
def fn15:pr.fn 15=some g15:=by kernel_rfl
def fn6:pr.fn 6=some g6:=by kernel_rfl
def fn28:pr.fn 28=some g28:=by kernel_rfl
def fn29:pr.fn 29=some g29:=by kernel_rfl
def fn24:pr.fn 24=some g24:=by kernel_rfl
def fn12:pr.fn 12=some g12:=by kernel_rfl
def zDe(a b:CQ)(hd:List Str)(ha:CqSm a)(hb:CqSm b)(hh:hd.length<1000):Ans pr 24 [.ag (cqF a),.ag (cqF b),zaQ hd] (.b (exR hd a b)):=by
 refine zco fn24 ?_;simp only[g24,rU];have q:=fun k=>zaB (k:=k) (ans44 a b hd ha hb hh)
 simp only[cqE]at q;unfold exR;cases hr:zwW a b hd with
 |none=>
  rw[hr]at q;simp only[zmX]at q;simp[rW,st0,zaj,cqE,zcH,zcI,zbY,q]
 |some l=>
  rw[hr]at q;simp only[zmX]at q;simp[rW,st0,zaj,cqE,zcH,zcI,zbY,q]
def cqD(c:CQ):List D:=[.f (za1 c),.f (zaX c)]
theorem ro29(hd:List Str)(c d:CQ)(hc:CqSm c)(hdd:CqSm d)(hh:hd.length<1000){h:T Ob}{k X Y:Nat}{y:D}(gX:h.get X=some (.arr 2 0 [cqD d]))(gY:h.get Y=some (.arr 2 0 [[.f (zaQ hd),y]]))(hX:X<k)(hY:Y<k):
  RO pr 29 [.ag (cqD c),.ptr X 2 0 0,.ptr Y 2 0 0] h k (.f (.b (exR hd c d))):=by
 refine zcr zaS fn29 rfl ?_;simp only[g29,rU];have nX:¬X=k:=by omega
 have nY:¬Y=k:=by omega
 have q:=fun j=>zaB (k:=j) (zDe c d hd hc hdd hh)
 simp only[cqE]at q;unfold cqD at gX;simp[rW,st0,zaj,cqD,gX,gY,nX,nY,zcH,zcI,zbY,q,zaK];simp (disch:=omega) only[zaV,za7]
theorem ro12(l:List CQ)(p:CQ->Bool)(hl:l.length<100000){h:T Ob}{c g:Nat}{cap:List D}(hcl:∀n (hn:n<l.length),RO pr g (.ag (cqD l[n])::cap) h c (.f (.b (p l[n])))):
  RO pr 12 [.f (qsF l),.fn g [] cap] h c (.f (.i .i64 (ixP l p))):=by
 refine zcr zaS fn12 rfl ?_;simp only[g12,rU];simp[rW,st0,zaj,zgz];refine zeU l p (fun n s=>s.tm.get 0=some (.f (qsF l))/\s.tm.get 1=some (.fn g [] cap)/\s.tm.get 7=some (.f (.i .i64 l.length))/\s.tm.get 8=some (.f (.i .i64 n))/\s.h=h/\s.c=c/\s.lw=c) (fun x s=>x= .exit 0/\s.lw=c) (fun n y s=>y= .ret/\s.tm.get 4=some (.f (.i .i64 n))/\s.lw=c) ?_ ?_ _ ?_ ?_ ?_
 .rintro n s hn ⟨h0,h1,h7,h8,eh,ec,el⟩;have hw:=zaq n (by omega);have hp:=hcl n hn;generalize hA:l[n]=A at hp|-;have hA':l[n]? =some A:=by rw[Z0 hn,hA]
  simp[rW,h0,h1,h7,h8,hn,zlT,hA',hA,cqE];refine zbB (d:= .f (.b (p A))) ?_ ?_ ?_
  .simp only[rG];rw[eh,ec];exact hp
  .simp only[rG];omega
  .intro mx;cases hb:p A with
   |true=>simp[rW,h0,h1,h7,h8,el]
   |false=>simp[rW,h0,h1,h7,h8,hw,eh,ec,el]
 .rintro s ⟨h0,h1,h7,h8,eh,ec,el⟩;simp[rW,h0,h1,h7,h8,el]
 .simp[rW,st0,zaj]
 .rintro h z s ⟨rfl,el⟩;rw[zhN h];simp[rW,zaK,el]
 .rintro n hn hp hm z s ⟨rfl,h4,el⟩;rw[zgy hn hp hm];simp[rW,h4,zaK,el]
theorem ro28(l:List CQ)(p:CQ->Bool)(hl:l.length<100000){h:T Ob}{c g:Nat}{cap:List D}(hcl:∀n (hn:n<l.length),RO pr g (.ag (cqD l[n])::cap) h c (.f (.b (p l[n])))):
  RO pr 28 [.f (qsF l),.fn g [] cap] h c (.f (.b (l.any p))):=by
 refine zcr zaS fn28 rfl ?_;simp only[g28,rU];rw[<-zjo l p];simp[rW,st0,zaj];refine zbB (d:= .f (.i .i64 (ixP l p))) ?_ ?_ ?_
 .simp only[rG];exact ro12 l p hl hcl
 .simp only[rG];omega
 .intro mx;simp[rW,zaK]
def nIn(hd:List Str)(m:List CQ)(d:CQ):Bool:=!(m.any fun c=>exR hd c d)
def P0(hd hd2:List Str)(l m:List CQ)(n:Nat)(s:St):Prop:=(s.tm.get 2=some (.ptr 0 2 0 0)/\s.tm.get 3=some (.ptr 1 2 0 0)/\s.tm.get 14=some (.f (qsF l))/\s.tm.get 15=some (.f (.i .i64 l.length))/\s.tm.get 16=some (.f (.i .i64 n))/\s.h.get 0=some (.arr 2 0 [[.f (zaQ hd),.f (qsF l)]])/\s.h.get 1=some (.arr 2 0 [[.f (zaQ hd2),.f (qsF m)]]))/\2<=s.c/\s.lw<=s.c
def zDd(hd hd2:List Str)(l m:List CQ)(hh:hd.length<1000)(hl:QOk l)(hm:QOk m):Ans pr 15 [.ag [zaQ hd,qsF l],.ag [zaQ hd2,qsF m]] (.b (zmt hd hd2 l m)):=by
 refine zco fn15 ?_;simp only[g15,rU];have q40:=fun k=>zaB (k:=k) (ans27 hd hd2 (by omega))
 unfold zmt
 by_cases he:hd=hd2
 .rw[decide_eq_true he]at q40|-;simp[rW,st0,zaj,zbY,zka,q40,zgz];refine zeU l (nIn hd m) (fun n s=>P0 hd hd2 l m n s) (fun x s=>x= .exit 0) (fun n y s=>y= .ret/\s.tm.get 4=some (.f (.b false))) ?_ ?_ _ ?_ ?_ ?_
  .rintro n s hn ⟨⟨h2,h3,h14,h15,h16,g0,g1⟩,hc2,hlw⟩;have hw:=zaq n (by have:=hl.2;omega);have hsd:=hl.1 _ (Z2 hn);generalize hA:l[n]=A at hsd|-;have hA':l[n]? =some A:=by rw[Z0 hn,hA]
   have n0:¬(0=s.c):=by omega
   have n1:¬(1=s.c):=by omega
   simp[rW,h2,h3,h14,h15,h16,g0,g1,hn,zlT,hA',hA,cqE,n0,n1];refine zbB (d:= .f (.b (m.any fun c=>exR hd c A))) (ro28 m (fun c=>exR hd c A) (by have:=hm.2;omega) fun k hk=> ?_) ?_ ?_
   .refine ro29 hd m[k] A (hm.1 _ (Z2 hk)) hsd hh (y:= .f (qsF l)) ?_ ?_ ?_ ?_
    .simp only[rG];simp[Vse.T.zab,cqD]
    .simp only[rG];simp[Vse.T.zab,n0,g0]
    .simp only[rG];omega
    .simp only[rG];omega
   .simp only[rG]
    (repeat refine Z4 (zcm _ _) ?_)
    omega
   .intro mx;cases hb:m.any fun c=>exR hd c A with
    |true=>
     have e:nIn hd m A=false:=by unfold nIn;rw[hb];rfl
     simp[rW,h2,h3,h14,h15,h16,g0,g1,e,hw,n0,n1,P0];refine⟨by omega,?_⟩
     (repeat refine Z4 (zcm _ _) ?_)
     omega
    |false=>
     have e:nIn hd m A=true:=by unfold nIn;rw[hb];rfl
     simp[rW,h2,h3,h14,h15,h16,g0,g1,e,hw,n0,n1]
  .rintro s ⟨⟨h2,h3,h14,h15,h16,g0,g1⟩,hc2,hlw⟩;simp[rW,h2,h3,h14,h15,h16,g0,g1]
  .simp[rW,P0];simp[zcW]
  .rintro h z s rfl;have e:(l.all fun d=>m.any fun c=>exR hd c d)=true:=List.all_eq_true.2 fun x hx=>by simpa [nIn]using h x hx
   rw[e];simp[rW,]
  .rintro n hn hp hm z s ⟨rfl,h4⟩;have e:(l.all fun d=>m.any fun c=>exR hd c d)=false:=List.all_eq_false.2 ⟨l[n],Z2 hn,by simpa [nIn]using hp⟩;rw[e];simp[rW,h4]
 .rw[decide_eq_false he]at q40|-;simp[rW,st0,zaj,zbY,zka,q40]
def ans6(hd hd2:List Str)(l m:List CQ)(hh:hd.length<1000)(hh2:hd2.length<1000)(hl:QOk l)(hm:QOk m):Ans pr 6 [.ag [zaQ hd,qsF l],.ag [zaQ hd2,qsF m]] (.b (zmt hd hd2 l m&&zmt hd2 hd m l)):=by
 refine zco fn6 ?_;simp only[g6,rU];have q1:=fun k=>zaB (k:=k) (zDd hd hd2 l m hh hl hm)
 have q2:=fun k=>zaB (k:=k) (zDd hd2 hd m l hh2 hm hl)
 cases hb:zmt hd hd2 l m with
 |true=>rw[hb]at q1;simp[rW,st0,zaj,zbY,zka,q1,q2]
 |false=>rw[hb]at q1;simp[rW,st0,zaj,zbY,zka,q1,q2]
def fn21:pr.fn 21=some g21:=by kernel_rfl
def fn39:pr.fn 39=some g39:=by kernel_rfl
def fn40:pr.fn 40=some g40:=by kernel_rfl
def zAo(h:Nat->Option Ob)(c:Nat):opv h c (.eqn 0 false (.f .nils) (.f .nils))=some {d:= .f (.b true),c}:=rfl
def zom(h:Nat->Option Ob)(c es:Nat)(l:List (List F)):opv h c (.eqn 0 false (.f (.sl es l)) (.f .nils))=some {d:= .f (.b false),c}:=rfl
def Own(h:T Ob)(lo c:Nat)(d:D)(X:F):Prop:=(d= .f X\/∃a b e f g x,d= .sl a b e f g x)/\d.cells=some [d]/\(∀x,d.oid=some x->lo<=x/\x<c)/\∀h':T Ob,(∀x,d.oid=some x->h'.get x=h.get x)->∀k,∃rd,frz h'.get (k+2) d=some (X,rd)
def Own.up{h h':T Ob}{lo lo' c c':Nat}{d:D}{X:F}(H:Own h lo c d X)(hf:∀x,d.oid=some x->h'.get x=h.get x)(hl:lo'<=lo)(hc:c<=c'):Own h' lo' c' d X:=
 ⟨H.1,H.2.1,fun x hx=>by have:=H.2.2.1 x hx;omega,fun h2 hh=>H.2.2.2 h2 fun x hx=>(hh x hx).trans (hf x hx)⟩
def zlR{h:T Ob}{lo c es:Nat}{d:D}{rows:List (List F)}(hg:Gro h lo c es d (rows.map fun a=>a.map D.f)):Own h lo c d (slc es rows):=by
 refine⟨?_,zbO hg,fun x hx=>zeb hg hx,fun h' hh k=> ?_⟩
 .rcases hg with⟨rfl,hr⟩ |⟨id,ro,rfl,hn,hg,hr,hl,hc⟩
  .have:rows=[]:=by simpa using hr
   subst this;exact .inl rfl
  .exact .inr ⟨_,_,_,_,_,_,rfl⟩
 rcases hg with⟨rfl,hr⟩ |⟨id,ro,rfl,hn,hg,hr,hl,hc⟩
 .have:rows=[]:=by simpa using hr
  subst this;exact⟨[],rfl⟩
 .refine⟨[id],?_⟩;have h1:=hh id rfl;rw[zfW,h1,hg,zcN,zfA];simp only[true_and,Z26,Z3,if_true,Z35,Z8,ziF h'.get k rows,zcN];rw[zd7 (fun e=>hn (by rw[e];rfl))]
def gCl(es byt:Nat)(z:List F):Go.Vse.Fn:=⟨8,[.t 2],oZ [oR 2 (.mv (.k .nils))]
 (.seq (oD [oM 3 0,oR 4 (.eqn 0 false (.t 3) (.k .nils))] 4 (oZ [oR 2 (.mv (.k .nils))] .ret) .skip)
 (oZ [oR 5 (.bsl es z 0 []),oM 6 0,oR 7 (.app es byt (.t 5) (.t 6)),oM 2 7] .ret))⟩
theorem zDy{n es byt:Nat}{z:List F}(hf:pr.fn n=some (gCl es byt z))(hb:byt<=1000){X:F}{rows:List (List F)}(hX:X= .sl es rows\/X= .nils/\rows=[])(hl:rows.length<=1000000){h:T Ob}{c:Nat}:
  Eff pr n [.f X] h c fun d h' c'=>Frm h h' c/\Own h' c c' d X:=by
 refine zcx zaS hf ?_;unfold gCl;simp only[rU];rcases hX with rfl|⟨rfl,rfl⟩
 .have hm:rows.length*byt<=1000000*1000:=Nat.mul_le_mul hl hb;have m1:(rows.length<=zal)=True:=zcj (by omega);have m2:(rows.length*byt<=zal)=True:=zcj (by omega)
  by_cases h0:rows=[]
  .subst h0;simp[rW,st0,zaj,zom,zca];refine⟨fun x hx=> ?_,.inr ⟨_,_,_,_,_,_,rfl⟩,rfl,fun x hx=> ?_,fun h' hh k=>⟨[c],?_⟩⟩
   .have:¬x=c:=by omega
    simp[Vse.T.zab,this]
   .simp[D.oid]at hx;omega
   .have:=hh c rfl;simp[Vse.T.zab]at this;rw[zfW,this];simp[om,zfA,zaU]
  .simp[rW,st0,zaj,zom,h0,m1,m2,zca];refine⟨fun x hx=> ?_,?_⟩
   .have h1:¬x=c:=by omega
    have h2:¬x=c+1:=by omega
    simp[Vse.T.zab,h1,h2]
   .have:=zlR (h:=(h.set c (.arr es 0 [])).set (c+1) (.arr es 0 (rows.map fun a=>a.map D.f))) (lo:=c) (c:=c+1+1) (es:=es) (d:= .sl (c+1) 0 rows.length es rows.length false) (rows:=rows) (.inr ⟨c+1,0,by simp,by simpa using h0,by simp[Vse.T.zab],Nat.zero_le _,by omega,by omega⟩);rw[<-zd7 h0]at this;exact this
 .simp[rW,st0,zaj,zAo,zca];refine⟨fun _ _=>rfl,.inl rfl,rfl,by simp[D.oid],fun h' _ k=>⟨[],rfl⟩⟩
def ziL(es:Nat)(rows:List (List F)):slc es rows= .sl es rows\/slc es rows= .nils/\rows=[]:=by
 cases rows with
 |nil=>exact .inr ⟨rfl,rfl⟩
 |cons a l=>exact .inl rfl
def eff40(l:List Trm)(hl:l.length<=1000000){h:T Ob}{c:Nat}:Eff pr 40 [.f (zdL l)] h c fun d h' c'=>Frm h h' c/\Own h' c c' d (zdL l):=
 zDy (z:=[.s [],.i .i64 0,.i .i64 0,.s []]) (byt:=48) fn40 (by omega) (ziL 4 _) (by simpa using hl)
def eff39(q:CQ)(hl:q.cs.length<=1000000){h:T Ob}{c:Nat}:Eff pr 39 [.f (zaX q)] h c fun d h' c'=>Frm h h' c/\Own h' c c' d (zaX q):=by
 refine zDy (rows:=q.cs.map cmF) (z:=[.i .i64 0,.s [],.i .i64 0,.i .i64 0,.s [],.s [],.i .i64 0,.i .i64 0,.s []]) (byt:=104) fn39 (by omega) ?_ (by simpa using hl);unfold zaX csF;split
 .rename_i hh;rw[hh.2];exact .inl rfl
 .exact ziL 9 _
def zfL(W:List (Atm×D)):List (List D):=W.map fun p=>[.f (.s p.1.r),.f (.b p.1.neg),p.2]
theorem zkg{h:T Ob}{lo c:Nat}(k:Nat):∀{W:List (Atm×D)},(∀p∈W,Own h lo c p.2 (zdL p.1.ts))->∃rd,zaU (frz h.get (k+2)) (zfL W)=some (W.map fun p=>atF p.1,rd)
 |[],_=>⟨[],rfl⟩
 |p::W,hW=>by
  obtain⟨rd,hr⟩ :=zkg k (W:=W) fun q hq=>hW q (by simp[hq])
  obtain⟨rd2,h2⟩ :=(hW p (by simp)).2.2.2 h (fun _ _=>rfl) k;have h3:zbf (frz h.get (k+2)) [.f (.s p.1.r),.f (.b p.1.neg),p.2]=some (atF p.1,rd2):=by
   have a1:frz h.get (k+2) (.f (.s p.1.r))=some (.s p.1.r,[]):=rfl;have a2:frz h.get (k+2) (.f (.b p.1.neg))=some (.b p.1.neg,[]):=rfl;simp only[zbf,a1,a2,h2,atE];simp
  exact⟨rd2++rd,by
   have e:zfL (p::W)=[.f (.s p.1.r),.f (.b p.1.neg),p.2]::zfL W:=rfl;rw[e,zjX,h3];simp only[hr];rfl⟩
def zsp{h:T Ob}{lo c es k:Nat}{d:D}{els:List (List D)}{L:List (List F)}{rd:List Nat}(hg:Gro h lo c es d els)(hf:zaU (frz h.get k) els=some (L,rd))(hL:L=[]↔els=[]):∃rd,frz h.get (k+1) d=some (slc es L,rd):=by
 rcases hg with⟨rfl,rfl⟩ |⟨id,ro,rfl,he,ho,hr,hl,hc⟩
 .rw[hL.2 rfl];exact⟨[],rfl⟩
 .refine⟨id::rd,?_⟩;rw[zfW,ho,zcN,zfA];simp only[true_and,Z26,Z3,if_true,Z35,Z8,hf,zcN];rw[zd7 (fun e=>he (hL.1 e))]
def zxa{α β:Type}{f:α->Option β}:om (none:Option α) f=none:=rfl
def XY1(c:CQ)(n:Nat)(s:St):Prop:=∃(P:Nat) (B dC:D) (W:List (Atm×D)),W.map (·.1)=c.as.take n/\(s.tm.get 1=some (.ptr 0 2 0 0)/\s.tm.get 2=some (.ptr 1 2 0 0)/\s.tm.get 3=some (.ptr P 2 0 0)/\s.tm.get 11=some (.f (za1 c))/\s.tm.get 12=some (.f (.i .i64 c.as.length))/\s.tm.get 13=some (.f (.i .i64 n))/\s.h.get 1=some (.arr 2 0 [[.f .nils,.f .nils]])/\s.h.get P=some (.arr 2 0 [[B,dC]]))/\Own s.h 2 P dC (zaX c)/\Gro s.h (P+1) s.c 3 B (zfL W)/\(∀p∈W,Own s.h (P+1) s.c p.2 (zdL p.1.ts)/\∀x,p.2.oid=some x->B.oid≠some x)/\P<s.c/\2<=P
def ans21(c:CQ)(hc:CqSm c):Ans pr 21 [.ag (cqF c)] (.ag (cqF ⟨c.as,c.cs,c.ne,false⟩)):=by
 refine zco fn21 ?_;simp only[g21,rU];simp[rW,st0,zaj,cqE,zcH,zcI];refine zd6 rfl rfl (eff39 c (by have:=hc.sc;omega)) ?_;rintro dC h' c' lw mx ⟨hf,hO⟩ hcc;simp only[rG]at hf hO hcc;have e0:=hf 0 (by omega);have e1:=hf 1 (by omega);simp[Vse.T.zab]at e0 e1;have hcd:=hO.2.1;have n0:¬(0=c'):=by omega
 have n1:¬(1=c'):=by omega
 simp[rW,e0,e1,hcd,n0,n1,zfb];refine zd5 c.as.length (XY1 c) (fun x s=>x= .exit 0/\XY1 c c.as.length s) ?_ ?_ _ ?_ ?_
 .rintro n s hn ⟨P,B,dC,W,hW,⟨h1,h2,h3,h11,h12,h13,g1,gP⟩,hC,hg,hall,hPc,hP2⟩;have hw:=zaq n (by have:=hc.sa;omega);have hx:c.as[n]? =some c.as[n]:=Z0 hn;have hst:=hc.st _ (Z2 hn);have htk:=Z7 hn;generalize hA:c.as[n]=A at hx hst htk;simp[rW,h1,h2,h3,h11,h12,h13,g1,gP,hn,zfN,hx,hA,atE,zhU];refine zd6 rfl rfl (eff40 A.ts (by omega)) ?_;rintro d H2 c2 lw2 mx2 ⟨hf2,hO2⟩ hcc2;simp only[rG]at hf2 hO2 hcc2;have eP:=hf2 P (by omega);have eQ:=hf2 s.c (by omega);have e1:=hf2 1 (by omega);have nP:¬(P=s.c):=by omega
  have nP':¬(s.c=P):=by omega
  have n1:¬(1=s.c):=by omega
  have np1:¬(1=P):=by omega
  simp[Vse.T.zab,nP,n1,gP,g1]at eP eQ e1;have hlow:∀j,j<s.c->H2.get j=s.h.get j:=fun j hj=>by
   have:=hf2 j (by omega);have nj:¬j=s.c:=by omega
   simpa [Vse.T.zab,nj]using this
  have hdc:=hO2.2.1;have hWl:(zfL W).length<=12:=by
   have h1:W.length=(c.as.take n).length:=by rw[<-hW];simp
   have:=hc.sa;simp[zfL,h1];omega
  have nP2:¬(P=c2):=by omega
  have n1c:¬(1=c2):=by omega
  rcases hO2.1 with rfl|⟨a1,a2,a3,a4,a5,a6,rfl⟩
  .simp[rW,h1,h2,h3,h11,h12,h13,eP,eQ,e1,hdc,nP,nP',nP2,n1c,zhU,zxa];refine⟨by omega,?_⟩;refine zfC (zbr (c':=c2) hg (by omega) fun x h1 h2=> ?_) (by omega) (by simp;omega) (by omega) ?_
   .have nx:¬(x=s.c):=by omega
    have nx2:¬(x=c2):=by omega
    simp[Vse.T.zab,nx,nx2];exact hlow x h2
   intro r hr1 hr2 hr3 hr4 hr5;have hPr:=hr4 P (by omega) (zbN hg (by omega));have h1r:=hr4 1 (by omega) (zbN hg (by omega));simp[Vse.T.zab,nP,n1,nP2,n1c,eP,e1]at hPr h1r;have hr6:∀x,x<c2->x≠s.c->B.oid≠some x->(wrT _ r.wr).get x=H2.get x:=fun x h1 h2 h3=>by
    have nx2:¬(x=c2):=by omega
    rw[hr4 x (by omega) h3];simp[Vse.T.zab,h2,nx2]
   refine⟨hr1,?_⟩;simp[rW,hPr,zbO hr2,nP2,n1c];refine⟨by omega,?_⟩;refine⟨P,r.d,dC,W++[(A,.f (zdL A.ts))],by simp[hW,htk],?_,?_,?_,?_,?_,hP2⟩
   .simp[rW,h1,h2,h3,h11,h12,h13,hw,h1r,hPr,np1]
   .refine hC.up (fun x hx=> ?_) (Z3 _) (Z3 _);have hx2:=hC.2.2.1 x hx;have nx:¬(x=P):=by omega
    simp[rW,nx];rw[hr6 x (by omega) (by omega) (zbN hg (by omega)),hlow x (by omega)]
   .have e:zfL (W++[(A,.f (zdL A.ts))])=zfL W++[[.f (.s A.r),.f (.b A.neg),.f (zdL A.ts)]]:=by simp[zfL]
    rw[e];refine zbr hr2 (by simp[rW,]) fun x h1 h2=> ?_
    have nx:¬(x=P):=by omega
    simp[rW,nx]
   .intro p hp;rcases Z5.1 hp with hp|hp
    .obtain⟨o1,o2⟩ :=hall p hp;refine⟨o1.up (fun x hx=> ?_) (Z3 _) (by simp[rW,];omega),fun x hx hy=> ?_⟩
     .have hx2:=o1.2.2.1 x hx;have nx:¬(x=P):=by omega
      simp[rW,nx];rw[hr6 x (by omega) (by omega) (o2 x hx),hlow x (by omega)]
     .have hx2:=o1.2.2.1 x hx;rcases hr5 x hy with e|e
      .omega
      .exact o2 x hx e
    .obtain rfl:p=(A,.f (zdL A.ts)):=by simpa using hp
     refine⟨hO2.up (fun x hx=> ?_) (by omega) (by simp[rW,];omega),fun x hx hy=> ?_⟩
     .have hx2:=hO2.2.2.1 x hx;have nx:¬(x=P):=by omega
      simp[rW,nx];rw[hr6 x (by omega) (by omega) (fun e=>by have:=zeb hg e;omega)]
     .have hx2:=hO2.2.2.1 x hx;rcases hr5 x hy with e|e
      .omega
      .have:=zeb hg e;omega
   .simp[rW,];omega
  .simp[rW,h1,h2,h3,h11,h12,h13,eP,eQ,e1,hdc,nP,nP',nP2,n1c,zhU,zxa];refine⟨by omega,?_⟩;refine zfC (zbr (c':=c2+1) hg (by omega) fun x h1 h2=> ?_) (by omega) (by simp;omega) (by omega) ?_
   .have nx:¬(x=s.c):=by omega
    have nx2:¬(x=c2):=by omega
    simp[Vse.T.zab,nx,nx2];exact hlow x h2
   intro r hr1 hr2 hr3 hr4 hr5;have hPr:=hr4 P (by omega) (zbN hg (by omega));have h1r:=hr4 1 (by omega) (zbN hg (by omega));simp[Vse.T.zab,nP,n1,nP2,n1c,eP,e1]at hPr h1r;have hr6:∀x,x<c2->x≠s.c->B.oid≠some x->(wrT _ r.wr).get x=H2.get x:=fun x h1 h2 h3=>by
    have nx2:¬(x=c2):=by omega
    rw[hr4 x (by omega) h3];simp[Vse.T.zab,h2,nx2]
   refine⟨hr1,?_⟩;simp[rW,hPr,zbO hr2,nP2,n1c];refine⟨by omega,?_⟩;refine⟨P,r.d,dC,W++[(A,.sl a1 a2 a3 a4 a5 a6)],by simp[hW,htk],?_,?_,?_,?_,?_,hP2⟩
   .simp[rW,h1,h2,h3,h11,h12,h13,hw,h1r,hPr,np1]
   .refine hC.up (fun x hx=> ?_) (Z3 _) (Z3 _);have hx2:=hC.2.2.1 x hx;have nx:¬(x=P):=by omega
    simp[rW,nx];rw[hr6 x (by omega) (by omega) (zbN hg (by omega)),hlow x (by omega)]
   .have e:zfL (W++[(A,.sl a1 a2 a3 a4 a5 a6)])=zfL W++[[.f (.s A.r),.f (.b A.neg),.sl a1 a2 a3 a4 a5 a6]]:=by simp[zfL]
    rw[e];refine zbr hr2 (by simp[rW,]) fun x h1 h2=> ?_
    have nx:¬(x=P):=by omega
    simp[rW,nx]
   .intro p hp;rcases Z5.1 hp with hp|hp
    .obtain⟨o1,o2⟩ :=hall p hp;refine⟨o1.up (fun x hx=> ?_) (Z3 _) (by simp[rW,];omega),fun x hx hy=> ?_⟩
     .have hx2:=o1.2.2.1 x hx;have nx:¬(x=P):=by omega
      simp[rW,nx];rw[hr6 x (by omega) (by omega) (o2 x hx),hlow x (by omega)]
     .have hx2:=o1.2.2.1 x hx;rcases hr5 x hy with e|e
      .omega
      .exact o2 x hx e
    .obtain rfl:p=(A,.sl a1 a2 a3 a4 a5 a6):=by simpa using hp
     refine⟨hO2.up (fun x hx=> ?_) (by omega) (by simp[rW,];omega),fun x hx hy=> ?_⟩
     .have hx2:=hO2.2.2.1 x hx;have nx:¬(x=P):=by omega
      simp[rW,nx];rw[hr6 x (by omega) (by omega) (fun e=>by have:=zeb hg e;omega)]
     .have hx2:=hO2.2.2.1 x hx;rcases hr5 x hy with e|e
      .omega
      .have:=zeb hg e;omega
   .simp[rW,];omega
 .rintro s ⟨P,B,dC,W,hW,⟨h1,h2,h3,h11,h12,h13,g1,gP⟩,hC,hg,hall,hPc,hP2⟩;simp[rW,h1,h2,h3,h11,h12,h13,g1,gP];refine⟨P,B,dC,W,hW,?_,hC,hg,hall,hPc,hP2⟩;simp[rW,h1,h2,h3,h11,h12,h13,g1,gP]
 .refine⟨c',.f .nils,dC,[],by simp,?_,?_,.inl ⟨rfl,rfl⟩,by simp,?_,by omega⟩
  .simp[rW,e1,n1]
  .refine hO.up (fun x hx=> ?_) (Z3 _) (Z3 _);have:=hO.2.2.1 x hx;have nx:¬(x=c'):=by omega
   simp[rW,nx]
  .simp[rW,]
 .rintro x s ⟨rfl,P,B,dC,W,hW,⟨h1,h2,h3,h11,h12,h13,g1,gP⟩,hC,hg,hall,hPc,hP2⟩;rw[Z8]at hW;obtain⟨rd,hz⟩ :=zkg 8 fun p hp=>(hall p hp).1
  have nP1:¬(P=1):=by omega
  have hh:∀y,y≠1->(s.h.set 1 (.arr 2 0 [[B,dC]])).get y=s.h.get y:=fun y hy=>by simp[Vse.T.zab,hy]
  obtain⟨rd,hz⟩ :=zkg (h:=s.h.set 1 (.arr 2 0 [[B,dC]])) 8 fun p hp=>((hall p hp).1.up (fun x hx=>hh x (by have:=(hall p hp).1.2.2.1 x hx;omega)) (Z3 _) (Z3 _))
  obtain⟨rd1,h1⟩ :=zsp (zbr (h':=s.h.set 1 (.arr 2 0 [[B,dC]])) hg (Z3 _) fun x h1 _=>hh x (by omega)) hz (by simp[zfL]);obtain⟨rd2,h2'⟩ :=hC.2.2.2 (s.h.set 1 (.arr 2 0 [[B,dC]])) (fun x hx=>hh x (by have:=hC.2.2.1 x hx;omega)) 9;have eW:(W.map fun p=>atF p.1)=c.as.map atF:=by rw[<-hW,Z34];rfl
  have eA:slc 3 (c.as.map atF)=za1 ⟨c.as,c.cs,c.ne,false⟩ :=by unfold za1 Sm.asF;rw[if_neg (by simp)]
  have eC:zaX c=zaX ⟨c.as,c.cs,c.ne,false⟩ :=rfl;rw[eW,eA]at h1;rw[eC]at h2';have hdc:=hC.2.1;simp[rW,h1,h2,h3,h11,h12,h13,g1,gP,nP1,zbO hg,hdc,h1,h2'];omega
end Go.Proofs.YtlnfpifjdcmmlaaGreatDoor
end
