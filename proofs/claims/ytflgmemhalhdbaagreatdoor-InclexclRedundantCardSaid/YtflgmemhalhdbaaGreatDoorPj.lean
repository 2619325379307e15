/- The program's Homomorphism. -/
import Derived.Test.YtflgmemhalhdbaaGreatDoorPi
import Derived.KernelRfl
import Derived.IntWalk
set_option linter.all false
set_option maxRecDepth 100000
set_option maxHeartbeats 4000000
section
namespace Go.Proofs.YtflgmemhalhdbaaGreatDoor
open Go Go.Vse Go.Vse.Sm
def fn51:pr.fn 51=some g51:=by kernel_rfl
theorem zn3:∀(l:List Trm) (p:Trm),∀t∈zfU p l,t=p\/t∈l
 |[],p,t,h=>by simpa [zfU]using h
 |x::l,p,t,h=>by
  simp only[zfU]at h;split at h
  .rcases zn3 l x t h with rfl|h
   .exact .inr (by simp)
   .exact .inr (by simp[h])
  .rcases Z6.1 h with rfl|h
   .exact .inr (by simp)
   .rcases zn3 l x t h with rfl|h
    .exact .inr (by simp)
    .exact .inr (by simp[h])
def zwT{l:List Trm}:∀t∈cpt l,t∈l:=by
 intro t h;cases l with
 |nil=>simpa [cpt]using h
 |cons x l=>
  simp only[cpt]at h;rcases Z6.1 h with rfl|h
  .simp
  .rcases zn3 l x t h with rfl|h
   .simp
   .simp[h]
def zv9{a:CQ}(ha:CqOk a):zg7 (vrs a) a:=by
 have key:∀(ts:List Trm) (l:List Str),(∀v∈l,v∈ts.foldl (fun l t=>zcL l (tv t)) l)/\∀v,.var v∈ts->v≠[]->v∈ts.foldl (fun l t=>zcL l (tv t)) l:=by
  intro ts
  induction ts with
  |nil=>intro l;exact⟨fun v h=>h,fun v h=>by simp at h⟩
  |cons t ts ih=>
   intro l;have h1:∀v∈l,v∈zcL l (tv t):=by
    intro v hv;unfold zcL;split
    .exact hv
    .simp[hv]
   refine⟨fun v hv=>(ih _).1 v (h1 v hv),fun v hv hne=> ?_⟩;rcases Z6.1 hv with h|h
   .refine (ih _).1 v ?_;subst h;show v∈zcL l v;unfold zcL;split
    .rename_i h2;rcases h2 with h2|h2
     .exact absurd h2 hne
     .obtain⟨x,hx,he⟩ :=Z31.1 h2;have:=(beq_iff_eq.1 he);subst this;exact hx
    .simp
   .exact (ih _).2 v h hne
 have hall:∀t∈tsC a,InV (vrs a) t:=by
  intro t ht;refine⟨zqx ha t ht,fun v hv=> ?_⟩;subst hv;rw[<-zjA];refine (key (tsC a) []).2 v ht ?_;exact zqx ha _ ht
 refine⟨fun x hx t ht=>hall t ?_,fun k hk=>⟨hall _ ?_,hall _ ?_⟩⟩
 .unfold tsC tsA;exact Z103 _ (Z39.2 ⟨x,hx,ht⟩)
 .unfold tsC;exact Z97 _ (Z39.2 ⟨k,hk,by simp[ts2]⟩)
 .unfold tsC;exact Z97 _ (Z39.2 ⟨k,hk,by simp[ts2]⟩)
def zlb(b:CQ):List Trm:=cpt (zfc (tsC b))
theorem spla(a b:CQ)(ha:CqSm a)(hb:CqSm b):SPla a b (vrs a) (zlb b) (fA (vrs a) a a.as.length) (fC (vrs a) a a.cs.length) where
 ha:=ha.toCqOk
 hb:=hb.toCqOk
 hv:=zv9 ha.toCqOk
 hc:=fun t ht=>zvN (zqx hb.toCqOk) t (zwT t ht)
 lc:=by
  have h1:=zBJ (zfc (tsC b));have h2:=zrP hb;rw[zsB]at h1;unfold zlb;omega
 iA:=fun v hv=>⟨fun i hi=>by
   have:=(Z58.1 hi).1;simpa using this,by
   have:=zCe (vrs a) a a.as.length v;have:=ha.sa;omega⟩
 iC:=fun v hv=>⟨fun i hi=>by
   have:=(Z58.1 hi).1;simpa using this,by
   have:=zCf (vrs a) a a.cs.length v;have:=ha.sc;omega⟩
def Clr(im:List Trm)(asg:List Bool):Prop:=∀v,asg.getD v false=false->im.getD v (.var [])= .var []
def zLI{ns:List Str}{cand:List Trm}(hns:[]∉ns){st st':List Trm×List Bool}{x:Str}(h1:zfw st.1 st.2)(h2:Clr st.1 st.2)(hl:st.2.length=st.1.length)(h:fixF ns cand st x= .inl st'):zfw st'.1 st'.2/\Clr st'.1 st'.2/\st'.2.length=st'.1.length:=by
 unfold fixF at h;split at h
 .rename_i hm;split at h
  .cases h;refine⟨zlV h1 (fun e=>hns (by rw[<-e];exact hm)) (by omega),fun v hv=> ?_,by simpa using hl⟩;simp only[Z49,Z88]at hv|-
   by_cases e:vix ns x=v
   .subst e
    by_cases hlt:vix ns x<st.2.length
    .simp[hlt]at hv
    .have:¬vix ns x<st.1.length:=by omega
     simp[this]
   .simp only[e,Z64]at hv|-;have:=h2 v (by simpa [Z49]using hv);simpa [Z49]using this
  .cases h
 .cases h;exact⟨h1,h2,hl⟩
theorem zCj{ns:List Str}{cand:List Trm}(hns:[]∉ns):∀(hd:List Str) {st st':List Trm×List Bool},zfw st.1 st.2->Clr st.1 st.2->st.2.length=st.1.length->zdn (fixF ns cand) st hd= .inl st'->zfw st'.1 st'.2/\Clr st'.1 st'.2
 |[],st,st',h1,h2,h3,h=>by
  cases h;exact⟨h1,h2⟩
 |x::hd,st,st',h1,h2,h3,h=>by
  rw[ziT]at h;cases hf:fixF ns cand st x with
  |inl s1=>
   rw[hf]at h;obtain⟨g1,g2,g3⟩ :=zLI hns h1 h2 h3 hf;exact zCj hns hd g1 g2 g3 h
  |inr r=>rw[hf]at h;cases h
def stepG(ns:List Str)(a b:CQ)(cand:List Trm)(inA inC:Nat->List Nat)(st:List Trm×List Bool)(g:List Nat):(List Trm×List Bool)⊕Unit:=match zhb ns a b cand inA inC g st.1 st.2 with
 |some r=> .inl r
 |none=> .inr ()
def zzY(ns:List Str)(a b:CQ)(cand:List Trm)(inA inC:Nat->List Nat)(st:List Trm×List Bool):Option (List Trm):=match zdn (stepG ns a b cand inA inC) st (zey st.2 ns a)with
 | .inl r=>some r.1
 | .inr _=>none
def zoE(ns:List Str)(a b:CQ)(cand:List Trm)(inA inC:Nat->List Nat)(st:(List Trm×List Bool)⊕Unit):Option (List Trm):=match st with
 | .inr _=>none
 | .inl st=>if acc ns st.1 st.2 a b (List.range a.as.length) (List.range a.cs.length)=true then zzY ns a b cand inA inC st else none
def zrh(a b:CQ)(hd:List Str):Option (List Trm):=zoE (vrs a) a b (zlb b) (fA (vrs a) a a.as.length) (fC (vrs a) a a.cs.length) (zdn (fixF (vrs a) (zlb b)) (List.replicate (vrs a).length (.var []),List.replicate (vrs a).length false) hd)
theorem zwH{ns:List Str}{a b:CQ}{cand:List Trm}{inA inC:Nat->List Nat}(hc:∀t∈cand,zaL t):∀(vs:List Nat) {im:List Trm} {asg:List Bool} {r:List Trm×List Bool},zfw im asg->asg.length<=im.length->zhb ns a b cand inA inC vs im asg=some r->
  zfw r.1 r.2/\r.1.length=im.length/\r.2.length=asg.length/\∀u,u∉vs->r.1.getD u (.var [])=im.getD u (.var [])/\r.2.getD u false=asg.getD u false
 |[],im,asg,r,h1,h2,h=>by
  simp only[zhb,Z46]at h;subst h;exact⟨h1,rfl,rfl,fun _ _=>⟨rfl,rfl⟩⟩
 |v::vs,im,asg,r,h1,h2,h=>by
  simp only[zhb]at h;obtain⟨t,ht,h⟩ :=Z193 h;split at h
  .obtain⟨g1,g2,g3,g4⟩ :=zwH hc vs (zlV h1 (hc t ht) h2) (by simpa using h2) h;refine⟨g1,by simpa using g2,by simpa using g3,fun u hu=> ?_⟩;simp only[Z6,not_or]at hu;obtain⟨k1,k2⟩ :=g4 u hu.2;have hne:¬v=u:=fun e=>hu.1 e.symm
   refine⟨k1.trans ?_,k2.trans ?_⟩
   .simp[Z49,Z88,hne]
   .simp[Z49,Z88,hne]
  .cases h
def zkN{asg:List Bool}{ns:List Str}{a:CQ}:∀g∈zey asg ns a,g.Nodup/\g.length<=ns.length/\∀v∈g,v<ns.length/\asg.getD v false=false:=by
 intro g hg;unfold zey at hg;obtain⟨r,_,rfl⟩ :=Z13.1 (Z58.1 hg).1;refine⟨Z173 _ List.nodup_range,zxj _ _ _ _,fun v hv=> ?_⟩;unfold mem at hv;obtain⟨h1,h2⟩ :=Z58.1 hv;simp only[Z15,Z81]at h2;exact⟨by simpa using h1,h2.1⟩
def zuN{asg:List Bool}{ns:List Str}{a:CQ}:(zey asg ns a).Pairwise fun g g'=>∀v∈g,v∉g':=by
 unfold zey;refine Z173 _ (List.pairwise_map.2 ?_);refine List.Pairwise.imp ?_ (List.pairwise_lt_range);intro r r' hlt v h1 h2;unfold mem at h1 h2;have e1:=(Z58.1 h1).2;have e2:=(Z58.1 h2).2;simp only[Z15,Z87]at e1 e2;omega
def zEX{asg:List Bool}{ns:List Str}{a:CQ}:(zey asg ns a).length<=ns.length:=by
 unfold zey;refine Z4 (Z77 _ _) ?_;simp
def zF6{α:Type}{rows l:List α}{n k:Nat}(h:rows.take k=l)(hn:n<l.length):rows[n]? =some l[n]:=by
 subst h;have:n<k:=by simp at hn;omega
 rw[Z158];rw[Z0]
def G1(a b:CQ)(ns:List Str)(dA dC dT:D)(h2:T Ob)(c2 S M I A:Nat)(dG:D)(G:List (List Nat))(n:Nat)(st:List Trm×List Bool)(s:St):Prop:=
 (s.tm.get 8=some (.ptr S 11 0 0)/\s.tm.get 34=some (dG)/\s.tm.get 35=some (.f (.i .i64 G.length))/\s.tm.get 36=some (.f (.i .i64 n)))/\SAt a b ns st.1 st.2 dA dC dT s.h s.c S M I A/\FrI h2 s.h c2 I A/\c2<=s.c/\s.lw<=s.c/\zfw st.1 st.2/\∀j (hj:j<G.length),n<=j->∀v∈G[j],v<ns.length/\st.1.getD v (.var [])= .var []/\st.2.getD v false=false
def zoS:Option (List Trm)->F
 |none=> .tu [.nils,.b false]
 |some l=> .tu [.sl 4 (l.map tmF),.b true]
def ans51(a b:CQ)(hd:List Str)(ha:CqSm a)(hb:CqSm b)(hh:hd.length<1000):Ans pr 51 [.ag (cqF a),.ag (cqF b),zaM hd] (zoS (zrh a b hd)):=by
 refine zb6 fn51 ?_;simp only[g51,rU];have HP:=spla a b ha hb;obtain⟨hnd,hne⟩ :=zgW a;have hnl:=zk1 ha;have e25:=fun(h:T Ob) (c:Nat)=>eff69 a b ha hb (h:=h) (c:=c)
 simp[rW,st0,zah,cqE,zbO,zbQ,zcb];refine zer rfl rfl (e25 _ _) ?_;intro d h' c' lw mx hp hcc;obtain⟨S,M,I,A,dA,dC,dT,rfl,HS,HF,hf,b1,b2,b3,b4⟩ :=hp;have HF:znQ a b (vrs a) dA dC dT (zlb b) (fA (vrs a) a a.as.length) (fC (vrs a) a a.cs.length) h' c' I A:=HF;simp only[rG]at hf hcc b1;unfold zrh;generalize zlb b=cand at*;generalize fA (vrs a) a a.as.length=inA at*;generalize fC (vrs a) a a.cs.length=inC at*;generalize vrs a=ns at*;have ho:zfw (List.replicate ns.length (.var [])) (List.replicate ns.length false):=by
  intro i hi;simp[Z49,Z161]at hi;split at hi<;>simp at hi
 have hclr:Clr (List.replicate ns.length (.var [])) (List.replicate ns.length false):=by
  intro v hv;simp[Z49,Z161];split<;>rfl
 have e26:=fun(h:T Ob) (c:Nat) (H) (hT)=>eff70 (h:=h) (c:=c) (im:=List.replicate ns.length (.var [])) (asg:=List.replicate ns.length false) (dA:=dA) (dC:=dC) (dT:=dT) (a:=a) (b:=b) (S:=S) (M:=M) (I:=I) (A:=A) (ns:=ns) H hd (by omega) (fun x hx e=>hne (by rw[<-e];exact hx)) cand hT HF.tI HF.tA HP.lc HP.hc
 have hfix:=fun st=>zCj (cand:=cand) hne hd (st:=(List.replicate ns.length (.var []),List.replicate ns.length false)) (st':=st) ho hclr (by simp)
 generalize zdn (fixF ns cand) (List.replicate ns.length (.var []),List.replicate ns.length false) hd=r at*;have q28:=fun k=>zav (k:=k) (ans72 a ha.toCqOk.la)
 have q29:=fun k=>zav (k:=k) (ans73 a ha.toCqOk.lc)
 simp[rW,];refine zfu (Q:=fun S=>WD pr _ S _) (P:=fun s=>(s.tm.get 2=some (.f (zaM hd))/\s.tm.get 8=some (.ptr S 11 0 0))/\s.h=h'/\s.c=c'/\s.lw<=c') ?_ ?_
 .simp[rW,];exact Z4 (Z65 _ _) (by simp (disch:=omega) only[za3,za9];omega)
 rintro s ⟨⟨h2,h8⟩,eh,ec,hlw⟩;subst eh ec;refine za5 ?_;simp[rW,h2,h8];refine zAJ ?_ ?_ (e26 s.h (s.c+2) (HS.up (fun _ _=>rfl) (by omega)) (HF.rT.up (fun _ _ _=>rfl) (by omega))) ?_
 .simp only[rG]
 .simp only[rG]
 intro d1 h1 c1 lw1 mx1 hp hcc1 hmm1;cases r with
 |inr r=>
  have hp:d1= .f (.b false):=hp;subst hp;simp[rW,h2,h8,zoE,zoS]
 |inl st=>
  obtain⟨rfl,HS1,hf1⟩ :=hp;obtain⟨ho1,hcl1⟩ :=hfix st rfl;have gS:=HS1.gS;simp[rW,h2,h8,zoE,gS,q28,q29,zuV];have hac:∀(H':T Ob) (c':Nat),(∀id,id<c1->H'.get id=h1.get id)->c1<=c'->RO pr 71 [.ptr S 11 0 0,.f (zeR (List.range a.as.length)),.f (zeR (List.range a.cs.length))] H' c' (.f (.b (acc ns st.1 st.2 a b (List.range a.as.length) (List.range a.cs.length)))):=
   fun H' c' e1 e2=>ro71 (HS1.up e1 e2) ho1 HP.ha HP.hb HP.hv (.inl rfl) (.inl rfl) (fun i hi=>by simpa using hi) (fun i hi=>by simpa using hi) (by have:=ha.sa;simp;omega) (by have:=ha.sc;simp;omega)
  generalize acc ns st.1 st.2 a b (List.range a.as.length) (List.range a.cs.length)=z at hac|-;refine zbS (hac _ _ ?_ ?_) ?_ ?_ ?_
  .intro id hid;simp only[rG]
  .simp only[rG];omega
  .simp only[rG];exact Z4 (Z65 _ _) (by omega)
  .simp[ckG,ck1]
  .intro mx hmx;simp only[rG]at hmx;cases z with
   |false=>simp[rW,h2,h8,zoS]
   |true=>
    simp[rW,h2,h8];have HS2:=HS1.up (h':=h1) (c':=mx+2) (fun _ _=>rfl) (by omega);have e30:=eff74 HS2 ha hne hnl;have gin:=zkN (asg:=st.2) (ns:=ns) (a:=a);have gdis:=zuN (asg:=st.2) (ns:=ns) (a:=a);have glen:=zEX (asg:=st.2) (ns:=ns) (a:=a);have hbI:=HS1.bI;have hbA:=HS1.bA;simp only[Z61,zzY];generalize zey st.2 ns a=G at e30 gin gdis glen|-;refine zer ?_ ?_ e30 ?_
    .simp only[rG]
    .simp only[rG]
    rintro dG hB cB lw2 mx2 ⟨hf2,Mb,rows,lim,ex,es,rfl,gMb,bMb,cMb,hrows,hes,hRd⟩ hcc2;have HS3:=HS2.up hf2 hcc2;have HF2:znQ a b ns dA dC dT cand inA inC hB cB I A:=HF.upF (fun id k1 k2 k3=>by
     rw[hf2 id (by omega)];exact hf1 id (by omega) k2 k3) (by omega)
    simp[rW,h2,h8];generalize hres:zdn (stepG ns a b cand inA inC) st G=rr;refine zCk G (stepG ns a b cand inA inC) st (G1 a b ns dA dC dT hB cB S M I A (.sl Mb 0 G.length 1 lim ex) G) (fun st' x s=>x= .exit 0/\(s.tm.get 8=some (.ptr S 11 0 0))/\SAt a b ns st'.1 st'.2 dA dC dT s.h s.c S M I A) (fun _ x s=>x= .ret/\s.tm.get 6=some (.f .nils)/\s.tm.get 7=some (.f (.b false))) ?_ ?_ _ ?_ ?_ ?_
    .rintro n st1 s hn ⟨⟨h8,h34,h35,h36⟩,HSn,hfn,hcn,hlw,hon,hemp⟩;have hw:=zao n (by omega);have hne':n<es.length:=by omega
     have hrn:=zF6 hrows (n:=n) (by simpa using hne');rw[Z206]at hrn;have gMb':s.h.get Mb=some (.arr 1 0 rows):=(hfn Mb bMb (by omega) (by omega)).trans gMb;obtain⟨hRdn,hoid⟩ :=hRd n hne' hn;have hdI:es[n].oid≠some I:=fun e=>by have:=hoid _ e;omega
     have hdA:es[n].oid≠some A:=fun e=>by have:=hoid _ e;omega
     obtain⟨gg1,gg2,gg3⟩ :=gin _ (Z2 hn);have e31:=eff75 HP G[n] HSn (HF2.upF hfn hcn) hon (hRdn.upF hdI hdA hfn hcn) hdI hdA (by omega) gg1 (fun v hv=>hemp n hn (Z3 _) v hv);have hnx:∀j (hj:j<G.length),n+1<=j->∀v∈G[j],v∉G[n]:=fun j hj hnj v hv hv2=>Z127.1 gdis n j hn hj (by omega) v hv2 hv
     have hok:=fun r=>zwH (r:=r) (ns:=ns) (a:=a) (b:=b) (inA:=inA) (inC:=inC) HP.hc G[n] hon (by rw[HSn.lI,HSn.lA];exact Z3 _)
     unfold stepG;generalize zhb ns a b cand inA inC G[n] st1.1 st1.2=r at e31 hok|-;generalize es[n]=e at hrn e31;simp[rW,h8,h34,h35,h36,hn,gMb',hrn];refine zer ?_ ?_ e31 ?_
     .simp only[rG]
     .simp only[rG]
     rintro d31 h31 c31 lw31 mx31 hp hcc31;cases r with
     |none=>
      obtain⟨rfl,_,_⟩ :=hp;simp[rW,]
     |some st2=>
      obtain⟨rfl,HS4,hf4⟩ :=hp;obtain⟨k1,k2,k3,k4⟩ :=hok _ rfl;simp[rW,h8,h34,h35,h36,hw,G1];refine⟨HS4,hfn.trans hf4 hcn,by omega,?_,k1,fun j hj hnj v hv=> ?_⟩
      .exact Z4 (Z65 _ _) (by omega)
      .obtain⟨m1,m2,m3⟩ :=hemp j hj (by omega) v hv;obtain⟨m4,m5⟩ :=k4 v (hnx j hj hnj v hv);simp only[Z49]at*;exact⟨m1,m4.trans m2,m5.trans m3⟩
    .rintro st1 s ⟨⟨h8,h34,h35,h36⟩,HSn,hfn,hcn,hlw,hon,hemp⟩;simp[rW,h8,h34,h35,h36];exact HSn
    .simp[rW,G1,h8];refine⟨HS3,FrI.refl,Z4 (Z65 _ _) (by omega),ho1,fun j hj v hv=> ?_⟩;obtain⟨_,_,m3⟩ :=gin _ (Z2 hj);have m4:=m3 v hv;have m5:=hcl1 v m4.2;simp only[Z49]at*;exact⟨m4.1,m5,m4.2⟩
    .rintro st1 hst x s ⟨rfl,h8,HSn⟩;rw[hst]at hres;subst hres;have gS:=HSn.gS;have gI:=HSn.gI;have hlI:=HSn.lI;have hz:(om (s.h.get I) (fzS s.h.get 10 I 0 ns.length 4))=some (.sl 4 (st1.1.map tmF),[I]):=by
      rw[gI,<-hlI];show fzS s.h.get 10 I 0 st1.1.length 4 (.arr 4 0 (zaH st1.1))=_;have e1:(zaH st1.1).take st1.1.length=zaH st1.1:=by rw[<-zbD st1.1,Z8]
      rw[zgd,Z52 ⟨rfl,by simp[zbD]⟩,Z35,e1,zNp];rfl
     simp[rW,h8,gS,hz,zoS]
    .rintro r hr x s ⟨rfl,⟨h6,h7⟩⟩;rw[hr]at hres;subst hres;simp[rW,h6,h7,zoS]
def fn31:pr.fn 31=some g31:=by kernel_rfl
def zLC{a b:List Str}(hl:a.length=b.length)(h:∀i,i<a.length->a[i]? =b[i]?):a=b:=by
 apply Z108;intro i
 by_cases hi:i<a.length
 .exact h i hi
 .rw[Z98 (by omega),Z98 (by omega)]
def SQ40(a b:List Str)(k:Nat)(s:St):Prop:=∃n:Nat,(k=a.length - n/\n<=a.length/\∀i,i<n->a[i]? =b[i]?)/\(s.tm.get 0=some (.f (zaM a))/\s.tm.get 1=some (.f (zaM b))/\s.tm.get 12=some (.f (.i .i64 a.length))/\s.tm.get 13=some (.f (.i .i64 n)))
def ans31(a b:List Str)(hn:a.length<100000):Ans pr 31 [zaM a,zaM b] (.b (decide (a=b))):=by
 refine zb6 fn31 ?_;simp only[g31,rU]
 by_cases hl:a.length=b.length
 .have hl':(a.length:Int)=b.length:=by omega
  simp[rW,st0,zah,zcb,zbN,hl,hl'];refine zcN (SQ40 a b) (fun x s=>(x= .exit 0/\a=b)\/(x= .ret/\a≠b/\s.tm.get 4=some (.f (.b false)))) ?_ a.length _ ?_ ?_
  .rintro k s ⟨n,⟨rfl,hn2,he⟩,⟨h0,h1,h12,h13⟩⟩
   by_cases hlt:n<a.length
   .have ha:a[n]? =some a[n]:=Z0 hlt;have hb:b[n]? =some b[n]:=Z0 (by omega);have hltb:n<b.length:=by omega
    have hw:=zao n (by omega);generalize hA:a[n]=A at ha;generalize hB:b[n]=B at hb
    by_cases hq:A=B
    .subst hq;simp[rW,h0,h1,h12,h13,zbN,hlt,hltb,hl];refine zaF ?_;simp[rW,h0,h1,h12,h13,zco,ha,hb,hlt,hltb,hA,hB];rw[zcc];refine⟨a.length - (n+1),by omega,n+1,⟨rfl,by omega,fun i hi=> ?_⟩,?_⟩
     .by_cases hi2:i=n
      .subst hi2;rw[ha,hb]
      .exact he i (by omega)
     .simp[rW,h0,h1,h12,h13,hw]
    .have hne:a≠b:=fun e=>hq (by subst e;rw[ha]at hb;exact Z54 hb)
     simp[rW,h0,h1,h12,h13,zbN,hlt,hltb,hl];refine zaF ?_;simp[rW,h0,h1,h12,h13,zco,ha,hb,hlt,hltb,hA,hB,hq,hne]
   .have e:a=b:=zLC hl fun i hi=>he i (by omega)
    have hltb:¬(n<b.length):=by omega
    simp[rW,h0,h1,h12,h13,zbN,hlt,hltb,hl];exact e
  .simp[rW,SQ40];exact⟨0,by simp,by simp[hl]⟩
  .rintro x s (⟨rfl,e⟩ |⟨rfl,e,h4⟩)
   .simp[rW,e]
   .simp[rW,h4,e]
 .have hl':¬((a.length:Int)=b.length):=by omega
  have hne:¬(a=b):=fun e=>hl (by rw[e])
  simp[rW,st0,zah,zcb,zbN,hl,hl',hne]
def qsF(l:List CQ):F:=slc 2 (l.map cqF)
def zhr(l:List CQ):(qsF l).d= .f (qsF l):=zjY ..
def zdf(l:List CQ):zbv (.f (qsF l))=some l.length:=by simp[qsF,zgS]
def zgC(l:List CQ)(n:Nat):iaB 2 (.f (qsF l)) n=(l[n]?).map fun c=>D.fptr (cqF c):=by simp[qsF,ziu,Z68]
def bnS(l:List Str)(a:Atm):List Str:=if a.neg=true then l else zd0 l a.ts
def bnd(c:CQ):List Str:=c.as.foldl bnS []
def cvA(hd l:List Str)(x:Str):List Str:=if hd.any (· ==x)=true then l++[x]else l
def cov(d w:CQ)(hd:List Str):Bool:=((vrs w).foldl (cvA hd) (vrs d)).all fun x=>(bnd d).any (· ==x)
def zdw{h:T Ob}{lo c es:Nat}{d:D}{els:List (List D)}(hg:Gro h lo c es d els){x:Nat}(hx:d.oid=some x):lo<=x/\x<c:=by
 rcases hg with⟨rfl,_⟩ |⟨id,ro,rfl,h2,h3,h4,h5,h6⟩
 .simp[D.oid]at hx
 .simp[D.oid]at hx;omega
def zdv{h:T Ob}{lo c:Nat}{d:D}{l:List Str}(hg:Gro h lo c 1 d (za1 l)):zbv d=some l.length:=by
 rcases hg with⟨rfl,h2⟩ |⟨id,ro,rfl,h2,h3,h4,h5,h6⟩
 .have:=zvS h2;subst this;rfl
 .rw[zbl];rfl
def zd2(c:CQ)(i:Nat)(na:Bool):CQ:=⟨c.as.take i++c.as.drop (i+1),c.cs,c.ne,na⟩
def zBv{c:CQ}(hne:c.as≠[]):zaS c= .sl 3 (c.as.map atF):=by
 unfold zaS Sm.asF;rw[Z50 (fun h=>hne h.2),zdz (by simpa using hne)]
def zP6{c:CQ}(hne:c.as≠[]){i:Nat}(hi:i<=c.as.length)(h:Nat->Option Ob):sliceB 3 h (.f (zaS c)) none (some (.f (.i .i64 i))) none=some (.f (.sl 3 ((c.as.take i).map atF)),[]):=by
 rw[zBv hne];simp[sliceB,za8,zbR,hi,Z150]
def zP7{c:CQ}(hne:c.as≠[]){i:Nat}(hi:i<=c.as.length)(h:Nat->Option Ob):sliceB 3 h (.f (zaS c)) (some (.f (.i .i64 i))) none none=some (.f (.sl 3 ((c.as.drop i).map atF)),[]):=by
 rw[zBv hne];simp[sliceB,za8,zbR,hi,List.map_drop];exact Z12 (by simp)
def zup{c:CQ}(hc:CqSm c)(i:Nat)(na:Bool):CqSm (zd2 c i na):=by
 have hm:∀a∈(zd2 c i na).as,a∈c.as:=fun a ha=>by
  rcases Z5.1 ha with h|h
  .exact Z14 h
  .exact Z22 h
 have hl:(zd2 c i na).as.length<=c.as.length:=by simp[zd2];omega
 exact⟨⟨fun a ha=>hc.as a (hm a ha),hc.cs,by have:=hc.la;omega,hc.lc⟩,by have:=hc.sa;omega,fun a ha=>hc.st a (hm a ha),hc.sc,fun a ha=>hc.s2 a (hm a ha)⟩
def exR(hd:List Str)(c d:CQ):Bool:=(zrh c d hd).isSome
def zj2(hd hd2:List Str)(l m:List CQ):Bool:=decide (hd=hd2)&&l.all fun d=>m.any fun c=>exR hd c d
def QOk(l:List CQ):Prop:=(∀c∈l,CqSm c)/\l.length<1000
def zca(l:List CQ):List (List D):=l.map fun c=>[D.f (zaS c),D.f (zaQ c)]
def zcm(l:List CQ):(zca l).length=l.length:=by simp[zca]
def zf2(l:List CQ)(c:CQ):zca (l++[c])=zca l++[[D.f (zaS c),D.f (zaQ c)]]:=by simp[zca]
def zi9(h:Nat->Option Ob)(k:Nat)(l:List CQ):zaV (frz h (k+1)) (zca l)=some (l.map cqF,[]):=by
 have:=ziF h k (l.map cqF);rw[Z34]at this;exact this
def fn19:pr.fn 19=some g19:=by kernel_rfl
def fn10:pr.fn 10=some g10:=by kernel_rfl
def fn32:pr.fn 32=some g32:=by kernel_rfl
def fn33:pr.fn 33=some g33:=by kernel_rfl
def fn34:pr.fn 34=some g34:=by kernel_rfl
def fn28:pr.fn 28=some g28:=by kernel_rfl
def zHP(a b:CQ)(hd:List Str)(ha:CqSm a)(hb:CqSm b)(hh:hd.length<1000):Ans pr 34 [.ag (cqF a),.ag (cqF b),zaM hd] (.b (exR hd a b)):=by
 refine zb6 fn34 ?_;simp only[g34,rU];have q:=fun k=>zav (k:=k) (ans51 a b hd ha hb hh)
 simp only[cqE]at q;unfold exR;cases hr:zrh a b hd with
 |none=>
  rw[hr]at q;simp only[zoS]at q;simp[rW,st0,zah,cqE,zbO,zbQ,zcb,q]
 |some l=>
  rw[hr]at q;simp only[zoS]at q;simp[rW,st0,zah,cqE,zbO,zbQ,zcb,q]
def cqD(c:CQ):List D:=[.f (zaS c),.f (zaQ c)]
theorem ro33(hd:List Str)(c d:CQ)(hc:CqSm c)(hdd:CqSm d)(hh:hd.length<1000){h:T Ob}{k X Y:Nat}{y:D}(gX:h.get X=some (.arr 2 0 [cqD d]))(gY:h.get Y=some (.arr 2 0 [[.f (zaM hd),y]]))(hX:X<k)(hY:Y<k):
  RO pr 33 [.ag (cqD c),.ptr X 2 0 0,.ptr Y 2 0 0] h k (.f (.b (exR hd c d))):=by
 refine zcA za0 fn33 rfl ?_;simp only[g33,rU];have nX:¬X=k:=by omega
 have nY:¬Y=k:=by omega
 have q:=fun j=>zav (k:=j) (zHP c d hd hc hdd hh)
 simp only[cqE]at q;unfold cqD at gX;simp[rW,st0,zah,cqD,gX,gY,nX,nY,zbO,zbQ,zcb,q,zaO];simp (disch:=omega) only[za3,za9]
theorem ro28(l:List CQ)(p:CQ->Bool)(hl:l.length<100000){h:T Ob}{c g:Nat}{cap:List D}(hcl:∀n (hn:n<l.length),RO pr g (.ag (cqD l[n])::cap) h c (.f (.b (p l[n])))):
  RO pr 28 [.f (qsF l),.fn g [] cap] h c (.f (.i .i64 (ixP l p))):=by
 refine zcA za0 fn28 rfl ?_;simp only[g28,rU];simp[rW,st0,zah,zdf];refine zfa l p (fun n s=>s.tm.get 0=some (.f (qsF l))/\s.tm.get 1=some (.fn g [] cap)/\s.tm.get 7=some (.f (.i .i64 l.length))/\s.tm.get 8=some (.f (.i .i64 n))/\s.h=h/\s.c=c/\s.lw=c) (fun x s=>x= .exit 0/\s.lw=c) (fun n y s=>y= .ret/\s.tm.get 4=some (.f (.i .i64 n))/\s.lw=c) ?_ ?_ _ ?_ ?_ ?_
 .rintro n s hn ⟨h0,h1,h7,h8,eh,ec,el⟩;have hw:=zao n (by omega);have hp:=hcl n hn;generalize hA:l[n]=A at hp|-;have hA':l[n]? =some A:=by rw[Z0 hn,hA]
  simp[rW,h0,h1,h7,h8,hn,zgC,hA',hA,cqE];refine zbW (d:= .f (.b (p A))) ?_ ?_ ?_
  .simp only[rG];rw[eh,ec];exact hp
  .simp only[rG];omega
  .intro mx;cases hb:p A with
   |true=>simp[rW,h0,h1,h7,h8,el]
   |false=>simp[rW,h0,h1,h7,h8,hw,eh,ec,el]
 .rintro s ⟨h0,h1,h7,h8,eh,ec,el⟩;simp[rW,h0,h1,h7,h8,el]
 .simp[rW,st0,zah]
 .rintro h z s ⟨rfl,el⟩;rw[ziG h];simp[rW,zaO,el]
 .rintro n hn hp hm z s ⟨rfl,h4,el⟩;rw[zhq hn hp hm];simp[rW,h4,zaO,el]
theorem ro32(l:List CQ)(p:CQ->Bool)(hl:l.length<100000){h:T Ob}{c g:Nat}{cap:List D}(hcl:∀n (hn:n<l.length),RO pr g (.ag (cqD l[n])::cap) h c (.f (.b (p l[n])))):
  RO pr 32 [.f (qsF l),.fn g [] cap] h c (.f (.b (l.any p))):=by
 refine zcA za0 fn32 rfl ?_;simp only[g32,rU];rw[<-zkT l p];simp[rW,st0,zah];refine zbW (d:= .f (.i .i64 (ixP l p))) ?_ ?_ ?_
 .simp only[rG];exact ro28 l p hl hcl
 .simp only[rG];omega
 .intro mx;simp[rW,zaO]
def nIn(hd:List Str)(m:List CQ)(d:CQ):Bool:=!(m.any fun c=>exR hd c d)
def P0(hd hd2:List Str)(l m:List CQ)(n:Nat)(s:St):Prop:=(s.tm.get 2=some (.ptr 0 2 0 0)/\s.tm.get 3=some (.ptr 1 2 0 0)/\s.tm.get 14=some (.f (qsF l))/\s.tm.get 15=some (.f (.i .i64 l.length))/\s.tm.get 16=some (.f (.i .i64 n))/\s.h.get 0=some (.arr 2 0 [[.f (zaM hd),.f (qsF l)]])/\s.h.get 1=some (.arr 2 0 [[.f (zaM hd2),.f (qsF m)]]))/\2<=s.c/\s.lw<=s.c
def zHJ(hd hd2:List Str)(l m:List CQ)(hh:hd.length<1000)(hl:QOk l)(hm:QOk m):Ans pr 19 [.ag [zaM hd,qsF l],.ag [zaM hd2,qsF m]] (.b (zj2 hd hd2 l m)):=by
 refine zb6 fn19 ?_;simp only[g19,rU];have q40:=fun k=>zav (k:=k) (ans31 hd hd2 (by omega))
 unfold zj2
 by_cases he:hd=hd2
 .rw[decide_eq_true he]at q40|-;simp[rW,st0,zah,zcb,zhr,q40,zdf];refine zfa l (nIn hd m) (fun n s=>P0 hd hd2 l m n s) (fun x s=>x= .exit 0) (fun n y s=>y= .ret/\s.tm.get 4=some (.f (.b false))) ?_ ?_ _ ?_ ?_ ?_
  .rintro n s hn ⟨⟨h2,h3,h14,h15,h16,g0,g1⟩,hc2,hlw⟩;have hw:=zao n (by have:=hl.2;omega);have hsd:=hl.1 _ (Z2 hn);generalize hA:l[n]=A at hsd|-;have hA':l[n]? =some A:=by rw[Z0 hn,hA]
   have n0:¬(0=s.c):=by omega
   have n1:¬(1=s.c):=by omega
   simp[rW,h2,h3,h14,h15,h16,g0,g1,hn,zgC,hA',hA,cqE,n0,n1];refine zbW (d:= .f (.b (m.any fun c=>exR hd c A))) (ro32 m (fun c=>exR hd c A) (by have:=hm.2;omega) fun k hk=> ?_) ?_ ?_
   .refine ro33 hd m[k] A (hm.1 _ (Z2 hk)) hsd hh (y:= .f (qsF l)) ?_ ?_ ?_ ?_
    .simp only[rG];simp[TG,cqD]
    .simp only[rG];simp[TG,n0,g0]
    .simp only[rG];omega
    .simp only[rG];omega
   .simp only[rG]
    (repeat refine Z4 (zcu _ _) ?_)
    omega
   .intro mx;cases hb:m.any fun c=>exR hd c A with
    |true=>
     have e:nIn hd m A=false:=by unfold nIn;rw[hb];rfl
     simp[rW,h2,h3,h14,h15,h16,g0,g1,e,hw,n0,n1,P0];refine⟨by omega,?_⟩
     (repeat refine Z4 (zcu _ _) ?_)
     omega
    |false=>
     have e:nIn hd m A=true:=by unfold nIn;rw[hb];rfl
     simp[rW,h2,h3,h14,h15,h16,g0,g1,e,hw,n0,n1]
  .rintro s ⟨⟨h2,h3,h14,h15,h16,g0,g1⟩,hc2,hlw⟩;simp[rW,h2,h3,h14,h15,h16,g0,g1]
  .simp[rW,P0];simp[zda]
  .rintro h z s rfl;have e:(l.all fun d=>m.any fun c=>exR hd c d)=true:=Z51.2 fun x hx=>by simpa [nIn]using h x hx
   rw[e];simp[rW,]
  .rintro n hn hp hm z s ⟨rfl,h4⟩;have e:(l.all fun d=>m.any fun c=>exR hd c d)=false:=Z144.2 ⟨l[n],Z2 hn,by simpa [nIn]using hp⟩;rw[e];simp[rW,h4]
 .rw[decide_eq_false he]at q40|-;simp[rW,st0,zah,zcb,zhr,q40]
def zHD(hd hd2:List Str)(l m:List CQ)(hh:hd.length<1000)(hh2:hd2.length<1000)(hl:QOk l)(hm:QOk m):Ans pr 10 [.ag [zaM hd,qsF l],.ag [zaM hd2,qsF m]] (.b (zj2 hd hd2 l m&&zj2 hd2 hd m l)):=by
 refine zb6 fn10 ?_;simp only[g10,rU];have q1:=fun k=>zav (k:=k) (zHJ hd hd2 l m hh hl hm)
 have q2:=fun k=>zav (k:=k) (zHJ hd2 hd m l hh2 hm hl)
 cases hb:zj2 hd hd2 l m with
 |true=>rw[hb]at q1;simp[rW,st0,zah,zcb,zhr,q1,q2]
 |false=>rw[hb]at q1;simp[rW,st0,zah,zcb,zhr,q1,q2]
def fn46:pr.fn 46=some g46:=by kernel_rfl
def fn62:pr.fn 62=some g62:=by kernel_rfl
def fn63:pr.fn 63=some g63:=by kernel_rfl
def zDE(h:Nat->Option Ob)(c:Nat):opv h c (.eqn 0 false (.f .nils) (.f .nils))=some {d:= .f (.b true),c}:=rfl
def zqG(h:Nat->Option Ob)(c es:Nat)(l:List (List F)):opv h c (.eqn 0 false (.f (.sl es l)) (.f .nils))=some {d:= .f (.b false),c}:=rfl
def Own(h:T Ob)(lo c:Nat)(d:D)(X:F):Prop:=(d= .f X\/∃a b e f g x,d= .sl a b e f g x)/\d.cells=some [d]/\(∀x,d.oid=some x->lo<=x/\x<c)/\∀h':T Ob,(∀x,d.oid=some x->h'.get x=h.get x)->∀k,∃rd,frz h'.get (k+2) d=some (X,rd)
def Own.up{h h':T Ob}{lo lo' c c':Nat}{d:D}{X:F}(H:Own h lo c d X)(hf:∀x,d.oid=some x->h'.get x=h.get x)(hl:lo'<=lo)(hc:c<=c'):Own h' lo' c' d X:=
 ⟨H.1,H.2.1,fun x hx=>by have:=H.2.2.1 x hx;omega,fun h2 hh=>H.2.2.2 h2 fun x hx=>(hh x hx).trans (hf x hx)⟩
def ziV{h:T Ob}{lo c es:Nat}{d:D}{rows:List (List F)}(hg:Gro h lo c es d (rows.map fun a=>a.map D.f)):Own h lo c d (slc es rows):=by
 refine⟨?_,zbj hg,fun x hx=>zdw hg hx,fun h' hh k=> ?_⟩
 .rcases hg with⟨rfl,hr⟩ |⟨id,ro,rfl,hn,hg,hr,hl,hc⟩
  .have:rows=[]:=by simpa using hr
   subst this;exact .inl rfl
  .exact .inr ⟨_,_,_,_,_,_,rfl⟩
 rcases hg with⟨rfl,hr⟩ |⟨id,ro,rfl,hn,hg,hr,hl,hc⟩
 .have:rows=[]:=by simpa using hr
  subst this;exact⟨[],rfl⟩
 .refine⟨[id],?_⟩;have h1:=hh id rfl;rw[zgw,h1,hg,zc0,zgd];simp only[true_and,Z26,Z3,Z61,Z35,Z8,ziF h'.get k rows,zc0];rw[zdz (fun e=>hn (by rw[e];rfl))]
def gCl(es byt:Nat)(z:List F):Go.Vse.Fn:=⟨8,[.t 2],oZ [oR 2 (.mv (.k .nils))]
 (.seq (oD [oM 3 0,oR 4 (.eqn 0 false (.t 3) (.k .nils))] 4 (oZ [oR 2 (.mv (.k .nils))] .ret) .skip)
 (oZ [oR 5 (.bsl es z 0 []),oM 6 0,oR 7 (.app es byt (.t 5) (.t 6)),oM 2 7] .ret))⟩
theorem zH8{n es byt:Nat}{z:List F}(hf:pr.fn n=some (gCl es byt z))(hb:byt<=1000){X:F}{rows:List (List F)}(hX:X= .sl es rows\/X= .nils/\rows=[])(hl:rows.length<=1000000){h:T Ob}{c:Nat}:
  Eff pr n [.f X] h c fun d h' c'=>Frm h h' c/\Own h' c c' d X:=by
 refine zcG za0 hf ?_;unfold gCl;simp only[rU];rcases hX with rfl|⟨rfl,rfl⟩
 .have hm:rows.length*byt<=1000000*1000:=Z145 hl hb;have m1:(rows.length<=zak)=True:=za2 (by omega);have m2:(rows.length*byt<=zak)=True:=za2 (by omega)
  by_cases h0:rows=[]
  .subst h0;simp[rW,st0,zah,zqG,zcp];refine⟨fun x hx=> ?_,.inr ⟨_,_,_,_,_,_,rfl⟩,rfl,fun x hx=> ?_,fun h' hh k=>⟨[c],?_⟩⟩
   .have:¬x=c:=by omega
    simp[TG,this]
   .simp[D.oid]at hx;omega
   .have:=hh c rfl;simp[TG]at this;rw[zgw,this];simp[om,zgd,zaV]
  .simp[rW,st0,zah,zqG,h0,m1,m2,zcp];refine⟨fun x hx=> ?_,?_⟩
   .have h1:¬x=c:=by omega
    have h2:¬x=c+1:=by omega
    simp[TG,h1,h2]
   .have:=ziV (h:=(h.set c (.arr es 0 [])).set (c+1) (.arr es 0 (rows.map fun a=>a.map D.f))) (lo:=c) (c:=c+1+1) (es:=es) (d:= .sl (c+1) 0 rows.length es rows.length false) (rows:=rows) (.inr ⟨c+1,0,by simp,by simpa using h0,by simp[TG],Z62 _,by omega,by omega⟩);rw[<-zdz h0]at this;exact this
 .simp[rW,st0,zah,zDE,zcp];refine⟨fun _ _=>rfl,.inl rfl,rfl,by simp[D.oid],fun h' _ k=>⟨[],rfl⟩⟩
def zjX(es:Nat)(rows:List (List F)):slc es rows= .sl es rows\/slc es rows= .nils/\rows=[]:=by
 cases rows with
 |nil=>exact .inr ⟨rfl,rfl⟩
 |cons a l=>exact .inl rfl
def eff63(l:List Trm)(hl:l.length<=1000000){h:T Ob}{c:Nat}:Eff pr 63 [.f (zdD l)] h c fun d h' c'=>Frm h h' c/\Own h' c c' d (zdD l):=
 zH8 (z:=[.s [],.i .i64 0,.i .i64 0,.s []]) (byt:=48) fn63 (by omega) (zjX 4 _) (by simpa using hl)
def eff62(q:CQ)(hl:q.cs.length<=1000000){h:T Ob}{c:Nat}:Eff pr 62 [.f (zaQ q)] h c fun d h' c'=>Frm h h' c/\Own h' c c' d (zaQ q):=by
 refine zH8 (rows:=q.cs.map cmF) (z:=[.i .i64 0,.s [],.i .i64 0,.i .i64 0,.s [],.s [],.i .i64 0,.i .i64 0,.s []]) (byt:=104) fn62 (by omega) ?_ (by simpa using hl);unfold zaQ csF;split
 .rename_i hh;rw[hh.2];exact .inl rfl
 .exact zjX 9 _
def zez(W:List (Atm×D)):List (List D):=W.map fun p=>[.f (.s p.1.r),.f (.b p.1.neg),p.2]
theorem zju{h:T Ob}{lo c:Nat}(k:Nat):∀{W:List (Atm×D)},(∀p∈W,Own h lo c p.2 (zdD p.1.ts))->∃rd,zaV (frz h.get (k+2)) (zez W)=some (W.map fun p=>atF p.1,rd)
 |[],_=>⟨[],rfl⟩
 |p::W,hW=>by
  obtain⟨rd,hr⟩ :=zju k (W:=W) fun q hq=>hW q (by simp[hq])
  obtain⟨rd2,h2⟩ :=(hW p (by simp)).2.2.2 h (fun _ _=>rfl) k;have h3:zbn (frz h.get (k+2)) [.f (.s p.1.r),.f (.b p.1.neg),p.2]=some (atF p.1,rd2):=by
   have a1:frz h.get (k+2) (.f (.s p.1.r))=some (.s p.1.r,[]):=rfl;have a2:frz h.get (k+2) (.f (.b p.1.neg))=some (.b p.1.neg,[]):=rfl;simp only[zbn,a1,a2,h2,atE];simp
  exact⟨rd2++rd,by
   have e:zez (p::W)=[.f (.s p.1.r),.f (.b p.1.neg),p.2]::zez W:=rfl;rw[e,zlo,h3];simp only[hr];rfl⟩
def zov{h:T Ob}{lo c es k:Nat}{d:D}{els:List (List D)}{L:List (List F)}{rd:List Nat}(hg:Gro h lo c es d els)(hf:zaV (frz h.get k) els=some (L,rd))(hL:L=[]↔els=[]):∃rd,frz h.get (k+1) d=some (slc es L,rd):=by
 rcases hg with⟨rfl,rfl⟩ |⟨id,ro,rfl,he,ho,hr,hl,hc⟩
 .rw[hL.2 rfl];exact⟨[],rfl⟩
 .refine⟨id::rd,?_⟩;rw[zgw,ho,zc0,zgd];simp only[true_and,Z26,Z3,Z61,Z35,Z8,hf,zc0];rw[zdz (fun e=>he (hL.1 e))]
def zta{α β:Type}{f:α->Option β}:om (none:Option α) f=none:=rfl
def XY1(c:CQ)(n:Nat)(s:St):Prop:=∃(P:Nat) (B dC:D) (W:List (Atm×D)),W.map (·.1)=c.as.take n/\(s.tm.get 1=some (.ptr 0 2 0 0)/\s.tm.get 2=some (.ptr 1 2 0 0)/\s.tm.get 3=some (.ptr P 2 0 0)/\s.tm.get 11=some (.f (zaS c))/\s.tm.get 12=some (.f (.i .i64 c.as.length))/\s.tm.get 13=some (.f (.i .i64 n))/\s.h.get 1=some (.arr 2 0 [[.f .nils,.f .nils]])/\s.h.get P=some (.arr 2 0 [[B,dC]]))/\Own s.h 2 P dC (zaQ c)/\Gro s.h (P+1) s.c 3 B (zez W)/\(∀p∈W,Own s.h (P+1) s.c p.2 (zdD p.1.ts)/\∀x,p.2.oid=some x->B.oid≠some x)/\P<s.c/\2<=P
def ans46(c:CQ)(hc:CqSm c):Ans pr 46 [.ag (cqF c)] (.ag (cqF ⟨c.as,c.cs,c.ne,false⟩)):=by
 refine zb6 fn46 ?_;simp only[g46,rU];simp[rW,st0,zah,cqE,zbO,zbQ];refine zer rfl rfl (eff62 c (by have:=hc.sc;omega)) ?_;rintro dC h' c' lw mx ⟨hf,hO⟩ hcc;simp only[rG]at hf hO hcc;have e0:=hf 0 (by omega);have e1:=hf 1 (by omega);simp[TG]at e0 e1;have hcd:=hO.2.1;have n0:¬(0=c'):=by omega
 have n1:¬(1=c'):=by omega
 simp[rW,e0,e1,hcd,n0,n1,zeu];refine zdo c.as.length (XY1 c) (fun x s=>x= .exit 0/\XY1 c c.as.length s) ?_ ?_ _ ?_ ?_
 .rintro n s hn ⟨P,B,dC,W,hW,⟨h1,h2,h3,h11,h12,h13,g1,gP⟩,hC,hg,hall,hPc,hP2⟩;have hw:=zao n (by have:=hc.sa;omega);have hx:c.as[n]? =some c.as[n]:=Z0 hn;have hst:=hc.st _ (Z2 hn);have htk:=Z7 hn;generalize hA:c.as[n]=A at hx hst htk;simp[rW,h1,h2,h3,h11,h12,h13,g1,gP,hn,zeK,hx,hA,atE,zib];refine zer rfl rfl (eff63 A.ts (by omega)) ?_;rintro d H2 c2 lw2 mx2 ⟨hf2,hO2⟩ hcc2;simp only[rG]at hf2 hO2 hcc2;have eP:=hf2 P (by omega);have eQ:=hf2 s.c (by omega);have e1:=hf2 1 (by omega);have nP:¬(P=s.c):=by omega
  have nP':¬(s.c=P):=by omega
  have n1:¬(1=s.c):=by omega
  have np1:¬(1=P):=by omega
  simp[TG,nP,n1,gP,g1]at eP eQ e1;have hlow:∀j,j<s.c->H2.get j=s.h.get j:=fun j hj=>by
   have:=hf2 j (by omega);have nj:¬j=s.c:=by omega
   simpa [TG,nj]using this
  have hdc:=hO2.2.1;have hWl:(zez W).length<=12:=by
   have h1:W.length=(c.as.take n).length:=by rw[<-hW];simp
   have:=hc.sa;simp[zez,h1];omega
  have nP2:¬(P=c2):=by omega
  have n1c:¬(1=c2):=by omega
  rcases hO2.1 with rfl|⟨a1,a2,a3,a4,a5,a6,rfl⟩
  .simp[rW,h1,h2,h3,h11,h12,h13,eP,eQ,e1,hdc,nP,nP',nP2,n1c,zib,zta];refine⟨by omega,?_⟩;refine zfm (zbh (c':=c2) hg (by omega) fun x h1 h2=> ?_) (by omega) (by simp;omega) (by omega) ?_
   .have nx:¬(x=s.c):=by omega
    have nx2:¬(x=c2):=by omega
    simp[TG,nx,nx2];exact hlow x h2
   intro r hr1 hr2 hr3 hr4 hr5;have hPr:=hr4 P (by omega) (zbi hg (by omega));have h1r:=hr4 1 (by omega) (zbi hg (by omega));simp[TG,nP,n1,nP2,n1c,eP,e1]at hPr h1r;have hr6:∀x,x<c2->x≠s.c->B.oid≠some x->(wrT _ r.wr).get x=H2.get x:=fun x h1 h2 h3=>by
    have nx2:¬(x=c2):=by omega
    rw[hr4 x (by omega) h3];simp[TG,h2,nx2]
   refine⟨hr1,?_⟩;simp[rW,hPr,zbj hr2,nP2,n1c];refine⟨by omega,?_⟩;refine⟨P,r.d,dC,W++[(A,.f (zdD A.ts))],by simp[hW,htk],?_,?_,?_,?_,?_,hP2⟩
   .simp[rW,h1,h2,h3,h11,h12,h13,hw,h1r,hPr,np1]
   .refine hC.up (fun x hx=> ?_) (Z3 _) (Z3 _);have hx2:=hC.2.2.1 x hx;have nx:¬(x=P):=by omega
    simp[rW,nx];rw[hr6 x (by omega) (by omega) (zbi hg (by omega)),hlow x (by omega)]
   .have e:zez (W++[(A,.f (zdD A.ts))])=zez W++[[.f (.s A.r),.f (.b A.neg),.f (zdD A.ts)]]:=by simp[zez]
    rw[e];refine zbh hr2 (by simp[rW,]) fun x h1 h2=> ?_
    have nx:¬(x=P):=by omega
    simp[rW,nx]
   .intro p hp;rcases Z5.1 hp with hp|hp
    .obtain⟨o1,o2⟩ :=hall p hp;refine⟨o1.up (fun x hx=> ?_) (Z3 _) (by simp[rW,];omega),fun x hx hy=> ?_⟩
     .have hx2:=o1.2.2.1 x hx;have nx:¬(x=P):=by omega
      simp[rW,nx];rw[hr6 x (by omega) (by omega) (o2 x hx),hlow x (by omega)]
     .have hx2:=o1.2.2.1 x hx;rcases hr5 x hy with e|e
      .omega
      .exact o2 x hx e
    .obtain rfl:p=(A,.f (zdD A.ts)):=by simpa using hp
     refine⟨hO2.up (fun x hx=> ?_) (by omega) (by simp[rW,];omega),fun x hx hy=> ?_⟩
     .have hx2:=hO2.2.2.1 x hx;have nx:¬(x=P):=by omega
      simp[rW,nx];rw[hr6 x (by omega) (by omega) (fun e=>by have:=zdw hg e;omega)]
     .have hx2:=hO2.2.2.1 x hx;rcases hr5 x hy with e|e
      .omega
      .have:=zdw hg e;omega
   .simp[rW,];omega
  .simp[rW,h1,h2,h3,h11,h12,h13,eP,eQ,e1,hdc,nP,nP',nP2,n1c,zib,zta];refine⟨by omega,?_⟩;refine zfm (zbh (c':=c2+1) hg (by omega) fun x h1 h2=> ?_) (by omega) (by simp;omega) (by omega) ?_
   .have nx:¬(x=s.c):=by omega
    have nx2:¬(x=c2):=by omega
    simp[TG,nx,nx2];exact hlow x h2
   intro r hr1 hr2 hr3 hr4 hr5;have hPr:=hr4 P (by omega) (zbi hg (by omega));have h1r:=hr4 1 (by omega) (zbi hg (by omega));simp[TG,nP,n1,nP2,n1c,eP,e1]at hPr h1r;have hr6:∀x,x<c2->x≠s.c->B.oid≠some x->(wrT _ r.wr).get x=H2.get x:=fun x h1 h2 h3=>by
    have nx2:¬(x=c2):=by omega
    rw[hr4 x (by omega) h3];simp[TG,h2,nx2]
   refine⟨hr1,?_⟩;simp[rW,hPr,zbj hr2,nP2,n1c];refine⟨by omega,?_⟩;refine⟨P,r.d,dC,W++[(A,.sl a1 a2 a3 a4 a5 a6)],by simp[hW,htk],?_,?_,?_,?_,?_,hP2⟩
   .simp[rW,h1,h2,h3,h11,h12,h13,hw,h1r,hPr,np1]
   .refine hC.up (fun x hx=> ?_) (Z3 _) (Z3 _);have hx2:=hC.2.2.1 x hx;have nx:¬(x=P):=by omega
    simp[rW,nx];rw[hr6 x (by omega) (by omega) (zbi hg (by omega)),hlow x (by omega)]
   .have e:zez (W++[(A,.sl a1 a2 a3 a4 a5 a6)])=zez W++[[.f (.s A.r),.f (.b A.neg),.sl a1 a2 a3 a4 a5 a6]]:=by simp[zez]
    rw[e];refine zbh hr2 (by simp[rW,]) fun x h1 h2=> ?_
    have nx:¬(x=P):=by omega
    simp[rW,nx]
   .intro p hp;rcases Z5.1 hp with hp|hp
    .obtain⟨o1,o2⟩ :=hall p hp;refine⟨o1.up (fun x hx=> ?_) (Z3 _) (by simp[rW,];omega),fun x hx hy=> ?_⟩
     .have hx2:=o1.2.2.1 x hx;have nx:¬(x=P):=by omega
      simp[rW,nx];rw[hr6 x (by omega) (by omega) (o2 x hx),hlow x (by omega)]
     .have hx2:=o1.2.2.1 x hx;rcases hr5 x hy with e|e
      .omega
      .exact o2 x hx e
    .obtain rfl:p=(A,.sl a1 a2 a3 a4 a5 a6):=by simpa using hp
     refine⟨hO2.up (fun x hx=> ?_) (by omega) (by simp[rW,];omega),fun x hx hy=> ?_⟩
     .have hx2:=hO2.2.2.1 x hx;have nx:¬(x=P):=by omega
      simp[rW,nx];rw[hr6 x (by omega) (by omega) (fun e=>by have:=zdw hg e;omega)]
     .have hx2:=hO2.2.2.1 x hx;rcases hr5 x hy with e|e
      .omega
      .have:=zdw hg e;omega
   .simp[rW,];omega
 .rintro s ⟨P,B,dC,W,hW,⟨h1,h2,h3,h11,h12,h13,g1,gP⟩,hC,hg,hall,hPc,hP2⟩;simp[rW,h1,h2,h3,h11,h12,h13,g1,gP];refine⟨P,B,dC,W,hW,?_,hC,hg,hall,hPc,hP2⟩;simp[rW,h1,h2,h3,h11,h12,h13,g1,gP]
 .refine⟨c',.f .nils,dC,[],by simp,?_,?_,.inl ⟨rfl,rfl⟩,by simp,?_,by omega⟩
  .simp[rW,e1,n1]
  .refine hO.up (fun x hx=> ?_) (Z3 _) (Z3 _);have:=hO.2.2.1 x hx;have nx:¬(x=c'):=by omega
   simp[rW,nx]
  .simp[rW,]
 .rintro x s ⟨rfl,P,B,dC,W,hW,⟨h1,h2,h3,h11,h12,h13,g1,gP⟩,hC,hg,hall,hPc,hP2⟩;rw[Z8]at hW;obtain⟨rd,hz⟩ :=zju 8 fun p hp=>(hall p hp).1
  have nP1:¬(P=1):=by omega
  have hh:∀y,y≠1->(s.h.set 1 (.arr 2 0 [[B,dC]])).get y=s.h.get y:=fun y hy=>by simp[TG,hy]
  obtain⟨rd,hz⟩ :=zju (h:=s.h.set 1 (.arr 2 0 [[B,dC]])) 8 fun p hp=>((hall p hp).1.up (fun x hx=>hh x (by have:=(hall p hp).1.2.2.1 x hx;omega)) (Z3 _) (Z3 _))
  obtain⟨rd1,h1⟩ :=zov (zbh (h':=s.h.set 1 (.arr 2 0 [[B,dC]])) hg (Z3 _) fun x h1 _=>hh x (by omega)) hz (by simp[zez]);obtain⟨rd2,h2'⟩ :=hC.2.2.2 (s.h.set 1 (.arr 2 0 [[B,dC]])) (fun x hx=>hh x (by have:=hC.2.2.1 x hx;omega)) 9;have eW:(W.map fun p=>atF p.1)=c.as.map atF:=by rw[<-hW,Z34];rfl
  have eA:slc 3 (c.as.map atF)=zaS ⟨c.as,c.cs,c.ne,false⟩ :=by unfold zaS Sm.asF;rw[Z50 (by simp)]
  have eC:zaQ c=zaQ ⟨c.as,c.cs,c.ne,false⟩ :=rfl;rw[eW,eA]at h1;rw[eC]at h2';have hdc:=hC.2.1;simp[rW,h1,h2,h3,h11,h12,h13,g1,gP,nP1,zbj hg,hdc,h1,h2'];omega
end Go.Proofs.YtflgmemhalhdbaaGreatDoor
end
