/- The program's Homomorphism. -/
import Derived.Test.YtimgcabgophnfaaGreatPi
import Derived.KernelRfl
import Derived.IntWalk
set_option linter.all false
section
namespace Go.Proofs.YtimgcabgophnfaaGreat
open Go Go.Vse Go.Vse.Sm
set_option maxRecDepth 100000
set_option maxHeartbeats 1000000
set_option linter.all false
theorem fn7:pr.fn 7=some g7:=by kernel_rfl
theorem zns:∀(l:List Trm) (p:Trm),∀t∈zfR p l,t=p\/t∈l
 |[],p,t,h=>by simpa [zfR]using h
 |x::l,p,t,h=>by
  simp only[zfR]at h;split at h
  ·rcases zns l x t h with rfl|h
   ·exact .inr (by simp)
   ·exact .inr (by simp[h])
  ·rcases List.mem_cons.1 h with rfl|h
   ·exact .inr (by simp)
   ·rcases zns l x t h with rfl|h
    ·exact .inr (by simp)
    ·exact .inr (by simp[h])
theorem zxq{l:List Trm}:∀t∈cpt l,t∈l:=by
 intro t h;cases l with
 |nil=>simpa [cpt]using h
 |cons x l=>
  simp only[cpt]at h;rcases List.mem_cons.1 h with rfl|h
  ·simp
  ·rcases zns l x t h with rfl|h
   ·simp
   ·simp[h]
theorem zv3{a:CQ}(ha:CqOk a):zfi (vrs a) a:=by
 have key:∀(ts:List Trm) (l:List Str),(∀v∈l,v∈ts.foldl (fun l t=>zcA l (tv t)) l)/\∀v,.var v∈ts->v≠[]->v∈ts.foldl (fun l t=>zcA l (tv t)) l:=by
  intro ts
  induction ts with
  |nil=>intro l;exact⟨fun v h=>h,fun v h=>by simp at h⟩
  |cons t ts ih=>
   intro l;have h1:∀v∈l,v∈zcA l (tv t):=by
    intro v hv;unfold zcA;split
    ·exact hv
    ·simp[hv]
   refine⟨fun v hv=>(ih _).1 v (h1 v hv),fun v hv hne=> ?_⟩;rcases List.mem_cons.1 hv with h|h
   ·refine (ih _).1 v ?_;subst h;show v∈zcA l v;unfold zcA;split
    ·rename_i h2;rcases h2 with h2|h2
     ·exact absurd h2 hne
     ·obtain⟨x,hx,he⟩ :=List.any_eq_true.1 h2;have:=(beq_iff_eq.1 he);subst this;exact hx
    ·simp
   ·exact (ih _).2 v h hne
 have hall:∀t∈tsC a,InV (vrs a) t:=by
  intro t ht;refine⟨zmc ha t ht,fun v hv=> ?_⟩;subst hv;rw[<-zpQ];refine (key (tsC a) []).2 v ht ?_;exact zmc ha _ ht
 refine⟨fun x hx t ht=>hall t ?_,fun k hk=>⟨hall _ ?_,hall _ ?_⟩⟩
 ·unfold tsC tsA;exact List.mem_append_left _ (List.mem_flatMap.2 ⟨x,hx,ht⟩)
 ·unfold tsC;exact List.mem_append_right _ (List.mem_flatMap.2 ⟨k,hk,by simp[ts2]⟩)
 ·unfold tsC;exact List.mem_append_right _ (List.mem_flatMap.2 ⟨k,hk,by simp[ts2]⟩)
def zkL(b:CQ):List Trm:=cpt (zfd (tsC b))
theorem spla(a b:CQ)(ha:zbu a)(hb:zbu b):SPla a b (vrs a) (zkL b) (fA (vrs a) a a.as.length) (fC (vrs a) a a.cs.length) where
 ha:=ha.toCqOk
 hb:=hb.toCqOk
 hv:=zv3 ha.toCqOk
 hc:=fun t ht=>zvL (zmc hb.toCqOk) t (zxq t ht)
 lc:=by
  have h1:=zCu (zfd (tsC b));have h2:=zrF hb;rw[zss]at h1;unfold zkL;omega
 iA:=fun v hv=>⟨fun i hi=>by
   have:=(List.mem_filter.1 hi).1;simpa using this,by
   have:=zC6 (vrs a) a a.as.length v;have:=ha.sa;omega⟩
 iC:=fun v hv=>⟨fun i hi=>by
   have:=(List.mem_filter.1 hi).1;simpa using this,by
   have:=zC7 (vrs a) a a.cs.length v;have:=ha.sc;omega⟩
def Clr(im:List Trm)(asg:List Bool):Prop:=∀v,asg.getD v false=false->im.getD v (.var [])= .var []
theorem zMB{ns:List Str}{cand:List Trm}(hns:[]∉ns){st st':List Trm×List Bool}{x:Str}(h1:zfv st.1 st.2)(h2:Clr st.1 st.2)(hl:st.2.length=st.1.length)(h:fixF ns cand st x= .inl st'):zfv st'.1 st'.2/\Clr st'.1 st'.2/\st'.2.length=st'.1.length:=by
 unfold fixF at h;split at h
 ·rename_i hm;split at h
  ·cases h;refine⟨zlx h1 (fun e=>hns (by rw[<-e];exact hm)) (by omega),fun v hv=> ?_,by simpa using hl⟩;simp only[List.getD_eq_getElem?_getD,List.getElem?_set]at hv⊢
   by_cases e:vix ns x=v
   ·subst e
    by_cases hlt:vix ns x<st.2.length
    ·simp[hlt]at hv
    ·have:¬vix ns x<st.1.length:=by omega
     simp[this]
   ·simp only[e,if_false]at hv⊢;have:=h2 v (by simpa [List.getD_eq_getElem?_getD]using hv);simpa [List.getD_eq_getElem?_getD]using this
  ·cases h
 ·cases h;exact⟨h1,h2,hl⟩
theorem zDb{ns:List Str}{cand:List Trm}(hns:[]∉ns):∀(hd:List Str) {st st':List Trm×List Bool},zfv st.1 st.2->Clr st.1 st.2->st.2.length=st.1.length->zc1 (fixF ns cand) st hd= .inl st'->zfv st'.1 st'.2/\Clr st'.1 st'.2
 |[],st,st',h1,h2,h3,h=>by
  cases h;exact⟨h1,h2⟩
 |x::hd,st,st',h1,h2,h3,h=>by
  rw[zhy]at h;cases hf:fixF ns cand st x with
  |inl s1=>
   rw[hf]at h;obtain⟨g1,g2,g3⟩ :=zMB hns h1 h2 h3 hf;exact zDb hns hd g1 g2 g3 h
  |inr r=>rw[hf]at h;cases h
def stepG(ns:List Str)(a b:CQ)(cand:List Trm)(inA inC:Nat->List Nat)(st:List Trm×List Bool)(g:List Nat):(List Trm×List Bool)⊕Unit:=match zg4 ns a b cand inA inC g st.1 st.2 with
 |some r=> .inl r
 |none=> .inr ()
def zAA(ns:List Str)(a b:CQ)(cand:List Trm)(inA inC:Nat->List Nat)(st:List Trm×List Bool):Option (List Trm):=match zc1 (stepG ns a b cand inA inC) st (zeD st.2 ns a)with
 | .inl r=>some r.1
 | .inr _=>none
def znQ(ns:List Str)(a b:CQ)(cand:List Trm)(inA inC:Nat->List Nat)(st:(List Trm×List Bool)⊕Unit):Option (List Trm):=match st with
 | .inr _=>none
 | .inl st=>if acc ns st.1 st.2 a b (List.range a.as.length) (List.range a.cs.length)=true then zAA ns a b cand inA inC st else none
def zuK(a b:CQ)(hd:List Str):Option (List Trm):=znQ (vrs a) a b (zkL b) (fA (vrs a) a a.as.length) (fC (vrs a) a a.cs.length) (zc1 (fixF (vrs a) (zkL b)) (List.replicate (vrs a).length (.var []),List.replicate (vrs a).length false) hd)
theorem zwM{ns:List Str}{a b:CQ}{cand:List Trm}{inA inC:Nat->List Nat}(hc:∀t∈cand,zau t):∀(vs:List Nat) {im:List Trm} {asg:List Bool} {r:List Trm×List Bool},zfv im asg->asg.length≤im.length->zg4 ns a b cand inA inC vs im asg=some r->
  zfv r.1 r.2/\r.1.length=im.length/\r.2.length=asg.length/\∀u,u∉vs->r.1.getD u (.var [])=im.getD u (.var [])/\r.2.getD u false=asg.getD u false
 |[],im,asg,r,h1,h2,h=>by
  simp only[zg4,Option.some.injEq]at h;subst h;exact⟨h1,rfl,rfl,fun _ _=>⟨rfl,rfl⟩⟩
 |v::vs,im,asg,r,h1,h2,h=>by
  simp only[zg4]at h;obtain⟨t,ht,h⟩ :=List.exists_of_findSome?_eq_some h;split at h
  ·obtain⟨g1,g2,g3,g4⟩ :=zwM hc vs (zlx h1 (hc t ht) h2) (by simpa using h2) h;refine⟨g1,by simpa using g2,by simpa using g3,fun u hu=> ?_⟩;simp only[List.mem_cons,not_or]at hu;obtain⟨k1,k2⟩ :=g4 u hu.2;have hne:¬v=u:=fun e=>hu.1 e.symm
   refine⟨k1.trans ?_,k2.trans ?_⟩
   ·simp[List.getD_eq_getElem?_getD,List.getElem?_set,hne]
   ·simp[List.getD_eq_getElem?_getD,List.getElem?_set,hne]
  ·cases h
theorem zkd{asg:List Bool}{ns:List Str}{a:CQ}:∀g∈zeD asg ns a,g.Nodup/\g.length≤ns.length/\∀v∈g,v<ns.length/\asg.getD v false=false:=by
 intro g hg;unfold zeD at hg;obtain⟨r,_,rfl⟩ :=List.mem_map.1 (List.mem_filter.1 hg).1;refine⟨List.Pairwise.filter _ List.nodup_range,zxZ _ _ _ _,fun v hv=> ?_⟩;unfold mem at hv;obtain⟨h1,h2⟩ :=List.mem_filter.1 hv;simp only[Bool.and_eq_true,Bool.not_eq_true']at h2;exact⟨by simpa using h1,h2.1⟩
theorem zuC{asg:List Bool}{ns:List Str}{a:CQ}:(zeD asg ns a).Pairwise fun g g'=>∀v∈g,v∉g':=by
 unfold zeD;refine List.Pairwise.filter _ (List.pairwise_map.2 ?_);refine List.Pairwise.imp ?_ (List.pairwise_lt_range);intro r r' hlt v h1 h2;unfold mem at h1 h2;have e1:=(List.mem_filter.1 h1).2;have e2:=(List.mem_filter.1 h2).2;simp only[Bool.and_eq_true,decide_eq_true_eq]at e1 e2;omega
theorem zF3{asg:List Bool}{ns:List Str}{a:CQ}:(zeD asg ns a).length≤ns.length:=by
 unfold zeD;refine Nat.le_trans (List.length_filter_le _ _) ?_;simp
theorem zHh{α:Type}{rows l:List α}{n k:Nat}(h:rows.take k=l)(hn:n<l.length):rows[n]? =some l[n]:=by
 subst h;have:n<k:=by simp at hn;omega
 rw[List.getElem_take];rw[List.getElem?_eq_getElem]
def G1(a b:CQ)(ns:List Str)(dA dC dT:D)(h2:T Ob)(c2 S M I A:Nat)(dG:D)(G:List (List Nat))(n:Nat)(st:List Trm×List Bool)(s:St):Prop:=
 (s.tm.get 8=some (.ptr S 11 0 0)/\s.tm.get 34=some (dG)/\s.tm.get 35=some (.f (.i .i64 G.length))/\s.tm.get 36=some (.f (.i .i64 n)))/\SAt a b ns st.1 st.2 dA dC dT s.h s.c S M I A/\FrI h2 s.h c2 I A/\c2≤s.c/\s.lw≤s.c/\zfv st.1 st.2/\∀j (hj:j<G.length),n≤j->∀v∈G[j],v<ns.length/\st.1.getD v (.var [])= .var []/\st.2.getD v false=false
def znZ:Option (List Trm)->F
 |none=> .tu [.nils,.b false]
 |some l=> .tu [.sl 4 (l.map tmF),.b true]
theorem ans7(a b:CQ)(hd:List Str)(ha:zbu a)(hb:zbu b)(hh:hd.length<1000):Ans pr 7 [.ag (cqF a),.ag (cqF b),zas hd] (znZ (zuK a b hd)):=by
 refine za1 fn7 ?_;simp only[g7,rU];have HP:=spla a b ha hb;obtain⟨hnd,hne⟩ :=zij a;have hnl:=zgR ha;have e25:=fun(h:T Ob) (c:Nat)=>eff25 a b ha hb (h:=h) (c:=c)
 simp[rW,st0,zae,cqE,zaV,zaW,zaL];refine zfa rfl rfl (e25 _ _) ?_;intro d h' c' lw mx hp hcc;obtain⟨S,M,I,A,dA,dC,dT,rfl,HS,HF,hf,b1,b2,b3,b4⟩ :=hp;have HF:zna a b (vrs a) dA dC dT (zkL b) (fA (vrs a) a a.as.length) (fC (vrs a) a a.cs.length) h' c' I A:=HF;simp only[rG]at hf hcc b1;unfold zuK;generalize zkL b=cand at*;generalize fA (vrs a) a a.as.length=inA at*;generalize fC (vrs a) a a.cs.length=inC at*;generalize vrs a=ns at*;have ho:zfv (List.replicate ns.length (.var [])) (List.replicate ns.length false):=by
  intro i hi;simp[List.getD_eq_getElem?_getD,List.getElem?_replicate]at hi;split at hi<;>simp at hi
 have hclr:Clr (List.replicate ns.length (.var [])) (List.replicate ns.length false):=by
  intro v hv;simp[List.getD_eq_getElem?_getD,List.getElem?_replicate];split<;>rfl
 have e26:=fun(h:T Ob) (c:Nat) (H) (hT)=>eff26 (h:=h) (c:=c) (im:=List.replicate ns.length (.var [])) (asg:=List.replicate ns.length false) (dA:=dA) (dC:=dC) (dT:=dT) (a:=a) (b:=b) (S:=S) (M:=M) (I:=I) (A:=A) (ns:=ns) H hd (by omega) (fun x hx e=>hne (by rw[<-e];exact hx)) cand hT HF.tI HF.tA HP.lc HP.hc
 have hfix:=fun st=>zDb (cand:=cand) hne hd (st:=(List.replicate ns.length (.var []),List.replicate ns.length false)) (st':=st) ho hclr (by simp)
 generalize zc1 (fixF ns cand) (List.replicate ns.length (.var []),List.replicate ns.length false) hd=r at*;have q28:=fun k=>zak (k:=k) (ans28 a ha.toCqOk.la)
 have q29:=fun k=>zak (k:=k) (ans29 a ha.toCqOk.lc)
 simp[rW,];refine zeE (Q:=fun S=>WD pr _ S _) (P:=fun s=>(s.tm.get 2=some (.f (zas hd))/\s.tm.get 8=some (.ptr S 11 0 0))/\s.h=h'/\s.c=c'/\s.lw≤c') ?_ ?_
 ·simp[rW,];exact Nat.le_trans (Nat.min_le_left _ _) (by simp (disch:=omega) only[zbk,zbN];omega)
 rintro s ⟨⟨h2,h8⟩,eh,ec,hlw⟩;subst eh ec;refine zbj ?_;simp[rW,h2,h8];refine zv9 ?_ ?_ (e26 s.h (s.c+2) (HS.up (fun _ _=>rfl) (by omega)) (HF.rT.up (fun _ _ _=>rfl) (by omega))) ?_
 ·simp only[rG]
 ·simp only[rG]
 intro d1 h1 c1 lw1 mx1 hp hcc1 hmm1;cases r with
 |inr r=>
  have hp:d1= .f (.b false):=hp;subst hp;simp[rW,h2,h8,znQ,znZ]
 |inl st=>
  obtain⟨rfl,HS1,hf1⟩ :=hp;obtain⟨ho1,hcl1⟩ :=hfix st rfl;have gS:=HS1.gS;simp[rW,h2,h8,znQ,gS,q28,q29,zuS];have hac:∀(H':T Ob) (c':Nat),(∀id,id<c1->H'.get id=h1.get id)->c1≤c'->RO pr 27 [.ptr S 11 0 0,.f (zeU (List.range a.as.length)),.f (zeU (List.range a.cs.length))] H' c' (.f (.b (acc ns st.1 st.2 a b (List.range a.as.length) (List.range a.cs.length)))):=
   fun H' c' e1 e2=>ro27 (HS1.up e1 e2) ho1 HP.ha HP.hb HP.hv (.inl rfl) (.inl rfl) (fun i hi=>by simpa using hi) (fun i hi=>by simpa using hi) (by have:=ha.sa;simp;omega) (by have:=ha.sc;simp;omega)
  generalize acc ns st.1 st.2 a b (List.range a.as.length) (List.range a.cs.length)=z at hac⊢;refine zb6 (hac _ _ ?_ ?_) ?_ ?_ ?_
  ·intro id hid;simp only[rG]
  ·simp only[rG];omega
  ·simp only[rG];exact Nat.le_trans (Nat.min_le_left _ _) (by omega)
  ·simp[ckG,ck1]
  ·intro mx hmx;simp only[rG]at hmx;cases z with
   |false=>simp[rW,h2,h8,znZ]
   |true=>
    simp[rW,h2,h8];have HS2:=HS1.up (h':=h1) (c':=mx+2) (fun _ _=>rfl) (by omega);have e30:=eff30 HS2 ha hne hnl;have gin:=zkd (asg:=st.2) (ns:=ns) (a:=a);have gdis:=zuC (asg:=st.2) (ns:=ns) (a:=a);have glen:=zF3 (asg:=st.2) (ns:=ns) (a:=a);have hbI:=HS1.bI;have hbA:=HS1.bA;simp only[if_true,zAA];generalize zeD st.2 ns a=G at e30 gin gdis glen⊢;refine zfa ?_ ?_ e30 ?_
    ·simp only[rG]
    ·simp only[rG]
    rintro dG hB cB lw2 mx2 ⟨hf2,Mb,rows,lim,ex,es,rfl,gMb,bMb,cMb,hrows,hes,hRd⟩ hcc2;have HS3:=HS2.up hf2 hcc2;have HF2:zna a b ns dA dC dT cand inA inC hB cB I A:=HF.upF (fun id k1 k2 k3=>by
     rw[hf2 id (by omega)];exact hf1 id (by omega) k2 k3) (by omega)
    simp[rW,h2,h8];generalize hres:zc1 (stepG ns a b cand inA inC) st G=rr;refine zuv G (stepG ns a b cand inA inC) st (G1 a b ns dA dC dT hB cB S M I A (.sl Mb 0 G.length 1 lim ex) G) (fun st' x s=>x= .exit 0/\(s.tm.get 8=some (.ptr S 11 0 0))/\SAt a b ns st'.1 st'.2 dA dC dT s.h s.c S M I A) (fun _ x s=>x= .ret/\s.tm.get 6=some (.f .nils)/\s.tm.get 7=some (.f (.b false))) ?_ ?_ _ ?_ ?_ ?_
    ·rintro n st1 s hn ⟨⟨h8,h34,h35,h36⟩,HSn,hfn,hcn,hlw,hon,hemp⟩;have hw:=zao n (by omega);have hne':n<es.length:=by omega
     have hrn:=zHh hrows (n:=n) (by simpa using hne');rw[List.getElem_map]at hrn;have gMb':s.h.get Mb=some (.arr 1 0 rows):=(hfn Mb bMb (by omega) (by omega)).trans gMb;obtain⟨hRdn,hoid⟩ :=hRd n hne' hn;have hdI:es[n].oid≠some I:=fun e=>by have:=hoid _ e;omega
     have hdA:es[n].oid≠some A:=fun e=>by have:=hoid _ e;omega
     obtain⟨gg1,gg2,gg3⟩ :=gin _ (List.getElem_mem hn);have e31:=eff31 HP G[n] HSn (HF2.upF hfn hcn) hon (hRdn.upF hdI hdA hfn hcn) hdI hdA (by omega) gg1 (fun v hv=>hemp n hn (Nat.le_refl _) v hv);have hnx:∀j (hj:j<G.length),n+1≤j->∀v∈G[j],v∉G[n]:=fun j hj hnj v hv hv2=>List.pairwise_iff_getElem.1 gdis n j hn hj (by omega) v hv2 hv
     have hok:=fun r=>zwM (r:=r) (ns:=ns) (a:=a) (b:=b) (inA:=inA) (inC:=inC) HP.hc G[n] hon (by rw[HSn.lI,HSn.lA];exact Nat.le_refl _)
     unfold stepG;generalize zg4 ns a b cand inA inC G[n] st1.1 st1.2=r at e31 hok⊢;generalize es[n]=e at hrn e31;simp[rW,h8,h34,h35,h36,hn,gMb',hrn];refine zfa ?_ ?_ e31 ?_
     ·simp only[rG]
     ·simp only[rG]
     rintro d31 h31 c31 lw31 mx31 hp hcc31;cases r with
     |none=>
      obtain⟨rfl,_,_⟩ :=hp;simp[rW,]
     |some st2=>
      obtain⟨rfl,HS4,hf4⟩ :=hp;obtain⟨k1,k2,k3,k4⟩ :=hok _ rfl;simp[rW,h8,h34,h35,h36,hw,G1];refine⟨HS4,hfn.trans hf4 hcn,by omega,?_,k1,fun j hj hnj v hv=> ?_⟩
      ·exact Nat.le_trans (Nat.min_le_left _ _) (by omega)
      ·obtain⟨m1,m2,m3⟩ :=hemp j hj (by omega) v hv;obtain⟨m4,m5⟩ :=k4 v (hnx j hj hnj v hv);simp only[List.getD_eq_getElem?_getD]at*;exact⟨m1,m4.trans m2,m5.trans m3⟩
    ·rintro st1 s ⟨⟨h8,h34,h35,h36⟩,HSn,hfn,hcn,hlw,hon,hemp⟩;simp[rW,h8,h34,h35,h36];exact HSn
    ·simp[rW,G1,h8];refine⟨HS3,FrI.refl,Nat.le_trans (Nat.min_le_left _ _) (by omega),ho1,fun j hj v hv=> ?_⟩;obtain⟨_,_,m3⟩ :=gin _ (List.getElem_mem hj);have m4:=m3 v hv;have m5:=hcl1 v m4.2;simp only[List.getD_eq_getElem?_getD]at*;exact⟨m4.1,m5,m4.2⟩
    ·rintro st1 hst x s ⟨rfl,h8,HSn⟩;rw[hst]at hres;subst hres;have gS:=HSn.gS;have gI:=HSn.gI;have hlI:=HSn.lI;have hz:(om (s.h.get I) (fzS s.h.get 10 I 0 ns.length 4))=some (.sl 4 (st1.1.map tmF),[I]):=by
      rw[gI,<-hlI];show fzS s.h.get 10 I 0 st1.1.length 4 (.arr 4 0 (zaB st1.1))=_;have e1:(zaB st1.1).take st1.1.length=zaB st1.1:=by rw[<-za4 st1.1,List.take_length]
      rw[zfG,if_pos ⟨rfl,by simp[za4]⟩,List.drop_zero,e1,zhN];rfl
     simp[rW,h8,gS,hz,znZ]
    ·rintro r hr x s ⟨rfl,⟨h6,h7⟩⟩;rw[hr]at hres;subst hres;simp[rW,h6,h7,znZ]
theorem zyy:∀(l m:List Trm),l.Pairwise tLt->m.Pairwise tLt->(∀t,t∈l↔t∈m)->l=m
 |[],[],_,_,_=>rfl
 |[],y::m,_,_,h=>by have:=(h y).2 (by simp);simp at this
 |x::l,[],_,_,h=>by have:=(h x).1 (by simp);simp at this
 |x::l,y::m,h1,h2,h=>by
  rw[List.pairwise_cons]at h1 h2;have e:x=y:=by
   rcases List.mem_cons.1 ((h x).1 (by simp))with h3|h3
   ·exact h3
   ·rcases List.mem_cons.1 ((h y).2 (by simp))with h4|h4
    ·exact h4.symm
    ·exact absurd (zgj (h1.1 y h4) (h2.1 x h3)) (zeL _)
  subst e;rw[zyy l m h1.2 h2.2 ?_];intro t;constructor
  ·intro ht;rcases List.mem_cons.1 ((h t).1 (by simp[ht]))with h3|h3
   ·subst h3;exact absurd (h1.1 _ ht) (zeL _)
   ·exact h3
  ·intro ht;rcases List.mem_cons.1 ((h t).2 (by simp[ht]))with h3|h3
   ·subst h3;exact absurd (h2.1 _ ht) (zeL _)
   ·exact h3
theorem znh(t u:Trm):∀l:List Trm,u∈zcz l t↔u=t\/u∈l
 |[]=>by simp[zcz]
 |a::l=>by
  simp only[zcz];split
  ·rw[List.mem_cons,znh t u l,List.mem_cons];constructor<;>rintro (h|h|h)<;>simp[h]
  ·split
   ·rename_i h;have:=(zeY a t).1 h;subst this;simp
   ·simp
theorem ztp(t:Trm):∀l:List Trm,l.Pairwise tLt->(zcz l t).Pairwise tLt
 |[],_=>by simp[zcz]
 |a::l,h=>by
  rw[List.pairwise_cons]at h;simp only[zcz];split
  ·rename_i h1;rw[List.pairwise_cons];refine⟨fun u hu=> ?_,ztp t l h.2⟩;rcases (znh t u l).1 hu with rfl|hu
   ·exact h1
   ·exact h.1 u hu
  ·split
   ·exact List.pairwise_cons.2 h
   ·rename_i h1 h2;have h3:tLt t a:=ziL (fun e=>h2 ((zeY _ _).2 e)) h1;refine List.pairwise_cons.2 ⟨fun u hu=> ?_,List.pairwise_cons.2 h⟩;rcases List.mem_cons.1 hu with rfl|hu
    ·exact h3
    ·exact zgj h3 (h.1 u hu)
theorem zi9:∀(ts l:List Trm),l.Pairwise tLt->(ts.foldl zcz l).Pairwise tLt
 |[],l,h=>h
 |t::ts,l,h=>zi9 ts _ (ztp t l h)
theorem zlo(u:Trm):∀(ts l:List Trm),u∈ts.foldl zcz l↔u∈ts\/u∈l
 |[],l=>by simp
 |t::ts,l=>by
  rw[List.foldl_cons,zlo u ts,znh,List.mem_cons];constructor
  ·rintro (h|h|h)
   ·exact .inl (.inr h)
   ·exact .inl (.inl h)
   ·exact .inr h
  ·rintro ((h|h)|h)
   ·exact .inr (.inl h)
   ·exact .inl h
   ·exact .inr (.inr h)
theorem zmR(b:CQ):zf4 b=(tsC b).foldl zcz []:=by
 unfold zf4 tsC tsA;rw[List.foldl_append];have h1:∀(l:List Atm) (x:List Trm),l.foldl (fun l a=>zf8 l a.ts) x=(l.flatMap (·.ts)).foldl zcz x:=by
  intro l
  induction l with
  |nil=>intro x;rfl
  |cons a l ih=>intro x;rw[List.foldl_cons,ih,List.flatMap_cons,List.foldl_append];rfl
 have h2:∀(l:List Cm) (x:List Trm),l.foldl (fun l k=>zcz (zcz l k.l) k.r) x=(l.flatMap ts2).foldl zcz x:=by
  intro l
  induction l with
  |nil=>intro x;rfl
  |cons a l ih=>intro x;rw[List.foldl_cons,ih,List.flatMap_cons,List.foldl_append];rfl
 rw[h1,h2]
theorem zEF(l:List Trm):(zfd l).Pairwise fun x y=>¬tLt y x:=by
 have:=List.pairwise_mergeSort (le:=fun x y=>!decide (zaO y x<0)) ?_ ?_ l
 ·refine this.imp ?_;intro a b h;simpa [tLt]using h
 ·intro a b c h1 h2;simp only[Bool.not_eq_true',decide_eq_false_iff_not]at*
  by_cases e:a=b
  ·subst e;exact h2
  ·have h3:=ziL (Ne.symm e) h1;intro h4;exact h2 (zgj (a:=c) (b:=a) (c:=b) h4 h3)
 ·intro a b;simp only[Bool.or_eq_true,Bool.not_eq_true',decide_eq_false_iff_not]
  by_cases h:zaO b a<0
  ·exact .inr fun h2=>zeL a (zgj h2 h)
  ·exact .inl h
theorem znw:∀(l:List Trm) (p:Trm),(p::l).Pairwise (fun x y=>¬tLt y x)->(p::zfR p l).Pairwise tLt
 |[],p,_=>by simp[zfR]
 |x::l,p,h=>by
  rw[List.pairwise_cons]at h;simp only[zfR];split
  ·rename_i h1;have:=(zeY x p).1 h1;subst this;exact znw l x h.2
  ·rename_i h1;have h2:=znw l x h.2;have h3:tLt p x:=ziL (fun e=>h1 ((zeY _ _).2 e)) (h.1 x (by simp));refine List.pairwise_cons.2 ⟨fun u hu=> ?_,h2⟩;rcases List.mem_cons.1 hu with rfl|hu
   ·exact h3
   ·exact zgj h3 ((List.pairwise_cons.1 h2).1 u hu)
theorem zMu{l:List Trm}(h:l.Pairwise fun x y=>¬tLt y x):(cpt l).Pairwise tLt:=by
 cases l with
 |nil=>simp[cpt]
 |cons x l=>exact znw l x h
theorem znr(u:Trm):∀(l:List Trm) (p:Trm),u∈l->u=p\/u∈zfR p l
 |x::l,p,h=>by
  simp only[zfR];split
  ·rename_i h1;have:=(zeY x p).1 h1;subst this;rcases List.mem_cons.1 h with rfl|h
   ·exact .inl rfl
   ·exact znr u l x h
  ·rcases List.mem_cons.1 h with rfl|h
   ·exact .inr (by simp)
   ·rcases znr u l x h with rfl|h
    ·exact .inr (by simp)
    ·exact .inr (by simp[h])
theorem zMt(u:Trm)(l:List Trm)(h:u∈l):u∈cpt l:=by
 cases l with
 |nil=>simp at h
 |cons x l=>
  simp only[cpt];rcases List.mem_cons.1 h with rfl|h
  ·simp
  ·rcases znr u l x h with rfl|h
   ·simp
   ·simp[h]
theorem zFx(b:CQ):zkL b=zf4 b:=by
 rw[zmR];refine zyy _ _ (zMu (zEF _)) (zi9 _ _ (by simp)) fun t=> ?_
 rw[zlo];simp only[List.not_mem_nil,or_false];constructor
 ·intro h;have:=zxq t h;simpa [zfd]using this
 ·intro h;exact zMt t _ (by simpa [zfd]using h)
def Ext(im:List Trm)(asg:List Bool)(h:Nat->Trm):Prop:=∀v,asg.getD v false=true->h v=im.getD v (.var [])
def fnL(im:List Trm):Nat->Trm:=fun v=>im.getD v (.var [])
def zm9(vs:List Nat)(h' h:Nat->Trm):Prop:=∃v,v∈vs/\tLt (h' v) (h v)/\∀u∈vs,u<v->h' u=h u
structure Csp(κ:Type) where
 vars:κ->List Nat
 full:κ->(Nat->Trm)->Prop
 ok:κ->List Trm->List Bool->Prop
 p1:∀k im asg h,Ext im asg h->full k h->ok k im asg
 p2:∀k im asg h,(∀u∈vars k,asg.getD u false=true)->ok k im asg->Ext im asg h->full k h
 p3:∀k h h',(∀u∈vars k,h u=h' u)->full k h->full k h'
def zhu(chk:Nat->List Trm->List Bool->Bool)(cand:List Trm):List Nat->List Trm->List Bool->Option (List Trm×List Bool)
 |[],im,asg=>some (im,asg)
 |v::vs,im,asg=>cand.findSome? fun t=>if chk v (im.set v t) (asg.set v true)=true then zhu chk cand vs (im.set v t) (asg.set v true)else none
theorem ze5{α:Type}(l:List α)(v:Nat)(x y:α)(h:v<l.length):(l.set v x).getD v y=x:=by
 simp[List.getD_eq_getElem?_getD,h]
theorem getD_set_ne{α:Type}(l:List α)(v u:Nat)(x y:α)(h:v≠u):(l.set v x).getD u y=l.getD u y:=by
 simp[List.getD_eq_getElem?_getD,List.getElem?_set,h]
theorem znG{β:Type}(f:Trm->Option β):∀(l:List Trm),l.Pairwise tLt->∀t0∈l,∀r0,f t0=some r0->∃t r,t∈l/\l.findSome? f=some r/\f t=some r/\(tLt t t0\/t=t0)
 |x::l,hs,t0,ht,r0,h0=>by
  rw[List.pairwise_cons]at hs;cases hx:f x with
  |some r=>
   refine⟨x,r,by simp,by simp[List.findSome?_cons,hx],hx,?_⟩;rcases List.mem_cons.1 ht with h|h
   ·exact .inr h.symm
   ·exact .inl (hs.1 _ h)
  |none=>
   rcases List.mem_cons.1 ht with h|h
   ·subst h;rw[hx]at h0;cases h0
   ·obtain⟨t,r,h1,h2,h3,h4⟩ :=znG f l hs.2 t0 h r0 h0;exact⟨t,r,by simp[h1],by simp[List.findSome?_cons,hx,h2],h3,h4⟩
theorem zjc{κ:Type}(P:Csp κ){chk:Nat->List Trm->List Bool->Bool}{cand:List Trm}(hchk:∀v im asg,chk v im asg=true->∀k,v∈P.vars k->P.ok k im asg):
  ∀(vs:List Nat) (im:List Trm) (asg:List Bool) (r:List Trm×List Bool),vs.Nodup->(∀v∈vs,v<im.length/\v<asg.length/\asg.getD v false=false)->zhu chk cand vs im asg=some r->
  r.1.length=im.length/\r.2.length=asg.length/\(∀u,u∉vs->fnL r.1 u=fnL im u/\r.2.getD u false=asg.getD u false)/\(∀u∈vs,fnL r.1 u∈cand/\r.2.getD u false=true)/\
  (∀k,(∃v∈vs,v∈P.vars k)->(∀u∈P.vars k,r.2.getD u false=true)->P.full k (fnL r.1))
 |[],im,asg,r,_,_,h=>by
  simp only[zhu,Option.some.injEq]at h;subst h;exact⟨rfl,rfl,fun _ _=>⟨rfl,rfl⟩,by simp,by simp⟩
 |v::vs,im,asg,r,hnd,hpre,h=>by
  simp only[zhu]at h;obtain⟨t,ht,h⟩ :=List.exists_of_findSome?_eq_some h;rw[List.nodup_cons]at hnd;obtain⟨hv1,hv2,hv3⟩ :=hpre v (by simp);split at h
  ·rename_i hck;have hpre2:∀u∈vs,u< (im.set v t).length/\u< (asg.set v true).length/\(asg.set v true).getD u false=false:=by
    intro u hu;obtain⟨h1,h2,h3⟩ :=hpre u (by simp[hu]);have hne:v≠u:=fun e=>hnd.1 (by rw[e];exact hu)
    exact⟨by simpa using h1,by simpa using h2,by rw[getD_set_ne _ _ _ _ _ hne];exact h3⟩
   obtain⟨g1,g2,g3,g4,g5⟩ :=zjc P hchk vs _ _ r hnd.2 hpre2 h;refine⟨by simpa using g1,by simpa using g2,fun u hu=> ?_,fun u hu=> ?_,fun k hk hall=> ?_⟩
   ·simp only[List.mem_cons,not_or]at hu;obtain⟨k1,k2⟩ :=g3 u hu.2;exact⟨k1.trans (getD_set_ne _ _ _ _ _ (Ne.symm hu.1)),k2.trans (getD_set_ne _ _ _ _ _ (Ne.symm hu.1))⟩
   ·rcases List.mem_cons.1 hu with rfl|hu
    ·obtain⟨k1,k2⟩ :=g3 u hnd.1;exact⟨by rw[k1];unfold fnL;rw[ze5 _ _ _ _ hv1];exact ht,by rw[k2];exact ze5 _ _ _ _ hv2⟩
    ·exact g4 u hu
   ·by_cases hex:∃w∈vs,w∈P.vars k
    ·exact g5 k hex hall
    ·have hvk:v∈P.vars k:=by
      obtain⟨w,hw,hwk⟩ :=hk;rcases List.mem_cons.1 hw with rfl|hw
      ·exact hwk
      ·exact absurd ⟨w,hw,hwk⟩ hex
     refine P.p2 k (im.set v t) (asg.set v true) (fnL r.1) (fun u hu=> ?_) (hchk v _ _ hck k hvk) fun u hu=> ?_
     ·have hn:u∉vs:=fun h2=>hex ⟨u,h2,hu⟩
      rw[<-(g3 u hn).2];exact hall u hu
     ·have hn:u∉vs:=fun h2=>by
       rw[(hpre2 u h2).2.2]at hu;cases hu
      exact (g3 u hn).1
  ·cases h
theorem ztF{κ:Type}(P:Csp κ){chk:Nat->List Trm->List Bool->Bool}{cand:List Trm}(hchk:∀v im asg,chk v im asg=true↔∀k,v∈P.vars k->P.ok k im asg)(hs:cand.Pairwise tLt)(h:Nat->Trm):
    ∀(vs:List Nat) (im:List Trm) (asg:List Bool),vs.Pairwise (· < ·)->(∀v∈vs,v<im.length/\v<asg.length/\asg.getD v false=false)->Ext im asg h->(∀v∈vs,h v∈cand)->(∀k,(∃v∈vs,v∈P.vars k)->P.full k h)->
    ∃r,zhu chk cand vs im asg=some r/\¬zm9 vs h (fnL r.1)
  |[],im,asg,_,_,_,_,_=>⟨(im,asg),rfl,fun⟨v,hv,_⟩ =>by simp at hv⟩
  | v::vs,im,asg,hnd,hpre,hex,hcd,hfu=>by
    rw[List.pairwise_cons]at hnd;obtain⟨hv1,hv2,hv3⟩ :=hpre v (by simp);have hvn:v∉vs:=fun h2=>by have:=hnd.1 v h2;omega
    have hpre2:∀t,∀u∈vs,u< (im.set v t).length/\u< (asg.set v true).length/\(asg.set v true).getD u false=false:=by
      intro t u hu;obtain⟨h1,h2,h3⟩ :=hpre u (by simp[hu]);have hne:v≠u:=fun e=>hvn (by rw[e];exact hu)
      exact⟨by simpa using h1,by simpa using h2,by rw[getD_set_ne _ _ _ _ _ hne];exact h3⟩
    have hex2:Ext (im.set v (h v)) (asg.set v true) h:=by
      intro u hu
      by_cases e:v=u
      · subst e;rw[ze5 _ _ _ _ hv1]
      · rw[getD_set_ne _ _ _ _ _ e]at hu⊢;exact hex u hu
    obtain⟨r0,h0,hl0⟩ :=ztF P hchk hs h vs _ _ hnd.2 (hpre2 (h v)) hex2 (fun u hu=>hcd u (by simp[hu])) (fun k ⟨w,hw,hwk⟩ =>hfu k ⟨w,by simp[hw],hwk⟩);have hck:chk v (im.set v (h v)) (asg.set v true)=true:=(hchk _ _ _).2 fun k hk=>P.p1 k _ _ h hex2 (hfu k ⟨v,by simp,hk⟩)
    obtain⟨t,r,ht,hf,hft,hlt⟩ :=znG (fun t=>if chk v (im.set v t) (asg.set v true)=true then zhu chk cand vs (im.set v t) (asg.set v true)else none) cand hs (h v) (hcd v (by simp)) r0 (by simp only[hck,if_true];exact h0);refine⟨r,by simp only[zhu];exact hf,?_⟩;split at hft
    · have hrv:fnL r.1 v=t:=by
        have:=(zjc P (fun v im asg hc=>(hchk v im asg).1 hc) vs _ _ r (hnd.2.imp fun hab=>Nat.ne_of_lt hab) (hpre2 t) hft).2.2.1 v hvn;rw[this.1];exact ze5 _ _ _ _ hv1
      rintro⟨w,hw,hwl,hwe⟩;rcases List.mem_cons.1 hw with rfl|hw
      · rw[hrv]at hwl;rcases hlt with hlt|rfl
        · exact zeL _ (zgj hwl hlt)
        · exact zeL _ hwl
      · have hvw:=hnd.1 w hw;have e:=hwe v (by simp) hvw;rw[hrv]at e;subst e;rw[h0]at hft;cases hft;exact hl0 ⟨w,hw,hwl,fun u hu hlt=>hwe u (by simp[hu]) hlt⟩
    · cases hft
def zdq(chk:Nat->List Trm->List Bool->Bool)(cand:List Trm)(st:List Trm×List Bool)(g:List Nat):(List Trm×List Bool)⊕Unit:=match zhu chk cand g st.1 st.2 with
 |some r=> .inl r
 |none=> .inr ()
structure zkz{κ:Type}(P:Csp κ)(n:Nat)(asg0:List Bool)(G:List (List Nat)):Prop where
  srt:∀g∈G,g.Pairwise (· < ·)
  rng:∀g∈G,∀v∈g,v<n
  dis:G.Pairwise fun g g'=>∀v∈g,v∉g'
  sep:∀k,∀g∈G,(∃v∈g,v∈P.vars k)->∀u∈P.vars k,u∈g\/asg0.getD u false=true
theorem zkz.tl{κ:Type}{P:Csp κ}{n:Nat}{asg0:List Bool}{g:List Nat}{G:List (List Nat)}(H:zkz P n asg0 (g::G)):zkz P n asg0 G:=
 ⟨fun x hx=>H.srt x (by simp[hx]),fun x hx=>H.rng x (by simp[hx]),(List.pairwise_cons.1 H.dis).2,fun k x hx=>H.sep k x (by simp[hx])⟩
structure zmo(n:Nat)(im0:List Trm)(asg0:List Bool)(G:List (List Nat))(st:List Trm×List Bool):Prop where
 l1:st.1.length=n
 l2:st.2.length=n
 ext:∀v,asg0.getD v false=true->st.2.getD v false=true/\fnL st.1 v=fnL im0 v
 fre:∀g∈G,∀v∈g,st.2.getD v false=false
theorem zmo.nx{κ:Type}{P:Csp κ}{chk:Nat->List Trm->List Bool->Bool}{cand:List Trm}(hchk:∀v im asg,chk v im asg=true->∀k,v∈P.vars k->P.ok k im asg){n:Nat}{im0:List Trm}{asg0:List Bool}{g:List Nat}{G:List (List Nat)}{st r:List Trm×List Bool}(HG:zkz P n asg0 (g::G))(HS:zmo n im0 asg0 (g::G) st)(hr:zhu chk cand g st.1 st.2=some r):zmo n im0 asg0 G r/\(∀u,u∉g->fnL r.1 u=fnL st.1 u)/\(∀u∈g,fnL r.1 u∈cand/\r.2.getD u false=true)/\(∀u,st.2.getD u false=true->u∉g)/\
  (∀k,(∃v∈g,v∈P.vars k)->P.full k (fnL r.1)):=by
 have hnd:g.Nodup:=(HG.srt g (by simp)).imp fun hab=>Nat.ne_of_lt hab
 have hpre:∀v∈g,v<st.1.length/\v<st.2.length/\st.2.getD v false=false:=fun v hv=>⟨by rw[HS.l1];exact HG.rng g (by simp) v hv,by rw[HS.l2];exact HG.rng g (by simp) v hv,HS.fre g (by simp) v hv⟩
 obtain⟨g1,g2,g3,g4,g5⟩ :=zjc P hchk g _ _ r hnd hpre hr;have hfr:∀u,st.2.getD u false=true->u∉g:=fun u hu hg=>by rw[(hpre u hg).2.2]at hu;cases hu
 refine⟨⟨g1.trans HS.l1,g2.trans HS.l2,fun v hv=> ?_,fun g' hg' v hv=> ?_⟩,fun u hu=>(g3 u hu).1,g4,hfr,fun k hk=>g5 k hk fun u hu=> ?_⟩
 ·obtain⟨h1,h2⟩ :=HS.ext v hv;obtain⟨h3,h4⟩ :=g3 v (hfr v h1);exact⟨h4.trans h1,h3.trans h2⟩
 ·have hn:v∉g:=fun h=>(List.pairwise_cons.1 HG.dis).1 g' hg' v h hv
  rw[(g3 v hn).2];exact HS.fre g' (by simp[hg']) v hv
 ·rcases HG.sep k g (by simp) hk u hu with h|h
  ·exact (g4 u h).2
  ·have h1:=(HS.ext u h).1;rw[(g3 u (hfr u h1)).2];exact h1
theorem zjr{κ:Type}(P:Csp κ){chk:Nat->List Trm->List Bool->Bool}{cand:List Trm}(hchk:∀v im asg,chk v im asg=true->∀k,v∈P.vars k->P.ok k im asg){n:Nat}{im0:List Trm}{asg0:List Bool}:
  ∀(G:List (List Nat)) (st r:List Trm×List Bool),zkz P n asg0 G->zmo n im0 asg0 G st->zc1 (zdq chk cand) st G= .inl r->
  r.1.length=n/\(∀v,asg0.getD v false=true->fnL r.1 v=fnL im0 v)/\(∀u,st.2.getD u false=true->fnL r.1 u=fnL st.1 u)/\(∀g∈G,∀u∈g,fnL r.1 u∈cand)/\(∀k,∀g∈G,(∃v∈g,v∈P.vars k)->P.full k (fnL r.1))
 |[],st,r,HG,HS,h=>by
  cases h;exact⟨HS.l1,fun v hv=>(HS.ext v hv).2,fun _ _=>rfl,by simp,by simp⟩
 |g::G,st,r,HG,HS,h=>by
  rw[zhy]at h;cases hq:zhu chk cand g st.1 st.2 with
  |none=>
   have:zdq chk cand st g= .inr ():=by unfold zdq;rw[hq]
   rw[this]at h;cases h
  |some r1=>
   have:zdq chk cand st g= .inl r1:=by unfold zdq;rw[hq]
   rw[this]at h;obtain⟨HS1,h1,h2,h3,h4⟩ :=HS.nx hchk HG hq;obtain⟨k1,k2,k3,k4,k5⟩ :=zjr P hchk G r1 r HG.tl HS1 h;have key:∀u,(u∈g\/st.2.getD u false=true)->fnL r.1 u=fnL r1.1 u:=by
    intro u hu;refine k3 u ?_;rcases hu with hu|hu
    ·exact (h2 u hu).2
    ·have hpre:∀v∈g,v<st.1.length/\v<st.2.length/\st.2.getD v false=false:=fun v hv=>⟨by rw[HS.l1];exact HG.rng g (by simp) v hv,by rw[HS.l2];exact HG.rng g (by simp) v hv,HS.fre g (by simp) v hv⟩
     have hnd:g.Nodup:=(HG.srt g (by simp)).imp fun hab=>Nat.ne_of_lt hab
     rw[((zjc P hchk g _ _ r1 hnd hpre hq).2.2.1 u (h3 u hu)).2];exact hu
   refine⟨k1,k2,fun u hu=>(key u (.inr hu)).trans (h1 u (h3 u hu)),fun g' hg' u hu=> ?_,fun k g' hg' hk=> ?_⟩
   ·rcases List.mem_cons.1 hg' with rfl|hg'
    ·rw[key u (.inl hu)];exact (h2 u hu).1
    ·exact k4 g' hg' u hu
   ·rcases List.mem_cons.1 hg' with rfl|hg'
    ·refine P.p3 k (fnL r1.1) (fnL r.1) (fun u hu=> ?_) (h4 k hk);rcases HG.sep k g' (by simp) hk u hu with hu2|hu2
     ·exact (key u (.inl hu2)).symm
     ·exact (key u (.inr (HS.ext u hu2).1)).symm
    ·exact k5 k g' hg' hk
theorem zuB{κ:Type}(P:Csp κ){chk:Nat->List Trm->List Bool->Bool}{cand:List Trm}(hchk:∀v im asg,chk v im asg=true↔∀k,v∈P.vars k->P.ok k im asg)(hs:cand.Pairwise tLt){n:Nat}{im0:List Trm}{asg0:List Bool}(h:Nat->Trm)(h0:Ext im0 asg0 h):
  ∀(G:List (List Nat)) (st:List Trm×List Bool),zkz P n asg0 G->zmo n im0 asg0 G st->(∀g∈G,∀v∈g,h v∈cand)->(∀k,∀g∈G,(∃v∈g,v∈P.vars k)->P.full k h)->
  ∃r,zc1 (zdq chk cand) st G= .inl r/\∀g∈G,¬zm9 g h (fnL r.1)
 |[],st,_,_,_,_=>⟨st,rfl,by simp⟩
 |g::G,st,HG,HS,hcd,hfu=>by
  have hpre:∀v∈g,v<st.1.length/\v<st.2.length/\st.2.getD v false=false:=fun v hv=>⟨by rw[HS.l1];exact HG.rng g (by simp) v hv,by rw[HS.l2];exact HG.rng g (by simp) v hv,HS.fre g (by simp) v hv⟩
  let h2:Nat->Trm:=fun u=>if st.2.getD u false=true then fnL st.1 u else h u
  have e1:∀v∈g,h2 v=h v:=fun v hv=>by
   show(if st.2.getD v false=true then fnL st.1 v else h v)=h v;rw[(hpre v hv).2.2];rfl
  have e2:∀v,asg0.getD v false=true->h2 v=h v:=fun v hv=>by
   show(if st.2.getD v false=true then fnL st.1 v else h v)=h v;obtain⟨k1,k2⟩ :=HS.ext v hv;rw[k1,k2];exact (h0 v hv).symm
  obtain⟨r1,hq,hl⟩ :=ztF P hchk hs h2 g st.1 st.2 (HG.srt g (by simp)) hpre (fun v hv=>by
   show(if st.2.getD v false=true then fnL st.1 v else h v)=_;rw[hv];rfl) (fun v hv=>by rw[e1 v hv];exact hcd g (by simp) v hv) (fun k hk=>by
   refine P.p3 k h h2 (fun u hu=> ?_) (hfu k g (by simp) hk);rcases HG.sep k g (by simp) hk u hu with hu|hu
   ·exact (e1 u hu).symm
   ·exact (e2 u hu).symm)
  obtain⟨HS1,h1,h2',h3,h4⟩ :=HS.nx (fun v im asg hc=>(hchk v im asg).1 hc) HG hq;obtain⟨r,hr,hlr⟩ :=zuB P hchk hs h h0 G r1 HG.tl HS1 (fun g' hg'=>hcd g' (by simp[hg'])) (fun k g' hg'=>hfu k g' (by simp[hg']));refine⟨r,?_,fun g' hg'=> ?_⟩
  ·have:zdq chk cand st g= .inl r1:=by unfold zdq;rw[hq]
   rw[zhy,this];exact hr
  ·rcases List.mem_cons.1 hg' with rfl|hg'
   ·rintro⟨w,hw,hwl,hwe⟩;have k3:=(zjr P (fun v im asg hc=>(hchk v im asg).1 hc) G r1 r HG.tl HS1 hr).2.2.1;have e3:∀u∈g',fnL r.1 u=fnL r1.1 u:=fun u hu=>k3 u (h2' u hu).2
    refine hl ⟨w,hw,?_,fun u hu hlt=> ?_⟩
    ·rw[e1 w hw,<-e3 w hw];exact hwl
    ·rw[e1 u hu,<-e3 u hu];exact hwe u hu hlt
   ·exact hlr g' hg'
theorem ziK{g:List Nat}{i:Nat}(h:¬g.getD i i<i):root g i=i:=by rw[root_eq,if_neg h]
theorem root_lt{g:List Nat}{i:Nat}(h:g.getD i i<i):root g i=root g (g.getD i i):=by rw[root_eq,if_pos h]
theorem zvq(g:List Nat):∀i,¬g.getD (root g i) (root g i)<root g i:=by
 intro i
 induction i using Nat.strongRecOn with
 |ind i ih=>
  by_cases h:g.getD i i<i
  ·rw[root_lt h];exact ih _ h
  ·rw[ziK h];exact h
theorem zGR{g:List Nat}{R s:Nat}(hR:¬g.getD R R<R)(hs:¬g.getD s s<s)(hsR:s≤R)(hl:R<g.length):∀x,root (g.set R s) x=if root g x=R then s else root g x:=by
 intro x
 induction x using Nat.strongRecOn with
 |ind x ih=>
  by_cases hx:x=R
  ·subst hx;rw[if_pos (ziK hR)];have e:(g.set x s).getD x x=s:=by simp[List.getD_eq_getElem?_getD,hl]
   by_cases h:s<x
   ·rw[root_lt (by rw[e];exact h),e,ih s h,ziK hs,if_neg (by omega)]
   ·have:s=x:=by omega
    subst this;exact ziK (by rw[e];omega)
  ·have e:(g.set R s).getD x x=g.getD x x:=by
    have:¬R=x:=fun h=>hx h.symm
    simp[List.getD_eq_getElem?_getD,List.getElem?_set,this]
   by_cases h:g.getD x x<x
   ·rw[root_lt (by rw[e];exact h),e,ih _ h,root_lt h]
   ·rw[ziK (by rw[e];exact h),ziK h,if_neg hx]
theorem zlb{g:List Nat}{a b:Nat}(ha:a<g.length)(hb:b<g.length)(x:Nat):root (uni g a b) x=if root g x=max (root g a) (root g b)then min (root g a) (root g b)else root g x:=by
 have h1:=zvq g a;have h2:=zvq g b;have h3:=ziJ g a;have h4:=ziJ g b;unfold uni;refine zGR ?_ ?_ (by omega) (by omega) x
 ·rcases Nat.le_total (root g a) (root g b)with h|h
  ·rw[Nat.max_eq_right h];exact h2
  ·rw[Nat.max_eq_left h];exact h1
 ·rcases Nat.le_total (root g a) (root g b)with h|h
  ·rw[Nat.min_eq_left h];exact h1
  ·rw[Nat.min_eq_right h];exact h2
def zdu(g g':List Nat):Prop:=g'.length=g.length/\∀x y,root g x=root g y->root g' x=root g' y
theorem zdu.refl(g:List Nat):zdu g g:=⟨rfl,fun _ _ h=>h⟩
theorem zdu.trans{g g' g'':List Nat}(h1:zdu g g')(h2:zdu g' g''):zdu g g'':=⟨h2.1.trans h1.1,fun x y h=>h2.2 x y (h1.2 x y h)⟩
theorem zHp{g:List Nat}{a b:Nat}(ha:a<g.length)(hb:b<g.length):zdu g (uni g a b):=by
 refine⟨by simp[uni],fun x y h=> ?_⟩;rw[zlb ha hb,zlb ha hb,h]
theorem zHo{g:List Nat}{a b:Nat}(ha:a<g.length)(hb:b<g.length):root (uni g a b) a=root (uni g a b) b:=by
 rw[zlb ha hb,zlb ha hb];rcases Nat.le_total (root g a) (root g b)with h|h
 ·rw[Nat.max_eq_right h,Nat.min_eq_left h];simp
 ·rw[Nat.max_eq_left h,Nat.min_eq_right h];simp
theorem znn{asg:List Bool}:∀(l:List Nat) (st:Option Nat×List Nat),(∀v∈l,v<st.2.length)->(∀f,st.1=some f->f<st.2.length)->
  zdu st.2 (l.foldl (zfQ asg) st).2/\(∀u∈l,asg.getD u false=false->∀f,st.1=some f->root (l.foldl (zfQ asg) st).2 u=root (l.foldl (zfQ asg) st).2 f)/\
  ∀u∈l,∀w∈l,asg.getD u false=false->asg.getD w false=false->root (l.foldl (zfQ asg) st).2 u=root (l.foldl (zfQ asg) st).2 w
 |[],st,_,_=>⟨zdu.refl _,by simp,by simp⟩
 |v::l,st,hl,hf=>by
  rw[List.foldl_cons];have hv:=hl v (by simp);cases ha:asg.getD v false with
  |true=>
   have e:zfQ asg st v=st:=by unfold zfQ;rw[ha];rfl
   rw[e];obtain⟨k1,k2,k3⟩ :=znn l st (fun u hu=>hl u (by simp[hu])) hf;refine⟨k1,fun u hu hz=> ?_,fun u hu w hw hz hz2=> ?_⟩
   ·rcases List.mem_cons.1 hu with rfl|hu
    ·rw[ha]at hz;cases hz
    ·exact k2 u hu hz
   ·rcases List.mem_cons.1 hu with rfl|hu
    ·rw[ha]at hz;cases hz
    ·rcases List.mem_cons.1 hw with rfl|hw
     ·rw[ha]at hz2;cases hz2
     ·exact k3 u hu w hw hz hz2
  |false=>
   have e:zfQ asg st v=(some v,st.1.elim st.2 fun f=>uni st.2 f v):=by unfold zfQ;rw[ha];rfl
   rw[e];generalize hg1:(st.1.elim st.2 fun f=>uni st.2 f v)=g1;have hm:zdu st.2 g1/\∀f,st.1=some f->root g1 f=root g1 v:=by
    cases h1:st.1 with
    |none=>rw[h1]at hg1;subst hg1;exact⟨zdu.refl _,fun f h=>by cases h⟩
    |some f=>
     rw[h1]at hg1;subst hg1;have hfl:=hf f h1;exact⟨zHp hfl hv,fun f' h=>by cases h;exact zHo hfl hv⟩
   obtain⟨k1,k2,k3⟩ :=znn (asg:=asg) l (some v,g1) (fun u hu=>by rw[hm.1.1];exact hl u (by simp[hu])) (fun f h=>by cases h;rw[hm.1.1];exact hv);have k4:∀u∈v::l,asg.getD u false=false->root (l.foldl (zfQ asg) (some v,g1)).2 u=root (l.foldl (zfQ asg) (some v,g1)).2 v:=by
    intro u hu hz;rcases List.mem_cons.1 hu with rfl|hu
    ·rfl
    ·exact k2 u hu hz v rfl
   refine⟨hm.1.trans k1,fun u hu hz f h1=> ?_,fun u hu w hw hz hz2=>(k4 u hu hz).trans (k4 w hw hz2).symm⟩;rw[k4 u hu hz];exact (k1.2 _ _ (hm.2 f h1)).symm
theorem zCq{asg:List Bool}{g:List Nat}(l:List Nat)(hl:∀v∈l,v<g.length):zdu g (zfm asg g l)/\∀u∈l,∀w∈l,asg.getD u false=false->asg.getD w false=false->root (zfm asg g l) u=root (zfm asg g l) w:=by
 obtain⟨k1,_,k3⟩ :=znn (asg:=asg) l (none,g) hl (fun f h=>by cases h);exact⟨k1,k3⟩
theorem zoC{asg:List Bool}:∀(Ls:List (List Nat)) (g:List Nat),(∀l∈Ls,∀v∈l,v<g.length)->zdu g (Ls.foldl (zfm asg) g)/\∀l∈Ls,∀u∈l,∀w∈l,asg.getD u false=false->asg.getD w false=false->root (Ls.foldl (zfm asg) g) u=root (Ls.foldl (zfm asg) g) w
 |[],g,_=>⟨zdu.refl _,by simp⟩
 |l::Ls,g,h=>by
  obtain⟨k1,k2⟩ :=zCq (asg:=asg) l (h l (by simp));obtain⟨k3,k4⟩ :=zoC (asg:=asg) Ls (zfm asg g l) (fun x hx v hv=>by rw[k1.1];exact h x (by simp[hx]) v hv);rw[List.foldl_cons];refine⟨k1.trans k3,fun x hx u hu w hw hz hz2=> ?_⟩;rcases List.mem_cons.1 hx with rfl|hx
  ·exact k3.2 _ _ (k2 u hu w hw hz hz2)
  ·exact k4 x hx u hu w hw hz hz2
def parts(a:CQ):List (List Trm):=a.as.map (·.ts)++a.cs.map ts2
theorem zwh(asg:List Bool)(ns:List Str)(a:CQ):zfx asg ns a=((parts a).map (nums ns)).foldl (zfm asg) (List.range ns.length):=by
 unfold zfx parts;rw[List.map_append,List.foldl_append,List.map_map,List.map_map,List.foldl_map,List.foldl_map];rfl
theorem zAt{asg:List Bool}{ns:List Str}{a:CQ}{ts:List Trm}(ht:ts∈parts a){u w:Nat}(hu:u∈nums ns ts)(hw:w∈nums ns ts)(h1:asg.getD u false=false)(h2:asg.getD w false=false):root (zfx asg ns a) u=root (zfx asg ns a) w:=by
 rw[zwh];refine (zoC (asg:=asg) ((parts a).map (nums ns)) (List.range ns.length) ?_).2 (nums ns ts) (List.mem_map.2 ⟨ts,ht,rfl⟩) u hu w hw h1 h2;intro l hl v hv;obtain⟨ts',_,rfl⟩ :=List.mem_map.1 hl;rw[List.length_range];exact zgN ts' [] (by simp) v hv
theorem zu0{ns:List Str}{u:Nat}:∀(ts:List Trm) (l:List Nat),u∈ts.foldl (addN ns) l↔u∈l\/∃t∈ts,tv t∈ns/\tv t≠[]/\vix ns (tv t)=u
  |[],l=>by simp
  | t::ts,l=>by
    rw[List.foldl_cons,zu0 ts];have h1:u∈addN ns l t↔u∈l\/(tv t∈ns/\tv t≠[]/\vix ns (tv t)=u):=by
      unfold addN;split
      · rename_i hc;simp only[List.mem_append,List.mem_singleton];constructor
        · rintro (h|h)
          · exact .inl h
          · exact .inr ⟨hc.1,hc.2.1,h.symm⟩
        · rintro (h|h)
          · exact .inl h
          · exact .inr h.2.2.symm
      · rename_i hc;constructor
        · exact .inl
        · rintro (h|⟨g1,g2,g3⟩)
          · exact h
          · have h4:l.any (vix ns (tv t)== ·)=true:=by
              cases h5:l.any (vix ns (tv t)== ·)with
              |true=>rfl
              |false=>exact absurd ⟨g1,g2,h5⟩ hc
            obtain⟨x,hx,he⟩ :=List.any_eq_true.1 h4;have:=beq_iff_eq.1 he;rw[<-g3,this];exact hx
    rw[h1,or_assoc];refine or_congr_right ?_;constructor
    · rintro (h|⟨t',h1,h2⟩)
      · exact⟨t,by simp,h⟩
      · exact⟨t',by simp[h1],h2⟩
    · rintro⟨t',h1,h2⟩;rcases List.mem_cons.1 h1 with rfl|h1
      · exact .inl h2
      · exact .inr ⟨t',h1,h2⟩
theorem zu9{ns:List Str}{u:Nat}{ts:List Trm}:u∈nums ns ts↔∃t∈ts,tv t∈ns/\tv t≠[]/\vix ns (tv t)=u:=by
 unfold nums;rw[zu0];simp
theorem mem_iff{asg:List Bool}{g:List Nat}{k r i:Nat}:i∈mem asg g k r↔i<k/\asg.getD i false=false/\root g i=r:=by
 unfold mem;rw[List.mem_filter,List.mem_range];simp
theorem zuD{asg:List Bool}{ns:List Str}{a:CQ}{g:List Nat}:g∈zeD asg ns a->∃r,g=mem asg (zfx asg ns a) ns.length r:=by
 intro h;unfold zeD at h;obtain⟨r,_,rfl⟩ :=List.mem_map.1 (List.mem_filter.1 h).1;exact⟨r,rfl⟩
theorem znL{asg:List Bool}{ns:List Str}{a:CQ}{v:Nat}(hv:v<ns.length)(h:asg.getD v false=false):∃g∈zeD asg ns a,v∈g:=by
 have hm:v∈mem asg (zfx asg ns a) ns.length (root (zfx asg ns a) v):=mem_iff.2 ⟨hv,h,rfl⟩;refine⟨_,?_,hm⟩;unfold zeD;refine List.mem_filter.2 ⟨List.mem_map.2 ⟨root (zfx asg ns a) v,?_,rfl⟩,?_⟩
 ·have:=ziJ (zfx asg ns a) v;simp;omega
 ·have:(mem asg (zfx asg ns a) ns.length (root (zfx asg ns a) v)).length≠0:=fun e=>by
   rw[List.length_eq_zero_iff.1 e]at hm;simp at hm
  simpa using this
theorem zF6{asg:List Bool}{ns:List Str}{a:CQ}:∀g∈zeD asg ns a,g.Pairwise (· < ·):=by
  intro g hg;obtain⟨r,rfl⟩ :=zuD hg;exact List.Pairwise.filter _ List.pairwise_lt_range
theorem zuE{asg:List Bool}{ns:List Str}{a:CQ}{ts:List Trm}(ht:ts∈parts a){g:List Nat}(hg:g∈zeD asg ns a)(h:∃v∈g,v∈nums ns ts):∀u∈nums ns ts,u∈g\/asg.getD u false=true:=by
 obtain⟨r,rfl⟩ :=zuD hg;obtain⟨v,hv,hvt⟩ :=h;intro u hu;obtain⟨h1,h2,h3⟩ :=mem_iff.1 hv;cases hz:asg.getD u false with
 |true=>exact .inr rfl
 |false=>
  refine .inl (mem_iff.2 ⟨zgN ts [] (by simp) u hu,hz,?_⟩);rw[<-h3];exact zAt ht hu hvt hz h2
end Go.Proofs.YtimgcabgophnfaaGreat
end
