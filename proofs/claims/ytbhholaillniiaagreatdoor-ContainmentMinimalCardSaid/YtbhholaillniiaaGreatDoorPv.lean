/- Preparing a union. -/
import Derived.Test.YtbhholaillniiaaGreatDoorPu
import Derived.KernelRfl
import Derived.IntWalk
set_option linter.all false
set_option maxRecDepth 100000
set_option maxHeartbeats 4000000
noncomputable section
section
namespace Go.Proofs.YtbhholaillniiaaGreatDoor
open Go Go.Vse Go.Vse.Sm
def zAD{α β:Type}(f:α->Option β):om none f=none:=rfl
def zOs(a b c d:Nat)(l:List D):zdu (.ptr a b c d::l)=none:=rfl
def zhD{h h':T Ob}{lo c c' es:Nat}{d:D}{els:List (List D)}(hg:Gro h lo c es d els)(hc:c<=c')(hh:∀id,d.oid=some id->h'.get id=h.get id):Gro h' lo c' es d els:=by
 rcases hg with h|⟨id,ro,rfl,h2,h3,h4,h5,h6⟩
 .exact .inl h
 .exact .inr ⟨id,ro,rfl,h2,by rw[hh id rfl];exact h3,h4,h5,by omega⟩
def zOB{h:T Ob}{lo lo' c es:Nat}{d:D}{els:List (List D)}(hg:Gro h lo c es d els)(hl:lo'<=lo):Gro h lo' c es d els:=by
 rcases hg with h|⟨id,ro,h1,h2,h3,h4,h5,h6⟩
 .exact .inl h
 .exact .inr ⟨id,ro,h1,h2,h3,h4,by omega,h6⟩
def MS.cut{L:List Rl}{h:T Ob}{c e:Nat}{X:Mx}{σ:Asg}(H:MS L h c X σ)(H0:St0 h e X):MS L h e X σ:=
 ⟨⟨H.m.m,H.m.v,H.m.n,H.m.n6,H0.P,H0.N,H0.C,H0.o⟩,H.s,H.o⟩
structure zm7(L:List Rl)(S:Nat)(h:T Ob)(lo e:Nat)(hd:List Str)(q:List Str×CQ)(X:Mx)(dh:D):Prop where
 ms:∃σ,MS L h e X σ
 mi:zjY L q.1 q.2 X
 s:X.S=S
 m:lo<=X.M
 g:Gro h (X.V+1) e 1 dh (hdD (hdL q.1 hd))
def zm7.up{L:List Rl}{S:Nat}{h h':T Ob}{lo e:Nat}{hd:List Str}{q:List Str×CQ}{X:Mx}{dh:D}(H:zm7 L S h lo e hd q X dh)(hs:zdx h' lo S L)(hf:∀id,lo<=id->id<e->h'.get id=h.get id):zm7 L S h' lo e hd q X dh:=by
 obtain⟨⟨σ,h1⟩,h2,h3,h4,h5⟩ :=H;have ho:=h1.m.o;obtain⟨vs,v1,v2,v3,v4⟩ :=h1.m.v;have key:∀id,X.V+1<=id->id<e->h'.get id=h.get id:=fun id h6 h7=>hf id (by omega) h7
 refine⟨⟨σ,⟨⟨by rw[hf _ (by omega) (by omega)];exact h1.m.m,⟨vs,by rw[hf _ (by omega) (by omega)];exact v1,v2,v3,v4⟩,h1.m.n,h1.m.n6,h1.m.P.up key (Z2 _),h1.m.N.up key (Z2 _),zaS h1.m.C (Z2 _) key,ho⟩,?_,h1.o⟩⟩,h2,h3,h4,zaS h5 (Z2 _) key⟩;rw[h3];exact hs.lo (by omega)
abbrev UZ:=Nat×Nat×Mx×D
structure UnA(L:List Rl)(S c1 U:Nat)(hd:List Str)(qs:List (List Str×CQ))(h:T Ob)(c:Nat)(Z:List UZ)(dd dh:D):Prop where
 s:zdx h c1 S L
 u:h.get U=some (.arr 2 0 [[dd,dh]])
 o:c1<=U/\U<c
 d:Gro h (U+1) c 1 dd (Z.map fun z=>[.ptr z.2.2.1.M 7 0 0])
 e:Gro h (U+1) c 1 dh (Z.map fun z=>[z.2.2.2])
 n:Z.length=qs.length
 z:∀(i:Nat) (z:UZ) (q:List Str×CQ),Z[i]? =some z->qs[i]? =some q->zm7 L S h z.1 z.2.1 hd q z.2.2.1 z.2.2.2/\U<z.1/\z.2.1<=c/\∀x,dd.oid=some x\/dh.oid=some x->x<z.1\/z.2.1<=x
 p:Z.Pairwise fun a b=>a.2.1<=b.1
 ne:∀x,dd.oid=some x->dh.oid≠some x
def zGA{L:List Rl}{S c1 U:Nat}{hd:List Str}{qs:List (List Str×CQ)}{k:Nat}{q:List Str×CQ}{h G:T Ob}{c n e:Nat}{Z:List UZ}{dd dh rd re dE:D}{X:Mx}(HA:UnA L S c1 U hd (qs.take k) h c Z dd dh)(hq:qs[k]? =some q)(hce:c<=e)(hen:e<=n)(hf:∀id,id<c->id≠U->dd.oid≠some id->dh.oid≠some id->G.get id=h.get id)(hU:G.get U=some (.arr 2 0 [[rd,re]]))(h1:Gro G (U+1) n 1 rd ((Z.map fun z=>[.ptr z.2.2.1.M 7 0 0])++[[.ptr X.M 7 0 0]]))(h2:Gro G (U+1) n 1 re ((Z.map fun z=>[z.2.2.2])++[[dE]]))(hC:zm7 L S G c e hd q X dE)(o1:∀x,rd.oid=some x->dd.oid=some x\/e<=x)(o2:∀x,re.oid=some x->dh.oid=some x\/e<=x)(hne:∀x,rd.oid=some x->re.oid≠some x):UnA L S c1 U hd (qs.take (k+1)) G n (Z++[(c,e,X,dE)]) rd re:=by
 have hk:k<qs.length:=(Z8.1 hq).1;have ho:=HA.o;have hZl:Z.length=k:=by rw[HA.n,Z41];omega
 have bd:∀x,dd.oid=some x\/dh.oid=some x->U+1<=x/\x<c:=fun x hx=>by
  rcases hx with hx|hx
  .exact zbr HA.d hx
  .exact zbr HA.e hx
 have hs:zdx G c1 S L:=HA.s.up fun id _ h4=>hf id (by omega) (by omega) (fun e=>by have:=bd _ (.inl e);omega) (fun e=>by have:=bd _ (.inr e);omega)
 refine⟨hs,hU,by omega,by rw[Z20];exact h1,by rw[Z20];exact h2,by rw[Z16,hZl,Z41,List.length_singleton];omega,fun i z q' hz hq'=> ?_,?_,hne⟩
 .rcases Z145 i k with hi|hi
  .rw[Z54 (by omega)]at hz;have hq2:(qs.take k)[i]? =some q':=by
    rw[Z75,Z51 (by omega)]at hq'|-;exact hq'
   obtain⟨a1,a2,a3,a4⟩ :=HA.z i z q' hz hq2;refine⟨a1.up (hs.lo (by omega)) fun id h3 h4=>hf id (by omega) (by omega) (fun e=> ?_) (fun e=> ?_),a2,by omega,fun x hx=> ?_⟩
   .have:=a4 _ (.inl e);omega
   .have:=a4 _ (.inr e);omega
   .have hx':(dd.oid=some x\/dh.oid=some x)\/e<=x:=by
     rcases hx with hx|hx
     .exact (o1 x hx).imp_left .inl
     .exact (o2 x hx).imp_left .inr
    rcases hx' with hx'|hx'
    .exact a4 x hx'
    .exact .inr (by omega)
  .have hil:i<k+1:=by
    have:=(Z8.1 hz).1;rw[Z16,hZl,List.length_singleton]at this;exact this
   have hik:i=k:=by omega
   subst hik;rw[Z62 (by omega),hZl,Z194]at hz;rw[Z75,Z51 (by omega),hq]at hq';cases hq';cases hz;refine⟨hC,by omega,hen,fun x hx=> ?_⟩;have hx':(dd.oid=some x\/dh.oid=some x)\/e<=x:=by
    rcases hx with hx|hx
    .exact (o1 x hx).imp_left .inl
    .exact (o2 x hx).imp_left .inr
   rcases hx' with hx'|hx'
   .exact .inl (bd x hx').2
   .exact .inr hx'
 .rw[Z100];refine⟨HA.p,by simp,fun a ha b hb=> ?_⟩;rw[Z31]at hb;subst hb;obtain⟨i,hi,rfl⟩ :=Z101.1 ha;have hi2:i< (qs.take k).length:=by rw[<-HA.n];exact hi
  exact (HA.z i _ _ (Z0 hi) (Z0 hi2)).2.2.1
def qyF(hd:List Str)(qs:List (List Str×CQ)):List F:=[zah hd,qsF (qs.map (·.2))]
structure zyT(L:List Rl)(hd:List Str)(qs:List (List Str×CQ)):Prop where
 hl:hd.length<1000
 ql:qs.length<1000
 q:∀q∈qs,zk5 L q.1 q.2/\Ans pr 75 [.ag (cqF q.2)] (zah q.1)
def Ju0(L:List Rl)(S c1:Nat)(hd:List Str)(qs:List (List Str×CQ))(h:T Ob)(c0 k:Nat)(s:St):Prop:=(s.tm.get 0=some (.ptr S 2 0 0)/\s.tm.get 3=some (.ptr c0 2 0 0)/\s.tm.get 5=some (.ptr (c0+1) 2 0 0)/\s.tm.get 15=some (.f (qsF (qs.map (·.2))))/\s.tm.get 16=some (.f (.i .i64 qs.length))/\s.tm.get 17=some (.f (.i .i64 k)))/\s.h.get c0=some (.arr 2 0 [[.f (zah hd),.f (qsF (qs.map (·.2)))]])/\(∀id,id<c0->s.h.get id=h.get id)/\∃Z dd dh,UnA L S c1 (c0+1) hd (qs.take k) s.h s.c Z dd dh
def UnP(L:List Rl)(S c1:Nat)(hd:List Str)(qs:List (List Str×CQ))(h:T Ob)(c:Nat)(d:D)(h':T Ob)(c':Nat):Prop:=∃U,c<U/\d= .ptr U 2 0 0/\(∃Z dd dh,UnA L S c1 U hd qs h' c' Z dd dh)/\∀id,id<c->h'.get id=h.get id
def nu_l0{L:List Rl}{S c1:Nat}{hd:List Str}{qs:List (List Str×CQ)}{h:T Ob}{c0:Nat}(HL:zjZ L)(HQ:zyT L hd qs){s:St}{K:Ex->St->Prop}(hJ:Ju0 L S c1 hd qs h c0 0 s)(kx:∀s,Ju0 L S c1 hd qs h c0 qs.length s->K (.exit 0) s):WL pr znd s K:=by
 have hql:=HQ.ql;have hll:=HQ.hl;refine zcA qs.length (Ju0 L S c1 hd qs h c0) (fun e s=>e= .exit 0/\Ju0 L S c1 hd qs h c0 qs.length s) ?_ ?_ _ hJ ?_
 .rintro k s hlt ⟨⟨h0,h3,h5,h15,h16,h17⟩,g3,hf,Z,dd,dh,HA⟩;have hw:=zau k (by omega);have hx:qs[k]? =some qs[k]:=Z0 hlt;have hxx:(qs.map (·.2))[k]? =some (qs[k]).2:=by rw[Z36,hx];rfl
  obtain⟨HCq,HVq⟩ :=HQ.q _ (Z1 hlt);generalize htt:qs[k]=q at hx hxx HCq HVq;have hab:=HA.o;have i1:¬c0=s.c:=by omega
  have hcd:[D.f (zcz q.2),D.f (zcQ q.2)]=(cqF q.2).map D.f:=rfl;have had:(zcz q.2).d= .f (zcz q.2):=zfZ q.2;have hcm:(zcQ q.2).d= .f (zcQ q.2):=zf1 q.2;have hce:cqF q.2=[zcz q.2,zcQ q.2]:=rfl;unfold znd g33;simp only[rU,C.l,C.r,C.b,C.o];simp[rW,h0,h3,h5,h15,h16,h17,hlt,zgu,hxx,htt,hce,had,hcm,i1];rw[hcd];obtain⟨H,hH⟩ :∃H,H=(s.h.set s.c (.arr 2 0 [[.f .nils,.f .nils]])).set s.c (.arr 2 0 [(cqF q.2).map D.f]):=⟨_,rfl⟩
  have hHf:∀id,id<s.c->H.get id=s.h.get id:=fun id hid=>by rw[hH,TG,Z49 (by omega),TG,Z49 (by omega)]
  have hSr:zdx H (s.c+1) S L:=(HA.s.up fun id _ h2=>hHf id (by omega)).lo (by omega);refine zbO [(0,.ptr S 2 0 0),(3,.ptr c0 2 0 0),(5,.ptr (c0+1) 2 0 0),(15,.f (qsF (qs.map (·.2)))),(16,.f (.i .i64 qs.length)),(17,.f (.i .i64 k))] (eff64 HL HCq hSr HVq) (by simp only[rG];exact hH.symm) (by simp only[rG]) (by simp only[Rg];simp[rW,h0,h3,h5,h15,h16,h17]) rfl ?_;rintro s1 d1 ⟨X,rfl,hIs,hXS,hXM,HM,hf1⟩ hc1 k23 ⟨k0,k3,k5,k15,k16,k17,-⟩;have f1:∀id,id<s.c->s1.h.get id=s.h.get id:=fun id hid=>(hf1 id (by omega)).trans (hHf id hid)
  have g3':=(f1 c0 (by omega)).trans g3;have hsd:(zah hd).d= .f (zah hd):=za4 hd;have hXo:=HM.m.o;refine⟨?_⟩;simp[rW,k0,k3,k5,k15,k16,k17,k23,g3',hsd,zdw];refine nu_l2 (D0:= .ptr S 2 0 0) (D3:= .ptr c0 2 0 0) (D5:= .ptr (c0+1) 2 0 0) (D15:= .f (qsF (qs.map (·.2)))) (D16:= .f (.i .i64 qs.length)) (D17:= .f (.i .i64 k)) (ns:=q.1) (h:=s1.h) (b:=s1.c) (by rw[<-hIs.nE];exact HM.m.m) (by omega) HCq.n hll ⟨by simp only[Rg];simp[rW,k0,k3,k5,k15,k16,k17],⟨by simp[rW],by simp[rW],by simp[rW]⟩,by simp only[rG];omega,fun id hid=>by simp only[rG],.f .nils,by simp[rW],.nil⟩ ?_;rintro s2 ⟨⟨j0,j3,j5,j8,j15,j16,j17,-⟩,-,hc2,hf2,dE,j9,hGE⟩;rw[Z7]at hGE;have hU2:s2.h.get (c0+1)=some (.arr 2 0 [[dd,dh]]):=by rw[hf2 _ (by omega),f1 _ (by omega)];exact HA.u
  simp[rW,j0,j3,j5,j8,j9,j15,j16,j17,hU2,zAD,zOs];have hd2:Gro s2.h (c0+1+1) s2.c 1 dd (Z.map fun z=>[.ptr z.2.2.1.M 7 0 0]):=zaS HA.d (by omega) fun id _ h2=>(hf2 id (by omega)).trans (f1 id h2)
  have hZl:Z.length=k:=by rw[HA.n,Z41];omega
  have e2:∀id,id<s2.c->(s2.h.set s2.c (.arr 1 0 [[.ptr X.M 7 0 0]])).get id=s2.h.get id:=fun id hid=>by rw[TG,Z49 (by omega)]
  refine zfb (zaS (c':=s2.c+1) hd2 (by omega) fun id _ h2=>e2 id h2) (by omega) (by simp only[Z18,Z23,Z170];omega) (by omega) ?_;intro r hr1 hr2 hr3 hr4 hr5;have g5:(wrT (s2.h.set s2.c (.arr 1 0 [[.ptr X.M 7 0 0]])) r.wr).get (c0+1)=some (.arr 2 0 [[dd,dh]]):=by
   rw[hr4 _ (by omega) (zfd hd2 (by omega)),e2 _ (by omega)];exact hU2
  have hrc:=zbu hr2;have jr3:c0+1<r.c:=by omega
  generalize hH3:wrT (s2.h.set s2.c (.arr 1 0 [[.ptr X.M 7 0 0]])) r.wr=H3 at hr2 hr4 g5;have key3:∀id,id<s2.c->dd.oid≠some id->H3.get id=s2.h.get id:=fun id h1 h2=>(hr4 id (by omega) h2).trans (e2 id h1)
  have bdd:∀x,dd.oid=some x->c0+2<=x/\x<s.c:=fun x hx=>zbr HA.d hx
  have bdh:∀x,dh.oid=some x->c0+2<=x/\x<s.c:=fun x hx=>zbr HA.e hx
  have hc0:c0+1<s.c:=hab.2;have bdr:∀x,r.d.oid=some x->dd.oid=some x\/s2.c<=x:=fun x hx=>(hr5 x hx).elim (fun e=> .inr (by omega)) .inl
  have fin:∀(H4:T Ob) (n4:Nat),r.c<=n4->(∀id,id<r.c->id≠c0+1->H4.get id=H3.get id)->∀(r2:Rs),Gro (wrT H4 r2.wr) (c0+1+1) r2.c 1 r2.d ((Z.map fun z=>[z.2.2.2])++[[dE]])->n4<=r2.c->(∀id,id<n4->dh.oid≠some id->(wrT H4 r2.wr).get id=H4.get id)->(∀x,r2.d.oid=some x->x=n4\/dh.oid=some x)->∀G,G=(wrT H4 r2.wr).set (c0+1) (.arr 2 0 [[r.d,r2.d]])->UnA L S c1 (c0+1) hd (qs.take (k+1)) G r2.c (Z++[(s.c,s2.c,X,dE)]) r.d r2.d/\∀id,id<s.c->id≠c0+1->dd.oid≠some id->dh.oid≠some id->G.get id=s.h.get id:=by
   intro H4 n4 hn4 hH4 r2 a1 a2 a3 a4 G hG;have key4:∀id,id<r.c->id≠c0+1->dh.oid≠some id->G.get id=H3.get id:=fun id b1 b2 b3=>by
    rw[hG,TG,Z49 b2,a3 id (by omega) b3];exact hH4 id b1 b2
   have keyG:∀id,id<s2.c->id≠c0+1->dd.oid≠some id->dh.oid≠some id->G.get id=s2.h.get id:=fun id b1 b2 b3 b4=>(key4 id (by omega) b2 b4).trans (key3 id b1 b3)
   have keyS:∀id,id<s.c->id≠c0+1->dd.oid≠some id->dh.oid≠some id->G.get id=s.h.get id:=fun id b1 b2 b3 b4=>(keyG id (by omega) b2 b3 b4).trans ((hf2 id (by omega)).trans (f1 id b1))
   have hS2:zdx G s.c S L:=(HA.s.up fun id _ h4=>keyS id (by omega) (by omega) (fun e=>by have:=bdd _ e;omega) (fun e=>by have:=bdh _ e;omega)).lo (by omega);have hC2:zm7 L S s2.h s.c s2.c hd q X dE:=⟨⟨_,HM.up hf2 hc2⟩,hIs,hXS,by omega,zOB hGE (by omega)⟩
   refine⟨zGA HA hx (by omega) (by omega) keyS (by rw[hG,TG,Z51 rfl]) ?_ ?_ (hC2.up hS2 fun id b1 b2=>keyG id b2 (by omega) (fun e=>by have:=bdd _ e;omega) fun e=>by have:=bdh _ e;omega) bdr (fun x hx=>(a4 x hx).elim (fun e=> .inr (by omega)) .inl) fun x h1 h2=> ?_,keyS⟩
   .refine zhD hr2 (by omega) fun id hid=> ?_
    have b1:=zbr hr2 hid;refine key4 id b1.2 (by omega) fun e=> ?_
    rcases bdr id hid with e1|e1
    .exact HA.ne id e1 e
    .have:=bdh _ e;omega
   .refine zaS a1 (Z2 _) fun id b1 _=> ?_
    rw[hG,TG,Z49 (by omega)]
   .rcases bdr x h1 with e1|e1
    .rcases a4 x h2 with e2|e2
     .have:=bdd _ e1;omega
     .exact HA.ne x e1 e2
    .rcases a4 x h2 with e2|e2
     .have:=zbr hr2 h1;omega
     .have:=bdh _ e2;omega
  rcases hGE with⟨rfl,hE⟩ |⟨iE,ro,rfl,eE1,eE2,eE3,eE4,eE5⟩
  .simp[rW,hr1,hH3,g5,hrc,jr3];have e4:∀id,id<r.c->id≠c0+1->(H3.set (c0+1) (.arr 2 0 [[r.d,dh]])).get id=H3.get id:=fun id _ b2=>by rw[TG,Z49 b2]
   refine zfb (zhD (c':=r.c) (HA.e) (by omega) fun id hid=> ?_) (by omega) (by simp only[Z18,Z23,Z170];omega) (by omega) ?_
   .have:=bdh _ hid;rw[e4 id (by omega) (by omega),key3 id (by omega) (fun e=>HA.ne id e hid),hf2 id (by omega),f1 id (by omega)]
   intro r2 a0 a1 a2 a3 a4;have g6:(wrT (H3.set (c0+1) (.arr 2 0 [[r.d,dh]])) r2.wr).get (c0+1)=some (.arr 2 0 [[r.d,dh]]):=by
    rw[a3 _ (by omega) (fun e=>by have:=bdh _ e;omega),TG,Z51 rfl]
   have hrc2:=zbu a1;have j4:c0+1<r2.c:=by omega
   obtain⟨G,hG⟩ :∃G,G=(wrT (H3.set (c0+1) (.arr 2 0 [[r.d,dh]])) r2.wr).set (c0+1) (.arr 2 0 [[r.d,r2.d]]):=⟨_,rfl⟩
   obtain⟨HF,hFG⟩ :=fin _ r.c (Z2 _) e4 r2 a1 a2 a3 a4 G hG;simp[rW,a0,hH3,g6,hrc2,j4,hw];refine⟨⟨by simp[rW,j0],by simp[rW,j3],by simp[rW,j5],by simp[rW,j15],by simp[rW,j16],by simp[rW]⟩,by simp only[rG];rw[hH3,<-hG,hFG c0 (by omega) (by omega) (fun e=>by have:=bdd _ e;omega) (fun e=>by have:=bdh _ e;omega)];exact g3,fun id hid=>by simp only[rG];rw[hH3,<-hG,hFG id (by omega) (by omega) (fun e=>by have:=bdd _ e;omega) (fun e=>by have:=bdh _ e;omega)];exact hf id hid,_,r.d,r2.d,by simp only[rG];rw[hH3,<-hG];exact HF⟩
  .simp[rW,hr1,hH3,g5,hrc,jr3,zAD];obtain⟨H4,hH4⟩ :∃H4,H4=(H3.set (c0+1) (.arr 2 0 [[r.d,dh]])).set r.c (.arr 1 0 [[.sl iE 0 (hdD (hdL q.1 hd)).length 1 (hdD (hdL q.1 hd)).length false]]):=⟨_,rfl⟩
   rw[<-hH4];have e4:∀id,id<r.c->id≠c0+1->H4.get id=H3.get id:=fun id b1 b2=>by rw[hH4,TG,Z49 (by omega),TG,Z49 b2]
   refine zfb (zhD (c':=r.c+1) (HA.e) (by omega) fun id hid=> ?_) (by omega) (by simp only[Z18,Z23,Z170];omega) (by omega) ?_
   .have:=bdh _ hid;rw[e4 id (by omega) (by omega),key3 id (by omega) (fun e=>HA.ne id e hid),hf2 id (by omega),f1 id (by omega)]
   intro r2 a0 a1 a2 a3 a4;have g6:(wrT H4 r2.wr).get (c0+1)=some (.arr 2 0 [[r.d,dh]]):=by
    rw[a3 _ (by omega) (fun e=>by have:=bdh _ e;omega),hH4,TG,Z49 (by omega),TG,Z51 rfl]
   have hrc2:=zbu a1;have j4:c0+1<r2.c:=by omega
   obtain⟨G,hG⟩ :∃G,G=(wrT H4 r2.wr).set (c0+1) (.arr 2 0 [[r.d,r2.d]]):=⟨_,rfl⟩
   obtain⟨HF,hFG⟩ :=fin H4 (r.c+1) (by omega) e4 r2 a1 a2 a3 a4 G hG;simp[rW,a0,hH3,g6,hrc2,j4,hw];refine⟨⟨by simp[rW,j0],by simp[rW,j3],by simp[rW,j5],by simp[rW,j15],by simp[rW,j16],by simp[rW]⟩,by simp only[rG];rw[hH3,<-hH4,<-hG,hFG c0 (by omega) (by omega) (fun e=>by have:=bdd _ e;omega) (fun e=>by have:=bdh _ e;omega)];exact g3,fun id hid=>by simp only[rG];rw[hH3,<-hH4,<-hG,hFG id (by omega) (by omega) (fun e=>by have:=bdd _ e;omega) (fun e=>by have:=bdh _ e;omega)];exact hf id hid,_,r.d,r2.d,by simp only[rG];rw[hH3,<-hH4,<-hG];exact HF⟩
 .rintro s ⟨⟨h0,h3,h5,h15,h16,h17⟩,g3,hf,Z,dd,dh,HA⟩;unfold znd g33;simp only[rU,C.l,C.r,C.b,C.o];simp[rW,h0,h3,h5,h15,h16,h17];exact⟨⟨by simp[rW,h0],by simp[rW,h3],by simp[rW,h5],by simp[rW,h15],by simp[rW,h16],by simp[rW,h17]⟩,by simp[rW,g3],fun id h1=>by simp[rW];exact hf id h1,Z,dd,dh,by simp only[rG];exact HA⟩
 .rintro e s ⟨rfl,hJ⟩;exact kx s hJ
def eff33{L:List Rl}{S c1:Nat}{hd:List Str}{qs:List (List Str×CQ)}{h:T Ob}{c0:Nat}(HL:zjZ L)(HQ:zyT L hd qs)(HS:zdx h c1 S L)(hc1:c1<=c0):Eff pr 33 [.ptr S 2 0 0,.ag ((qyF hd qs).map D.f)] h c0 (UnP L S c1 hd qs h c0):=by
  refine zcm kps fn33 (fun d h' c' ⟨U,_,e1,_⟩ hd _=>by rw[e1]at hd;cases hd) ?_;have hql:=HQ.ql;have hll:=HQ.hl;have hsd:(zah hd).d= .f (zah hd):=za4 hd;have hqd:(qsF (qs.map (·.2))).d= .f (qsF (qs.map (·.2))):=zd5 _;have ec:(qyF hd qs).map D.f=[.f (zah hd),.f (qsF (qs.map (·.2)))]:=rfl;rw[ec];simp only[g33,rU];simp[rW,st0,zal,hsd,hqd,zcS,Z18];have ec0:¬c0=c0+1:=by omega
  refine nu_l0 (L:=L) (S:=S) (c1:=c1) (hd:=hd) (qs:=qs) (h:=h) (c0:=c0) HL HQ ⟨⟨by simp[rW],by simp[rW],by simp[rW],by simp[rW],by simp[rW],by simp[rW]⟩,by simp[rW,ec0],fun id hid=> ?_,[],.f .nils,.f .nils,?_⟩ ?_
  . have a1:¬id=c0:=by omega
    have a2:¬id=c0+1:=by omega
    simp[rW,a1,a2]
  . refine⟨HS.up fun id _ h2=> ?_,by simp[rW],by simp only[rG];omega,.nil,.nil,by simp,fun i z q hz=>by simp at hz,.nil,fun x hx=>by simp[D.oid]at hx⟩;have a1:¬id=c0:=by omega
    have a2:¬id=c0+1:=by omega
    simp[rW,a1,a2]
  rintro s1 ⟨⟨h0,h3,h5,h15,h16,h17⟩,-,hf,Z,dd,dh,HA⟩;rw[Z7]at HA;simp[rW,h5,zaV];exact⟨c0+1,by omega,rfl,⟨Z,dd,dh,HA⟩,hf⟩
def zE2{L:List Rl}{X:Mx}{σ τ:Asg}{g:Nat}(H:Full L X σ g τ):Sat L X σ g:=⟨τ,H.e,H.a,H.c⟩
def zrm{L:List Rl}{S c1 U:Nat}{hd:List Str}{qs:List (List Str×CQ)}{h h':T Ob}{c c' c2 k:Nat}{Z:List UZ}{dd dh:D}{z:UZ}{σ:Asg}(HA:UnA L S c1 U hd qs h c Z dd dh)(hz:Z[k]? =some z)(hf:∀id,id<c->id≠z.2.2.1.M->id≠z.2.2.1.V->h'.get id=h.get id)(HM:MS L h' c2 z.2.2.1 σ)(hc:c<=c'):UnA L S c1 U hd qs h' c' Z dd dh:=by
 have ho:=HA.o;have hkZ:k<Z.length:=(Z8.1 hz).1;have hkq:k<qs.length:=by rw[<-HA.n];exact hkZ
 obtain⟨a1,a2,a3,a4⟩ :=HA.z k z _ hz (Z0 hkq);obtain⟨⟨σ0,b1⟩,b2,b3,b4,b5⟩ :=a1;have hmo:=b1.m.o;have own:∀x,dd.oid=some x\/dh.oid=some x->x≠z.2.2.1.M/\x≠z.2.2.1.V:=fun x hx=>by have:=a4 x hx;omega
 have hs:zdx h' c1 S L:=HA.s.up fun id _ h4=>hf id (by omega) (by omega) (by omega)
 refine⟨hs,by rw[hf _ (by omega) (by omega) (by omega)];exact HA.u,by omega,zhD HA.d hc fun id hid=>hf id (zbr HA.d hid).2 (own id (.inl hid)).1 (own id (.inl hid)).2,zhD HA.e hc fun id hid=>hf id (zbr HA.e hid).2 (own id (.inr hid)).1 (own id (.inr hid)).2,HA.n,fun i w q hw hq=> ?_,HA.p,HA.ne⟩;obtain⟨e1,e2,e3,e4⟩ :=HA.z i w q hw hq;refine⟨?_,e2,by omega,e4⟩
 by_cases hik:i=k
 .subst hik;rw[hz]at hw;cases hw;have hst:St0 h' z.2.1 z.2.2.1:=b1.st.up fun id h1 h2=>hf id (by omega) (by omega) (by omega)
  exact⟨⟨σ,HM.cut hst⟩,e1.mi,e1.s,e1.m,zaS e1.g (Z2 _) fun id h1 h2=>hf id (by omega) (by omega) (by omega)⟩
 .have hiZ:i<Z.length:=(Z8.1 hw).1;have hp:=Z126.1 HA.p;have ez:Z[k]=z:=(Z8.1 hz).2;have ew:Z[i]=w:=(Z8.1 hw).2;have hdis:w.2.1<=z.1\/z.2.1<=w.1:=by
   rcases Z145 i k with hlt|hge
   .exact .inl (by have:=hp i k hiZ hkZ hlt;rw[ez,ew]at this;exact this)
   .exact .inr (by have:=hp k i hkZ hiZ (by omega);rw[ez,ew]at this;exact this)
  exact e1.up (hs.lo (by omega)) fun id h1 h2=>hf id (by omega) (by omega) (by omega)
def UnA.cc{L:List Rl}{S c1 U:Nat}{hd:List Str}{qs:List (List Str×CQ)}{h:T Ob}{c c':Nat}{Z:List UZ}{dd dh:D}(HA:UnA L S c1 U hd qs h c Z dd dh)(hc:c<=c'):UnA L S c1 U hd qs h c' Z dd dh:=
 ⟨HA.s,HA.u,by have:=HA.o;omega,zaS HA.d hc fun _ _ _=>rfl,zaS HA.e hc fun _ _ _=>rfl,HA.n,fun i z q hz hq=>by
  obtain⟨a1,a2,a3,a4⟩ :=HA.z i z q hz hq;exact⟨a1,a2,by omega,a4⟩,HA.p,HA.ne⟩
structure VqOk(L:List Rl)(hd:List Str)(qs:List (List Str×CQ)):Prop where
 u:zyT L hd qs
 b:∀q∈qs,CqB q.1 q.2
def zKo{L:List Rl}{ns:List Str}{c:CQ}{X:Mx}(hX:zjY L ns c X)(hC:zk5 L ns c)(hB:CqB ns c):zGI L X↔∃v,zkz L ns c v:=by
 constructor
 .rintro⟨τ,he,ha,hc⟩;have hl:τ.length=ns.length:=by rw[he.1];simp[e0,hX.nE]
  refine⟨rowOf τ,((ziI hX hC hB τ).1 ⟨he,ha,hc,fun j hj=> ?_⟩).2⟩;have hjl:j<ns.length:=by
   rcases Z145 j ns.length with h|h
   .exact h
   .simp only[zaF]at hj;rw[Z97 (by omega)]at hj;cases hj
  obtain⟨a,ha,hneg,hts⟩ :=hB.b ns[j] (Z1 hjl);have hm:zdZ L ns a∈X.WP.map (·.1):=by
   rw[hX.P];exact List.mem_map_of_mem (Z57.2 ⟨ha,by simp[hneg]⟩)
  obtain⟨q,hq,e⟩ :=Z12.1 hm;obtain⟨i,hi,rfl⟩ :=Z101.1 hq;refine .inr ⟨i,_,by rw[zkI];simpa using hi,Z0 hi,?_⟩;rw[e,zhK];refine Z30.2 ⟨.var j,Z12.2 ⟨_,hts,?_⟩,(zf5 _ j).2 rfl⟩;simp only[zcn];rw[zhq hB.n hjl]
 .rintro⟨v,hv⟩;obtain⟨e1,e2⟩ :=zvs v;exact zE2 ((ziI hX hC hB (v.map some)).2 ⟨e2,by rw[e1];exact hv⟩)
def hrow(hs:List Nat)(τ:Asg):List Int:=hs.map fun i=>(zaF τ (.var i)).getD 0
def PjS(L:List Rl)(X:Mx)(σ:Asg)(g:Nat)(hs:List Nat)(v:List Int):Prop:=∃τ,Ext σ τ/\(∀i q,g.testBit i=true->X.WP[i]? =some q->AtT L τ q.1)/\zde L X τ=true/\v=hrow hs τ
theorem zKJ{L:List Rl}{X:Mx}{σ:Asg}{g i:Nat}{q:Pat×D}{r:Rl}{hs:List Nat}{v:List Int}(hO:MxO X L)(hσ:σ.length=X.ns.length)(hi:g.testBit i=true)(hq:X.WP[i]? =some q)(hr:L[q.1.r]? =some r){g':Nat}(hg:∀j,g'.testBit j=true↔(g.testBit j=true/\j≠i)):
  PjS L X σ g hs v↔∃(k:Nat) (t:List Int×List Vse.F) (τ:Asg),r.tu[k]? =some t/\zda L X σ q.1 t.1=some τ/\PjS L X τ g' hs v:=by
 have hP:=hO.P q (Z39 hq);constructor
 .rintro⟨τ,he,ha,hc,hv⟩;obtain⟨w,hw,hb⟩ :=ha i q hi hq;obtain⟨k,t,ht,rfl⟩ :=(zlB hr).1 hb;obtain⟨τ1,h1,h2⟩ :=zni hP.o hσ he hw;exact⟨k,t,τ1,ht,zhb.2 ⟨h1,zlh h2 hc⟩,τ,h2,fun j q' hj hq'=>ha j q' ((hg j).1 hj).1 hq',hc,hv⟩
 .rintro⟨k,t,τ,ht,hb,τ2,he,ha,hc,hv⟩;obtain⟨h1,_⟩ :=zhb.1 hb;have htl:t.1.length=q.1.ts.length:=hP.a r hr t (Z39 ht);have hw:=zi5 hP.o hσ htl h1;refine⟨τ2,(zfN h1).tr he,fun j q' hj hq'=> ?_,hc,hv⟩
  by_cases hji:j=i
  .subst hji;rw[hq]at hq';cases hq';exact⟨t.1,zlP he hw,(zlB hr).2 ⟨k,t,ht,rfl⟩⟩
  .exact ha j q' ((hg j).2 ⟨hj,hji⟩) hq'
def zuz{hs:List Nat}{σ τ:Asg}(he:Ext σ τ)(hb:∀i∈hs,(zaF σ (.var i)).isSome=true):hrow hs τ=hrow hs σ:=by
 refine Z68 fun i hi=> ?_
 obtain⟨z,hz⟩ :=Z158.1 (hb i hi);rw[hz,zeU he hz]
def zoj{L:List Rl}{X:Mx}{σ:Asg}{g:Nat}{hs:List Nat}{v:List Int}(hb:∀i∈hs,(zaF σ (.var i)).isSome=true):PjS L X σ g hs v↔Sat L X σ g/\v=hrow hs σ:=by
 constructor
 .rintro⟨τ,he,ha,hc,rfl⟩;exact⟨⟨τ,he,ha,hc⟩,zuz he hb⟩
 .rintro⟨⟨τ,he,ha,hc⟩,rfl⟩;exact⟨τ,he,ha,hc,(zuz he hb).symm⟩
def zqH(X:Mx)(σ:Asg)(g:Nat)(hs:List Nat):Prop:=∀j∈hs,j<X.ns.length/\((zaF σ (.var j)).isSome=true\/∃i q,g.testBit i=true/\X.WP[i]? =some q/\q.1.m.testBit j=true)
def zCB{L:List Rl}{X:Mx}{σ τ:Asg}{g i:Nat}{q:Pat×D}{r:Rl}{hs:List Nat}(hO:MxO X L)(hσ:σ.length=X.ns.length)(hq:X.WP[i]? =some q)(hr:L[q.1.r]? =some r){t:List Int×List Vse.F}(ht:t∈r.tu)(hb:zda L X σ q.1 t.1=some τ){g':Nat}(hg:∀j,g'.testBit j=true↔(g.testBit j=true/\j≠i))(H:zqH X σ g hs):zqH X τ g' hs:=by
 have hP:=hO.P q (Z39 hq);obtain⟨h1,_⟩ :=zhb.1 hb;intro j hj;obtain⟨a,b⟩ :=H j hj;refine⟨a,?_⟩;rcases b with b|⟨i',q',b1,b2,b3⟩
 .obtain⟨z,hz⟩ :=Z158.1 b;left;rw[zeU (zfN h1) hz];rfl
 .by_cases e:i'=i
  .subst e;rw[hq]at b2;cases b2;exact .inl (zGB (zi5 hP.o hσ (hP.a r hr t ht) h1) b3)
  .exact .inr ⟨i',q',(hg i').2 ⟨b1,e⟩,b2,b3⟩
def frH(σ:Asg)(hs:List Nat):Nat:=hs.foldl (fun f v=>Nat.lor f (zdf (2 ^ v) (zaO σ))) 0
def zEX(σ:Asg)(l:List Nat)(v:Nat):frH σ (l++[v])=Nat.lor (frH σ l) (zdf (2 ^ v) (zaO σ)):=by simp[frH]
def zp4{v:Nat}(h:v<6):2 ^ v<64:=by
 have:2 ^ v<=2 ^ 5:=Z113 (by decide) (by omega);omega
def or_64{a b:Nat}(ha:a<64)(hb:b<64):Nat.lor a b<64:=Nat.or_lt_two_pow (n:=6) ha hb
def zxJ{σ:Asg}(h:σ.length<=6):zaO σ<64:=by
 have h1:=zem σ;have:2 ^ σ.length<=2 ^ 6:=Z113 (by decide) h;omega
def zCl{σ:Asg}{hs:List Nat}(hσ:σ.length<=6)(hh:∀j∈hs,j<6):frH σ hs<64:=by
 have key:∀(l:List Nat) (f:Nat),f<64->(∀j∈l,j<6)->l.foldl (fun f v=>Nat.lor f (zdf (2 ^ v) (zaO σ))) f<64:=by
  intro l
  induction l with
  |nil=>exact fun f h _=>h
  |cons a l ih=>exact fun f h hl=>ih _ (or_64 h (zla (zp4 (hl a (by simp))))) fun j hj=>hl j (by simp[hj])
 exact key hs 0 (by decide) hh
def zqU{σ:Asg}{hs:List Nat}(hσ:σ.length<=6)(hh:∀j∈hs,j<6)(i:Nat):(frH σ hs).testBit i=true↔i∈hs/\(zaF σ (.var i)).isSome=false:=by
 have key:∀(l:List Nat) (f:Nat),(∀j∈l,j<6)->((l.foldl (fun f v=>Nat.lor f (zdf (2 ^ v) (zaO σ))) f).testBit i=true↔(f.testBit i=true\/(i∈l/\(zaF σ (.var i)).isSome=false))):=by
  intro l
  induction l with
  |nil=>intro f _;simp
  |cons a l ih=>
   intro f hl;have ha:=hl a (by simp);rw[Z42,ih _ fun j hj=>hl j (by simp[hj])];have e:(Nat.lor f (zdf (2 ^ a) (zaO σ))).testBit i=(f.testBit i||(decide (a=i)&& !(zaF σ (.var i)).isSome)):=by
    show(f|||zdf (2 ^ a) (zaO σ)).testBit i=_;rw[Nat.testBit_or,zid (zp4 ha) (zxJ hσ),zes,Nat.testBit_two_pow]
   rw[e];simp only[Z115,Z14,Z86,Z80,Z5];constructor
   .rintro ((h|⟨h1,h2⟩)|⟨h1,h2⟩)
    .exact .inl h
    .exact .inr ⟨.inl h1.symm,h2⟩
    .exact .inr ⟨.inr h1,h2⟩
   .rintro (h|⟨h1|h1,h2⟩)
    .exact .inl (.inl h)
    .exact .inl (.inr ⟨h1.symm,h2⟩)
    .exact .inr ⟨h1,h2⟩
 rw[frH,key hs 0 hh];simp
def frH_0{σ:Asg}{hs:List Nat}(hσ:σ.length<=6)(hh:∀j∈hs,j<6):frH σ hs=0↔∀i∈hs,(zaF σ (.var i)).isSome=true:=by
 constructor
 .intro h i hi
  by_cases hb:(zaF σ (.var i)).isSome=true
  .exact hb
  .have:=(zqU hσ hh i).2 ⟨hi,by simpa using hb⟩;rw[h,Nat.zero_testBit]at this;cases this
 .intro h;refine Nat.eq_of_testBit_eq fun i=> ?_
  rw[Nat.zero_testBit]
  by_cases hb:(frH σ hs).testBit i=true
  .obtain⟨h1,h2⟩ :=(zqU hσ hh i).1 hb;rw[h i h1]at h2;cases h2
  .simpa using hb
def zQa{X:Mx}{σ:Asg}{g:Nat}{hs:List Nat}(hσ:σ.length<=6)(H:zqH X σ g hs)(hh:∀j∈hs,j<6)(h0:frH σ hs≠0):∃i q,g.testBit i=true/\X.WP[i]? =some q/\Nat.land q.1.m (frH σ hs)≠0:=by
 obtain⟨j,hj⟩ :∃j,(frH σ hs).testBit j=true:=by
  by_cases he:∃j,(frH σ hs).testBit j=true
  .exact he
  .exact absurd (Nat.eq_of_testBit_eq fun i=>by rw[Nat.zero_testBit];simpa using fun h=>he ⟨i,h⟩) h0
 obtain⟨h1,h2⟩ :=(zqU hσ hh j).1 hj;rcases (H j h1).2 with h3|⟨i,q,h3,h4,h5⟩
 .rw[h2]at h3;cases h3
 .refine⟨i,q,h3,h4,fun e=> ?_⟩;have:(Nat.land q.1.m (frH σ hs)).testBit j=true:=by
   show(q.1.m&&& frH σ hs).testBit j=true;rw[Nat.testBit_and,h5,hj];rfl
  rw[e,Nat.zero_testBit]at this;cases this
def fn67:pr.fn 67=some g67:=by kernel_rfl
def fn120:pr.fn 120=some zzT:=by kernel_rfl
def fn35:pr.fn 35=some g35:=by kernel_rfl
def zzi:C:=g67.body.r.r.l.r.b.o
def hsD(hs:List Nat):List (List D):=hs.map fun i=>[.f (.i .i64 (i:Nat))]
def Jp0(R:List (Nat×D))(σ:Asg)(hs:List Nat)(dE:D)(h:T Ob)(b:Nat)(k:Nat)(s:St):Prop:=Rg R s/\(s.tm.get 8=some (.f (.i .u64 (frH σ (hs.take k))))/\s.tm.get 21=some (dE)/\s.tm.get 22=some (.f (.i .i64 hs.length))/\s.tm.get 23=some (.f (.i .i64 k)))/\b<=s.c/\(∀id,id<b->s.h.get id=h.get id)
theorem zIi{L:List Rl}{h:T Ob}{c lo e b c4:Nat}{X:Mx}{σ:Asg}{hs:List Nat}{dE D5 D6 D7:D}(H:MS L h c X σ)(hc:c<=b)(hE:Gro h lo e 1 dE (hsD hs))(he:e<=b)(hh:∀j∈hs,j<6)(hl:hs.length<1000)(g4:h.get c4=some (.arr 1 0 [[.ptr X.M 7 0 0]]))(hc4:c4<b){s:St}{K:Ex->St->Prop}
  (hJ:Jp0 [(4,.ptr c4 1 0 0),(5,D5),(6,D6),(7,D7)] σ hs dE h b 0 s)(kx:∀s,Jp0 [(4,.ptr c4 1 0 0),(5,D5),(6,D6),(7,D7)] σ hs dE h b hs.length s->K (.exit 0) s):WL pr zzi s K:=by
 have hσ:σ.length<=6:=H.m.n6;have hmo:=H.m.o;refine zcA hs.length (Jp0 [(4,.ptr c4 1 0 0),(5,D5),(6,D6),(7,D7)] σ hs dE h b) (fun e s=>e= .exit 0/\Jp0 [(4,.ptr c4 1 0 0),(5,D5),(6,D6),(7,D7)] σ hs dE h b hs.length s) ?_ ?_ _ hJ ?_
 .rintro k s hlt ⟨⟨h4,h5,h6,h7,-⟩,⟨h8,h21,h22,h23⟩,hcb,hf⟩;have hw:=zau k (by omega);have hx:hs[k]? =some hs[k]:=Z0 hlt;have hj:=hh _ (Z1 hlt);generalize htt:hs[k]=j at hx hj;have htk:frH σ (hs.take (k+1))=Nat.lor (frH σ (hs.take k)) (zdf (2 ^ j) (zaO σ)):=by
   rw[Z105,hx,Option.toList,zEX]
  have q1:=zjE (i:=j) (by omega);have q2:=zka (zp4 hj) (zxJ hσ);have q3:=zl4 (zCl hσ (hs:=hs.take k) fun i hi=>hh i (Z13 hi)) (zla (b:=zaO σ) (zp4 hj));rw[<-htk]at q3;generalize 2 ^ j=w at q1 q2 q3;have hm:=(hf X.M (by omega)).trans H.m.m;have g4':=(hf c4 hc4).trans g4;rcases hE with⟨_,e0⟩ |⟨id,ro,rfl,e1,e2,e3,e4,e5⟩
  .have:hs=[]:=Z182.1 e0;rw[this]at hlt;simp at hlt
  have hel:(hsD hs).length=hs.length:=by simp[hsD]
  have hxe:(hsD hs)[k]? =some [.f (.i .i64 (j:Nat))]:=by simp[hsD,hx]
  have hxA:=(Z8.1 hxe).2;have e2':=(hf id (by omega)).trans e2;unfold zzi g67;simp only[rU,C.l,C.r,C.b,C.o];simp[rW,h4,h5,h6,h7,h8,h21,h22,h23,hlt,e2',hel,hxA];refine zfS ?_;simp[rW,h4,h5,h6,h7,h8,h21,h22,h23,g4',hm,q1,q2,q3,hw];exact⟨by simp only[Rg];simp[rW,h4,h5,h6,h7],⟨by simp[rW],by simp[rW,h21,hel],by simp[rW,h22],by simp[rW]⟩,by simp only[rG];omega,fun id h1=>by simp only[rG];exact hf id h1⟩
 .rintro s ⟨⟨h4,h5,h6,h7,-⟩,⟨h8,h21,h22,h23⟩,hcb,hf⟩;unfold zzi g67;simp only[rU,C.l,C.r,C.b,C.o];simp[rW,h8,h21,h22,h23];exact⟨by simp only[Rg];simp[rW,h4,h5,h6,h7],⟨by simp[rW,h8],by simp[rW,h21],by simp[rW,h22],by simp[rW,h23]⟩,by simp only[rG];omega,fun id h1=>by simp[rW];exact hf id h1⟩
 .rintro e s ⟨rfl,hJ⟩;exact kx s hJ
def cT:C->C
 | .cond _ a _=>a
 |c=>c
def zzj:C:=(cT g67.body.r.r.r.l.r).r.l.r.b.o
def Jp2(R:List (Nat×D))(dE:D)(hs:List Nat)(σ:Asg)(h:T Ob)(b V:Nat)(k:Nat)(s:St):Prop:=Rg R s/\(s.tm.get 11=some (.sl V 0 hs.length 3 hs.length true)/\s.tm.get 42=some (dE)/\s.tm.get 43=some (.f (.i .i64 hs.length))/\s.tm.get 44=some (.f (.i .i64 k)))/\b<=s.c/\(∀id,id<b->id≠V->s.h.get id=h.get id)/\s.h.get V=some (.arr 3 0 (zgH (hrow hs σ) k))
theorem pj_l2{L:List Rl}{h:T Ob}{c lo e b c4 V:Nat}{X:Mx}{σ:Asg}{hs:List Nat}{dE D5 D6 D7:D}(H:MS L h c X σ)(hc:c<=b)(hE:Gro h lo e 1 dE (hsD hs))(he:e<=b)(hh:∀j∈hs,(zaF σ (.var j)).isSome=true)(hl:hs.length<1000)(g4:h.get c4=some (.arr 1 0 [[.ptr X.M 7 0 0]]))(hc4:c4<b)(hV:c<=V/\e<=V/\V<b/\V≠c4){s:St}{K:Ex->St->Prop}
  (hJ:Jp2 [(4,.ptr c4 1 0 0),(5,D5),(6,D6),(7,D7)] dE hs σ h b V 0 s)(kx:∀s,Jp2 [(4,.ptr c4 1 0 0),(5,D5),(6,D6),(7,D7)] dE hs σ h b V hs.length s->K (.exit 2) s):WL pr zzj s K:=by
 have hmo:=H.m.o;refine zcA hs.length (Jp2 [(4,.ptr c4 1 0 0),(5,D5),(6,D6),(7,D7)] dE hs σ h b V) (fun e s=>e= .exit 2/\Jp2 [(4,.ptr c4 1 0 0),(5,D5),(6,D6),(7,D7)] dE hs σ h b V hs.length s) ?_ ?_ _ hJ ?_
 .rintro k s hlt ⟨⟨h4,h5,h6,h7,-⟩,⟨h11,h42,h43,h44⟩,hcb,hf,gV⟩;have hw:=zau k (by omega);have hx:hs[k]? =some hs[k]:=Z0 hlt;have hj:=hh _ (Z1 hlt);generalize htt:hs[k]=j at hx hj;obtain⟨z,hz⟩ :=Z158.1 hj;have hzo:σ[j]? =some (some z):=by
   simp only[zaF]at hz;cases hh:σ[j]? with
   |none=>rw[hh]at hz;cases hz
   |some o=>rw[hh]at hz;exact congrArg some hz
  have hjl:j<X.ns.length:=by rw[<-H.m.n];exact (Z8.1 hzo).1
  have hm:=(hf X.M (by omega) (by omega)).trans H.m.m;obtain⟨vs,v1,v2,v3,v4⟩ :=H.m.v;have v1':=(hf X.V (by omega) (by omega)).trans v1;have hvA:=v4 j z hzo;have g4':=(hf c4 hc4 (by omega)).trans g4;have hrl:(hrow hs σ).length=hs.length:=by simp[hrow]
  have hrk:(hrow hs σ)[k]? =some z:=by simp[hrow,hx,hz]
  rcases hE with⟨_,e0⟩ |⟨id,ro,rfl,e1,e2,e3,e4,e5⟩
  .have:hs=[]:=Z182.1 e0;rw[this]at hlt;simp at hlt
  have hel:(hsD hs).length=hs.length:=by simp[hsD]
  have hxe:(hsD hs)[k]? =some [.f (.i .i64 (j:Nat))]:=by simp[hsD,hx]
  have hxA:=(Z8.1 hxe).2;have e2':=(hf id (by omega) (by omega)).trans e2;have hgk:=zvl (v:=hrow hs σ) (i:=k) (by omega);have hst:=zvo hrk;have h8:=zx1 (hrow hs σ) k;have hVs:V<s.c:=by omega
  unfold zc at hgk;unfold zzj g67;simp only[rU,C.l,C.r,C.b,C.o];dsimp only[cT,C.l,C.r,C.b,C.o];simp[rW,h4,h5,h6,h7,h11,h42,h43,h44,hlt,e2',hel,hxA,g4',hm,hjl,v1',hvA,gV,Sm.vF,hgk,hst,h8,hw,hVs];exact⟨by simp only[Rg];simp[rW,h4,h5,h6,h7],⟨by simp[rW,h11],by simp[rW,h42,hel],by simp[rW,h43],by simp[rW]⟩,by simp only[rG];omega,fun id h1 h2=>by simp[rW,h2];exact hf id h1 h2,by simp[rW]⟩
 .rintro s ⟨⟨h4,h5,h6,h7,-⟩,⟨h11,h42,h43,h44⟩,hcb,hf,gV⟩;unfold zzj g67;simp only[rU,C.l,C.r,C.b,C.o];dsimp only[cT,C.l,C.r,C.b,C.o];simp[rW,h11,h42,h43,h44];exact⟨by simp only[Rg];simp[rW,h4,h5,h6,h7],⟨by simp[rW,h11],by simp[rW,h42],by simp[rW,h43],by simp[rW,h44]⟩,by simp only[rG];omega,fun id h1 h2=>by simp[rW];exact hf id h1 h2,by simp[rW,gV]⟩
 .rintro e s ⟨rfl,hJ⟩;exact kx s hJ
def zCM{a i:Nat}(ha:a<64)(h0:a≠0)(hi:a.testBit i=true):i=tz a\/(Nat.land a (a - 1)).testBit i=true:=by
 have h6:i<6:=zei (n:=6) ha hi;have h1:i∈zhg a:=zhy.2 ⟨h6,hi⟩;rw[zmb ha h0,Z5]at h1;rcases h1 with h1|h1
 .exact .inl h1
 .exact .inr (zhy.1 h1).2
def zGT:C:=g67.body.r.r.r.r.r.l.r.b.o
def Jp4(X:Mx)(R:List (Nat×D))(g f:Nat)(h:T Ob)(b cur:Nat)(s:St):Prop:=Rg R s/\(∃u:Nat,(s.tm.get 17=some (.f (.i .u64 u))/\s.tm.get 18=some (.f (.i .u64 cur)))/\u<2 ^ X.WP.length/\(∀i,u.testBit i=true->g.testBit i=true)/\(u≠0\/∃i q,cur.testBit i=true/\X.WP[i]? =some q/\Nat.land q.1.m f≠0))/\cur<64/\(∀i,cur.testBit i=true->g.testBit i=true)/\b<=s.c/\∀id,id<b->s.h.get id=h.get id
def Rp4(X:Mx)(R:List (Nat×D))(g f:Nat)(h:T Ob)(b:Nat)(e:Ex)(s:St):Prop:=e= .exit 4/\Jp4 X R g f h b 0 s
theorem pj_l4{L:List Rl}{h:T Ob}{c b c4 g f:Nat}{X:Mx}{σ:Asg}{D5 D6 D7:D}(H:MS L h c X σ)(hc:c<=b)(hgl:g<2 ^ X.WP.length)(hf64:f<64)(g4:h.get c4=some (.arr 1 0 [[.ptr X.M 7 0 0]]))(hc4:c4<b){s:St}{K:Ex->St->Prop}
  (hJ:Jp4 X [(4,.ptr c4 1 0 0),(5,D5),(6,D6),(7,D7),(8,.f (.i .u64 f))] g f h b g s)(kx:∀s,Jp4 X [(4,.ptr c4 1 0 0),(5,D5),(6,D6),(7,D7),(8,.f (.i .u64 f))] g f h b 0 s->K (.exit 4) s):WL pr zGT s K:=by
 have hPl:=H.o.Pl;have hm:=H.m.m;have ho:=H.m.o;have gP:=H.m.P.1;have hpd:(paD X.WP).length=X.WP.length:=by simp[paD]
 refine zcJ (fun k s=>Jp4 X [(4,.ptr c4 1 0 0),(5,D5),(6,D6),(7,D7),(8,.f (.i .u64 f))] g f h b k s) (Rp4 X [(4,.ptr c4 1 0 0),(5,D5),(6,D6),(7,D7),(8,.f (.i .u64 f))] g f h b) ?_ g _ hJ ?_
 .rintro cur s ⟨⟨h4,h5,h6,h7,h8,-⟩,⟨u,⟨h17,h18⟩,hul,husub,hab⟩,hc64,hsub,hcb,hf⟩;unfold zGT g67;simp only[rU,C.l,C.r,C.b,C.o]
  by_cases hz:cur=0
  .subst hz;simp[rW,h4,h5,h6,h7,h8,h17,h18,zhu];exact⟨rfl,by simp only[Rg];simp[rW,h4,h5,h6,h7,h8],⟨u,⟨by simp[rW,h17],by simp[rW,h18]⟩,hul,husub,hab⟩,hc64,hsub,by simp only[rG];omega,fun id hid=>by simp[rW];exact hf id hid⟩
  .obtain⟨tm1,tm2⟩ :=zju hc64 hz;have htr:=hsub _ tm1;have hti:=zei hgl htr;have hz2:(((cur:Nat):Int)==0)=false:=by simpa using hz
   obtain⟨lb1,lb2⟩ :=zzm hc64 hz;have hll:=zuU hc64 hz;have hlc:=fun i=>zCM (i:=i) hc64 hz
   generalize hi:tz cur=i at tm1 tm2 htr hti hlc;have hx:X.WP[i]? =some X.WP[i]:=Z0 hti;have hmem:=Z1 hti;generalize X.WP[i]=q at hx hmem;have hqm:q.1.m<64:=zi9 (by rw[<-H.m.n];exact H.m.n6) (H.o.P q hmem).o;obtain⟨id,ro,e1,e2,e3,e4⟩ :=zej gP (n:=i) (by omega);rw[hpd]at e1;have hrow:(paD X.WP)[i]? =some [.f (.i .i64 q.1.r),q.2,.f (.i .u64 q.1.m)]:=by simp[paD,hx]
   have hA:=(Z8.1 hrow).2;have q1:=zzk hqm hf64;have q2:=zjE (i:=i) (by omega);have hu64:u<64:=Z15 hul (Z113 (by decide) hPl);have q3:=zl4 hu64 (zp4 tm2);simp[rW,h4,h5,h6,h7,h8,h17,h18,zhu,hz2];refine zbO [(4,.ptr c4 1 0 0),(5,D5),(6,D6),(7,D7),(8,.f (.i .u64 f)),(17,.f (.i .u64 u)),(18,.f (.i .u64 cur))] (zjl (zsS hc64 hz s.h s.c)) (by simp only[rG]) (by simp only[rG]) (by simp only[Rg];simp[rW,h4,h5,h6,h7,h8,h17,h18]) rfl ?_;rintro s1 d1 ⟨rfl,hh,hcc⟩ hc1 k87 ⟨k4,k5,k6,k7,k8,k17,k18,-⟩;rw[hi]at k87;refine⟨?_⟩;have hf1:∀id,id<b->s1.h.get id=h.get id:=fun id hid=>by rw[hh];exact hf id hid
   have hm':=(hf1 X.M (by omega)).trans hm;have e2':=(hf1 id (by omega)).trans e2;have g4':=(hf1 c4 hc4).trans g4;have hcur:∀i,(Nat.land cur (cur - 1)).testBit i=true->g.testBit i=true:=fun i hi=>hsub i (zns hi)
   by_cases hn:Nat.land q.1.m f=0
   .rw[hn]at q1;simp[rW,k4,k5,k6,k7,k8,k17,k18,k87,g4',hm',e1,hti,e2',hrow,hA,hpd,q1,zhu,lb1,lb2];refine⟨_,hll,by simp only[Rg];simp[rW,k4,k5,k6,k7,k8],⟨u,⟨by simp[rW,k17],by simp[rW]⟩,hul,husub,?_⟩,by omega,hcur,by simp only[rG];omega,fun id hid=>by simp[rW];exact hf1 id hid⟩;rcases hab with h|⟨i',q',a1,a2,a3⟩
    .exact .inl h
    .rcases hlc i' a1 with e|e
     .subst e;rw[hx]at a2;cases a2;exact absurd hn a3
     .exact .inr ⟨i',q',e,a2,a3⟩
   .have hn2:(((Nat.land q.1.m f:Nat):Int)==0)=false:=by simpa using hn
    obtain⟨w,hw⟩ :∃w,w=2 ^ i:=⟨_,rfl⟩
    rw[<-hw]at q2 q3;obtain⟨n0,hn0⟩ :∃n0,n0=Nat.land q.1.m f:=⟨_,rfl⟩
    rw[<-hn0]at q1 hn2;obtain⟨o0,ho0⟩ :∃o0,o0=Nat.lor u w:=⟨_,rfl⟩
    rw[<-ho0]at q3;simp[rW,k4,k5,k6,k7,k8,k17,k18,k87,g4',hm',e1,hti,e2',hrow,hA,hpd,q1,zhu,hn2,lb1,lb2,q2,q3];refine⟨_,hll,by simp only[Rg];simp[rW,k4,k5,k6,k7,k8],⟨o0,⟨by simp[rW],by simp[rW]⟩,?_,?_,.inl ?_⟩,by omega,hcur,by simp only[rG];omega,fun id hid=>by simp[rW];exact hf1 id hid⟩
    .rw[ho0,hw];exact Nat.or_lt_two_pow hul (Nat.pow_lt_pow_right (by decide) hti)
    .intro j hj;have hj:(u|||w).testBit j=true:=by rw[ho0]at hj;exact hj
     rw[Nat.testBit_or,hw,Nat.testBit_two_pow,Z115,Z86]at hj;rcases hj with hj|hj
     .exact husub j hj
     .exact hj▸htr
    .intro e;rw[ho0]at e;have:(Nat.lor u w).testBit i=true:=by
      show(u|||w).testBit i=true;rw[Nat.testBit_or,hw,Nat.testBit_two_pow];simp
     rw[e,Nat.zero_testBit]at this;cases this
 .rintro e s ⟨rfl,hJ⟩;exact kx s hJ
structure zi0(V:List Int->Prop)(key:List Int->Str):Prop where
 a:∀v,V v->∃x,Ans pr 116 [.sl 3 (v.map Sm.vF)] x/\∀h c,opv h c (.b2s x.d)=some {d:= .f (.s (key v)),c}
 i:∀u v,V u->V v->key u=key v->u=v
def zs8(h:T Ob)(lo c:Nat)(d:D)(v:List Int):Prop:=∃id ro,d= .sl id 0 v.length 3 v.length true/\h.get id=some (.arr 3 ro (vRw v))/\lo<id/\id<c
def mpE(key:List Int->Str)(E:List Er):List (F×D):=E.map fun p=>(.s (key p.2),p.1)
structure FmA(V:List Int->Prop)(key:List Int->Str)(Mp:Nat)(E:List Er)(h:T Ob)(c:Nat):Prop where
 m:h.get Mp=some (.map (mpE key E))
 e:∀p∈E,zs8 h Mp c p.1 p.2/\V p.2
 n:(E.map (·.2)).Nodup
 b:Mp<c
def FmA.up{V:List Int->Prop}{key:List Int->Str}{Mp:Nat}{E:List Er}{h h':T Ob}{c c':Nat}(H:FmA V key Mp E h c)(hf:∀id,Mp<=id->id<c->h'.get id=h.get id)(hc:c<=c'):FmA V key Mp E h' c':=
 ⟨by rw[hf _ (Z2 _) H.b];exact H.m,fun p hp=>by
  obtain⟨⟨id,ro,e,h1,h2,h3⟩,hv⟩ :=H.e p hp;exact⟨⟨id,ro,e,by rw[hf id (by omega) h3];exact h1,h2,by omega⟩,hv⟩,H.n,by have:=H.b;omega⟩
theorem zuw{key:List Int->Str}{k:Str}:∀{E:List Er} {i:Nat},(∀p∈E,key p.2≠k)->zcY 1 (.s k) (mpE key E) i=some none
 |[],_,_=>rfl
 |p::E,i,h=>by
  have h1:(k==key p.2)=false:=by
   have:=h p (by simp);simpa using fun e=>this e.symm
  simp only[mpE,Z10,zcY,zh5,h1];exact zuw (E:=E) fun q hq=>h q (by simp[hq])
theorem zrO{key:List Int->Str}{k:Str}:∀{E:List Er} {i:Nat},(∃p∈E,key p.2=k)->∃j d,zcY 1 (.s k) (mpE key E) i=some (some (j,d))
 |[],_,h=>by simp at h
 |p::E,i,h=>by
  simp only[mpE,Z10,zcY,zh5];cases h1:(k==key p.2)with
  |true=>exact⟨_,_,rfl⟩
  |false=>
   have h1:k≠key p.2:=by simpa using h1
   obtain⟨q,hq,e⟩ :=h;rcases Z5.1 hq with rfl|hq
   .exact absurd e.symm h1
   .exact zrO (E:=E) ⟨q,hq,e⟩
def Vr(Vz:Int->Prop)(n:Nat)(v:List Int):Prop:=v.length=n/\∀z∈v,Vz z
def znU(Vz:Int->Prop)(σ:Asg):Prop:=∀(i:Nat) (z:Int),zaF σ (.var i)=some z->Vz z
def zOG{Vz:Int->Prop}{σ:Asg}{hs:List Nat}(H:znU Vz σ)(hb:∀i∈hs,(zaF σ (.var i)).isSome=true):Vr Vz hs.length (hrow hs σ):=by
 refine⟨by simp[hrow],fun z hz=> ?_⟩;obtain⟨i,hi,rfl⟩ :=Z12.1 hz;obtain⟨y,hy⟩ :=Z158.1 (hb i hi);rw[hy];exact H i y hy
def PjP(L:List Rl)(X:Mx)(V:List Int->Prop)(key:List Int->Str)(Mp:Nat)(E:List Er)(σ:Asg)(g:Nat)(hs:List Nat)(h:T Ob)(c:Nat)(_:D)(h':T Ob)(c':Nat):Prop:=MS L h' c' X σ/\(∃E',FmA V key Mp E' h' c'/\∀v,v∈E'.map (·.2)↔v∈E.map (·.2)\/PjS L X σ g hs v)/\Lft X (fun _ id=>id=Mp) h c h'
def PjAt(L:List Rl)(X:Mx)(Vz:Int->Prop)(key:List Int->Str)(Mp c0 e:Nat)(hs:List Nat)(dE:D)(g:Nat):Prop:=∀E σ h c,MS L h c X σ->zde L X σ=true->zqH X σ g hs->znU Vz σ->St0 h c0 X->c0<=Mp->Gro h (X.V+1) e 1 dE (hsD hs)->e<=Mp->FmA (Vr Vz hs.length) key Mp E h c->Eff pr 67 [.ptr X.M 7 0 0,.f (.i .u64 g),dE,.mp Mp] h c (PjP L X (Vr Vz hs.length) key Mp E σ g hs h c)
end Go.Proofs.YtbhholaillniiaaGreatDoor
end
