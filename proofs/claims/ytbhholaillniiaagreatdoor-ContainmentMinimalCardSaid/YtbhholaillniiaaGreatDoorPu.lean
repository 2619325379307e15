/- Preparing a matcher: the atoms. -/
import Derived.Test.YtbhholaillniiaaGreatDoorPt
import Derived.KernelRfl
import Derived.IntWalk
import Derived.Test.YtbhholaillniiaaGreatDoorPs
import Derived.Test.YtbhholaillniiaaGreatDoorPo
import Derived.Test.YtbhholaillniiaaGreatDoorPp
set_option linter.all false
set_option maxRecDepth 100000
set_option maxHeartbeats 4000000
noncomputable section
section
namespace Go.Proofs.YtbhholaillniiaaGreatDoor
open Go Go.Vse Go.Vse.Sm
structure MB(L:List Rl)(ns:List Str)(S M V:Nat)(h:T Ob)(c:Nat)(dP:D)(WP:List (Pat×D))(dN:D)(WN:List (Pat×D))(dC:D)(cs:List Cnd):Prop where
 m:h.get M=some (.arr 7 0 [[.ptr S 2 0 0,.f (zah ns),dP,dN,dC,.sl V 0 ns.length 3 ns.length true,.f (.i .u64 0)]])
 v:h.get V=some (.arr 3 0 (List.replicate ns.length zc))
 P:ziK h (V+1) c dP WP
 N:ziK h (V+1) c dN WN
 C:Gro h (V+1) c 10 dC (cnD cs)
 ne:NE dP dN
 s:zdx h M S L
 o:S<M/\M<V/\V<c
def MB.up{L:List Rl}{ns:List Str}{S M V:Nat}{h h':T Ob}{c c':Nat}{dP:D}{WP:List (Pat×D)}{dN:D}{WN:List (Pat×D)}{dC:D}{cs:List Cnd}(H:MB L ns S M V h c dP WP dN WN dC cs)(hf:∀id,id<c->h'.get id=h.get id)(hc:c<=c'):MB L ns S M V h' c' dP WP dN WN dC cs:=by
 have ho:=H.o;exact⟨by rw[hf _ (by omega)];exact H.m,by rw[hf _ (by omega)];exact H.v,H.P.up (fun id _ h=>hf id h) hc,H.N.up (fun id _ h=>hf id h) hc,zaS H.C hc fun id _ h=>hf id h,H.ne,H.s.up fun id _ h2=>hf id (by omega),by omega⟩
def riN(L:List Rl)(nm:Str):Nat:=L.findIdx fun r=>r.nm==nm
def zdZ(L:List Rl)(ns:List Str)(a:Atm):Pat:=⟨riN L a.r,tsO ns a.ts⟩
def riI{L:List Rl}{nm:Str}(h:∃r∈L,r.nm=nm):zgz (fun r=>r.nm==nm) L=((riN L nm:Nat):Int)/\riN L nm<L.length:=by
 obtain⟨r,hr,e⟩ :=h;have hlt:(L.findIdx fun r=>r.nm==nm)<L.length:=List.findIdx_lt_length.2 ⟨r,hr,by simp[e]⟩;refine⟨?_,hlt⟩;have:L.findIdx? (fun r=>r.nm==nm)=some (L.findIdx fun r=>r.nm==nm):=by
  rw[Z26];refine⟨hlt,List.findIdx_getElem (w:=hlt),fun j hj=> ?_⟩;have:=List.not_of_lt_findIdx hj;simpa using this
 simp[zgz,this,riN]
def zok(L:List Rl)(ns:List Str)(l:List Atm):List Pat:=(l.filter fun a=>!a.neg).map (zdZ L ns)
def negL(L:List Rl)(ns:List Str)(l:List Atm):List Pat:=(l.filter fun a=>a.neg).map (zdZ L ns)
def zu3(W:List (Pat×D))(p:Pat×D):paD (W++[p])=paD W++[[.f (.i .i64 p.1.r),p.2,.f (.i .u64 p.1.m)]]:=by simp[paD]
def Jn0(L:List Rl)(ns:List Str)(c:CQ)(S C3 M V:Nat)(h:T Ob)(c0 k:Nat)(s:St):Prop:=(s.tm.get 0=some (.ptr S 2 0 0)/\s.tm.get 3=some (.ptr C3 2 0 0)/\s.tm.get 5=some (.ptr M 7 0 0)/\s.tm.get 34=some (.f (zcz c))/\s.tm.get 35=some (.f (.i .i64 c.as.length))/\s.tm.get 36=some (.f (.i .i64 k))/\s.h.get C3=some (.arr 2 0 [[.f (zcz c),.f (zcQ c)]]))/\(∃dP WP dN WN,MB L ns S M V s.h s.c dP WP dN WN (.f .nils) []/\WP.map (·.1)=zok L ns (c.as.take k)/\WN.map (·.1)=negL L ns (c.as.take k))/\(c0<=C3/\C3<M)/\∀id,id<c0->s.h.get id=h.get id
structure zlX(L:List Rl)(ns:List Str)(c:CQ):Prop where
 r:∀a∈c.as,∃r∈L,r.nm=a.r
 t:∀a∈c.as,∀t∈a.ts,ziq ns t
 e:∀a∈c.as,a.ts≠[]
 l:∀a∈c.as,a.ts.length<1000
 al:c.as.length<1000
 k:∀k∈c.cs,ziq ns k.l/\ziq ns k.r
 kl:c.cs.length<1000
def zdm{h h':T Ob}{lo c c' es lo2 es2:Nat}{d d2:D}{els els2:List (List D)}(hg:Gro h lo c es d els)(hp:Gro h lo2 c es2 d2 els2)(hne:es≠es2)(hh:∀id,lo<=id->id<c->d2.oid≠some id->h'.get id=h.get id)(hc:c<=c'):Gro h' lo c' es d els:=by
 rcases hg with⟨rfl,rfl⟩ |⟨id,ro,rfl,h2,h3,h4,h5,h6⟩
 .exact .inl ⟨rfl,rfl⟩
 .refine .inr ⟨id,ro,rfl,h2,?_,h4,h5,by omega⟩;rw[hh id h5 h6 fun e=> ?_]
  .exact h3
  .rcases hp with⟨rfl,_⟩ |⟨id2,ro2,rfl,_,k3,_⟩
   .simp[D.oid]at e
   .simp only[D.oid,Z45]at e;subst e;rw[h3]at k3;simp only[Z45,Ob.arr.injEq]at k3;exact hne k3.1
def zCo{h h':T Ob}{lo c c' es:Nat}{d d2:D}{els:List (List D)}(hg:Gro h lo c es d els)(hne:NE d2 d)(hh:∀id,lo<=id->id<c->d2.oid≠some id->h'.get id=h.get id)(hc:c<=c'):Gro h' lo c' es d els:=by
 rcases hg with⟨rfl,rfl⟩ |⟨id,ro,rfl,h2,h3,h4,h5,h6⟩
 .exact .inl ⟨rfl,rfl⟩
 .exact .inr ⟨id,ro,rfl,h2,by rw[hh id h5 h6 fun e=>hne id e rfl];exact h3,h4,h5,by omega⟩
theorem zO1{L:List Rl}{ns:List Str}{S M V:Nat}{h:T Ob}{c:Nat}{dP:D}{WP:List (Pat×D)}{dN:D}{WN:List (Pat×D)}{dC:D}{cs:List Cnd}(HB:MB L ns S M V h c dP WP dN WN dC cs){q:Pat}{dT:D}(gT:Gro h (V+1) c 4 dT (opD q.ts)){H:T Ob}{c1:Nat}(hH:∀id,id<c->H.get id=h.get id)(hN:c<=c1){r:Rs}(hr2:Gro (wrT H r.wr) (V+1) r.c 3 r.d (paD WP++[[.f (.i .i64 q.r),dT,.f (.i .u64 q.m)]]))(hr3:c1<=r.c)(hr4:∀id,id<c1->dP.oid≠some id->(wrT H r.wr).get id=H.get id)(hr5:∀x,r.d.oid=some x->x=c1\/dP.oid=some x){h':T Ob}{c':Nat}
  (hm:h'.get M=some (.arr 7 0 [[.ptr S 2 0 0,.f (zah ns),r.d,dN,dC,.sl V 0 ns.length 3 ns.length true,.f (.i .u64 0)]]))(hh:∀id,id≠M->h'.get id=(wrT H r.wr).get id)(hc':r.c<=c'):MB L ns S M V h' c' r.d (WP++[(q,dT)]) dN WN dC cs:=by
 have ho:=HB.o;have bP:∀x,dP.oid=some x->V+1<=x/\x<c:=fun x hx=>zbr HB.P.1 hx
 have key:∀id,id≠M->id<c->dP.oid≠some id->h'.get id=h.get id:=fun id h1 h2 h3=>(hh id h1).trans ((hr4 id (by omega) h3).trans (hH id h2))
 refine⟨hm,?_,⟨?_,fun p hp=> ?_⟩,⟨zCo HB.N.1 HB.ne (fun id h1 h2 h3=>key id (by omega) h2 h3) (by omega),fun p hp=>zdm (HB.N.2 p hp) HB.P.1 (by omega) (fun id h1 h2 h3=>key id (by omega) h2 h3) (by omega)⟩,zdm HB.C HB.P.1 (by omega) (fun id h1 h2 h3=>key id (by omega) h2 h3) (by omega),fun x hx e=> ?_,HB.s.up fun id h1 h2=>key id (by omega) (by omega) fun e=>by have:=bP _ e;omega,by omega⟩
 .rw[key V (by omega) (by omega) fun e=>by have:=bP _ e;omega];exact HB.v
 .rw[zu3];exact zaS hr2 hc' fun id h1 _=>hh id (by omega)
 .rcases Z4.1 hp with hp|hp
  .exact zdm (HB.P.2 p hp) HB.P.1 (by omega) (fun id h1 h2 h3=>key id (by omega) h2 h3) (by omega)
  .have:p=(q,dT):=by simpa using hp
   subst this;exact zdm gT HB.P.1 (by omega) (fun id h1 h2 h3=>key id (by omega) h2 h3) (by omega)
 .have hb:=zbr HB.N.1 e;rcases hr5 x hx with h1|h1
  .omega
  .exact HB.ne x h1 e
theorem zO0{L:List Rl}{ns:List Str}{S M V:Nat}{h:T Ob}{c:Nat}{dP:D}{WP:List (Pat×D)}{dN:D}{WN:List (Pat×D)}{dC:D}{cs:List Cnd}(HB:MB L ns S M V h c dP WP dN WN dC cs){q:Pat}{dT:D}(gT:Gro h (V+1) c 4 dT (opD q.ts)){H:T Ob}{c1:Nat}(hH:∀id,id<c->H.get id=h.get id)(hN:c<=c1){r:Rs}(hr2:Gro (wrT H r.wr) (V+1) r.c 3 r.d (paD WN++[[.f (.i .i64 q.r),dT,.f (.i .u64 q.m)]]))(hr3:c1<=r.c)(hr4:∀id,id<c1->dN.oid≠some id->(wrT H r.wr).get id=H.get id)(hr5:∀x,r.d.oid=some x->x=c1\/dN.oid=some x){h':T Ob}{c':Nat}
  (hm:h'.get M=some (.arr 7 0 [[.ptr S 2 0 0,.f (zah ns),dP,r.d,dC,.sl V 0 ns.length 3 ns.length true,.f (.i .u64 0)]]))(hh:∀id,id≠M->h'.get id=(wrT H r.wr).get id)(hc':r.c<=c'):MB L ns S M V h' c' dP WP r.d (WN++[(q,dT)]) dC cs:=by
 have ho:=HB.o;have hne:NE dN dP:=fun x hx e=>HB.ne x e hx
 have bP:∀x,dN.oid=some x->V+1<=x/\x<c:=fun x hx=>zbr HB.N.1 hx
 have key:∀id,id≠M->id<c->dN.oid≠some id->h'.get id=h.get id:=fun id h1 h2 h3=>(hh id h1).trans ((hr4 id (by omega) h3).trans (hH id h2))
 refine⟨hm,?_,⟨zCo HB.P.1 hne (fun id h1 h2 h3=>key id (by omega) h2 h3) (by omega),fun p hp=>zdm (HB.P.2 p hp) HB.N.1 (by omega) (fun id h1 h2 h3=>key id (by omega) h2 h3) (by omega)⟩,⟨?_,fun p hp=> ?_⟩,zdm HB.C HB.N.1 (by omega) (fun id h1 h2 h3=>key id (by omega) h2 h3) (by omega),fun x hx e=> ?_,HB.s.up fun id h1 h2=>key id (by omega) (by omega) fun e=>by have:=bP _ e;omega,by omega⟩
 .rw[key V (by omega) (by omega) fun e=>by have:=bP _ e;omega];exact HB.v
 .rw[zu3];exact zaS hr2 hc' fun id h1 _=>hh id (by omega)
 .rcases Z4.1 hp with hp|hp
  .exact zdm (HB.N.2 p hp) HB.N.1 (by omega) (fun id h1 h2 h3=>key id (by omega) h2 h3) (by omega)
  .have:p=(q,dT):=by simpa using hp
   subst this;exact zdm gT HB.N.1 (by omega) (fun id h1 h2 h3=>key id (by omega) h2 h3) (by omega)
 .have hb:=zbr HB.P.1 hx;rcases hr5 x e with h1|h1
  .omega
  .exact HB.ne x hx h1
def zIh{α β:Type}(f:α->Option β):om none f=none:=rfl
theorem nm_l0{L:List Rl}{ns:List Str}{c:CQ}{S C3 M V c0:Nat}{h:T Ob}(hn:ns.length<=6)(hC:zlX L ns c)(hLl:L.length<1000)(hLo:∀r∈L,r.co.d= .f r.co/\(D.f r.co).cells=some [.f r.co]){s:St}{K:Ex->St->Prop}
  (hJ:Jn0 L ns c S C3 M V h c0 0 s)(kx:∀s,Jn0 L ns c S C3 M V h c0 c.as.length s->K (.exit 0) s):WL pr znh s K:=by
 refine zcA c.as.length (Jn0 L ns c S C3 M V h c0) (fun e s=>e= .exit 0/\Jn0 L ns c S C3 M V h c0 c.as.length s) ?_ ?_ _ hJ ?_
 .rintro k s hlt ⟨⟨h0,h3,h5,h34,h35,h36,g3⟩,⟨dP,WP,dN,WN,HB,eP,eN⟩,hc0,hf⟩;have hw:=zau k (by have:=hC.al;omega);have hx:c.as[k]? =some c.as[k]:=Z0 hlt;have hmem:=Z1 hlt;generalize haa:c.as[k]=a at hx hmem;obtain⟨ri1,ri2⟩ :=riI (hC.r a hmem);have hta:=hC.t a hmem;have hal:=hC.l a hmem;have ho:=HB.o;have hcd:(zgd a.ts).d= .f (zgd a.ts):=zsY _;have hcc:(D.f (zgd a.ts)).cells=some [.f (zgd a.ts)]:=zcs _ _;have i1:¬S=s.c:=by omega
  unfold znh g64;simp only[rU,C.l,C.r,C.b,C.o];simp[rW,h0,h3,h5,h34,h35,h36,hlt,zo2,hx,haa,atE,hcd,hcc,i1];obtain⟨h1,hh1⟩ :∃h1,h1=(s.h.set s.c (.arr 3 0 [[.f (.s []),.f (.b false),.f .nils]])).set s.c (.arr 3 0 [[.f (.s a.r),.f (.b a.neg),.f (zgd a.ts)]]):=⟨_,rfl⟩
  have f1:∀id,id<s.c->h1.get id=s.h.get id:=fun id hid=>by rw[hh1,TG,Z49 (by omega),TG,Z49 (by omega)]
  have p7:h1.get s.c=some (.arr 3 0 [[.f (.s a.r),.f (.b a.neg),.f (zgd a.ts)]]):=by rw[hh1,TG,Z51 rfl]
  refine zbO [(0,.ptr S 2 0 0),(3,.ptr C3 2 0 0),(5,.ptr M 7 0 0),(7,.ptr s.c 3 0 0),(34,.f (zcz c)),(35,.f (.i .i64 c.as.length)),(36,.f (.i .i64 k))] (zM1 (h:=h1) (c:=s.c+1) (HB.s.up fun id _ h2=>f1 id (by omega)) (by omega) hLl hLo a.r) (by simp only[rG];exact hh1.symm) (by simp only[rG]) (by simp only[Rg];simp[rW,h0,h3,h5,h34,h35,h36]) rfl ?_;rintro s1 d1 ⟨rfl,hf1⟩ hc1 k43 ⟨k0,k3,k5,k7,k34,k35,k36,-⟩;rw[ri1]at k43;have f2:∀id,id<s.c+1->s1.h.get id=h1.get id:=hf1
  have p7':=(f2 s.c (by omega)).trans p7;have j1:¬s.c=s1.c:=by omega
  refine⟨?_⟩;simp[rW,k0,k3,k5,k7,k34,k35,k36,k43,p7',j1,zys];obtain⟨h2,hh2⟩ :∃h2,h2=(s1.h.set s1.c (.arr 3 0 [[.f (.i .i64 0),.f .nils,.f (.i .u64 0)]])).set s1.c (.arr 3 0 [[.f (.i .i64 (riN L a.r)),.f .nils,.f (.i .u64 0)]]):=⟨_,rfl⟩
  have f3:∀id,id<s1.c->h2.get id=s1.h.get id:=fun id hid=>by rw[hh2,TG,Z49 (by omega),TG,Z49 (by omega)]
  have f4:∀id,id<s.c->h2.get id=s.h.get id:=fun id hid=>(f3 id (by omega)).trans ((f2 id (by omega)).trans (f1 id hid))
  have p8:h2.get s1.c=some (.arr 3 0 [[.f (.i .i64 (riN L a.r)),.f .nils,.f (.i .u64 0)]]):=by rw[hh2,TG,Z51 rfl]
  refine nm_l2 (S3:= .ptr S 2 0 0) (C3:= .ptr C3 2 0 0) (P7:= .ptr s.c 3 0 0) (dA:= .f (zcz c)) (dL:= .f (.i .i64 c.as.length)) (h:=h2) (b8:=s1.c+1) (P8:=s1.c) (M:=M) (k0:=k) (ns:=ns) (ts:=a.ts) (n:=riN L a.r) ((f4 M (by omega)).trans HB.m) (by omega) (by omega) (by omega) hn hta hal ⟨by simp only[Rg];simp[rW,k0,k3,k5,k7,k34,k35,k36],⟨by simp[rW],by simp[rW],by simp[rW]⟩,by simp only[rG];omega,fun id _ _=>by simp only[rG];rw[hh2],.f .nils,by simp[rW,hh2];rfl,.nil⟩ ?_;rintro s2 ⟨⟨l0,l3,l5,l7,l8,l34,l35,l36,-⟩,-,hc2,hf2,dT,q8,gT⟩;have htl:(tsO ns a.ts).take a.ts.length=tsO ns a.ts:=Z11 (by simp[tsO]);rw[htl]at q8 gT;have f5:∀id,id<s.c->s2.h.get id=s.h.get id:=fun id hid=>(hf2 id (by omega) (by omega)).trans (f4 id hid)
  have HB2:=HB.up f5 (by omega:s.c<=s2.c);have q7:s2.h.get s.c=_:=(hf2 s.c (by omega) (by omega)).trans ((f3 s.c (by omega)).trans p7');have m2:=HB2.m;have dTc:=zbu gT;have hne:=hC.e a hmem;have nM:¬s2.c+1+1+1+1+1+1=M:=by omega
  obtain⟨iT,roT,eT1,eT2,eT3,eT4⟩ :=zej gT (n:=0) (by simp[opD,tsO];exact Z129.2 hne);rw[eT1]at q8 dTc;have n1:¬s1.c=M:=by omega
  simp[rW,l0,l3,l5,l7,l8,l34,l35,l36,q7];cases hneg:a.neg with
  |false=>
   simp[rW,l0,l3,l5,l7,l8,l34,l35,l36,q7,hneg];refine zay ?_;simp[rW,l0,l3,l5,l7,l8,l34,l35,l36,m2,q8,dTc,hw,zIh,nM];have gT3:Gro s2.h (V+1) s2.c 4 (.sl iT 0 (opD (tsO ns a.ts)).length 4 (opD (tsO ns a.ts)).length false) (opD (zdZ L ns a).ts):=by
    rw[<-eT1];rcases gT with⟨e1,e2⟩ |⟨id,ro,e1,e2,e3,e4,e5,e6⟩
    .exact .inl ⟨e1,e2⟩
    .exact .inr ⟨id,ro,e1,e2,e3,e4,by omega,e6⟩
   have hHH:∀id,id<s2.c->(s2.h.set (s2.c+1+1+1+1+1+1) (.arr 3 0 [[.f (.i .i64 (riN L a.r)),.sl iT 0 (opD (tsO ns a.ts)).length 4 (opD (tsO ns a.ts)).length false,.f (.i .u64 (mTs (tsO ns a.ts):Nat))]])).get id=s2.h.get id:=fun id hid=>by rw[TG,Z49 (by omega)]
   have hplen:(paD WP).length<1000:=by
    have e:=congrArg List.length eP;simp only[Z18,zok]at e;have:=(List.filter_sublist (p:=fun a:Atm=>!a.neg) (l:=c.as.take k)).length_le;have h2:=hC.al;rw[Z41]at this;simp only[paD,Z18];omega
   refine zfb (zaS (c':=s2.c+1+1+1+1+1+1+1+1) HB2.P.1 (by omega) fun id h1 h2=>hHH id h2) (by omega) (by simp only[Z23,Z170];omega) (by omega) ?_;intro r hr1 hr2 hr3 hr4 hr5;have hMne:dP.oid≠some M:=fun e=>by have:=zbr HB2.P.1 e;omega
   have m3:=(hr4 M (by omega) hMne).trans ((hHH M (by omega)).trans m2);have hrc:=zbu hr2;have j3:M<r.c+1+1+1:=by omega
   have hC3:(wrT (s2.h.set (s2.c+1+1+1+1+1+1) (.arr 3 0 [[.f (.i .i64 (riN L a.r)),.sl iT 0 (opD (tsO ns a.ts)).length 4 (opD (tsO ns a.ts)).length false,.f (.i .u64 (mTs (tsO ns a.ts):Nat))]])) r.wr).get C3=_:=(hr4 C3 (by omega) fun e=>by have:=zbr HB2.P.1 e;omega).trans ((hHH C3 (by omega)).trans ((f5 C3 (by omega)).trans g3));have n5:¬C3=M:=by omega
   simp[rW,hr1,m3,hrc,j3,hw];have htk:c.as.take (k+1)=c.as.take k++[a]:=by rw[Z105,hx];rfl
   refine⟨⟨by simp[rW,l0],by simp[rW,l3],by simp[rW,l5],by simp[rW,l34],by simp[rW,l35],by simp[rW,hw],by simp[rW,n5,hC3]⟩,⟨r.d,WP++[(zdZ L ns a,_)],dN,WN,zO1 HB2 gT3 hHH (by omega) hr2 hr3 hr4 hr5 ?_ ?_ ?_,?_,?_⟩,hc0,fun id hid=> ?_⟩
   .simp[rW]
   .intro id h1;simp[rW,h1]
   .simp only[rG];omega
   .rw[htk];simp[zok,Z99,hneg,eP]
   .rw[htk];simp[negL,Z99,hneg,eN]
   .have a1:¬id=M:=by omega
    simp[rW,a1];rw[hr4 id (by omega) fun e=>by have:=zbr HB2.P.1 e;omega,hHH id (by omega),f5 id (by omega)];exact hf id hid
  |true=>
   simp[rW,l0,l3,l5,l7,l8,l34,l35,l36,q7,hneg];refine zay ?_;simp[rW,l0,l3,l5,l7,l8,l34,l35,l36,m2,q8,dTc,hw,zIh,nM];have gT3:Gro s2.h (V+1) s2.c 4 (.sl iT 0 (opD (tsO ns a.ts)).length 4 (opD (tsO ns a.ts)).length false) (opD (zdZ L ns a).ts):=by
    rw[<-eT1];rcases gT with⟨e1,e2⟩ |⟨id,ro,e1,e2,e3,e4,e5,e6⟩
    .exact .inl ⟨e1,e2⟩
    .exact .inr ⟨id,ro,e1,e2,e3,e4,by omega,e6⟩
   have hHH:∀id,id<s2.c->(s2.h.set (s2.c+1+1+1+1+1+1) (.arr 3 0 [[.f (.i .i64 (riN L a.r)),.sl iT 0 (opD (tsO ns a.ts)).length 4 (opD (tsO ns a.ts)).length false,.f (.i .u64 (mTs (tsO ns a.ts):Nat))]])).get id=s2.h.get id:=fun id hid=>by rw[TG,Z49 (by omega)]
   have hplen:(paD WN).length<1000:=by
    have e:=congrArg List.length eN;simp only[Z18,negL]at e;have:=(List.filter_sublist (p:=fun a:Atm=>a.neg) (l:=c.as.take k)).length_le;have h2:=hC.al;rw[Z41]at this;simp only[paD,Z18];omega
   refine zfb (zaS (c':=s2.c+1+1+1+1+1+1+1+1) HB2.N.1 (by omega) fun id h1 h2=>hHH id h2) (by omega) (by simp only[Z23,Z170];omega) (by omega) ?_;intro r hr1 hr2 hr3 hr4 hr5;have hMne:dN.oid≠some M:=fun e=>by have:=zbr HB2.N.1 e;omega
   have m3:=(hr4 M (by omega) hMne).trans ((hHH M (by omega)).trans m2);have hrc:=zbu hr2;have j3:M<r.c+1+1+1:=by omega
   have hC3:(wrT (s2.h.set (s2.c+1+1+1+1+1+1) (.arr 3 0 [[.f (.i .i64 (riN L a.r)),.sl iT 0 (opD (tsO ns a.ts)).length 4 (opD (tsO ns a.ts)).length false,.f (.i .u64 (mTs (tsO ns a.ts):Nat))]])) r.wr).get C3=_:=(hr4 C3 (by omega) fun e=>by have:=zbr HB2.N.1 e;omega).trans ((hHH C3 (by omega)).trans ((f5 C3 (by omega)).trans g3));have n5:¬C3=M:=by omega
   simp[rW,hr1,m3,hrc,j3,hw];have htk:c.as.take (k+1)=c.as.take k++[a]:=by rw[Z105,hx];rfl
   refine⟨⟨by simp[rW,l0],by simp[rW,l3],by simp[rW,l5],by simp[rW,l34],by simp[rW,l35],by simp[rW,hw],by simp[rW,n5,hC3]⟩,⟨dP,WP,r.d,WN++[(zdZ L ns a,_)],zO0 HB2 gT3 hHH (by omega) hr2 hr3 hr4 hr5 ?_ ?_ ?_,?_,?_⟩,hc0,fun id hid=> ?_⟩
   .simp[rW]
   .intro id h1;simp[rW,h1]
   .simp only[rG];omega
   .rw[htk];simp[zok,Z99,hneg,eP]
   .rw[htk];simp[negL,Z99,hneg,eN]
   .have a1:¬id=M:=by omega
    simp[rW,a1];rw[hr4 id (by omega) fun e=>by have:=zbr HB2.N.1 e;omega,hHH id (by omega),f5 id (by omega)];exact hf id hid
 .rintro s ⟨⟨h0,h3,h5,h34,h35,h36,g3⟩,⟨dP,WP,dN,WN,HB,eP,eN⟩,hc0,hf⟩;unfold znh g64;simp only[rU,C.l,C.r,C.b,C.o];simp[rW,h0,h3,h5,h34,h35,h36];exact⟨⟨by simp[rW,h0],by simp[rW,h3],by simp[rW,h5],by simp[rW,h34],by simp[rW,h35],by simp[rW,h36],g3⟩,⟨dP,WP,dN,WN,HB.up (fun _ _=>rfl) (by simp only[rG];omega),eP,eN⟩,hc0,hf⟩
 .rintro e s ⟨rfl,hJ⟩;exact kx s hJ
def zzh:C:=g64.body.r.r.r.r.l.r.b.o
def zeW(ns:List Str)(k:Cm):Cnd:=⟨k.op,zcn ns k.l,zcn ns k.r⟩
def zEB(l:List Cnd)(k:Cnd):cnD (l++[k])=cnD l++[(([F.i .i64 k.op]++k.l.c++k.r.c++[F.i .u64 k.m])).map D.f]:=by simp[cnD]
theorem zOZ{L:List Rl}{ns:List Str}{S M V:Nat}{h:T Ob}{c:Nat}{dP:D}{WP:List (Pat×D)}{dN:D}{WN:List (Pat×D)}{dC:D}{cs cs':List Cnd}(HB:MB L ns S M V h c dP WP dN WN dC cs){H:T Ob}{c1:Nat}(hH:∀id,id<c->H.get id=h.get id)(hN:c<=c1){r:Rs}(hr2:Gro (wrT H r.wr) (V+1) r.c 10 r.d (cnD cs'))(hr3:c1<=r.c)(hr4:∀id,id<c1->dC.oid≠some id->(wrT H r.wr).get id=H.get id){h':T Ob}{c':Nat}
  (hm:h'.get M=some (.arr 7 0 [[.ptr S 2 0 0,.f (zah ns),dP,dN,r.d,.sl V 0 ns.length 3 ns.length true,.f (.i .u64 0)]]))(hh:∀id,id≠M->h'.get id=(wrT H r.wr).get id)(hc':r.c<=c'):MB L ns S M V h' c' dP WP dN WN r.d cs':=by
 have ho:=HB.o;have bP:∀x,dC.oid=some x->V+1<=x/\x<c:=fun x hx=>zbr HB.C hx
 have key:∀id,id≠M->id<c->dC.oid≠some id->h'.get id=h.get id:=fun id h1 h2 h3=>(hh id h1).trans ((hr4 id (by omega) h3).trans (hH id h2))
 refine⟨hm,?_,⟨zdm HB.P.1 HB.C (by omega) (fun id h1 h2 h3=>key id (by omega) h2 h3) (by omega),fun p hp=>zdm (HB.P.2 p hp) HB.C (by omega) (fun id h1 h2 h3=>key id (by omega) h2 h3) (by omega)⟩,⟨zdm HB.N.1 HB.C (by omega) (fun id h1 h2 h3=>key id (by omega) h2 h3) (by omega),fun p hp=>zdm (HB.N.2 p hp) HB.C (by omega) (fun id h1 h2 h3=>key id (by omega) h2 h3) (by omega)⟩,zaS hr2 hc' fun id h1 _=>hh id (by omega),HB.ne,HB.s.up fun id h1 h2=>key id (by omega) (by omega) fun e=>by have:=bP _ e;omega,by omega⟩;rw[key V (by omega) (by omega) fun e=>by have:=bP _ e;omega];exact HB.v
def Jn4(L:List Rl)(ns:List Str)(c:CQ)(S M V:Nat)(dP:D)(WP:List (Pat×D))(dN:D)(WN:List (Pat×D))(h:T Ob)(c0 k:Nat)(s:St):Prop:=(s.tm.get 5=some (.ptr M 7 0 0)/\s.tm.get 94=some (.f (zcQ c))/\s.tm.get 95=some (.f (.i .i64 c.cs.length))/\s.tm.get 96=some (.f (.i .i64 k)))/\(∃dC,MB L ns S M V s.h s.c dP WP dN WN dC ((c.cs.take k).map (zeW ns)))/\c0<=M/\∀id,id<c0->s.h.get id=h.get id
theorem nm_l4{L:List Rl}{ns:List Str}{c:CQ}{S M V c0:Nat}{dP:D}{WP:List (Pat×D)}{dN:D}{WN:List (Pat×D)}{h:T Ob}(hn:ns.length<=6)(hC:zlX L ns c){s:St}{K:Ex->St->Prop}
  (hJ:Jn4 L ns c S M V dP WP dN WN h c0 0 s)(kx:∀s,Jn4 L ns c S M V dP WP dN WN h c0 c.cs.length s->K (.exit 4) s):WL pr zzh s K:=by
 refine zcA c.cs.length (Jn4 L ns c S M V dP WP dN WN h c0) (fun e s=>e= .exit 4/\Jn4 L ns c S M V dP WP dN WN h c0 c.cs.length s) ?_ ?_ _ hJ ?_
 .rintro k s hlt ⟨⟨h5,h94,h95,h96⟩,⟨dC,HB⟩,hc0,hf⟩;have hw:=zau k (by have:=hC.kl;omega);have hx:c.cs[k]? =some c.cs[k]:=Z0 hlt;have hmem:=Z1 hlt;generalize hqq:c.cs[k]=q at hx hmem;obtain⟨hil,hir⟩ :=hC.k q hmem;have ho:=HB.o;have tmd:∀t:Trm,∃a b c d,tmF t=[a,b,c,d]/\a.d= .f a/\b.d= .f b/\c.d= .f c/\d.d= .f d/\(D.f a).cells=some [.f a]/\(D.f b).cells=some [.f b]/\(D.f c).cells=some [.f c]/\(D.f d).cells=some [.f d]:=fun t=>by cases t<;>exact⟨_,_,_,_,rfl,rfl,rfl,rfl,rfl,rfl,rfl,rfl,rfl⟩
  obtain⟨l0,l1,l2,l3,el,a0,a1,a2,a3,a4,a5,a6,a7⟩ :=tmd q.l;obtain⟨r0,r1,r2,r3,er,b0,b1,b2,b3,b4,b5,b6,b7⟩ :=tmd q.r;have hq:cmF q=[.i .i64 q.op,l0,l1,l2,l3,r0,r1,r2,r3]:=by simp[cmF,el,er]
  obtain⟨ol0,ol1,ol2,ol3,eol⟩ :=zkq (zcn ns q.l);obtain⟨or0,or1,or2,or3,eor⟩ :=zkq (zcn ns q.r);have hODl:OpD (zcn ns q.l)= .tu [.ag [.f ol0,.f ol1,.f ol2,.f ol3],.f (.i .u64 ((zcn ns q.l).m:Nat))]:=by unfold OpD;rw[eol];rfl
  have hODr:OpD (zcn ns q.r)= .tu [.ag [.f or0,.f or1,.f or2,.f or3],.f (.i .u64 ((zcn ns q.r).m:Nat))]:=by unfold OpD;rw[eor];rfl
  have hor:=zl4 (zk0 (zgC hil) hn) (zk0 (zgC hir) hn);have i1:¬M=s.c:=by omega
  unfold zzh g64;simp only[rU,C.l,C.r,C.b,C.o];simp[rW,h5,h94,h95,h96,hlt,zMN,hx,hqq,hq,i1,a0,a1,a2,a3,b0,b1,b2,b3];have hrw:[D.f l0,D.f l1,D.f l2,D.f l3]=(tmF q.l).map D.f:=by rw[el];rfl
  rw[hrw];obtain⟨row,hrow⟩ :∃row:List D,row=[.f (.i .i64 q.op),.f l0,.f l1,.f l2,.f l3,.f r0,.f r1,.f r2,.f r3]:=⟨_,rfl⟩
  obtain⟨h1,hh1⟩ :∃h1,h1=(s.h.set s.c (.arr 9 0 [[.f (.i .i64 0),.f (.s []),.f (.i .i64 0),.f (.i .i64 0),.f (.s []),.f (.s []),.f (.i .i64 0),.f (.i .i64 0),.f (.s [])]])).set s.c (.arr 9 0 [[.f (.i .i64 q.op),.f l0,.f l1,.f l2,.f l3,.f r0,.f r1,.f r2,.f r3]]):=⟨_,rfl⟩
  have f1:∀id,id<s.c->h1.get id=s.h.get id:=fun id hid=>by rw[hh1,TG,Z49 (by omega),TG,Z49 (by omega)]
  have p14:h1.get s.c=some (.arr 9 0 [[.f (.i .i64 q.op),.f l0,.f l1,.f l2,.f l3,.f r0,.f r1,.f r2,.f r3]]):=by rw[hh1,TG,Z51 rfl]
  refine zbO [(5,.ptr M 7 0 0),(14,.ptr s.c 9 0 0),(94,.f (zcQ c)),(95,.f (.i .i64 c.cs.length)),(96,.f (.i .i64 k))] (zuj (h:=h1) (c:=s.c+1) ((f1 M (by omega)).trans HB.m) (by omega) hn hil) (by simp only[rG];exact hh1.symm) (by simp only[rG]) (by simp only[Rg];simp[rW,h5,h94,h95,h96]) rfl ?_;rintro s1 d1 ⟨rfl,hf1⟩ hc1 k104 ⟨k5,k14,k94,k95,k96,-⟩;rw[hODl]at k104;have p14':=(hf1 s.c (by omega)).trans p14;have j1:¬s.c=s1.c:=by omega
  have j2:¬M=s1.c:=by omega
  generalize hml:(zcn ns q.l).m=ml at k104 hor;refine⟨?_⟩;simp[rW,k5,k14,k94,k95,k96,k104,p14',j1,j2];have hrw2:[D.f r0,D.f r1,D.f r2,D.f r3]=(tmF q.r).map D.f:=by rw[er];rfl
  rw[hrw2];obtain⟨h2,hh2⟩ :∃h2,h2=(s1.h.set s1.c (.arr 4 0 [[.f (.i .i64 0),.f (.i .i64 0),.f (.i .i64 0),.f (.s [])]])).set s1.c (.arr 4 0 [[.f ol0,.f ol1,.f ol2,.f ol3]]):=⟨_,rfl⟩
  have f2:∀id,id<s1.c->h2.get id=s1.h.get id:=fun id hid=>by rw[hh2,TG,Z49 (by omega),TG,Z49 (by omega)]
  have f12:∀id,id<s.c->h2.get id=s.h.get id:=fun id hid=>(f2 id (by omega)).trans ((hf1 id (by omega)).trans (f1 id hid))
  have p15:h2.get s1.c=some (.arr 4 0 [[.f ol0,.f ol1,.f ol2,.f ol3]]):=by rw[hh2,TG,Z51 rfl]
  refine zbO [(5,.ptr M 7 0 0),(14,.ptr s.c 9 0 0),(15,.ptr s1.c 4 0 0),(16,.f (.i .u64 ml)),(94,.f (zcQ c)),(95,.f (.i .i64 c.cs.length)),(96,.f (.i .i64 k))] (zuj (h:=h2) (c:=s1.c+1) ((f12 M (by omega)).trans HB.m) (by omega) hn hir) (by simp only[rG];exact hh2.symm) (by simp only[rG]) (by simp only[Rg];simp[rW,k5,k14,k94,k95,k96]) rfl ?_;rintro s2 d2 ⟨rfl,hf2⟩ hc2 l111 ⟨l5,l14,l15,l16,l94,l95,l96,-⟩;rw[hODr]at l111;have f3:∀id,id<s.c->s2.h.get id=s.h.get id:=fun id hid=>(hf2 id (by omega)).trans (f12 id hid)
  have q14:=(hf2 s.c (by omega)).trans ((f2 s.c (by omega)).trans p14');have q15:=(hf2 s1.c (by omega)).trans p15;have q5:=(f3 M (by omega)).trans HB.m;generalize hmr:(zcn ns q.r).m=mr at l111 hor;have n1:¬s.c=s2.c:=by omega
  have n2:¬M=s2.c:=by omega
  have n3:¬s1.c=s2.c:=by omega
  refine⟨?_⟩;simp[rW,l5,l14,l15,l16,l94,l95,l96,l111,n1,n2,n3];refine zay ?_;simp[rW,l5,l14,l15,l16,l94,l95,l96,l111,n1,n2,n3,q5,q14,q15,hor,hw];obtain⟨H,hHe⟩ :∃H,H=(s2.h.set s2.c (.arr 4 0 [[.f (.i .i64 0),.f (.i .i64 0),.f (.i .i64 0),.f (.s [])]])).set s2.c (.arr 4 0 [[.f or0,.f or1,.f or2,.f or3]]):=⟨_,rfl⟩
  rw[<-hHe];have hHH:∀id,id<s.c->H.get id=s.h.get id:=fun id hid=>by rw[hHe,TG,Z49 (by omega),TG,Z49 (by omega)];exact f3 id hid
  have hkl:=hC.kl;have hlen:(cnD ((c.cs.take k).map (zeW ns))).length<=k:=by simp[cnD];omega
  have htk:(c.cs.take (k+1)).map (zeW ns)=(c.cs.take k).map (zeW ns)++[zeW ns q]:=by rw[Z105,hx];simp
  have hsn:cnD ((c.cs.take k).map (zeW ns))++[[.f (.i .i64 q.op),.f ol0,.f ol1,.f ol2,.f ol3,.f or0,.f or1,.f or2,.f or3,.f (.i .u64 ((ml|||mr:Nat):Int))]]=cnD ((c.cs.take (k+1)).map (zeW ns)):=by
   rw[htk,zEB];simp[zeW,Cnd.m,eol,eor,hml,hmr]
  refine zfb (zaS (c':=s2.c+1+1+1+1+1+1+1+1+1+1+1+1+1+1+1) HB.C (by omega) fun id h1 h2=>hHH id h2) (by omega) (by simp only[Z23,Z170];omega) (by omega) ?_;intro r hr1 hr2 hr3 hr4 hr5;rw[hsn]at hr2;have hMne:dC.oid≠some M:=fun e=>by have:=zbr HB.C e;omega
  have m3:=(hr4 M (by omega) hMne).trans ((hHH M (by omega)).trans HB.m);have hrc:=zbu hr2;have j3:M<r.c+1+1+1:=by omega
  simp[rW,hr1,m3,hrc,j3,hw];refine⟨⟨by simp[rW,l5],by simp[rW,l94],by simp[rW,l95],by simp[rW,hw]⟩,⟨r.d,zOZ HB hHH (by omega) hr2 hr3 hr4 ?_ ?_ ?_⟩,hc0,fun id hid=> ?_⟩
  .simp[rW]
  .intro id h1;simp[rW,h1,hHe]
  .simp only[rG];omega
  .have a1:¬id=M:=by omega
   simp[rW,a1];rw[<-hHe,hr4 id (by omega) fun e=>by have:=zbr HB.C e;omega,hHH id (by omega)];exact hf id hid
 .rintro s ⟨⟨h5,h94,h95,h96⟩,⟨dC,HB⟩,hc0,hf⟩;unfold zzh g64;simp only[rU,C.l,C.r,C.b,C.o];simp[rW,h5,h94,h95,h96];exact⟨⟨by simp[rW,h5],by simp[rW,h94],by simp[rW,h95],by simp[rW,h96]⟩,⟨dC,HB.up (fun _ _=>rfl) (by simp only[rG];omega)⟩,hc0,hf⟩
 .rintro e s ⟨rfl,hJ⟩;exact kx s hJ
structure zjY(L:List Rl)(ns:List Str)(c:CQ)(X:Mx):Prop where
 nE:X.ns=ns
 P:X.WP.map (·.1)=zok L ns c.as
 N:X.WN.map (·.1)=negL L ns c.as
 cE:X.cs=c.cs.map (zeW ns)
structure zk5(L:List Rl)(ns:List Str)(c:CQ):Prop where
 i:zlX L ns c
 n:ns.length<=6
 a:∀a∈c.as,∀r,L[riN L a.r]? =some r->∀t∈r.tu,t.1.length=a.ts.length
 p:(c.as.filter fun a=>!a.neg).length<=6
 o:∀k∈c.cs,k.op=1\/k.op=2\/k.op=3\/k.op=4
structure zjZ(L:List Rl):Prop where
 l:L.length<1000
 o:∀r∈L,r.co.d= .f r.co/\(D.f r.co).cells=some [.f r.co]
 r:∀r∈L,RlO r
def mxO{L:List Rl}{ns:List Str}{c:CQ}{X:Mx}(HL:zjZ L)(HC:zk5 L ns c)(H:zjY L ns c X):MxO X L:=by
 have key:∀a∈c.as,zyR L X.ns.length (zdZ L ns a):=fun a ha=>by
  rw[H.nE];exact⟨(riI (HC.i.r a ha)).2,by simp[zdZ,tsO];exact HC.i.e a ha,by simpa [zdZ,tsO]using HC.i.l a ha,fun t ht=>by
   obtain⟨u,hu,rfl⟩ :=Z12.1 ht;exact zgC (HC.i.t a ha u hu),fun r hr t ht=>by simpa [zdZ,tsO]using HC.a a ha r hr t ht⟩
 refine⟨fun k hk=> ?_,?_,fun q hq=> ?_,fun q hq=> ?_,?_,?_,HL.r⟩
 .rw[H.cE]at hk;obtain⟨u,hu,rfl⟩ :=Z12.1 hk;rw[H.nE];exact⟨⟨zgC (HC.i.k u hu).1,zgC (HC.i.k u hu).2⟩,HC.o u hu⟩
 .rw[H.cE,Z18];exact HC.i.kl
 .have:q.1∈negL L ns c.as:=by rw[<-H.N];exact List.mem_map_of_mem hq
  obtain⟨a,ha,e⟩ :=Z12.1 this;rw[<-e];exact key a ((Z57.1 ha).1)
 .have:q.1∈zok L ns c.as:=by rw[<-H.P];exact List.mem_map_of_mem hq
  obtain⟨a,ha,e⟩ :=Z12.1 this;rw[<-e];exact key a ((Z57.1 ha).1)
 .have e:=congrArg List.length H.N;simp only[Z18,negL]at e;have:=(List.filter_sublist (p:=fun a:Atm=>a.neg) (l:=c.as)).length_le;have:=HC.i.al;omega
 .have e:=congrArg List.length H.P;simp only[Z18,zok]at e;rw[e];exact HC.p
def NmP(L:List Rl)(ns:List Str)(c:CQ)(S:Nat)(h:T Ob)(c0:Nat)(d:D)(h':T Ob)(c':Nat):Prop:=∃X:Mx,d= .ptr X.M 7 0 0/\zjY L ns c X/\X.S=S/\c0<X.M/\MS L h' c' X (e0 X)/\∀id,id<c0->h'.get id=h.get id
def zdx.lo{h:T Ob}{lo lo' S:Nat}{L:List Rl}(H:zdx h lo S L)(hl:lo<=lo'):zdx h lo' S L:=by
 obtain⟨⟨PR,W,a1,a2,a3,a4,a5⟩,h1⟩ :=H;refine⟨⟨PR,W,a1,a2,by omega,a4,fun i r hr=> ?_⟩,by omega⟩;obtain⟨d,b1,b2⟩ :=a5 i r hr;exact⟨d,b1,b2.imp_right fun⟨id,c1,c2,c3,c4⟩ =>⟨id,c1,c2,by omega,c4⟩⟩
def mb_ms{L:List Rl}{ns:List Str}{c:CQ}{S M V:Nat}{h:T Ob}{n:Nat}{dP:D}{WP:List (Pat×D)}{dN:D}{WN:List (Pat×D)}{dC:D}{cs:List Cnd}(HB:MB L ns S M V h n dP WP dN WN dC cs)(hn:ns.length<=6)(HO:MxO ⟨ns,M,V,S,dP,WP,dN,WN,dC,cs⟩ L):MS L h n ⟨ns,M,V,S,dP,WP,dN,WN,dC,cs⟩ (e0 ⟨ns,M,V,S,dP,WP,dN,WN,dC,cs⟩):=by
 refine⟨⟨?_,⟨_,HB.v,by simp,fun x hx=> ?_,fun i z hz=>absurd hz (zuh _ i z)⟩,by simp[e0],by simpa [e0]using hn,HB.P,HB.N,HB.C,HB.o⟩,HB.s,HO⟩
 .unfold e0;rw[zuY];exact HB.m
 .rw[List.eq_of_mem_replicate hx];exact⟨0,0,rfl⟩
def eff64{L:List Rl}{ns:List Str}{c:CQ}{h:T Ob}{c0 S:Nat}(HL:zjZ L)(HC:zk5 L ns c)(HS:zdx h c0 S L)(hv:Ans pr 75 [.ag (cqF c)] (zah ns)):Eff pr 64 [.ptr S 2 0 0,.ag ((cqF c).map D.f)] h c0 (NmP L ns c S h c0):=by
 refine zcm kps fn64 (fun d h' c' ⟨X,e1,_,_,_,_⟩ hd _=>by rw[e1]at hd;cases hd) ?_;have q1:=fun k=>zad (k:=k) hv
 have hn:=HC.n;have hl:=HS.l;have n1:¬c0+1=c0:=by omega
 have n2:¬c0=c0+1:=by omega
 have n3:¬c0=c0+1+1:=by omega
 have n4:¬c0+1=c0+1+1:=by omega
 have m1:ns.length<=zaB:=by have:=zcZ (n:=ns.length) (by omega);simpa using this
 have m2:ns.length*32<=zaB:=by have:=zcZ (n:=ns.length*32) (by omega);simpa using this
 have ec:cqF c=[zcz c,zcQ c]:=rfl;have hsd:(zah ns).d= .f (zah ns):=za4 ns;have hsc:(D.f (zah ns)).cells=some [.f (zah ns)]:=zcs _ _;obtain⟨h1,hh1⟩ :∃h1,h1=(((h.set c0 (.arr 2 0 [[.f (zcz c),.f (zcQ c)]])).set (c0+1) (.arr 7 0 [[.ptr S 2 0 0,.f (zah ns),.f .nils,.f .nils,.f .nils,.f .nils,.f (.i .u64 0)]])).set (c0+1+1) (.arr 3 0 (List.replicate ns.length [.f (.i .i64 0),.f (.i .i64 0),.f (.s [])]))).set (c0+1) (.arr 7 0 [[.ptr S 2 0 0,.f (zah ns),.f .nils,.f .nils,.f .nils,.sl (c0+1+1) 0 ns.length 3 ns.length true,.f (.i .u64 0)]]):=⟨_,rfl⟩
 have f1:∀id,id<c0->h1.get id=h.get id:=fun id hid=>by rw[hh1,TG,Z49 (by omega),TG,Z49 (by omega),TG,Z49 (by omega),TG,Z49 (by omega)]
 have HB0:MB L ns S (c0+1) (c0+1+1) h1 (c0+1+1+1) (.f .nils) [] (.f .nils) [] (.f .nils) []:=⟨by rw[hh1,TG,Z51 rfl],by rw[hh1,TG,Z49 (by omega),TG,Z51 rfl];rfl,⟨.nil,by simp⟩,⟨.nil,by simp⟩,.nil,fun x hx=>by simp[D.oid]at hx,(HS.up fun id _ h2=>f1 id h2).lo (by omega),by omega⟩
 have g3:h1.get c0=some (.arr 2 0 [[.f (zcz c),.f (zcQ c)]]):=by rw[hh1,TG,Z49 (by omega),TG,Z49 (by omega),TG,Z49 (by omega),TG,Z51 rfl]
 simp only[g64,rU];rw[ec]at q1|-;simp[rW,st0,zal,q1,hsd,hsc,n1,n2,n3,n4,zdw,m1,m2,zkJ];refine nm_l0 (L:=L) (ns:=ns) (c:=c) (S:=S) (C3:=c0) (M:=c0+1) (V:=c0+1+1) (c0:=c0) (h:=h) hn HC.i HL.l HL.o ⟨⟨by simp[rW],by simp[rW],by simp[rW],by simp[rW],by simp[rW],by simp[rW],by simp only[rG];rw[<-hh1];exact g3⟩,⟨.f .nils,[],.f .nils,[],?_,rfl,rfl⟩,by omega,fun id hid=>by simp only[rG];rw[<-hh1];exact f1 id hid⟩ ?_
 .simp only[rG];rw[<-hh1];exact HB0
 rintro s1 ⟨⟨h0,h3,h5,h34,h35,h36,g3'⟩,⟨dP,WP,dN,WN,HB,eP,eN⟩,hc0,hf⟩;rw[Z7]at eP eN;simp[rW,h0,h3,h5,h34,h35,h36,g3',zqN];refine nm_l4 (L:=L) (ns:=ns) (c:=c) (S:=S) (M:=c0+1) (V:=c0+1+1) (dP:=dP) (WP:=WP) (dN:=dN) (WN:=WN) (h:=h) (c0:=c0) hn HC.i ⟨⟨by simp[rW,h5],by simp[rW],by simp[rW],by simp[rW]⟩,⟨.f .nils,HB.up (fun _ _=>rfl) (by first|(simp only[rG];omega)|(simp only[rG];exact Z2 _)|exact Z2 _)⟩,by omega,hf⟩ ?_;rintro s2 ⟨⟨k5,k94,k95,k96⟩,⟨dC,HB2⟩,_,hf2⟩;rw[Z7]at HB2;have hIs:zjY L ns c ⟨ns,c0+1,c0+1+1,S,dP,WP,dN,WN,dC,c.cs.map (zeW ns)⟩ :=⟨rfl,eP,eN,rfl⟩
 simp[rW,k5,zaV];exact⟨⟨ns,c0+1,c0+1+1,S,dP,WP,dN,WN,dC,c.cs.map (zeW ns)⟩,rfl,hIs,rfl,Nat.lt_succ_self c0,mb_ms (c:=c) HB2 hn (mxO HL HC hIs),hf2⟩
structure Full(L:List Rl)(X:Mx)(σ:Asg)(g:Nat)(τ:Asg):Prop where
 e:Ext σ τ
 a:∀i q,g.testBit i=true->X.WP[i]? =some q->AtT L τ q.1
 c:zde L X τ=true
 d:∀j,(zaF τ (.var j)).isSome=true->(zaF σ (.var j)).isSome=true\/∃i q,g.testBit i=true/\X.WP[i]? =some q/\q.1.m.testBit j=true
def zGB{σ:Asg}{p:Pat}{v:List Int}(h:zc3 σ p.ts=some v){j:Nat}(hj:p.m.testBit j=true):(zaF σ (.var j)).isSome=true:=by
 rw[zhK]at hj;obtain⟨t,ht,h2⟩ :=Z30.1 hj;have:=zlM h t ht;rw[(zf5 t j).1 h2]at this;exact this
def zhb{L:List Rl}{X:Mx}{σ τ:Asg}{p:Pat}{v:List Int}:zda L X σ p v=some τ↔zd8 σ p.ts v=some τ/\zde L X τ=true:=by
 unfold zda;rw[Option.filter_eq_some_iff]
def rowOf(τ:Asg):List Int:=τ.map fun o=>o.getD 0
def znQ(τ:Asg):Prop:=∀i,i<τ.length->∃z,τ[i]? =some (some z)
def zfX(ns:List Str)(v:List Int):Trm->Int
 | .var s=>v.getD (ns.findIdx fun x=>s==x) 0
 | .cst n=>n
structure zkz(L:List Rl)(ns:List Str)(c:CQ)(v:List Int):Prop where
 l:v.length=ns.length
 a:∀a∈c.as,hasB L (riN L a.r) (a.ts.map (zfX ns v))= !a.neg
 k:∀k∈c.cs,zqM k.op (zfX ns v k.l) (zfX ns v k.r)=true
structure CqB(ns:List Str)(c:CQ):Prop where
 n:ns.Nodup
 b:∀s∈ns,∃a∈c.as,a.neg=false/\Trm.var s∈a.ts
def zhq{ns:List Str}(h:ns.Nodup){j:Nat}(hj:j<ns.length):(ns.findIdx fun x=>ns[j]==x)=j:=by
 have hlt:(ns.findIdx fun x=>ns[j]==x)<ns.length:=List.findIdx_lt_length.2 ⟨ns[j],Z1 hj,by simp⟩;have e:=List.findIdx_getElem (w:=hlt);simp only[beq_iff_eq]at e;exact ((List.getElem_inj h).1 e).symm
def zvr{τ:Asg}(ha:znQ τ){i:Nat}(hi:i<τ.length):zaF τ (.var i)=some ((rowOf τ).getD i 0):=by
 obtain⟨z,hz⟩ :=ha i hi;simp[zaF,rowOf,hz,List.getD]
def zqr{ns:List Str}{τ:Asg}(ha:znQ τ)(hl:τ.length=ns.length){t:Trm}(ht:ziq ns t):zaF τ (zcn ns t)=some (zfX ns (rowOf τ) t):=by
 cases t with
 |cst n=>rfl
 |var s=>exact zvr ha (by rw[hl];exact (zgQ ht.2).2)
theorem zqp{ns:List Str}{τ:Asg}(ha:znQ τ)(hl:τ.length=ns.length):∀{ts:List Trm},(∀t∈ts,ziq ns t)->zc3 τ (tsO ns ts)=some (ts.map (zfX ns (rowOf τ)))
 |[],_=>rfl
 |t::l,h=>by
  simp only[tsO,Z10,zc3,zqr ha hl (h t (by simp))];have:=zqp ha hl (ts:=l) fun x hx=>h x (by simp[hx])
  unfold tsO at this;rw[this]
def zkI(n i:Nat):(2 ^ n - 1).testBit i=decide (i<n):=Nat.testBit_two_pow_sub_one n i
def ziI{L:List Rl}{ns:List Str}{c:CQ}{X:Mx}(hX:zjY L ns c X)(hC:zk5 L ns c)(hB:CqB ns c)(τ:Asg):Full L X (e0 X) (2 ^ X.WP.length - 1) τ↔znQ τ/\zkz L ns c (rowOf τ):=by
  have hrl:∀τ:Asg,(rowOf τ).length=τ.length:=fun τ=>by simp[rowOf]
  have hns:X.ns.length=ns.length:=by rw[hX.nE]
  constructor
  . intro H;have hl:τ.length=ns.length:=by rw[H.e.1];simp[e0,hns]
    have hall:znQ τ:=fun i hi=>by
      have hin:i<ns.length:=by omega
      obtain⟨a,ha,hneg,hts⟩ :=hB.b ns[i] (Z1 hin);have hm:zdZ L ns a∈X.WP.map (·.1):=by
        rw[hX.P];exact List.mem_map_of_mem (Z57.2 ⟨ha,by simp[hneg]⟩)
      obtain⟨q,hq,e⟩ :=Z12.1 hm;obtain⟨j,hj,rfl⟩ :=Z101.1 hq;obtain⟨v,hv,_⟩ :=H.a j _ (by rw[zkI];simpa using hj) (Z0 hj);have h2:=zlM hv (.var i) (by
        rw[e];show Opn.var i∈(a.ts.map (zcn ns));refine Z12.2 ⟨_,hts,?_⟩;simp only[zcn];rw[zhq hB.n hin])
      obtain⟨z,hz⟩ :=Z158.1 h2;refine⟨z,?_⟩;simp only[zaF]at hz;cases hh:τ[i]? with
      |none=>rw[hh]at hz;cases hz
      |some o=>rw[hh]at hz;exact congrArg some hz
    have hcon:=H.c;unfold zde at hcon;rw[Z14]at hcon;refine⟨hall,by rw[hrl,hl],fun a ha=> ?_,fun k hk=> ?_⟩
    . have hvl:=zqp hall hl (hC.i.t a ha);cases hneg:a.neg with
      | false=>
        have hm:zdZ L ns a∈X.WP.map (·.1):=by
          rw[hX.P];exact List.mem_map_of_mem (Z57.2 ⟨ha,by simp[hneg]⟩)
        obtain⟨q,hq,e⟩ :=Z12.1 hm;obtain⟨j,hj,rfl⟩ :=Z101.1 hq;obtain⟨v,hv,hb⟩ :=H.a j _ (by rw[zkI];simpa using hj) (Z0 hj);rw[e]at hv hb;have:zc3 τ (zdZ L ns a).ts=_:=hvl;rw[this]at hv;cases hv;exact hb
      | true=>
        have hm:zdZ L ns a∈X.WN.map (·.1):=by
          rw[hX.N];exact List.mem_map_of_mem (Z57.2 ⟨ha,by simp[hneg]⟩)
        obtain⟨q,hq,e⟩ :=Z12.1 hm;have h2:=Z50.1 hcon.2 q hq;unfold zhs at h2;rw[e]at h2;have:zc3 τ (zdZ L ns a).ts=_:=hvl;rw[this]at h2;have h3:(!hasB L (riN L a.r) (a.ts.map (zfX ns (rowOf τ))))=true:=h2;simpa using h3
    . have hm:zeW ns k∈X.cs:=by rw[hX.cE];exact List.mem_map_of_mem hk
      have h2:=Z50.1 hcon.1 _ hm;unfold zhh at h2;rw[show(zeW ns k).l=zcn ns k.l from rfl,show(zeW ns k).r=zcn ns k.r from rfl,zqr hall hl (hC.i.k k hk).1,zqr hall hl (hC.i.k k hk).2]at h2;exact h2
  . rintro⟨hall,H⟩;have hl:τ.length=ns.length:=by rw[<-hrl];exact H.l
    refine⟨zpc X (by rw[hl,hns]),fun i q hi hq=> ?_,?_,fun j hj=> ?_⟩
    . have hm:q.1∈X.WP.map (·.1):=List.mem_map_of_mem (Z39 hq);rw[hX.P]at hm;obtain⟨a,ha,e⟩ :=Z12.1 hm;obtain⟨ha,hneg⟩ :=Z57.1 ha;have h2:=H.a a ha;have hneg:a.neg=false:=by simpa using hneg
      rw[hneg]at h2;rw[<-e];exact⟨_,zqp hall hl (hC.i.t a ha),h2⟩
    . unfold zde;rw[Z14];refine⟨Z50.2 fun k hk=> ?_,Z50.2 fun q hq=> ?_⟩
      . rw[hX.cE]at hk;obtain⟨u,hu,rfl⟩ :=Z12.1 hk;unfold zhh;rw[show(zeW ns u).l=zcn ns u.l from rfl,show(zeW ns u).r=zcn ns u.r from rfl,zqr hall hl (hC.i.k u hu).1,zqr hall hl (hC.i.k u hu).2];exact H.k u hu
      . have hm:q.1∈X.WN.map (·.1):=List.mem_map_of_mem hq;rw[hX.N]at hm;obtain⟨a,ha,e⟩ :=Z12.1 hm;obtain⟨ha,hneg⟩ :=Z57.1 ha;have h2:=H.a a ha;rw[hneg]at h2;unfold zhs;rw[<-e];have:zc3 τ (zdZ L ns a).ts=_:=zqp hall hl (hC.i.t a ha);rw[this];have h3:hasB L (zdZ L ns a).r (a.ts.map (zfX ns (rowOf τ)))=false:=h2;simp[h3]
    . have hjl:j<ns.length:=by
        rcases Z145 j ns.length with h|h
        . exact h
        . simp only[zaF]at hj;rw[Z97 (by omega)]at hj;cases hj
      obtain⟨a,ha,hneg,hts⟩ :=hB.b ns[j] (Z1 hjl);have hm:zdZ L ns a∈X.WP.map (·.1):=by
        rw[hX.P];exact List.mem_map_of_mem (Z57.2 ⟨ha,by simp[hneg]⟩)
      obtain⟨q,hq,e⟩ :=Z12.1 hm;obtain⟨i,hi,rfl⟩ :=Z101.1 hq;refine .inr ⟨i,_,by rw[zkI];simpa using hi,Z0 hi,?_⟩;rw[e,zhK];refine Z30.2 ⟨.var j,Z12.2 ⟨_,hts,?_⟩,(zf5 _ j).2 rfl⟩;simp only[zcn];rw[zhq hB.n hjl]
def zGJ(h:T Ob)(c:Nat)(d:D)(vs:List (List Int)):Prop:=(d= .f .nils/\vs=[])\/∃id ex R,d= .sl id 0 vs.length 1 vs.length ex/\h.get id=some (.arr 1 0 (rE R))/\R.map (·.2)=vs/\vs≠[]/\∀p∈R,zgb h c p.1 p.2
def zFb{h:T Ob}{c:Nat}{d:D}{v:List Int}(H:zgb h c d v)(k:Nat):∃rd,frz h.get (k+2) d=some (.sl 3 (v.map Sm.vF),rd):=by
 obtain⟨id,ro,ex,rfl,hg,_⟩ :=H;refine⟨[id],?_⟩;have e:((vRw v).drop 0).take v.length=vRw v:=by
  rw[Z34,Z11 (by simp[vRw])]
 have h2:=zlA h.get k (v.map Sm.vF);rw[zfm,hg];simp only[om,Z46,fzS];rw[Z51 (by simp[vRw]),e];unfold vRw;rw[h2];rfl
theorem zx9{h:T Ob}{c:Nat}(k:Nat):∀{R:List Er},(∀p∈R,zgb h c p.1 p.2)->∃rd,zaQ (frz h.get (k+2)) (rE R)=some (R.map fun p=>[F.sl 3 (p.2.map Sm.vF)],rd)
 |[],_=>⟨[],rfl⟩
 |p::R,H=>by
  obtain⟨rd,h1⟩ :=zx9 k (R:=R) fun q hq=>H q (by simp[hq])
  obtain⟨rd2,h4⟩ :=zFb (H p (by simp)) k;refine⟨(rd2++[])++rd,?_⟩;show zaQ (frz h.get (k+2)) ([p.1]::rE R)=_;rw[zsB,h1];simp only[zaX,h4,zdQ,zEZ,zE0];rfl
def zLP{h:T Ob}{c:Nat}{d:D}{vs:List (List Int)}(H:zGJ h c d vs)(k:Nat):∃rd,frz h.get (k+3) d=some (zfW vs,rd):=by
 rcases H with⟨rfl,rfl⟩ |⟨id,ex,R,rfl,hg,rfl,hne,hr⟩
 .exact⟨[],rfl⟩
 .obtain⟨rd,h1⟩ :=zx9 k hr;have hl:(rE R).length=(R.map (·.2)).length:=by simp[rE]
  have e:((rE R).drop 0).take (R.map (·.2)).length=rE R:=by
   rw[Z34,Z11 (by omega)]
  have en:zfW (R.map (·.2))= .sl 1 (R.map fun p=>[F.sl 3 (p.2.map Sm.vF)]):=by
   cases R with
   |nil=>exact absurd rfl hne
   |cons p R=>simp[zfW,slc]
  refine⟨id::rd,?_⟩;rw[zfm,hg];simp only[om,Z46,fzS];rw[Z51 (by simp[rE]),e,h1,en];rfl
def zDS{L:List Rl}{h0 h:T Ob}{c0 c:Nat}{W:List (D×Nat×List Nat)}(H:SR L h0 c0 (L.map Go.Proofs.YtbhholaillniiaaGreatDoor.vF) h c W):zdx h c (c0+1) L:=by
  have hc:=H.c;have hWl:W.length=L.length:=by have:=congrArg List.length H.v;simpa using this
  refine⟨⟨c0,W.map (·.1),H.s,?_,by omega,by simpa using hWl,fun i r hr=> ?_⟩,by omega⟩
  . rw[H.p.r];simp[Z33,Z67]
  . have hv:(W.map (·.2))[i]? =some (Go.Proofs.YtbhholaillniiaaGreatDoor.vF r):=by rw[H.v,Z36,hr];rfl
    rw[Z36]at hv;cases hw:W[i]? with
    |none=>rw[hw]at hv;cases hv
    | some p=>
      rw[hw]at hv;simp only[Z134,Z45]at hv;refine⟨p.1,by rw[Z36,hw];rfl,?_⟩;have hg:=H.p.g p (Z39 hw);rw[hv]at hg;rcases hg with⟨h1,h2,h3⟩ |⟨id,jk,h1,h2,h3,h4,h5,h6⟩
      . exact .inl ⟨h1,h2⟩
      . have hj:jk=[]:=by
          simp only[Go.Proofs.YtbhholaillniiaaGreatDoor.vF,Z37]at h3;exact Z17.1 (by omega)
        subst hj;refine .inr ⟨id,?_,?_,⟨by omega,h6⟩,h4⟩
        . simpa [Go.Proofs.YtbhholaillniiaaGreatDoor.vF]using h1
        . simpa [Go.Proofs.YtbhholaillniiaaGreatDoor.vF]using h2
def zvs(v:List Int):rowOf (v.map some)=v/\znQ (v.map some):=by
 refine⟨by simp[rowOf,Z67],fun i hi=> ?_⟩;have hi':i<v.length:=by simpa using hi
 exact⟨v[i],by simp[hi']⟩
def fn33:pr.fn 33=some g33:=by kernel_rfl
def znd:C:=g33.body.r.r.l.r.b.o
def zy9:C:=znd.r.r.l.b.r.r.r.l.r.b.o
def hdL(ns hd:List Str):List Int:=hd.map fun s=>zgz (fun x=>s==x) ns
def hdD(l:List Int):List (List D):=l.map fun i=>[.f (.i .i64 i)]
def zE9(l:List Int)(i:Int):hdD (l++[i])=hdD l++[[.f (.i .i64 i)]]:=by simp[hdD]
def Ju2(R:List (Nat×D))(ns hd:List Str)(h:T Ob)(b:Nat)(k:Nat)(s:St):Prop:=Rg R s/\(s.tm.get 25=some (.f (zah hd))/\s.tm.get 26=some (.f (.i .i64 hd.length))/\s.tm.get 27=some (.f (.i .i64 k)))/\b<=s.c/\(∀id,id<b->s.h.get id=h.get id)/\∃d,s.tm.get 9=some d/\Gro s.h b s.c 1 d (hdD (hdL ns (hd.take k)))
theorem nu_l2{h:T Ob}{b M:Nat}{D0 D3 D5 D15 D16 D17:D}{ns hd:List Str}{r0 r2 r3 r4 r5 r6:D}(hM:h.get M=some (.arr 7 0 [[r0,.f (zah ns),r2,r3,r4,r5,r6]]))(hMb:M<b)(hn:ns.length<=6)(hl:hd.length<1000){s:St}{K:Ex->St->Prop}
  (hJ:Ju2 [(0,D0),(3,D3),(5,D5),(8,.ptr M 7 0 0),(15,D15),(16,D16),(17,D17)] ns hd h b 0 s)(kx:∀s,Ju2 [(0,D0),(3,D3),(5,D5),(8,.ptr M 7 0 0),(15,D15),(16,D16),(17,D17)] ns hd h b hd.length s->K (.exit 2) s):WL pr zy9 s K:=by
 refine zcA hd.length (Ju2 [(0,D0),(3,D3),(5,D5),(8,.ptr M 7 0 0),(15,D15),(16,D16),(17,D17)] ns hd h b) (fun e s=>e= .exit 2/\Ju2 [(0,D0),(3,D3),(5,D5),(8,.ptr M 7 0 0),(15,D15),(16,D16),(17,D17)] ns hd h b hd.length s) ?_ ?_ _ hJ ?_
 .rintro k s hlt ⟨⟨h0,h3,h5,h8,h15,h16,h17,-⟩,⟨h25,h26,h27⟩,hc,hf,d,h9,hG⟩;have hw:=zau k (by omega);have hx:hd[k]? =some hd[k]:=Z0 hlt;generalize htt:hd[k]=t at hx;have q1:=fun K=>zad (k:=K) (zy2 ns t (by omega))
  have htk:hdL ns (hd.take (k+1))=hdL ns (hd.take k)++[zgz (fun x=>t==x) ns]:=by
   simp only[hdL,Z105,hx,Option.toList,Z20,Z10,Z85]
  have hm':=(hf M hMb).trans hM;have hlen:(hdD (hdL ns (hd.take k))).length<=k:=by simp[hdD,hdL];omega
  unfold zy9 znd g33;simp only[rU,C.l,C.r,C.b,C.o];simp[rW,h0,h3,h5,h8,h9,h15,h16,h17,h25,h26,h27,hlt,zfz,hx,htt,hm',q1];refine zfb hG (by omega) (by simp only[Z23,Z170];omega) (by omega) ?_;intro r hr1 hr2 hr3 hr4 hr5;rw[<-zE9,<-htk]at hr2;simp[rW,hr1,hw];exact⟨by simp only[Rg];simp[rW,h0,h3,h5,h8,h15,h16,h17],⟨by simp[rW,h25],by simp[rW,h26],by simp[rW]⟩,by simp only[rG];omega,fun id h1=>by simp only[rG];rw[hr4 id (by omega) (zfd hG h1)];exact hf id h1,r.d,by simp[rW],by simp only[rG];exact zaS hr2 (Z2 _) fun _ _ _=>rfl⟩
 .rintro s ⟨⟨h0,h3,h5,h8,h15,h16,h17,-⟩,⟨h25,h26,h27⟩,hc,hf,d,h9,hG⟩;unfold zy9 znd g33;simp only[rU,C.l,C.r,C.b,C.o];simp[rW,h25,h26,h27];exact⟨by simp only[Rg];simp[rW,h0,h3,h5,h8,h15,h16,h17],⟨by simp[rW,h25],by simp[rW,h26],by simp[rW,h27]⟩,by simp only[rG];omega,fun id h1=>by simp[rW];exact hf id h1,d,by simp[rW,h9],zaS hG (by simp only[rG];omega) (fun _ _ _=>rfl)⟩
 .rintro e s ⟨rfl,hJ⟩;exact kx s hJ
end Go.Proofs.YtbhholaillniiaaGreatDoor
end
