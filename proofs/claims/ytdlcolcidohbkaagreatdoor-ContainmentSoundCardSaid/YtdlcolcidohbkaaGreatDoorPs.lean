/- Preparing a matcher: the atoms. -/
import Derived.Test.YtdlcolcidohbkaaGreatDoorPq
import Derived.KernelRfl
import Derived.IntWalk
import Derived.Test.YtdlcolcidohbkaaGreatDoorPo
set_option linter.all false
set_option maxRecDepth 100000
set_option maxHeartbeats 4000000
noncomputable section
section
namespace Go.Proofs.YtdlcolcidohbkaaGreatDoor
open Go Go.Vse Go.Vse.Sm
structure MB(L:List Rl)(ns:List Str)(S M V:Nat)(h:T Ob)(c:Nat)(dP:D)(WP:List (Pat×D))(dN:D)(WN:List (Pat×D))(dC:D)(cs:List Cnd):Prop where
 m:h.get M=some (.arr 7 0 [[.ptr S 2 0 0,.f (zah ns),dP,dN,dC,.sl V 0 ns.length 3 ns.length true,.f (.i .u64 0)]])
 v:h.get V=some (.arr 3 0 (List.replicate ns.length zc))
 P:zjA h (V+1) c dP WP
 N:zjA h (V+1) c dN WN
 C:Gro h (V+1) c 10 dC (cnD cs)
 ne:NE dP dN
 s:zdD h M S L
 o:S<M/\M<V/\V<c
def MB.up{L:List Rl}{ns:List Str}{S M V:Nat}{h h':T Ob}{c c':Nat}{dP:D}{WP:List (Pat×D)}{dN:D}{WN:List (Pat×D)}{dC:D}{cs:List Cnd}(H:MB L ns S M V h c dP WP dN WN dC cs)(hf:∀id,id<c->h'.get id=h.get id)(hc:c<=c'):MB L ns S M V h' c' dP WP dN WN dC cs:=by
 have ho:=H.o;exact⟨by rw[hf _ (by omega)];exact H.m,by rw[hf _ (by omega)];exact H.v,H.P.up (fun id _ h=>hf id h) hc,H.N.up (fun id _ h=>hf id h) hc,zaX H.C hc fun id _ h=>hf id h,H.ne,H.s.up fun id _ h2=>hf id (by omega),by omega⟩
def riN(L:List Rl)(nm:Str):Nat:=L.findIdx fun r=>r.nm==nm
def zdZ(L:List Rl)(ns:List Str)(a:Atm):Pat:=⟨riN L a.r,tsO ns a.ts⟩
def riI{L:List Rl}{nm:Str}(h:∃r∈L,r.nm=nm):zg7 (fun r=>r.nm==nm) L=((riN L nm:Nat):Int)/\riN L nm<L.length:=by
 obtain⟨r,hr,e⟩ :=h;have hlt:(L.findIdx fun r=>r.nm==nm)<L.length:=List.findIdx_lt_length.2 ⟨r,hr,by simp[e]⟩;refine⟨?_,hlt⟩;have:L.findIdx? (fun r=>r.nm==nm)=some (L.findIdx fun r=>r.nm==nm):=by
  rw[Z26];refine⟨hlt,List.findIdx_getElem (w:=hlt),fun j hj=> ?_⟩;have:=List.not_of_lt_findIdx hj;simpa using this
 simp[zg7,this,riN]
def zpB(L:List Rl)(ns:List Str)(l:List Atm):List Pat:=(l.filter fun a=>!a.neg).map (zdZ L ns)
def negL(L:List Rl)(ns:List Str)(l:List Atm):List Pat:=(l.filter fun a=>a.neg).map (zdZ L ns)
def zvb(W:List (Pat×D))(p:Pat×D):paD (W++[p])=paD W++[[.f (.i .i64 p.1.r),p.2,.f (.i .u64 p.1.m)]]:=by simp[paD]
def Jn0(L:List Rl)(ns:List Str)(c:CQ)(S C3 M V:Nat)(h:T Ob)(c0 k:Nat)(s:St):Prop:=(s.tm.get 0=some (.ptr S 2 0 0)/\s.tm.get 3=some (.ptr C3 2 0 0)/\s.tm.get 5=some (.ptr M 7 0 0)/\s.tm.get 34=some (.f (zcN c))/\s.tm.get 35=some (.f (.i .i64 c.as.length))/\s.tm.get 36=some (.f (.i .i64 k))/\s.h.get C3=some (.arr 2 0 [[.f (zcN c),.f (zc7 c)]]))/\(∃dP WP dN WN,MB L ns S M V s.h s.c dP WP dN WN (.f .nils) []/\WP.map (·.1)=zpB L ns (c.as.take k)/\WN.map (·.1)=negL L ns (c.as.take k))/\(c0<=C3/\C3<M)/\∀id,id<c0->s.h.get id=h.get id
structure zm9(L:List Rl)(ns:List Str)(c:CQ):Prop where
 r:∀a∈c.as,∃r∈L,r.nm=a.r
 t:∀a∈c.as,∀t∈a.ts,zi9 ns t
 e:∀a∈c.as,a.ts≠[]
 l:∀a∈c.as,a.ts.length<1000
 al:c.as.length<1000
 k:∀k∈c.cs,zi9 ns k.l/\zi9 ns k.r
 kl:c.cs.length<1000
def zdo{h h':T Ob}{lo c c' es lo2 es2:Nat}{d d2:D}{els els2:List (List D)}(hg:Gro h lo c es d els)(hp:Gro h lo2 c es2 d2 els2)(hne:es≠es2)(hh:∀id,lo<=id->id<c->d2.oid≠some id->h'.get id=h.get id)(hc:c<=c'):Gro h' lo c' es d els:=by
 rcases hg with⟨rfl,rfl⟩ |⟨id,ro,rfl,h2,h3,h4,h5,h6⟩
 .exact .inl ⟨rfl,rfl⟩
 .refine .inr ⟨id,ro,rfl,h2,?_,h4,h5,by omega⟩;rw[hh id h5 h6 fun e=> ?_]
  .exact h3
  .rcases hp with⟨rfl,_⟩ |⟨id2,ro2,rfl,_,k3,_⟩
   .simp[D.oid]at e
   .simp only[D.oid,Z45]at e;subst e;rw[h3]at k3;simp only[Z45,Ob.arr.injEq]at k3;exact hne k3.1
def zCd{h h':T Ob}{lo c c' es:Nat}{d d2:D}{els:List (List D)}(hg:Gro h lo c es d els)(hne:NE d2 d)(hh:∀id,lo<=id->id<c->d2.oid≠some id->h'.get id=h.get id)(hc:c<=c'):Gro h' lo c' es d els:=by
 rcases hg with⟨rfl,rfl⟩ |⟨id,ro,rfl,h2,h3,h4,h5,h6⟩
 .exact .inl ⟨rfl,rfl⟩
 .exact .inr ⟨id,ro,rfl,h2,by rw[hh id h5 h6 fun e=>hne id e rfl];exact h3,h4,h5,by omega⟩
theorem zPt{L:List Rl}{ns:List Str}{S M V:Nat}{h:T Ob}{c:Nat}{dP:D}{WP:List (Pat×D)}{dN:D}{WN:List (Pat×D)}{dC:D}{cs:List Cnd}(HB:MB L ns S M V h c dP WP dN WN dC cs){q:Pat}{dT:D}(gT:Gro h (V+1) c 4 dT (opD q.ts)){H:T Ob}{c1:Nat}(hH:∀id,id<c->H.get id=h.get id)(hN:c<=c1){r:Rs}(hr2:Gro (wrT H r.wr) (V+1) r.c 3 r.d (paD WP++[[.f (.i .i64 q.r),dT,.f (.i .u64 q.m)]]))(hr3:c1<=r.c)(hr4:∀id,id<c1->dP.oid≠some id->(wrT H r.wr).get id=H.get id)(hr5:∀x,r.d.oid=some x->x=c1\/dP.oid=some x){h':T Ob}{c':Nat}
  (hm:h'.get M=some (.arr 7 0 [[.ptr S 2 0 0,.f (zah ns),r.d,dN,dC,.sl V 0 ns.length 3 ns.length true,.f (.i .u64 0)]]))(hh:∀id,id≠M->h'.get id=(wrT H r.wr).get id)(hc':r.c<=c'):MB L ns S M V h' c' r.d (WP++[(q,dT)]) dN WN dC cs:=by
 have ho:=HB.o;have bP:∀x,dP.oid=some x->V+1<=x/\x<c:=fun x hx=>zbq HB.P.1 hx
 have key:∀id,id≠M->id<c->dP.oid≠some id->h'.get id=h.get id:=fun id h1 h2 h3=>(hh id h1).trans ((hr4 id (by omega) h3).trans (hH id h2))
 refine⟨hm,?_,⟨?_,fun p hp=> ?_⟩,⟨zCd HB.N.1 HB.ne (fun id h1 h2 h3=>key id (by omega) h2 h3) (by omega),fun p hp=>zdo (HB.N.2 p hp) HB.P.1 (by omega) (fun id h1 h2 h3=>key id (by omega) h2 h3) (by omega)⟩,zdo HB.C HB.P.1 (by omega) (fun id h1 h2 h3=>key id (by omega) h2 h3) (by omega),fun x hx e=> ?_,HB.s.up fun id h1 h2=>key id (by omega) (by omega) fun e=>by have:=bP _ e;omega,by omega⟩
 .rw[key V (by omega) (by omega) fun e=>by have:=bP _ e;omega];exact HB.v
 .rw[zvb];exact zaX hr2 hc' fun id h1 _=>hh id (by omega)
 .rcases Z4.1 hp with hp|hp
  .exact zdo (HB.P.2 p hp) HB.P.1 (by omega) (fun id h1 h2 h3=>key id (by omega) h2 h3) (by omega)
  .have:p=(q,dT):=by simpa using hp
   subst this;exact zdo gT HB.P.1 (by omega) (fun id h1 h2 h3=>key id (by omega) h2 h3) (by omega)
 .have hb:=zbq HB.N.1 e;rcases hr5 x hx with h1|h1
  .omega
  .exact HB.ne x h1 e
theorem zPs{L:List Rl}{ns:List Str}{S M V:Nat}{h:T Ob}{c:Nat}{dP:D}{WP:List (Pat×D)}{dN:D}{WN:List (Pat×D)}{dC:D}{cs:List Cnd}(HB:MB L ns S M V h c dP WP dN WN dC cs){q:Pat}{dT:D}(gT:Gro h (V+1) c 4 dT (opD q.ts)){H:T Ob}{c1:Nat}(hH:∀id,id<c->H.get id=h.get id)(hN:c<=c1){r:Rs}(hr2:Gro (wrT H r.wr) (V+1) r.c 3 r.d (paD WN++[[.f (.i .i64 q.r),dT,.f (.i .u64 q.m)]]))(hr3:c1<=r.c)(hr4:∀id,id<c1->dN.oid≠some id->(wrT H r.wr).get id=H.get id)(hr5:∀x,r.d.oid=some x->x=c1\/dN.oid=some x){h':T Ob}{c':Nat}
  (hm:h'.get M=some (.arr 7 0 [[.ptr S 2 0 0,.f (zah ns),dP,r.d,dC,.sl V 0 ns.length 3 ns.length true,.f (.i .u64 0)]]))(hh:∀id,id≠M->h'.get id=(wrT H r.wr).get id)(hc':r.c<=c'):MB L ns S M V h' c' dP WP r.d (WN++[(q,dT)]) dC cs:=by
 have ho:=HB.o;have hne:NE dN dP:=fun x hx e=>HB.ne x e hx
 have bP:∀x,dN.oid=some x->V+1<=x/\x<c:=fun x hx=>zbq HB.N.1 hx
 have key:∀id,id≠M->id<c->dN.oid≠some id->h'.get id=h.get id:=fun id h1 h2 h3=>(hh id h1).trans ((hr4 id (by omega) h3).trans (hH id h2))
 refine⟨hm,?_,⟨zCd HB.P.1 hne (fun id h1 h2 h3=>key id (by omega) h2 h3) (by omega),fun p hp=>zdo (HB.P.2 p hp) HB.N.1 (by omega) (fun id h1 h2 h3=>key id (by omega) h2 h3) (by omega)⟩,⟨?_,fun p hp=> ?_⟩,zdo HB.C HB.N.1 (by omega) (fun id h1 h2 h3=>key id (by omega) h2 h3) (by omega),fun x hx e=> ?_,HB.s.up fun id h1 h2=>key id (by omega) (by omega) fun e=>by have:=bP _ e;omega,by omega⟩
 .rw[key V (by omega) (by omega) fun e=>by have:=bP _ e;omega];exact HB.v
 .rw[zvb];exact zaX hr2 hc' fun id h1 _=>hh id (by omega)
 .rcases Z4.1 hp with hp|hp
  .exact zdo (HB.N.2 p hp) HB.N.1 (by omega) (fun id h1 h2 h3=>key id (by omega) h2 h3) (by omega)
  .have:p=(q,dT):=by simpa using hp
   subst this;exact zdo gT HB.N.1 (by omega) (fun id h1 h2 h3=>key id (by omega) h2 h3) (by omega)
 .have hb:=zbq HB.P.1 hx;rcases hr5 x e with h1|h1
  .omega
  .exact HB.ne x hx h1
def zGP{α β:Type}(f:α->Option β):om none f=none:=rfl
theorem nm_l0{L:List Rl}{ns:List Str}{c:CQ}{S C3 M V c0:Nat}{h:T Ob}(hn:ns.length<=6)(hC:zm9 L ns c)(hLl:L.length<1000)(hLo:∀r∈L,r.co.d= .f r.co/\(D.f r.co).cells=some [.f r.co]){s:St}{K:Ex->St->Prop}
  (hJ:Jn0 L ns c S C3 M V h c0 0 s)(kx:∀s,Jn0 L ns c S C3 M V h c0 c.as.length s->K (.exit 0) s):WL pr zoe s K:=by
 refine zbD c.as.length (Jn0 L ns c S C3 M V h c0) (fun e s=>e= .exit 0/\Jn0 L ns c S C3 M V h c0 c.as.length s) ?_ ?_ _ hJ ?_
 .rintro k s hlt ⟨⟨h0,h3,h5,h34,h35,h36,g3⟩,⟨dP,WP,dN,WN,HB,eP,eN⟩,hc0,hf⟩;have hw:=zao k (by have:=hC.al;omega);have hx:c.as[k]? =some c.as[k]:=Z0 hlt;have hmem:=Z1 hlt;generalize haa:c.as[k]=a at hx hmem;obtain⟨ri1,ri2⟩ :=riI (hC.r a hmem);have hta:=hC.t a hmem;have hal:=hC.l a hmem;have ho:=HB.o;have hcd:(zgC a.ts).d= .f (zgC a.ts):=zq9 _;have hcc:(D.f (zgC a.ts)).cells=some [.f (zgC a.ts)]:=zcF _ _;have i1:¬S=s.c:=by omega
  unfold zoe g58;simp only[rU,C.l,C.r,C.b,C.o];simp[rW,h0,h3,h5,h34,h35,h36,hlt,zlJ,hx,haa,atE,hcd,hcc,i1];obtain⟨h1,hh1⟩ :∃h1,h1=(s.h.set s.c (.arr 3 0 [[.f (.s []),.f (.b false),.f .nils]])).set s.c (.arr 3 0 [[.f (.s a.r),.f (.b a.neg),.f (zgC a.ts)]]):=⟨_,rfl⟩
  have f1:∀id,id<s.c->h1.get id=s.h.get id:=fun id hid=>by rw[hh1,TG,Z49 (by omega),TG,Z49 (by omega)]
  have p7:h1.get s.c=some (.arr 3 0 [[.f (.s a.r),.f (.b a.neg),.f (zgC a.ts)]]):=by rw[hh1,TG,Z51 rfl]
  refine zbR [(0,.ptr S 2 0 0),(3,.ptr C3 2 0 0),(5,.ptr M 7 0 0),(7,.ptr s.c 3 0 0),(34,.f (zcN c)),(35,.f (.i .i64 c.as.length)),(36,.f (.i .i64 k))] (zMl (h:=h1) (c:=s.c+1) (HB.s.up fun id _ h2=>f1 id (by omega)) (by omega) hLl hLo a.r) (by simp only[rG];exact hh1.symm) (by simp only[rG]) (by simp only[Rg];simp[rW,h0,h3,h5,h34,h35,h36]) rfl ?_;rintro s1 d1 ⟨rfl,hf1⟩ hc1 k43 ⟨k0,k3,k5,k7,k34,k35,k36,-⟩;rw[ri1]at k43;have f2:∀id,id<s.c+1->s1.h.get id=h1.get id:=hf1
  have p7':=(f2 s.c (by omega)).trans p7;have j1:¬s.c=s1.c:=by omega
  refine⟨?_⟩;simp[rW,k0,k3,k5,k7,k34,k35,k36,k43,p7',j1,zxK];obtain⟨h2,hh2⟩ :∃h2,h2=(s1.h.set s1.c (.arr 3 0 [[.f (.i .i64 0),.f .nils,.f (.i .u64 0)]])).set s1.c (.arr 3 0 [[.f (.i .i64 (riN L a.r)),.f .nils,.f (.i .u64 0)]]):=⟨_,rfl⟩
  have f3:∀id,id<s1.c->h2.get id=s1.h.get id:=fun id hid=>by rw[hh2,TG,Z49 (by omega),TG,Z49 (by omega)]
  have f4:∀id,id<s.c->h2.get id=s.h.get id:=fun id hid=>(f3 id (by omega)).trans ((f2 id (by omega)).trans (f1 id hid))
  have p8:h2.get s1.c=some (.arr 3 0 [[.f (.i .i64 (riN L a.r)),.f .nils,.f (.i .u64 0)]]):=by rw[hh2,TG,Z51 rfl]
  refine nm_l2 (S3:= .ptr S 2 0 0) (C3:= .ptr C3 2 0 0) (P7:= .ptr s.c 3 0 0) (dA:= .f (zcN c)) (dL:= .f (.i .i64 c.as.length)) (h:=h2) (b8:=s1.c+1) (P8:=s1.c) (M:=M) (k0:=k) (ns:=ns) (ts:=a.ts) (n:=riN L a.r) ((f4 M (by omega)).trans HB.m) (by omega) (by omega) (by omega) hn hta hal ⟨by simp only[Rg];simp[rW,k0,k3,k5,k7,k34,k35,k36],⟨by simp[rW],by simp[rW],by simp[rW]⟩,by simp only[rG];omega,fun id _ _=>by simp only[rG];rw[hh2],.f .nils,by simp[rW,hh2];rfl,.nil⟩ ?_;rintro s2 ⟨⟨l0,l3,l5,l7,l8,l34,l35,l36,-⟩,-,hc2,hf2,dT,q8,gT⟩;have htl:(tsO ns a.ts).take a.ts.length=tsO ns a.ts:=Z11 (by simp[tsO]);rw[htl]at q8 gT;have f5:∀id,id<s.c->s2.h.get id=s.h.get id:=fun id hid=>(hf2 id (by omega) (by omega)).trans (f4 id hid)
  have HB2:=HB.up f5 (by omega:s.c<=s2.c);have q7:s2.h.get s.c=_:=(hf2 s.c (by omega) (by omega)).trans ((f3 s.c (by omega)).trans p7');have m2:=HB2.m;have dTc:=zbY gT;have hne:=hC.e a hmem;have nM:¬s2.c+1+1+1+1+1+1=M:=by omega
  obtain⟨iT,roT,eT1,eT2,eT3,eT4⟩ :=zes gT (n:=0) (by simp[opD,tsO];exact Z129.2 hne);rw[eT1]at q8 dTc;have n1:¬s1.c=M:=by omega
  simp[rW,l0,l3,l5,l7,l8,l34,l35,l36,q7];cases hneg:a.neg with
  |false=>
   simp[rW,l0,l3,l5,l7,l8,l34,l35,l36,q7,hneg];refine zaw ?_;simp[rW,l0,l3,l5,l7,l8,l34,l35,l36,m2,q8,dTc,hw,zGP,nM];have gT3:Gro s2.h (V+1) s2.c 4 (.sl iT 0 (opD (tsO ns a.ts)).length 4 (opD (tsO ns a.ts)).length false) (opD (zdZ L ns a).ts):=by
    rw[<-eT1];rcases gT with⟨e1,e2⟩ |⟨id,ro,e1,e2,e3,e4,e5,e6⟩
    .exact .inl ⟨e1,e2⟩
    .exact .inr ⟨id,ro,e1,e2,e3,e4,by omega,e6⟩
   have hHH:∀id,id<s2.c->(s2.h.set (s2.c+1+1+1+1+1+1) (.arr 3 0 [[.f (.i .i64 (riN L a.r)),.sl iT 0 (opD (tsO ns a.ts)).length 4 (opD (tsO ns a.ts)).length false,.f (.i .u64 (mTs (tsO ns a.ts):Nat))]])).get id=s2.h.get id:=fun id hid=>by rw[TG,Z49 (by omega)]
   have hplen:(paD WP).length<1000:=by
    have e:=congrArg List.length eP;simp only[Z18,zpB]at e;have:=(List.filter_sublist (p:=fun a:Atm=>!a.neg) (l:=c.as.take k)).length_le;have h2:=hC.al;rw[Z41]at this;simp only[paD,Z18];omega
   refine zfl (zaX (c':=s2.c+1+1+1+1+1+1+1+1) HB2.P.1 (by omega) fun id h1 h2=>hHH id h2) (by omega) (by simp only[Z23,Z170];omega) (by omega) ?_;intro r hr1 hr2 hr3 hr4 hr5;have hMne:dP.oid≠some M:=fun e=>by have:=zbq HB2.P.1 e;omega
   have m3:=(hr4 M (by omega) hMne).trans ((hHH M (by omega)).trans m2);have hrc:=zbY hr2;have j3:M<r.c+1+1+1:=by omega
   have hC3:(wrT (s2.h.set (s2.c+1+1+1+1+1+1) (.arr 3 0 [[.f (.i .i64 (riN L a.r)),.sl iT 0 (opD (tsO ns a.ts)).length 4 (opD (tsO ns a.ts)).length false,.f (.i .u64 (mTs (tsO ns a.ts):Nat))]])) r.wr).get C3=_:=(hr4 C3 (by omega) fun e=>by have:=zbq HB2.P.1 e;omega).trans ((hHH C3 (by omega)).trans ((f5 C3 (by omega)).trans g3));have n5:¬C3=M:=by omega
   simp[rW,hr1,m3,hrc,j3,hw];have htk:c.as.take (k+1)=c.as.take k++[a]:=by rw[Z105,hx];rfl
   refine⟨⟨by simp[rW,l0],by simp[rW,l3],by simp[rW,l5],by simp[rW,l34],by simp[rW,l35],by simp[rW,hw],by simp[rW,n5,hC3]⟩,⟨r.d,WP++[(zdZ L ns a,_)],dN,WN,zPt HB2 gT3 hHH (by omega) hr2 hr3 hr4 hr5 ?_ ?_ ?_,?_,?_⟩,hc0,fun id hid=> ?_⟩
   .simp[rW]
   .intro id h1;simp[rW,h1]
   .simp only[rG];omega
   .rw[htk];simp[zpB,Z99,hneg,eP]
   .rw[htk];simp[negL,Z99,hneg,eN]
   .have a1:¬id=M:=by omega
    simp[rW,a1];rw[hr4 id (by omega) fun e=>by have:=zbq HB2.P.1 e;omega,hHH id (by omega),f5 id (by omega)];exact hf id hid
  |true=>
   simp[rW,l0,l3,l5,l7,l8,l34,l35,l36,q7,hneg];refine zaw ?_;simp[rW,l0,l3,l5,l7,l8,l34,l35,l36,m2,q8,dTc,hw,zGP,nM];have gT3:Gro s2.h (V+1) s2.c 4 (.sl iT 0 (opD (tsO ns a.ts)).length 4 (opD (tsO ns a.ts)).length false) (opD (zdZ L ns a).ts):=by
    rw[<-eT1];rcases gT with⟨e1,e2⟩ |⟨id,ro,e1,e2,e3,e4,e5,e6⟩
    .exact .inl ⟨e1,e2⟩
    .exact .inr ⟨id,ro,e1,e2,e3,e4,by omega,e6⟩
   have hHH:∀id,id<s2.c->(s2.h.set (s2.c+1+1+1+1+1+1) (.arr 3 0 [[.f (.i .i64 (riN L a.r)),.sl iT 0 (opD (tsO ns a.ts)).length 4 (opD (tsO ns a.ts)).length false,.f (.i .u64 (mTs (tsO ns a.ts):Nat))]])).get id=s2.h.get id:=fun id hid=>by rw[TG,Z49 (by omega)]
   have hplen:(paD WN).length<1000:=by
    have e:=congrArg List.length eN;simp only[Z18,negL]at e;have:=(List.filter_sublist (p:=fun a:Atm=>a.neg) (l:=c.as.take k)).length_le;have h2:=hC.al;rw[Z41]at this;simp only[paD,Z18];omega
   refine zfl (zaX (c':=s2.c+1+1+1+1+1+1+1+1) HB2.N.1 (by omega) fun id h1 h2=>hHH id h2) (by omega) (by simp only[Z23,Z170];omega) (by omega) ?_;intro r hr1 hr2 hr3 hr4 hr5;have hMne:dN.oid≠some M:=fun e=>by have:=zbq HB2.N.1 e;omega
   have m3:=(hr4 M (by omega) hMne).trans ((hHH M (by omega)).trans m2);have hrc:=zbY hr2;have j3:M<r.c+1+1+1:=by omega
   have hC3:(wrT (s2.h.set (s2.c+1+1+1+1+1+1) (.arr 3 0 [[.f (.i .i64 (riN L a.r)),.sl iT 0 (opD (tsO ns a.ts)).length 4 (opD (tsO ns a.ts)).length false,.f (.i .u64 (mTs (tsO ns a.ts):Nat))]])) r.wr).get C3=_:=(hr4 C3 (by omega) fun e=>by have:=zbq HB2.N.1 e;omega).trans ((hHH C3 (by omega)).trans ((f5 C3 (by omega)).trans g3));have n5:¬C3=M:=by omega
   simp[rW,hr1,m3,hrc,j3,hw];have htk:c.as.take (k+1)=c.as.take k++[a]:=by rw[Z105,hx];rfl
   refine⟨⟨by simp[rW,l0],by simp[rW,l3],by simp[rW,l5],by simp[rW,l34],by simp[rW,l35],by simp[rW,hw],by simp[rW,n5,hC3]⟩,⟨dP,WP,r.d,WN++[(zdZ L ns a,_)],zPs HB2 gT3 hHH (by omega) hr2 hr3 hr4 hr5 ?_ ?_ ?_,?_,?_⟩,hc0,fun id hid=> ?_⟩
   .simp[rW]
   .intro id h1;simp[rW,h1]
   .simp only[rG];omega
   .rw[htk];simp[zpB,Z99,hneg,eP]
   .rw[htk];simp[negL,Z99,hneg,eN]
   .have a1:¬id=M:=by omega
    simp[rW,a1];rw[hr4 id (by omega) fun e=>by have:=zbq HB2.N.1 e;omega,hHH id (by omega),f5 id (by omega)];exact hf id hid
 .rintro s ⟨⟨h0,h3,h5,h34,h35,h36,g3⟩,⟨dP,WP,dN,WN,HB,eP,eN⟩,hc0,hf⟩;unfold zoe g58;simp only[rU,C.l,C.r,C.b,C.o];simp[rW,h0,h3,h5,h34,h35,h36];exact⟨⟨by simp[rW,h0],by simp[rW,h3],by simp[rW,h5],by simp[rW,h34],by simp[rW,h35],by simp[rW,h36],g3⟩,⟨dP,WP,dN,WN,HB.up (fun _ _=>rfl) (by simp only[rG];omega),eP,eN⟩,hc0,hf⟩
 .rintro e s ⟨rfl,hJ⟩;exact kx s hJ
def zyL:C:=g58.body.r.r.r.r.l.r.b.o
def zfc(ns:List Str)(k:Cm):Cnd:=⟨k.op,zb8 ns k.l,zb8 ns k.r⟩
def zDO(l:List Cnd)(k:Cnd):cnD (l++[k])=cnD l++[(([F.i .i64 k.op]++k.l.c++k.r.c++[F.i .u64 k.m])).map D.f]:=by simp[cnD]
theorem zPr{L:List Rl}{ns:List Str}{S M V:Nat}{h:T Ob}{c:Nat}{dP:D}{WP:List (Pat×D)}{dN:D}{WN:List (Pat×D)}{dC:D}{cs cs':List Cnd}(HB:MB L ns S M V h c dP WP dN WN dC cs){H:T Ob}{c1:Nat}(hH:∀id,id<c->H.get id=h.get id)(hN:c<=c1){r:Rs}(hr2:Gro (wrT H r.wr) (V+1) r.c 10 r.d (cnD cs'))(hr3:c1<=r.c)(hr4:∀id,id<c1->dC.oid≠some id->(wrT H r.wr).get id=H.get id){h':T Ob}{c':Nat}
  (hm:h'.get M=some (.arr 7 0 [[.ptr S 2 0 0,.f (zah ns),dP,dN,r.d,.sl V 0 ns.length 3 ns.length true,.f (.i .u64 0)]]))(hh:∀id,id≠M->h'.get id=(wrT H r.wr).get id)(hc':r.c<=c'):MB L ns S M V h' c' dP WP dN WN r.d cs':=by
 have ho:=HB.o;have bP:∀x,dC.oid=some x->V+1<=x/\x<c:=fun x hx=>zbq HB.C hx
 have key:∀id,id≠M->id<c->dC.oid≠some id->h'.get id=h.get id:=fun id h1 h2 h3=>(hh id h1).trans ((hr4 id (by omega) h3).trans (hH id h2))
 refine⟨hm,?_,⟨zdo HB.P.1 HB.C (by omega) (fun id h1 h2 h3=>key id (by omega) h2 h3) (by omega),fun p hp=>zdo (HB.P.2 p hp) HB.C (by omega) (fun id h1 h2 h3=>key id (by omega) h2 h3) (by omega)⟩,⟨zdo HB.N.1 HB.C (by omega) (fun id h1 h2 h3=>key id (by omega) h2 h3) (by omega),fun p hp=>zdo (HB.N.2 p hp) HB.C (by omega) (fun id h1 h2 h3=>key id (by omega) h2 h3) (by omega)⟩,zaX hr2 hc' fun id h1 _=>hh id (by omega),HB.ne,HB.s.up fun id h1 h2=>key id (by omega) (by omega) fun e=>by have:=bP _ e;omega,by omega⟩;rw[key V (by omega) (by omega) fun e=>by have:=bP _ e;omega];exact HB.v
def Jn4(L:List Rl)(ns:List Str)(c:CQ)(S M V:Nat)(dP:D)(WP:List (Pat×D))(dN:D)(WN:List (Pat×D))(h:T Ob)(c0 k:Nat)(s:St):Prop:=(s.tm.get 5=some (.ptr M 7 0 0)/\s.tm.get 94=some (.f (zc7 c))/\s.tm.get 95=some (.f (.i .i64 c.cs.length))/\s.tm.get 96=some (.f (.i .i64 k)))/\(∃dC,MB L ns S M V s.h s.c dP WP dN WN dC ((c.cs.take k).map (zfc ns)))/\c0<=M/\∀id,id<c0->s.h.get id=h.get id
theorem nm_l4{L:List Rl}{ns:List Str}{c:CQ}{S M V c0:Nat}{dP:D}{WP:List (Pat×D)}{dN:D}{WN:List (Pat×D)}{h:T Ob}(hn:ns.length<=6)(hC:zm9 L ns c){s:St}{K:Ex->St->Prop}
  (hJ:Jn4 L ns c S M V dP WP dN WN h c0 0 s)(kx:∀s,Jn4 L ns c S M V dP WP dN WN h c0 c.cs.length s->K (.exit 4) s):WL pr zyL s K:=by
 refine zbD c.cs.length (Jn4 L ns c S M V dP WP dN WN h c0) (fun e s=>e= .exit 4/\Jn4 L ns c S M V dP WP dN WN h c0 c.cs.length s) ?_ ?_ _ hJ ?_
 .rintro k s hlt ⟨⟨h5,h94,h95,h96⟩,⟨dC,HB⟩,hc0,hf⟩;have hw:=zao k (by have:=hC.kl;omega);have hx:c.cs[k]? =some c.cs[k]:=Z0 hlt;have hmem:=Z1 hlt;generalize hqq:c.cs[k]=q at hx hmem;obtain⟨hil,hir⟩ :=hC.k q hmem;have ho:=HB.o;have tmd:∀t:Trm,∃a b c d,tmF t=[a,b,c,d]/\a.d= .f a/\b.d= .f b/\c.d= .f c/\d.d= .f d/\(D.f a).cells=some [.f a]/\(D.f b).cells=some [.f b]/\(D.f c).cells=some [.f c]/\(D.f d).cells=some [.f d]:=fun t=>by cases t<;>exact⟨_,_,_,_,rfl,rfl,rfl,rfl,rfl,rfl,rfl,rfl,rfl⟩
  obtain⟨l0,l1,l2,l3,el,a0,a1,a2,a3,a4,a5,a6,a7⟩ :=tmd q.l;obtain⟨r0,r1,r2,r3,er,b0,b1,b2,b3,b4,b5,b6,b7⟩ :=tmd q.r;have hq:cmF q=[.i .i64 q.op,l0,l1,l2,l3,r0,r1,r2,r3]:=by simp[cmF,el,er]
  obtain⟨ol0,ol1,ol2,ol3,eol⟩ :=zly (zb8 ns q.l);obtain⟨or0,or1,or2,or3,eor⟩ :=zly (zb8 ns q.r);have hODl:OpD (zb8 ns q.l)= .tu [.ag [.f ol0,.f ol1,.f ol2,.f ol3],.f (.i .u64 ((zb8 ns q.l).m:Nat))]:=by unfold OpD;rw[eol];rfl
  have hODr:OpD (zb8 ns q.r)= .tu [.ag [.f or0,.f or1,.f or2,.f or3],.f (.i .u64 ((zb8 ns q.r).m:Nat))]:=by unfold OpD;rw[eor];rfl
  have hor:=znl (zlZ (zg8 hil) hn) (zlZ (zg8 hir) hn);have i1:¬M=s.c:=by omega
  unfold zyL g58;simp only[rU,C.l,C.r,C.b,C.o];simp[rW,h5,h94,h95,h96,hlt,zBL,hx,hqq,hq,i1,a0,a1,a2,a3,b0,b1,b2,b3];have hrw:[D.f l0,D.f l1,D.f l2,D.f l3]=(tmF q.l).map D.f:=by rw[el];rfl
  rw[hrw];obtain⟨row,hrow⟩ :∃row:List D,row=[.f (.i .i64 q.op),.f l0,.f l1,.f l2,.f l3,.f r0,.f r1,.f r2,.f r3]:=⟨_,rfl⟩
  obtain⟨h1,hh1⟩ :∃h1,h1=(s.h.set s.c (.arr 9 0 [[.f (.i .i64 0),.f (.s []),.f (.i .i64 0),.f (.i .i64 0),.f (.s []),.f (.s []),.f (.i .i64 0),.f (.i .i64 0),.f (.s [])]])).set s.c (.arr 9 0 [[.f (.i .i64 q.op),.f l0,.f l1,.f l2,.f l3,.f r0,.f r1,.f r2,.f r3]]):=⟨_,rfl⟩
  have f1:∀id,id<s.c->h1.get id=s.h.get id:=fun id hid=>by rw[hh1,TG,Z49 (by omega),TG,Z49 (by omega)]
  have p14:h1.get s.c=some (.arr 9 0 [[.f (.i .i64 q.op),.f l0,.f l1,.f l2,.f l3,.f r0,.f r1,.f r2,.f r3]]):=by rw[hh1,TG,Z51 rfl]
  refine zbR [(5,.ptr M 7 0 0),(14,.ptr s.c 9 0 0),(94,.f (zc7 c)),(95,.f (.i .i64 c.cs.length)),(96,.f (.i .i64 k))] (zuv (h:=h1) (c:=s.c+1) ((f1 M (by omega)).trans HB.m) (by omega) hn hil) (by simp only[rG];exact hh1.symm) (by simp only[rG]) (by simp only[Rg];simp[rW,h5,h94,h95,h96]) rfl ?_;rintro s1 d1 ⟨rfl,hf1⟩ hc1 k104 ⟨k5,k14,k94,k95,k96,-⟩;rw[hODl]at k104;have p14':=(hf1 s.c (by omega)).trans p14;have j1:¬s.c=s1.c:=by omega
  have j2:¬M=s1.c:=by omega
  generalize hml:(zb8 ns q.l).m=ml at k104 hor;refine⟨?_⟩;simp[rW,k5,k14,k94,k95,k96,k104,p14',j1,j2];have hrw2:[D.f r0,D.f r1,D.f r2,D.f r3]=(tmF q.r).map D.f:=by rw[er];rfl
  rw[hrw2];obtain⟨h2,hh2⟩ :∃h2,h2=(s1.h.set s1.c (.arr 4 0 [[.f (.i .i64 0),.f (.i .i64 0),.f (.i .i64 0),.f (.s [])]])).set s1.c (.arr 4 0 [[.f ol0,.f ol1,.f ol2,.f ol3]]):=⟨_,rfl⟩
  have f2:∀id,id<s1.c->h2.get id=s1.h.get id:=fun id hid=>by rw[hh2,TG,Z49 (by omega),TG,Z49 (by omega)]
  have f12:∀id,id<s.c->h2.get id=s.h.get id:=fun id hid=>(f2 id (by omega)).trans ((hf1 id (by omega)).trans (f1 id hid))
  have p15:h2.get s1.c=some (.arr 4 0 [[.f ol0,.f ol1,.f ol2,.f ol3]]):=by rw[hh2,TG,Z51 rfl]
  refine zbR [(5,.ptr M 7 0 0),(14,.ptr s.c 9 0 0),(15,.ptr s1.c 4 0 0),(16,.f (.i .u64 ml)),(94,.f (zc7 c)),(95,.f (.i .i64 c.cs.length)),(96,.f (.i .i64 k))] (zuv (h:=h2) (c:=s1.c+1) ((f12 M (by omega)).trans HB.m) (by omega) hn hir) (by simp only[rG];exact hh2.symm) (by simp only[rG]) (by simp only[Rg];simp[rW,k5,k14,k94,k95,k96]) rfl ?_;rintro s2 d2 ⟨rfl,hf2⟩ hc2 l111 ⟨l5,l14,l15,l16,l94,l95,l96,-⟩;rw[hODr]at l111;have f3:∀id,id<s.c->s2.h.get id=s.h.get id:=fun id hid=>(hf2 id (by omega)).trans (f12 id hid)
  have q14:=(hf2 s.c (by omega)).trans ((f2 s.c (by omega)).trans p14');have q15:=(hf2 s1.c (by omega)).trans p15;have q5:=(f3 M (by omega)).trans HB.m;generalize hmr:(zb8 ns q.r).m=mr at l111 hor;have n1:¬s.c=s2.c:=by omega
  have n2:¬M=s2.c:=by omega
  have n3:¬s1.c=s2.c:=by omega
  refine⟨?_⟩;simp[rW,l5,l14,l15,l16,l94,l95,l96,l111,n1,n2,n3];refine zaw ?_;simp[rW,l5,l14,l15,l16,l94,l95,l96,l111,n1,n2,n3,q5,q14,q15,hor,hw];obtain⟨H,hHe⟩ :∃H,H=(s2.h.set s2.c (.arr 4 0 [[.f (.i .i64 0),.f (.i .i64 0),.f (.i .i64 0),.f (.s [])]])).set s2.c (.arr 4 0 [[.f or0,.f or1,.f or2,.f or3]]):=⟨_,rfl⟩
  rw[<-hHe];have hHH:∀id,id<s.c->H.get id=s.h.get id:=fun id hid=>by rw[hHe,TG,Z49 (by omega),TG,Z49 (by omega)];exact f3 id hid
  have hkl:=hC.kl;have hlen:(cnD ((c.cs.take k).map (zfc ns))).length<=k:=by simp[cnD];omega
  have htk:(c.cs.take (k+1)).map (zfc ns)=(c.cs.take k).map (zfc ns)++[zfc ns q]:=by rw[Z105,hx];simp
  have hsn:cnD ((c.cs.take k).map (zfc ns))++[[.f (.i .i64 q.op),.f ol0,.f ol1,.f ol2,.f ol3,.f or0,.f or1,.f or2,.f or3,.f (.i .u64 ((ml|||mr:Nat):Int))]]=cnD ((c.cs.take (k+1)).map (zfc ns)):=by
   rw[htk,zDO];simp[zfc,Cnd.m,eol,eor,hml,hmr]
  refine zfl (zaX (c':=s2.c+1+1+1+1+1+1+1+1+1+1+1+1+1+1+1) HB.C (by omega) fun id h1 h2=>hHH id h2) (by omega) (by simp only[Z23,Z170];omega) (by omega) ?_;intro r hr1 hr2 hr3 hr4 hr5;rw[hsn]at hr2;have hMne:dC.oid≠some M:=fun e=>by have:=zbq HB.C e;omega
  have m3:=(hr4 M (by omega) hMne).trans ((hHH M (by omega)).trans HB.m);have hrc:=zbY hr2;have j3:M<r.c+1+1+1:=by omega
  simp[rW,hr1,m3,hrc,j3,hw];refine⟨⟨by simp[rW,l5],by simp[rW,l94],by simp[rW,l95],by simp[rW,hw]⟩,⟨r.d,zPr HB hHH (by omega) hr2 hr3 hr4 ?_ ?_ ?_⟩,hc0,fun id hid=> ?_⟩
  .simp[rW]
  .intro id h1;simp[rW,h1,hHe]
  .simp only[rG];omega
  .have a1:¬id=M:=by omega
   simp[rW,a1];rw[<-hHe,hr4 id (by omega) fun e=>by have:=zbq HB.C e;omega,hHH id (by omega)];exact hf id hid
 .rintro s ⟨⟨h5,h94,h95,h96⟩,⟨dC,HB⟩,hc0,hf⟩;unfold zyL g58;simp only[rU,C.l,C.r,C.b,C.o];simp[rW,h5,h94,h95,h96];exact⟨⟨by simp[rW,h5],by simp[rW,h94],by simp[rW,h95],by simp[rW,h96]⟩,⟨dC,HB.up (fun _ _=>rfl) (by simp only[rG];omega)⟩,hc0,hf⟩
 .rintro e s ⟨rfl,hJ⟩;exact kx s hJ
structure zk8(L:List Rl)(ns:List Str)(c:CQ)(X:Mx):Prop where
 nE:X.ns=ns
 P:X.WP.map (·.1)=zpB L ns c.as
 N:X.WN.map (·.1)=negL L ns c.as
 cE:X.cs=c.cs.map (zfc ns)
structure zma(L:List Rl)(ns:List Str)(c:CQ):Prop where
 i:zm9 L ns c
 n:ns.length<=6
 a:∀a∈c.as,∀r,L[riN L a.r]? =some r->∀t∈r.tu,t.1.length=a.ts.length
 p:(c.as.filter fun a=>!a.neg).length<=6
 o:∀k∈c.cs,k.op=1\/k.op=2\/k.op=3\/k.op=4
structure zla(L:List Rl):Prop where
 l:L.length<1000
 o:∀r∈L,r.co.d= .f r.co/\(D.f r.co).cells=some [.f r.co]
 r:∀r∈L,RlO r
def mxO{L:List Rl}{ns:List Str}{c:CQ}{X:Mx}(HL:zla L)(HC:zma L ns c)(H:zk8 L ns c X):MxO X L:=by
 have key:∀a∈c.as,zyg L X.ns.length (zdZ L ns a):=fun a ha=>by
  rw[H.nE];exact⟨(riI (HC.i.r a ha)).2,by simp[zdZ,tsO];exact HC.i.e a ha,by simpa [zdZ,tsO]using HC.i.l a ha,fun t ht=>by
   obtain⟨u,hu,rfl⟩ :=Z12.1 ht;exact zg8 (HC.i.t a ha u hu),fun r hr t ht=>by simpa [zdZ,tsO]using HC.a a ha r hr t ht⟩
 refine⟨fun k hk=> ?_,?_,fun q hq=> ?_,fun q hq=> ?_,?_,?_,HL.r⟩
 .rw[H.cE]at hk;obtain⟨u,hu,rfl⟩ :=Z12.1 hk;rw[H.nE];exact⟨⟨zg8 (HC.i.k u hu).1,zg8 (HC.i.k u hu).2⟩,HC.o u hu⟩
 .rw[H.cE,Z18];exact HC.i.kl
 .have:q.1∈negL L ns c.as:=by rw[<-H.N];exact List.mem_map_of_mem hq
  obtain⟨a,ha,e⟩ :=Z12.1 this;rw[<-e];exact key a ((Z57.1 ha).1)
 .have:q.1∈zpB L ns c.as:=by rw[<-H.P];exact List.mem_map_of_mem hq
  obtain⟨a,ha,e⟩ :=Z12.1 this;rw[<-e];exact key a ((Z57.1 ha).1)
 .have e:=congrArg List.length H.N;simp only[Z18,negL]at e;have:=(List.filter_sublist (p:=fun a:Atm=>a.neg) (l:=c.as)).length_le;have:=HC.i.al;omega
 .have e:=congrArg List.length H.P;simp only[Z18,zpB]at e;rw[e];exact HC.p
def NmP(L:List Rl)(ns:List Str)(c:CQ)(S:Nat)(h:T Ob)(c0:Nat)(d:D)(h':T Ob)(c':Nat):Prop:=∃X:Mx,d= .ptr X.M 7 0 0/\zk8 L ns c X/\X.S=S/\c0<X.M/\MS L h' c' X (e0 X)/\∀id,id<c0->h'.get id=h.get id
def zdD.lo{h:T Ob}{lo lo' S:Nat}{L:List Rl}(H:zdD h lo S L)(hl:lo<=lo'):zdD h lo' S L:=by
 obtain⟨⟨PR,W,a1,a2,a3,a4,a5⟩,h1⟩ :=H;refine⟨⟨PR,W,a1,a2,by omega,a4,fun i r hr=> ?_⟩,by omega⟩;obtain⟨d,b1,b2⟩ :=a5 i r hr;exact⟨d,b1,b2.imp_right fun⟨id,c1,c2,c3,c4⟩ =>⟨id,c1,c2,by omega,c4⟩⟩
def mb_ms{L:List Rl}{ns:List Str}{c:CQ}{S M V:Nat}{h:T Ob}{n:Nat}{dP:D}{WP:List (Pat×D)}{dN:D}{WN:List (Pat×D)}{dC:D}{cs:List Cnd}(HB:MB L ns S M V h n dP WP dN WN dC cs)(hn:ns.length<=6)(HO:MxO ⟨ns,M,V,S,dP,WP,dN,WN,dC,cs⟩ L):MS L h n ⟨ns,M,V,S,dP,WP,dN,WN,dC,cs⟩ (e0 ⟨ns,M,V,S,dP,WP,dN,WN,dC,cs⟩):=by
 refine⟨⟨?_,⟨_,HB.v,by simp,fun x hx=> ?_,fun i z hz=>absurd hz (zuu _ i z)⟩,by simp[e0],by simpa [e0]using hn,HB.P,HB.N,HB.C,HB.o⟩,HB.s,HO⟩
 .unfold e0;rw[zu6];exact HB.m
 .rw[List.eq_of_mem_replicate hx];exact⟨0,0,rfl⟩
def eff58{L:List Rl}{ns:List Str}{c:CQ}{h:T Ob}{c0 S:Nat}(HL:zla L)(HC:zma L ns c)(HS:zdD h c0 S L)(hv:Ans pr 106 [.ag (cqF c)] (zah ns)):Eff pr 58 [.ptr S 2 0 0,.ag ((cqF c).map D.f)] h c0 (NmP L ns c S h c0):=by
 refine zb2 kps fn58 (fun d h' c' ⟨X,e1,_,_,_,_⟩ hd _=>by rw[e1]at hd;cases hd) ?_;have q1:=fun k=>zad (k:=k) hv
 have hn:=HC.n;have hl:=HS.l;have n1:¬c0+1=c0:=by omega
 have n2:¬c0=c0+1:=by omega
 have n3:¬c0=c0+1+1:=by omega
 have n4:¬c0+1=c0+1+1:=by omega
 have m1:ns.length<=zav:=by have:=zcL (n:=ns.length) (by omega);simpa using this
 have m2:ns.length*32<=zav:=by have:=zcL (n:=ns.length*32) (by omega);simpa using this
 have ec:cqF c=[zcN c,zc7 c]:=rfl;have hsd:(zah ns).d= .f (zah ns):=zaL ns;have hsc:(D.f (zah ns)).cells=some [.f (zah ns)]:=zcF _ _;obtain⟨h1,hh1⟩ :∃h1,h1=(((h.set c0 (.arr 2 0 [[.f (zcN c),.f (zc7 c)]])).set (c0+1) (.arr 7 0 [[.ptr S 2 0 0,.f (zah ns),.f .nils,.f .nils,.f .nils,.f .nils,.f (.i .u64 0)]])).set (c0+1+1) (.arr 3 0 (List.replicate ns.length [.f (.i .i64 0),.f (.i .i64 0),.f (.s [])]))).set (c0+1) (.arr 7 0 [[.ptr S 2 0 0,.f (zah ns),.f .nils,.f .nils,.f .nils,.sl (c0+1+1) 0 ns.length 3 ns.length true,.f (.i .u64 0)]]):=⟨_,rfl⟩
 have f1:∀id,id<c0->h1.get id=h.get id:=fun id hid=>by rw[hh1,TG,Z49 (by omega),TG,Z49 (by omega),TG,Z49 (by omega),TG,Z49 (by omega)]
 have HB0:MB L ns S (c0+1) (c0+1+1) h1 (c0+1+1+1) (.f .nils) [] (.f .nils) [] (.f .nils) []:=⟨by rw[hh1,TG,Z51 rfl],by rw[hh1,TG,Z49 (by omega),TG,Z51 rfl];rfl,⟨.nil,by simp⟩,⟨.nil,by simp⟩,.nil,fun x hx=>by simp[D.oid]at hx,(HS.up fun id _ h2=>f1 id h2).lo (by omega),by omega⟩
 have g3:h1.get c0=some (.arr 2 0 [[.f (zcN c),.f (zc7 c)]]):=by rw[hh1,TG,Z49 (by omega),TG,Z49 (by omega),TG,Z49 (by omega),TG,Z51 rfl]
 simp only[g58,rU];rw[ec]at q1|-;simp[rW,st0,zak,q1,hsd,hsc,n1,n2,n3,n4,zbz,m1,m2,zhn];refine nm_l0 (L:=L) (ns:=ns) (c:=c) (S:=S) (C3:=c0) (M:=c0+1) (V:=c0+1+1) (c0:=c0) (h:=h) hn HC.i HL.l HL.o ⟨⟨by simp[rW],by simp[rW],by simp[rW],by simp[rW],by simp[rW],by simp[rW],by simp only[rG];rw[<-hh1];exact g3⟩,⟨.f .nils,[],.f .nils,[],?_,rfl,rfl⟩,by omega,fun id hid=>by simp only[rG];rw[<-hh1];exact f1 id hid⟩ ?_
 .simp only[rG];rw[<-hh1];exact HB0
 rintro s1 ⟨⟨h0,h3,h5,h34,h35,h36,g3'⟩,⟨dP,WP,dN,WN,HB,eP,eN⟩,hc0,hf⟩;rw[Z7]at eP eN;simp[rW,h0,h3,h5,h34,h35,h36,g3',zok];refine nm_l4 (L:=L) (ns:=ns) (c:=c) (S:=S) (M:=c0+1) (V:=c0+1+1) (dP:=dP) (WP:=WP) (dN:=dN) (WN:=WN) (h:=h) (c0:=c0) hn HC.i ⟨⟨by simp[rW,h5],by simp[rW],by simp[rW],by simp[rW]⟩,⟨.f .nils,HB.up (fun _ _=>rfl) (by first|(simp only[rG];omega)|(simp only[rG];exact Z2 _)|exact Z2 _)⟩,by omega,hf⟩ ?_;rintro s2 ⟨⟨k5,k94,k95,k96⟩,⟨dC,HB2⟩,_,hf2⟩;rw[Z7]at HB2;have hIs:zk8 L ns c ⟨ns,c0+1,c0+1+1,S,dP,WP,dN,WN,dC,c.cs.map (zfc ns)⟩ :=⟨rfl,eP,eN,rfl⟩
 simp[rW,k5,zaR];exact⟨⟨ns,c0+1,c0+1+1,S,dP,WP,dN,WN,dC,c.cs.map (zfc ns)⟩,rfl,hIs,rfl,Nat.lt_succ_self c0,mb_ms (c:=c) HB2 hn (mxO HL HC hIs),hf2⟩
structure Full(L:List Rl)(X:Mx)(σ:Asg)(g:Nat)(τ:Asg):Prop where
 e:Ext σ τ
 a:∀i q,g.testBit i=true->X.WP[i]? =some q->AtT L τ q.1
 c:zdk L X τ=true
 d:∀j,(zaC τ (.var j)).isSome=true->(zaC σ (.var j)).isSome=true\/∃i q,g.testBit i=true/\X.WP[i]? =some q/\q.1.m.testBit j=true
def zFY{σ:Asg}{p:Pat}{v:List Int}(h:zdd σ p.ts=some v){j:Nat}(hj:p.m.testBit j=true):(zaC σ (.var j)).isSome=true:=by
 rw[ziz]at hj;obtain⟨t,ht,h2⟩ :=Z30.1 hj;have:=zmV h t ht;rw[(zgu t j).1 h2]at this;exact this
def zhT{L:List Rl}{X:Mx}{σ τ:Asg}{p:Pat}{v:List Int}:zdg L X σ p v=some τ↔zea σ p.ts v=some τ/\zdk L X τ=true:=by
 unfold zdg;rw[Option.filter_eq_some_iff]
def rowOf(τ:Asg):List Int:=τ.map fun o=>o.getD 0
def zo2(τ:Asg):Prop:=∀i,i<τ.length->∃z,τ[i]? =some (some z)
def zfa(ns:List Str)(v:List Int):Trm->Int
 | .var s=>v.getD (ns.findIdx fun x=>s==x) 0
 | .cst n=>n
structure zlD(L:List Rl)(ns:List Str)(c:CQ)(v:List Int):Prop where
 l:v.length=ns.length
 a:∀a∈c.as,hasB L (riN L a.r) (a.ts.map (zfa ns v))= !a.neg
 k:∀k∈c.cs,zg4 k.op (zfa ns v k.l) (zfa ns v k.r)=true
structure CqB(ns:List Str)(c:CQ):Prop where
 n:ns.Nodup
 b:∀s∈ns,∃a∈c.as,a.neg=false/\Trm.var s∈a.ts
def zh3{ns:List Str}(h:ns.Nodup){j:Nat}(hj:j<ns.length):(ns.findIdx fun x=>ns[j]==x)=j:=by
 have hlt:(ns.findIdx fun x=>ns[j]==x)<ns.length:=List.findIdx_lt_length.2 ⟨ns[j],Z1 hj,by simp⟩;have e:=List.findIdx_getElem (w:=hlt);simp only[beq_iff_eq]at e;exact ((List.getElem_inj h).1 e).symm
def zvz{τ:Asg}(ha:zo2 τ){i:Nat}(hi:i<τ.length):zaC τ (.var i)=some ((rowOf τ).getD i 0):=by
 obtain⟨z,hz⟩ :=ha i hi;simp[zaC,rowOf,hz,List.getD]
def zrh{ns:List Str}{τ:Asg}(ha:zo2 τ)(hl:τ.length=ns.length){t:Trm}(ht:zi9 ns t):zaC τ (zb8 ns t)=some (zfa ns (rowOf τ) t):=by
 cases t with
 |cst n=>rfl
 |var s=>exact zvz ha (by rw[hl];exact (zhs ht.2).2)
theorem zre{ns:List Str}{τ:Asg}(ha:zo2 τ)(hl:τ.length=ns.length):∀{ts:List Trm},(∀t∈ts,zi9 ns t)->zdd τ (tsO ns ts)=some (ts.map (zfa ns (rowOf τ)))
 |[],_=>rfl
 |t::l,h=>by
  simp only[tsO,Z10,zdd,zrh ha hl (h t (by simp))];have:=zre ha hl (ts:=l) fun x hx=>h x (by simp[hx])
  unfold tsO at this;rw[this]
def zlI(n i:Nat):(2 ^ n - 1).testBit i=decide (i<n):=Nat.testBit_two_pow_sub_one n i
def zju{L:List Rl}{ns:List Str}{c:CQ}{X:Mx}(hX:zk8 L ns c X)(hC:zma L ns c)(hB:CqB ns c)(τ:Asg):Full L X (e0 X) (2 ^ X.WP.length - 1) τ↔zo2 τ/\zlD L ns c (rowOf τ):=by
  have hrl:∀τ:Asg,(rowOf τ).length=τ.length:=fun τ=>by simp[rowOf]
  have hns:X.ns.length=ns.length:=by rw[hX.nE]
  constructor
  . intro H;have hl:τ.length=ns.length:=by rw[H.e.1];simp[e0,hns]
    have hall:zo2 τ:=fun i hi=>by
      have hin:i<ns.length:=by omega
      obtain⟨a,ha,hneg,hts⟩ :=hB.b ns[i] (Z1 hin);have hm:zdZ L ns a∈X.WP.map (·.1):=by
        rw[hX.P];exact List.mem_map_of_mem (Z57.2 ⟨ha,by simp[hneg]⟩)
      obtain⟨q,hq,e⟩ :=Z12.1 hm;obtain⟨j,hj,rfl⟩ :=Z101.1 hq;obtain⟨v,hv,_⟩ :=H.a j _ (by rw[zlI];simpa using hj) (Z0 hj);have h2:=zmV hv (.var i) (by
        rw[e];show Opn.var i∈(a.ts.map (zb8 ns));refine Z12.2 ⟨_,hts,?_⟩;simp only[zb8];rw[zh3 hB.n hin])
      obtain⟨z,hz⟩ :=Z158.1 h2;refine⟨z,?_⟩;simp only[zaC]at hz;cases hh:τ[i]? with
      |none=>rw[hh]at hz;cases hz
      |some o=>rw[hh]at hz;exact congrArg some hz
    have hcon:=H.c;unfold zdk at hcon;rw[Z14]at hcon;refine⟨hall,by rw[hrl,hl],fun a ha=> ?_,fun k hk=> ?_⟩
    . have hvl:=zre hall hl (hC.i.t a ha);cases hneg:a.neg with
      | false=>
        have hm:zdZ L ns a∈X.WP.map (·.1):=by
          rw[hX.P];exact List.mem_map_of_mem (Z57.2 ⟨ha,by simp[hneg]⟩)
        obtain⟨q,hq,e⟩ :=Z12.1 hm;obtain⟨j,hj,rfl⟩ :=Z101.1 hq;obtain⟨v,hv,hb⟩ :=H.a j _ (by rw[zlI];simpa using hj) (Z0 hj);rw[e]at hv hb;have:zdd τ (zdZ L ns a).ts=_:=hvl;rw[this]at hv;cases hv;exact hb
      | true=>
        have hm:zdZ L ns a∈X.WN.map (·.1):=by
          rw[hX.N];exact List.mem_map_of_mem (Z57.2 ⟨ha,by simp[hneg]⟩)
        obtain⟨q,hq,e⟩ :=Z12.1 hm;have h2:=Z50.1 hcon.2 q hq;unfold zh5 at h2;rw[e]at h2;have:zdd τ (zdZ L ns a).ts=_:=hvl;rw[this]at h2;have h3:(!hasB L (riN L a.r) (a.ts.map (zfa ns (rowOf τ))))=true:=h2;simpa using h3
    . have hm:zfc ns k∈X.cs:=by rw[hX.cE];exact List.mem_map_of_mem hk
      have h2:=Z50.1 hcon.1 _ hm;unfold zhW at h2;rw[show(zfc ns k).l=zb8 ns k.l from rfl,show(zfc ns k).r=zb8 ns k.r from rfl,zrh hall hl (hC.i.k k hk).1,zrh hall hl (hC.i.k k hk).2]at h2;exact h2
  . rintro⟨hall,H⟩;have hl:τ.length=ns.length:=by rw[<-hrl];exact H.l
    refine⟨zqd X (by rw[hl,hns]),fun i q hi hq=> ?_,?_,fun j hj=> ?_⟩
    . have hm:q.1∈X.WP.map (·.1):=List.mem_map_of_mem (Z39 hq);rw[hX.P]at hm;obtain⟨a,ha,e⟩ :=Z12.1 hm;obtain⟨ha,hneg⟩ :=Z57.1 ha;have h2:=H.a a ha;have hneg:a.neg=false:=by simpa using hneg
      rw[hneg]at h2;rw[<-e];exact⟨_,zre hall hl (hC.i.t a ha),h2⟩
    . unfold zdk;rw[Z14];refine⟨Z50.2 fun k hk=> ?_,Z50.2 fun q hq=> ?_⟩
      . rw[hX.cE]at hk;obtain⟨u,hu,rfl⟩ :=Z12.1 hk;unfold zhW;rw[show(zfc ns u).l=zb8 ns u.l from rfl,show(zfc ns u).r=zb8 ns u.r from rfl,zrh hall hl (hC.i.k u hu).1,zrh hall hl (hC.i.k u hu).2];exact H.k u hu
      . have hm:q.1∈X.WN.map (·.1):=List.mem_map_of_mem hq;rw[hX.N]at hm;obtain⟨a,ha,e⟩ :=Z12.1 hm;obtain⟨ha,hneg⟩ :=Z57.1 ha;have h2:=H.a a ha;rw[hneg]at h2;unfold zh5;rw[<-e];have:zdd τ (zdZ L ns a).ts=_:=zre hall hl (hC.i.t a ha);rw[this];have h3:hasB L (zdZ L ns a).r (a.ts.map (zfa ns (rowOf τ)))=false:=h2;simp[h3]
    . have hjl:j<ns.length:=by
        rcases Z145 j ns.length with h|h
        . exact h
        . simp only[zaC]at hj;rw[Z97 (by omega)]at hj;cases hj
      obtain⟨a,ha,hneg,hts⟩ :=hB.b ns[j] (Z1 hjl);have hm:zdZ L ns a∈X.WP.map (·.1):=by
        rw[hX.P];exact List.mem_map_of_mem (Z57.2 ⟨ha,by simp[hneg]⟩)
      obtain⟨q,hq,e⟩ :=Z12.1 hm;obtain⟨i,hi,rfl⟩ :=Z101.1 hq;refine .inr ⟨i,_,by rw[zlI];simpa using hi,Z0 hi,?_⟩;rw[e,ziz];refine Z30.2 ⟨.var j,Z12.2 ⟨_,hts,?_⟩,(zgu _ j).2 rfl⟩;simp only[zb8];rw[zh3 hB.n hjl]
def zF6(h:T Ob)(c:Nat)(d:D)(vs:List (List Int)):Prop:=(d= .f .nils/\vs=[])\/∃id ex R,d= .sl id 0 vs.length 1 vs.length ex/\h.get id=some (.arr 1 0 (rE R))/\R.map (·.2)=vs/\vs≠[]/\∀p∈R,zgz h c p.1 p.2
def zEk{h:T Ob}{c:Nat}{d:D}{v:List Int}(H:zgz h c d v)(k:Nat):∃rd,frz h.get (k+2) d=some (.sl 3 (v.map Sm.vF),rd):=by
 obtain⟨id,ro,ex,rfl,hg,_⟩ :=H;refine⟨[id],?_⟩;have e:((vRw v).drop 0).take v.length=vRw v:=by
  rw[Z34,Z11 (by simp[vRw])]
 have h2:=zmC h.get k (v.map Sm.vF);rw[zfw,hg];simp only[om,Z46,fzS];rw[Z51 (by simp[vRw]),e];unfold vRw;rw[h2];rfl
theorem zxz{h:T Ob}{c:Nat}(k:Nat):∀{R:List Er},(∀p∈R,zgz h c p.1 p.2)->∃rd,zaU (frz h.get (k+2)) (rE R)=some (R.map fun p=>[F.sl 3 (p.2.map Sm.vF)],rd)
 |[],_=>⟨[],rfl⟩
 |p::R,H=>by
  obtain⟨rd,h1⟩ :=zxz k (R:=R) fun q hq=>H q (by simp[hq])
  obtain⟨rd2,h4⟩ :=zEk (H p (by simp)) k;refine⟨(rd2++[])++rd,?_⟩;show zaU (frz h.get (k+2)) ([p.1]::rE R)=_;rw[zzF,h1];simp only[zaT,h4,zeu,fr_c,fr_n];rfl
def zKw{h:T Ob}{c:Nat}{d:D}{vs:List (List Int)}(H:zF6 h c d vs)(k:Nat):∃rd,frz h.get (k+3) d=some (zdz vs,rd):=by
 rcases H with⟨rfl,rfl⟩ |⟨id,ex,R,rfl,hg,rfl,hne,hr⟩
 .exact⟨[],rfl⟩
 .obtain⟨rd,h1⟩ :=zxz k hr;have hl:(rE R).length=(R.map (·.2)).length:=by simp[rE]
  have e:((rE R).drop 0).take (R.map (·.2)).length=rE R:=by
   rw[Z34,Z11 (by omega)]
  have en:zdz (R.map (·.2))= .sl 1 (R.map fun p=>[F.sl 3 (p.2.map Sm.vF)]):=by
   cases R with
   |nil=>exact absurd rfl hne
   |cons p R=>simp[zdz,slc]
  refine⟨id::rd,?_⟩;rw[zfw,hg];simp only[om,Z46,fzS];rw[Z51 (by simp[rE]),e,h1,en];rfl
def zC6{L:List Rl}{h0 h:T Ob}{c0 c:Nat}{W:List (D×Nat×List Nat)}(H:SR L h0 c0 (L.map Go.Proofs.YtdlcolcidohbkaaGreatDoor.vF) h c W):zdD h c (c0+1) L:=by
  have hc:=H.c;have hWl:W.length=L.length:=by have:=congrArg List.length H.v;simpa using this
  refine⟨⟨c0,W.map (·.1),H.s,?_,by omega,by simpa using hWl,fun i r hr=> ?_⟩,by omega⟩
  . rw[H.p.r];simp[Z33,Z67]
  . have hv:(W.map (·.2))[i]? =some (Go.Proofs.YtdlcolcidohbkaaGreatDoor.vF r):=by rw[H.v,Z36,hr];rfl
    rw[Z36]at hv;cases hw:W[i]? with
    |none=>rw[hw]at hv;cases hv
    | some p=>
      rw[hw]at hv;simp only[Z134,Z45]at hv;refine⟨p.1,by rw[Z36,hw];rfl,?_⟩;have hg:=H.p.g p (Z39 hw);rw[hv]at hg;rcases hg with⟨h1,h2,h3⟩ |⟨id,jk,h1,h2,h3,h4,h5,h6⟩
      . exact .inl ⟨h1,h2⟩
      . have hj:jk=[]:=by
          simp only[Go.Proofs.YtdlcolcidohbkaaGreatDoor.vF,Z37]at h3;exact Z17.1 (by omega)
        subst hj;refine .inr ⟨id,?_,?_,⟨by omega,h6⟩,h4⟩
        . simpa [Go.Proofs.YtdlcolcidohbkaaGreatDoor.vF]using h1
        . simpa [Go.Proofs.YtdlcolcidohbkaaGreatDoor.vF]using h2
def zvA(v:List Int):rowOf (v.map some)=v/\zo2 (v.map some):=by
 refine⟨by simp[rowOf,Z67],fun i hi=> ?_⟩;have hi':i<v.length:=by simpa using hi
 exact⟨v[i],by simp[hi']⟩
def fn32:pr.fn 32=some g32:=by kernel_rfl
def zoc:C:=g32.body.r.r.l.r.b.o
def zyH:C:=zoc.r.r.l.b.r.r.r.l.r.b.o
def hdL(ns hd:List Str):List Int:=hd.map fun s=>zg7 (fun x=>s==x) ns
def hdD(l:List Int):List (List D):=l.map fun i=>[.f (.i .i64 i)]
def zEe(l:List Int)(i:Int):hdD (l++[i])=hdD l++[[.f (.i .i64 i)]]:=by simp[hdD]
def Ju2(R:List (Nat×D))(ns hd:List Str)(h:T Ob)(b:Nat)(k:Nat)(s:St):Prop:=Rg R s/\(s.tm.get 25=some (.f (zah hd))/\s.tm.get 26=some (.f (.i .i64 hd.length))/\s.tm.get 27=some (.f (.i .i64 k)))/\b<=s.c/\(∀id,id<b->s.h.get id=h.get id)/\∃d,s.tm.get 9=some d/\Gro s.h b s.c 1 d (hdD (hdL ns (hd.take k)))
theorem nu_l2{h:T Ob}{b M:Nat}{D0 D3 D5 D15 D16 D17:D}{ns hd:List Str}{r0 r2 r3 r4 r5 r6:D}(hM:h.get M=some (.arr 7 0 [[r0,.f (zah ns),r2,r3,r4,r5,r6]]))(hMb:M<b)(hn:ns.length<=6)(hl:hd.length<1000){s:St}{K:Ex->St->Prop}
  (hJ:Ju2 [(0,D0),(3,D3),(5,D5),(8,.ptr M 7 0 0),(15,D15),(16,D16),(17,D17)] ns hd h b 0 s)(kx:∀s,Ju2 [(0,D0),(3,D3),(5,D5),(8,.ptr M 7 0 0),(15,D15),(16,D16),(17,D17)] ns hd h b hd.length s->K (.exit 2) s):WL pr zyH s K:=by
 refine zbD hd.length (Ju2 [(0,D0),(3,D3),(5,D5),(8,.ptr M 7 0 0),(15,D15),(16,D16),(17,D17)] ns hd h b) (fun e s=>e= .exit 2/\Ju2 [(0,D0),(3,D3),(5,D5),(8,.ptr M 7 0 0),(15,D15),(16,D16),(17,D17)] ns hd h b hd.length s) ?_ ?_ _ hJ ?_
 .rintro k s hlt ⟨⟨h0,h3,h5,h8,h15,h16,h17,-⟩,⟨h25,h26,h27⟩,hc,hf,d,h9,hG⟩;have hw:=zao k (by omega);have hx:hd[k]? =some hd[k]:=Z0 hlt;generalize htt:hd[k]=t at hx;have q1:=fun K=>zad (k:=K) (zyw ns t (by omega))
  have htk:hdL ns (hd.take (k+1))=hdL ns (hd.take k)++[zg7 (fun x=>t==x) ns]:=by
   simp only[hdL,Z105,hx,Option.toList,Z20,Z10,Z85]
  have hm':=(hf M hMb).trans hM;have hlen:(hdD (hdL ns (hd.take k))).length<=k:=by simp[hdD,hdL];omega
  unfold zyH zoc g32;simp only[rU,C.l,C.r,C.b,C.o];simp[rW,h0,h3,h5,h8,h9,h15,h16,h17,h25,h26,h27,hlt,zdf,hx,htt,hm',q1];refine zfl hG (by omega) (by simp only[Z23,Z170];omega) (by omega) ?_;intro r hr1 hr2 hr3 hr4 hr5;rw[<-zEe,<-htk]at hr2;simp[rW,hr1,hw];exact⟨by simp only[Rg];simp[rW,h0,h3,h5,h8,h15,h16,h17],⟨by simp[rW,h25],by simp[rW,h26],by simp[rW]⟩,by simp only[rG];omega,fun id h1=>by simp only[rG];rw[hr4 id (by omega) (zh7 hG h1)];exact hf id h1,r.d,by simp[rW],by simp only[rG];exact zaX hr2 (Z2 _) fun _ _ _=>rfl⟩
 .rintro s ⟨⟨h0,h3,h5,h8,h15,h16,h17,-⟩,⟨h25,h26,h27⟩,hc,hf,d,h9,hG⟩;unfold zyH zoc g32;simp only[rU,C.l,C.r,C.b,C.o];simp[rW,h25,h26,h27];exact⟨by simp only[Rg];simp[rW,h0,h3,h5,h8,h15,h16,h17],⟨by simp[rW,h25],by simp[rW,h26],by simp[rW,h27]⟩,by simp only[rG];omega,fun id h1=>by simp[rW];exact hf id h1,d,by simp[rW,h9],zaX hG (by simp only[rG];omega) (fun _ _ _=>rfl)⟩
 .rintro e s ⟨rfl,hJ⟩;exact kx s hJ
def zAH{α β:Type}(f:α->Option β):om none f=none:=rfl
def zOE(a b c d:Nat)(l:List D):zdx (.ptr a b c d::l)=none:=rfl
def ziu{h h':T Ob}{lo c c' es:Nat}{d:D}{els:List (List D)}(hg:Gro h lo c es d els)(hc:c<=c')(hh:∀id,d.oid=some id->h'.get id=h.get id):Gro h' lo c' es d els:=by
 rcases hg with h|⟨id,ro,rfl,h2,h3,h4,h5,h6⟩
 .exact .inl h
 .exact .inr ⟨id,ro,rfl,h2,by rw[hh id rfl];exact h3,h4,h5,by omega⟩
def zOL{h:T Ob}{lo lo' c es:Nat}{d:D}{els:List (List D)}(hg:Gro h lo c es d els)(hl:lo'<=lo):Gro h lo' c es d els:=by
 rcases hg with h|⟨id,ro,h1,h2,h3,h4,h5,h6⟩
 .exact .inl h
 .exact .inr ⟨id,ro,h1,h2,h3,h4,by omega,h6⟩
def MS.cut{L:List Rl}{h:T Ob}{c e:Nat}{X:Mx}{σ:Asg}(H:MS L h c X σ)(H0:St0 h e X):MS L h e X σ:=
 ⟨⟨H.m.m,H.m.v,H.m.n,H.m.n6,H0.P,H0.N,H0.C,H0.o⟩,H.s,H.o⟩
structure zn5(L:List Rl)(S:Nat)(h:T Ob)(lo e:Nat)(hd:List Str)(q:List Str×CQ)(X:Mx)(dh:D):Prop where
 ms:∃σ,MS L h e X σ
 mi:zk8 L q.1 q.2 X
 s:X.S=S
 m:lo<=X.M
 g:Gro h (X.V+1) e 1 dh (hdD (hdL q.1 hd))
def zn5.up{L:List Rl}{S:Nat}{h h':T Ob}{lo e:Nat}{hd:List Str}{q:List Str×CQ}{X:Mx}{dh:D}(H:zn5 L S h lo e hd q X dh)(hs:zdD h' lo S L)(hf:∀id,lo<=id->id<e->h'.get id=h.get id):zn5 L S h' lo e hd q X dh:=by
 obtain⟨⟨σ,h1⟩,h2,h3,h4,h5⟩ :=H;have ho:=h1.m.o;obtain⟨vs,v1,v2,v3,v4⟩ :=h1.m.v;have key:∀id,X.V+1<=id->id<e->h'.get id=h.get id:=fun id h6 h7=>hf id (by omega) h7
 refine⟨⟨σ,⟨⟨by rw[hf _ (by omega) (by omega)];exact h1.m.m,⟨vs,by rw[hf _ (by omega) (by omega)];exact v1,v2,v3,v4⟩,h1.m.n,h1.m.n6,h1.m.P.up key (Z2 _),h1.m.N.up key (Z2 _),zaX h1.m.C (Z2 _) key,ho⟩,?_,h1.o⟩⟩,h2,h3,h4,zaX h5 (Z2 _) key⟩;rw[h3];exact hs.lo (by omega)
abbrev UZ:=Nat×Nat×Mx×D
structure UnA(L:List Rl)(S c1 U:Nat)(hd:List Str)(qs:List (List Str×CQ))(h:T Ob)(c:Nat)(Z:List UZ)(dd dh:D):Prop where
 s:zdD h c1 S L
 u:h.get U=some (.arr 2 0 [[dd,dh]])
 o:c1<=U/\U<c
 d:Gro h (U+1) c 1 dd (Z.map fun z=>[.ptr z.2.2.1.M 7 0 0])
 e:Gro h (U+1) c 1 dh (Z.map fun z=>[z.2.2.2])
 n:Z.length=qs.length
 z:∀(i:Nat) (z:UZ) (q:List Str×CQ),Z[i]? =some z->qs[i]? =some q->zn5 L S h z.1 z.2.1 hd q z.2.2.1 z.2.2.2/\U<z.1/\z.2.1<=c/\∀x,dd.oid=some x\/dh.oid=some x->x<z.1\/z.2.1<=x
 p:Z.Pairwise fun a b=>a.2.1<=b.1
 ne:∀x,dd.oid=some x->dh.oid≠some x
def zFX{L:List Rl}{S c1 U:Nat}{hd:List Str}{qs:List (List Str×CQ)}{k:Nat}{q:List Str×CQ}{h G:T Ob}{c n e:Nat}{Z:List UZ}{dd dh rd re dE:D}{X:Mx}(HA:UnA L S c1 U hd (qs.take k) h c Z dd dh)(hq:qs[k]? =some q)(hce:c<=e)(hen:e<=n)(hf:∀id,id<c->id≠U->dd.oid≠some id->dh.oid≠some id->G.get id=h.get id)(hU:G.get U=some (.arr 2 0 [[rd,re]]))(h1:Gro G (U+1) n 1 rd ((Z.map fun z=>[.ptr z.2.2.1.M 7 0 0])++[[.ptr X.M 7 0 0]]))(h2:Gro G (U+1) n 1 re ((Z.map fun z=>[z.2.2.2])++[[dE]]))(hC:zn5 L S G c e hd q X dE)(o1:∀x,rd.oid=some x->dd.oid=some x\/e<=x)(o2:∀x,re.oid=some x->dh.oid=some x\/e<=x)(hne:∀x,rd.oid=some x->re.oid≠some x):UnA L S c1 U hd (qs.take (k+1)) G n (Z++[(c,e,X,dE)]) rd re:=by
 have hk:k<qs.length:=(Z8.1 hq).1;have ho:=HA.o;have hZl:Z.length=k:=by rw[HA.n,Z41];omega
 have bd:∀x,dd.oid=some x\/dh.oid=some x->U+1<=x/\x<c:=fun x hx=>by
  rcases hx with hx|hx
  .exact zbq HA.d hx
  .exact zbq HA.e hx
 have hs:zdD G c1 S L:=HA.s.up fun id _ h4=>hf id (by omega) (by omega) (fun e=>by have:=bd _ (.inl e);omega) (fun e=>by have:=bd _ (.inr e);omega)
 refine⟨hs,hU,by omega,by rw[Z20];exact h1,by rw[Z20];exact h2,by rw[Z16,hZl,Z41,List.length_singleton];omega,fun i z q' hz hq'=> ?_,?_,hne⟩
 .rcases Z145 i k with hi|hi
  .rw[Z54 (by omega)]at hz;have hq2:(qs.take k)[i]? =some q':=by
    rw[Z75,Z51 (by omega)]at hq'|-;exact hq'
   obtain⟨a1,a2,a3,a4⟩ :=HA.z i z q' hz hq2;refine⟨a1.up (hs.lo (by omega)) fun id h3 h4=>hf id (by omega) (by omega) (fun e=> ?_) (fun e=> ?_),a2,by omega,fun x hx=> ?_⟩
   .have:=a4 _ (.inl e);omega
   .have:=a4 _ (.inr e);omega
   .have hx':(dd.oid=some x\/dh.oid=some x)\/e<=x:=by
     rcases hx with hx|hx
     .exact (o1 x hx).imp_left .inl
     .exact (o2 x hx).imp_left .inr
    rcases hx' with hx'|hx'
    .exact a4 x hx'
    .exact .inr (by omega)
  .have hil:i<k+1:=by
    have:=(Z8.1 hz).1;rw[Z16,hZl,List.length_singleton]at this;exact this
   have hik:i=k:=by omega
   subst hik;rw[Z62 (by omega),hZl,Z194]at hz;rw[Z75,Z51 (by omega),hq]at hq';cases hq';cases hz;refine⟨hC,by omega,hen,fun x hx=> ?_⟩;have hx':(dd.oid=some x\/dh.oid=some x)\/e<=x:=by
    rcases hx with hx|hx
    .exact (o1 x hx).imp_left .inl
    .exact (o2 x hx).imp_left .inr
   rcases hx' with hx'|hx'
   .exact .inl (bd x hx').2
   .exact .inr hx'
 .rw[Z100];refine⟨HA.p,by simp,fun a ha b hb=> ?_⟩;rw[Z31]at hb;subst hb;obtain⟨i,hi,rfl⟩ :=Z101.1 ha;have hi2:i< (qs.take k).length:=by rw[<-HA.n];exact hi
  exact (HA.z i _ _ (Z0 hi) (Z0 hi2)).2.2.1
def qyF(hd:List Str)(qs:List (List Str×CQ)):List F:=[zah hd,qsF (qs.map (·.2))]
structure zyk(L:List Rl)(hd:List Str)(qs:List (List Str×CQ)):Prop where
 hl:hd.length<1000
 ql:qs.length<1000
 q:∀q∈qs,zma L q.1 q.2/\Ans pr 106 [.ag (cqF q.2)] (zah q.1)
def Ju0(L:List Rl)(S c1:Nat)(hd:List Str)(qs:List (List Str×CQ))(h:T Ob)(c0 k:Nat)(s:St):Prop:=(s.tm.get 0=some (.ptr S 2 0 0)/\s.tm.get 3=some (.ptr c0 2 0 0)/\s.tm.get 5=some (.ptr (c0+1) 2 0 0)/\s.tm.get 15=some (.f (qsF (qs.map (·.2))))/\s.tm.get 16=some (.f (.i .i64 qs.length))/\s.tm.get 17=some (.f (.i .i64 k)))/\s.h.get c0=some (.arr 2 0 [[.f (zah hd),.f (qsF (qs.map (·.2)))]])/\(∀id,id<c0->s.h.get id=h.get id)/\∃Z dd dh,UnA L S c1 (c0+1) hd (qs.take k) s.h s.c Z dd dh
def UnP(L:List Rl)(S c1:Nat)(hd:List Str)(qs:List (List Str×CQ))(h:T Ob)(c:Nat)(d:D)(h':T Ob)(c':Nat):Prop:=∃U,c<U/\d= .ptr U 2 0 0/\(∃Z dd dh,UnA L S c1 U hd qs h' c' Z dd dh)/\∀id,id<c->h'.get id=h.get id
def nu_l0{L:List Rl}{S c1:Nat}{hd:List Str}{qs:List (List Str×CQ)}{h:T Ob}{c0:Nat}(HL:zla L)(HQ:zyk L hd qs){s:St}{K:Ex->St->Prop}(hJ:Ju0 L S c1 hd qs h c0 0 s)(kx:∀s,Ju0 L S c1 hd qs h c0 qs.length s->K (.exit 0) s):WL pr zoc s K:=by
 have hql:=HQ.ql;have hll:=HQ.hl;refine zbD qs.length (Ju0 L S c1 hd qs h c0) (fun e s=>e= .exit 0/\Ju0 L S c1 hd qs h c0 qs.length s) ?_ ?_ _ hJ ?_
 .rintro k s hlt ⟨⟨h0,h3,h5,h15,h16,h17⟩,g3,hf,Z,dd,dh,HA⟩;have hw:=zao k (by omega);have hx:qs[k]? =some qs[k]:=Z0 hlt;have hxx:(qs.map (·.2))[k]? =some (qs[k]).2:=by rw[Z36,hx];rfl
  obtain⟨HCq,HVq⟩ :=HQ.q _ (Z1 hlt);generalize htt:qs[k]=q at hx hxx HCq HVq;have hab:=HA.o;have i1:¬c0=s.c:=by omega
  have hcd:[D.f (zcN q.2),D.f (zc7 q.2)]=(cqF q.2).map D.f:=rfl;have had:(zcN q.2).d= .f (zcN q.2):=zd8 q.2;have hcm:(zc7 q.2).d= .f (zc7 q.2):=zeb q.2;have hce:cqF q.2=[zcN q.2,zc7 q.2]:=rfl;unfold zoc g32;simp only[rU,C.l,C.r,C.b,C.o];simp[rW,h0,h3,h5,h15,h16,h17,hlt,zeA,hxx,htt,hce,had,hcm,i1];rw[hcd];obtain⟨H,hH⟩ :∃H,H=(s.h.set s.c (.arr 2 0 [[.f .nils,.f .nils]])).set s.c (.arr 2 0 [(cqF q.2).map D.f]):=⟨_,rfl⟩
  have hHf:∀id,id<s.c->H.get id=s.h.get id:=fun id hid=>by rw[hH,TG,Z49 (by omega),TG,Z49 (by omega)]
  have hSr:zdD H (s.c+1) S L:=(HA.s.up fun id _ h2=>hHf id (by omega)).lo (by omega);refine zbR [(0,.ptr S 2 0 0),(3,.ptr c0 2 0 0),(5,.ptr (c0+1) 2 0 0),(15,.f (qsF (qs.map (·.2)))),(16,.f (.i .i64 qs.length)),(17,.f (.i .i64 k))] (eff58 HL HCq hSr HVq) (by simp only[rG];exact hH.symm) (by simp only[rG]) (by simp only[Rg];simp[rW,h0,h3,h5,h15,h16,h17]) rfl ?_;rintro s1 d1 ⟨X,rfl,hIs,hXS,hXM,HM,hf1⟩ hc1 k23 ⟨k0,k3,k5,k15,k16,k17,-⟩;have f1:∀id,id<s.c->s1.h.get id=s.h.get id:=fun id hid=>(hf1 id (by omega)).trans (hHf id hid)
  have g3':=(f1 c0 (by omega)).trans g3;have hsd:(zah hd).d= .f (zah hd):=zaL hd;have hXo:=HM.m.o;refine⟨?_⟩;simp[rW,k0,k3,k5,k15,k16,k17,k23,g3',hsd,zbz];refine nu_l2 (D0:= .ptr S 2 0 0) (D3:= .ptr c0 2 0 0) (D5:= .ptr (c0+1) 2 0 0) (D15:= .f (qsF (qs.map (·.2)))) (D16:= .f (.i .i64 qs.length)) (D17:= .f (.i .i64 k)) (ns:=q.1) (h:=s1.h) (b:=s1.c) (by rw[<-hIs.nE];exact HM.m.m) (by omega) HCq.n hll ⟨by simp only[Rg];simp[rW,k0,k3,k5,k15,k16,k17],⟨by simp[rW],by simp[rW],by simp[rW]⟩,by simp only[rG];omega,fun id hid=>by simp only[rG],.f .nils,by simp[rW],.nil⟩ ?_;rintro s2 ⟨⟨j0,j3,j5,j8,j15,j16,j17,-⟩,-,hc2,hf2,dE,j9,hGE⟩;rw[Z7]at hGE;have hU2:s2.h.get (c0+1)=some (.arr 2 0 [[dd,dh]]):=by rw[hf2 _ (by omega),f1 _ (by omega)];exact HA.u
  simp[rW,j0,j3,j5,j8,j9,j15,j16,j17,hU2,zAH,zOE];have hd2:Gro s2.h (c0+1+1) s2.c 1 dd (Z.map fun z=>[.ptr z.2.2.1.M 7 0 0]):=zaX HA.d (by omega) fun id _ h2=>(hf2 id (by omega)).trans (f1 id h2)
  have hZl:Z.length=k:=by rw[HA.n,Z41];omega
  have e2:∀id,id<s2.c->(s2.h.set s2.c (.arr 1 0 [[.ptr X.M 7 0 0]])).get id=s2.h.get id:=fun id hid=>by rw[TG,Z49 (by omega)]
  refine zfl (zaX (c':=s2.c+1) hd2 (by omega) fun id _ h2=>e2 id h2) (by omega) (by simp only[Z18,Z23,Z170];omega) (by omega) ?_;intro r hr1 hr2 hr3 hr4 hr5;have g5:(wrT (s2.h.set s2.c (.arr 1 0 [[.ptr X.M 7 0 0]])) r.wr).get (c0+1)=some (.arr 2 0 [[dd,dh]]):=by
   rw[hr4 _ (by omega) (zh7 hd2 (by omega)),e2 _ (by omega)];exact hU2
  have hrc:=zbY hr2;have jr3:c0+1<r.c:=by omega
  generalize hH3:wrT (s2.h.set s2.c (.arr 1 0 [[.ptr X.M 7 0 0]])) r.wr=H3 at hr2 hr4 g5;have key3:∀id,id<s2.c->dd.oid≠some id->H3.get id=s2.h.get id:=fun id h1 h2=>(hr4 id (by omega) h2).trans (e2 id h1)
  have bdd:∀x,dd.oid=some x->c0+2<=x/\x<s.c:=fun x hx=>zbq HA.d hx
  have bdh:∀x,dh.oid=some x->c0+2<=x/\x<s.c:=fun x hx=>zbq HA.e hx
  have hc0:c0+1<s.c:=hab.2;have bdr:∀x,r.d.oid=some x->dd.oid=some x\/s2.c<=x:=fun x hx=>(hr5 x hx).elim (fun e=> .inr (by omega)) .inl
  have fin:∀(H4:T Ob) (n4:Nat),r.c<=n4->(∀id,id<r.c->id≠c0+1->H4.get id=H3.get id)->∀(r2:Rs),Gro (wrT H4 r2.wr) (c0+1+1) r2.c 1 r2.d ((Z.map fun z=>[z.2.2.2])++[[dE]])->n4<=r2.c->(∀id,id<n4->dh.oid≠some id->(wrT H4 r2.wr).get id=H4.get id)->(∀x,r2.d.oid=some x->x=n4\/dh.oid=some x)->∀G,G=(wrT H4 r2.wr).set (c0+1) (.arr 2 0 [[r.d,r2.d]])->UnA L S c1 (c0+1) hd (qs.take (k+1)) G r2.c (Z++[(s.c,s2.c,X,dE)]) r.d r2.d/\∀id,id<s.c->id≠c0+1->dd.oid≠some id->dh.oid≠some id->G.get id=s.h.get id:=by
   intro H4 n4 hn4 hH4 r2 a1 a2 a3 a4 G hG;have key4:∀id,id<r.c->id≠c0+1->dh.oid≠some id->G.get id=H3.get id:=fun id b1 b2 b3=>by
    rw[hG,TG,Z49 b2,a3 id (by omega) b3];exact hH4 id b1 b2
   have keyG:∀id,id<s2.c->id≠c0+1->dd.oid≠some id->dh.oid≠some id->G.get id=s2.h.get id:=fun id b1 b2 b3 b4=>(key4 id (by omega) b2 b4).trans (key3 id b1 b3)
   have keyS:∀id,id<s.c->id≠c0+1->dd.oid≠some id->dh.oid≠some id->G.get id=s.h.get id:=fun id b1 b2 b3 b4=>(keyG id (by omega) b2 b3 b4).trans ((hf2 id (by omega)).trans (f1 id b1))
   have hS2:zdD G s.c S L:=(HA.s.up fun id _ h4=>keyS id (by omega) (by omega) (fun e=>by have:=bdd _ e;omega) (fun e=>by have:=bdh _ e;omega)).lo (by omega);have hC2:zn5 L S s2.h s.c s2.c hd q X dE:=⟨⟨_,HM.up hf2 hc2⟩,hIs,hXS,by omega,zOL hGE (by omega)⟩
   refine⟨zFX HA hx (by omega) (by omega) keyS (by rw[hG,TG,Z51 rfl]) ?_ ?_ (hC2.up hS2 fun id b1 b2=>keyG id b2 (by omega) (fun e=>by have:=bdd _ e;omega) fun e=>by have:=bdh _ e;omega) bdr (fun x hx=>(a4 x hx).elim (fun e=> .inr (by omega)) .inl) fun x h1 h2=> ?_,keyS⟩
   .refine ziu hr2 (by omega) fun id hid=> ?_
    have b1:=zbq hr2 hid;refine key4 id b1.2 (by omega) fun e=> ?_
    rcases bdr id hid with e1|e1
    .exact HA.ne id e1 e
    .have:=bdh _ e;omega
   .refine zaX a1 (Z2 _) fun id b1 _=> ?_
    rw[hG,TG,Z49 (by omega)]
   .rcases bdr x h1 with e1|e1
    .rcases a4 x h2 with e2|e2
     .have:=bdd _ e1;omega
     .exact HA.ne x e1 e2
    .rcases a4 x h2 with e2|e2
     .have:=zbq hr2 h1;omega
     .have:=bdh _ e2;omega
  rcases hGE with⟨rfl,hE⟩ |⟨iE,ro,rfl,eE1,eE2,eE3,eE4,eE5⟩
  .simp[rW,hr1,hH3,g5,hrc,jr3];have e4:∀id,id<r.c->id≠c0+1->(H3.set (c0+1) (.arr 2 0 [[r.d,dh]])).get id=H3.get id:=fun id _ b2=>by rw[TG,Z49 b2]
   refine zfl (ziu (c':=r.c) (HA.e) (by omega) fun id hid=> ?_) (by omega) (by simp only[Z18,Z23,Z170];omega) (by omega) ?_
   .have:=bdh _ hid;rw[e4 id (by omega) (by omega),key3 id (by omega) (fun e=>HA.ne id e hid),hf2 id (by omega),f1 id (by omega)]
   intro r2 a0 a1 a2 a3 a4;have g6:(wrT (H3.set (c0+1) (.arr 2 0 [[r.d,dh]])) r2.wr).get (c0+1)=some (.arr 2 0 [[r.d,dh]]):=by
    rw[a3 _ (by omega) (fun e=>by have:=bdh _ e;omega),TG,Z51 rfl]
   have hrc2:=zbY a1;have j4:c0+1<r2.c:=by omega
   obtain⟨G,hG⟩ :∃G,G=(wrT (H3.set (c0+1) (.arr 2 0 [[r.d,dh]])) r2.wr).set (c0+1) (.arr 2 0 [[r.d,r2.d]]):=⟨_,rfl⟩
   obtain⟨HF,hFG⟩ :=fin _ r.c (Z2 _) e4 r2 a1 a2 a3 a4 G hG;simp[rW,a0,hH3,g6,hrc2,j4,hw];refine⟨⟨by simp[rW,j0],by simp[rW,j3],by simp[rW,j5],by simp[rW,j15],by simp[rW,j16],by simp[rW]⟩,by simp only[rG];rw[hH3,<-hG,hFG c0 (by omega) (by omega) (fun e=>by have:=bdd _ e;omega) (fun e=>by have:=bdh _ e;omega)];exact g3,fun id hid=>by simp only[rG];rw[hH3,<-hG,hFG id (by omega) (by omega) (fun e=>by have:=bdd _ e;omega) (fun e=>by have:=bdh _ e;omega)];exact hf id hid,_,r.d,r2.d,by simp only[rG];rw[hH3,<-hG];exact HF⟩
  .simp[rW,hr1,hH3,g5,hrc,jr3,zAH];obtain⟨H4,hH4⟩ :∃H4,H4=(H3.set (c0+1) (.arr 2 0 [[r.d,dh]])).set r.c (.arr 1 0 [[.sl iE 0 (hdD (hdL q.1 hd)).length 1 (hdD (hdL q.1 hd)).length false]]):=⟨_,rfl⟩
   rw[<-hH4];have e4:∀id,id<r.c->id≠c0+1->H4.get id=H3.get id:=fun id b1 b2=>by rw[hH4,TG,Z49 (by omega),TG,Z49 b2]
   refine zfl (ziu (c':=r.c+1) (HA.e) (by omega) fun id hid=> ?_) (by omega) (by simp only[Z18,Z23,Z170];omega) (by omega) ?_
   .have:=bdh _ hid;rw[e4 id (by omega) (by omega),key3 id (by omega) (fun e=>HA.ne id e hid),hf2 id (by omega),f1 id (by omega)]
   intro r2 a0 a1 a2 a3 a4;have g6:(wrT H4 r2.wr).get (c0+1)=some (.arr 2 0 [[r.d,dh]]):=by
    rw[a3 _ (by omega) (fun e=>by have:=bdh _ e;omega),hH4,TG,Z49 (by omega),TG,Z51 rfl]
   have hrc2:=zbY a1;have j4:c0+1<r2.c:=by omega
   obtain⟨G,hG⟩ :∃G,G=(wrT H4 r2.wr).set (c0+1) (.arr 2 0 [[r.d,r2.d]]):=⟨_,rfl⟩
   obtain⟨HF,hFG⟩ :=fin H4 (r.c+1) (by omega) e4 r2 a1 a2 a3 a4 G hG;simp[rW,a0,hH3,g6,hrc2,j4,hw];refine⟨⟨by simp[rW,j0],by simp[rW,j3],by simp[rW,j5],by simp[rW,j15],by simp[rW,j16],by simp[rW]⟩,by simp only[rG];rw[hH3,<-hH4,<-hG,hFG c0 (by omega) (by omega) (fun e=>by have:=bdd _ e;omega) (fun e=>by have:=bdh _ e;omega)];exact g3,fun id hid=>by simp only[rG];rw[hH3,<-hH4,<-hG,hFG id (by omega) (by omega) (fun e=>by have:=bdd _ e;omega) (fun e=>by have:=bdh _ e;omega)];exact hf id hid,_,r.d,r2.d,by simp only[rG];rw[hH3,<-hH4,<-hG];exact HF⟩
 .rintro s ⟨⟨h0,h3,h5,h15,h16,h17⟩,g3,hf,Z,dd,dh,HA⟩;unfold zoc g32;simp only[rU,C.l,C.r,C.b,C.o];simp[rW,h0,h3,h5,h15,h16,h17];exact⟨⟨by simp[rW,h0],by simp[rW,h3],by simp[rW,h5],by simp[rW,h15],by simp[rW,h16],by simp[rW,h17]⟩,by simp[rW,g3],fun id h1=>by simp[rW];exact hf id h1,Z,dd,dh,by simp only[rG];exact HA⟩
 .rintro e s ⟨rfl,hJ⟩;exact kx s hJ
def eff32{L:List Rl}{S c1:Nat}{hd:List Str}{qs:List (List Str×CQ)}{h:T Ob}{c0:Nat}(HL:zla L)(HQ:zyk L hd qs)(HS:zdD h c1 S L)(hc1:c1<=c0):Eff pr 32 [.ptr S 2 0 0,.ag ((qyF hd qs).map D.f)] h c0 (UnP L S c1 hd qs h c0):=by
  refine zb2 kps fn32 (fun d h' c' ⟨U,_,e1,_⟩ hd _=>by rw[e1]at hd;cases hd) ?_;have hql:=HQ.ql;have hll:=HQ.hl;have hsd:(zah hd).d= .f (zah hd):=zaL hd;have hqd:(qsF (qs.map (·.2))).d= .f (qsF (qs.map (·.2))):=ze8 _;have ec:(qyF hd qs).map D.f=[.f (zah hd),.f (qsF (qs.map (·.2)))]:=rfl;rw[ec];simp only[g32,rU];simp[rW,st0,zak,hsd,hqd,zcH,Z18];have ec0:¬c0=c0+1:=by omega
  refine nu_l0 (L:=L) (S:=S) (c1:=c1) (hd:=hd) (qs:=qs) (h:=h) (c0:=c0) HL HQ ⟨⟨by simp[rW],by simp[rW],by simp[rW],by simp[rW],by simp[rW],by simp[rW]⟩,by simp[rW,ec0],fun id hid=> ?_,[],.f .nils,.f .nils,?_⟩ ?_
  . have a1:¬id=c0:=by omega
    have a2:¬id=c0+1:=by omega
    simp[rW,a1,a2]
  . refine⟨HS.up fun id _ h2=> ?_,by simp[rW],by simp only[rG];omega,.nil,.nil,by simp,fun i z q hz=>by simp at hz,.nil,fun x hx=>by simp[D.oid]at hx⟩;have a1:¬id=c0:=by omega
    have a2:¬id=c0+1:=by omega
    simp[rW,a1,a2]
  rintro s1 ⟨⟨h0,h3,h5,h15,h16,h17⟩,-,hf,Z,dd,dh,HA⟩;rw[Z7]at HA;simp[rW,h5,zaR];exact⟨c0+1,by omega,rfl,⟨Z,dd,dh,HA⟩,hf⟩
def zD8{L:List Rl}{X:Mx}{σ τ:Asg}{g:Nat}(H:Full L X σ g τ):Sat L X σ g:=⟨τ,H.e,H.a,H.c⟩
def zrZ{L:List Rl}{S c1 U:Nat}{hd:List Str}{qs:List (List Str×CQ)}{h h':T Ob}{c c' c2 k:Nat}{Z:List UZ}{dd dh:D}{z:UZ}{σ:Asg}(HA:UnA L S c1 U hd qs h c Z dd dh)(hz:Z[k]? =some z)(hf:∀id,id<c->id≠z.2.2.1.M->id≠z.2.2.1.V->h'.get id=h.get id)(HM:MS L h' c2 z.2.2.1 σ)(hc:c<=c'):UnA L S c1 U hd qs h' c' Z dd dh:=by
 have ho:=HA.o;have hkZ:k<Z.length:=(Z8.1 hz).1;have hkq:k<qs.length:=by rw[<-HA.n];exact hkZ
 obtain⟨a1,a2,a3,a4⟩ :=HA.z k z _ hz (Z0 hkq);obtain⟨⟨σ0,b1⟩,b2,b3,b4,b5⟩ :=a1;have hmo:=b1.m.o;have own:∀x,dd.oid=some x\/dh.oid=some x->x≠z.2.2.1.M/\x≠z.2.2.1.V:=fun x hx=>by have:=a4 x hx;omega
 have hs:zdD h' c1 S L:=HA.s.up fun id _ h4=>hf id (by omega) (by omega) (by omega)
 refine⟨hs,by rw[hf _ (by omega) (by omega) (by omega)];exact HA.u,by omega,ziu HA.d hc fun id hid=>hf id (zbq HA.d hid).2 (own id (.inl hid)).1 (own id (.inl hid)).2,ziu HA.e hc fun id hid=>hf id (zbq HA.e hid).2 (own id (.inr hid)).1 (own id (.inr hid)).2,HA.n,fun i w q hw hq=> ?_,HA.p,HA.ne⟩;obtain⟨e1,e2,e3,e4⟩ :=HA.z i w q hw hq;refine⟨?_,e2,by omega,e4⟩
 by_cases hik:i=k
 .subst hik;rw[hz]at hw;cases hw;have hst:St0 h' z.2.1 z.2.2.1:=b1.st.up fun id h1 h2=>hf id (by omega) (by omega) (by omega)
  exact⟨⟨σ,HM.cut hst⟩,e1.mi,e1.s,e1.m,zaX e1.g (Z2 _) fun id h1 h2=>hf id (by omega) (by omega) (by omega)⟩
 .have hiZ:i<Z.length:=(Z8.1 hw).1;have hp:=Z126.1 HA.p;have ez:Z[k]=z:=(Z8.1 hz).2;have ew:Z[i]=w:=(Z8.1 hw).2;have hdis:w.2.1<=z.1\/z.2.1<=w.1:=by
   rcases Z145 i k with hlt|hge
   .exact .inl (by have:=hp i k hiZ hkZ hlt;rw[ez,ew]at this;exact this)
   .exact .inr (by have:=hp k i hkZ hiZ (by omega);rw[ez,ew]at this;exact this)
  exact e1.up (hs.lo (by omega)) fun id h1 h2=>hf id (by omega) (by omega) (by omega)
def UnA.cc{L:List Rl}{S c1 U:Nat}{hd:List Str}{qs:List (List Str×CQ)}{h:T Ob}{c c':Nat}{Z:List UZ}{dd dh:D}(HA:UnA L S c1 U hd qs h c Z dd dh)(hc:c<=c'):UnA L S c1 U hd qs h c' Z dd dh:=
 ⟨HA.s,HA.u,by have:=HA.o;omega,zaX HA.d hc fun _ _ _=>rfl,zaX HA.e hc fun _ _ _=>rfl,HA.n,fun i z q hz hq=>by
  obtain⟨a1,a2,a3,a4⟩ :=HA.z i z q hz hq;exact⟨a1,a2,by omega,a4⟩,HA.p,HA.ne⟩
structure VqOk(L:List Rl)(hd:List Str)(qs:List (List Str×CQ)):Prop where
 u:zyk L hd qs
 b:∀q∈qs,CqB q.1 q.2
def zI0{L:List Rl}{ns:List Str}{c:CQ}{X:Mx}(hX:zk8 L ns c X)(hC:zma L ns c)(hB:CqB ns c):zF3 L X↔∃v,zlD L ns c v:=by
 constructor
 .rintro⟨τ,he,ha,hc⟩;have hl:τ.length=ns.length:=by rw[he.1];simp[e0,hX.nE]
  refine⟨rowOf τ,((zju hX hC hB τ).1 ⟨he,ha,hc,fun j hj=> ?_⟩).2⟩;have hjl:j<ns.length:=by
   rcases Z145 j ns.length with h|h
   .exact h
   .simp only[zaC]at hj;rw[Z97 (by omega)]at hj;cases hj
  obtain⟨a,ha,hneg,hts⟩ :=hB.b ns[j] (Z1 hjl);have hm:zdZ L ns a∈X.WP.map (·.1):=by
   rw[hX.P];exact List.mem_map_of_mem (Z57.2 ⟨ha,by simp[hneg]⟩)
  obtain⟨q,hq,e⟩ :=Z12.1 hm;obtain⟨i,hi,rfl⟩ :=Z101.1 hq;refine .inr ⟨i,_,by rw[zlI];simpa using hi,Z0 hi,?_⟩;rw[e,ziz];refine Z30.2 ⟨.var j,Z12.2 ⟨_,hts,?_⟩,(zgu _ j).2 rfl⟩;simp only[zb8];rw[zh3 hB.n hjl]
 .rintro⟨v,hv⟩;obtain⟨e1,e2⟩ :=zvA v;exact zD8 ((zju hX hC hB (v.map some)).2 ⟨e2,by rw[e1];exact hv⟩)
def hrow(hs:List Nat)(τ:Asg):List Int:=hs.map fun i=>(zaC τ (.var i)).getD 0
def PjS(L:List Rl)(X:Mx)(σ:Asg)(g:Nat)(hs:List Nat)(v:List Int):Prop:=∃τ,Ext σ τ/\(∀i q,g.testBit i=true->X.WP[i]? =some q->AtT L τ q.1)/\zdk L X τ=true/\v=hrow hs τ
theorem zJB{L:List Rl}{X:Mx}{σ:Asg}{g i:Nat}{q:Pat×D}{r:Rl}{hs:List Nat}{v:List Int}(hO:MxO X L)(hσ:σ.length=X.ns.length)(hi:g.testBit i=true)(hq:X.WP[i]? =some q)(hr:L[q.1.r]? =some r){g':Nat}(hg:∀j,g'.testBit j=true↔(g.testBit j=true/\j≠i)):
  PjS L X σ g hs v↔∃(k:Nat) (t:List Int×List Vse.F) (τ:Asg),r.tu[k]? =some t/\zdg L X σ q.1 t.1=some τ/\PjS L X τ g' hs v:=by
 have hP:=hO.P q (Z39 hq);constructor
 .rintro⟨τ,he,ha,hc,hv⟩;obtain⟨w,hw,hb⟩ :=ha i q hi hq;obtain⟨k,t,ht,rfl⟩ :=(zmD hr).1 hb;obtain⟨τ1,h1,h2⟩ :=zoh hP.o hσ he hw;exact⟨k,t,τ1,ht,zhT.2 ⟨h1,zmo h2 hc⟩,τ,h2,fun j q' hj hq'=>ha j q' ((hg j).1 hj).1 hq',hc,hv⟩
 .rintro⟨k,t,τ,ht,hb,τ2,he,ha,hc,hv⟩;obtain⟨h1,_⟩ :=zhT.1 hb;have htl:t.1.length=q.1.ts.length:=hP.a r hr t (Z39 ht);have hw:=zkg hP.o hσ htl h1;refine⟨τ2,(zgd h1).tr he,fun j q' hj hq'=> ?_,hc,hv⟩
  by_cases hji:j=i
  .subst hji;rw[hq]at hq';cases hq';exact⟨t.1,zmY he hw,(zmD hr).2 ⟨k,t,ht,rfl⟩⟩
  .exact ha j q' ((hg j).2 ⟨hj,hji⟩) hq'
def zuJ{hs:List Nat}{σ τ:Asg}(he:Ext σ τ)(hb:∀i∈hs,(zaC σ (.var i)).isSome=true):hrow hs τ=hrow hs σ:=by
 refine Z68 fun i hi=> ?_
 obtain⟨z,hz⟩ :=Z158.1 (hb i hi);rw[hz,zfb he hz]
def zpz{L:List Rl}{X:Mx}{σ:Asg}{g:Nat}{hs:List Nat}{v:List Int}(hb:∀i∈hs,(zaC σ (.var i)).isSome=true):PjS L X σ g hs v↔Sat L X σ g/\v=hrow hs σ:=by
 constructor
 .rintro⟨τ,he,ha,hc,rfl⟩;exact⟨⟨τ,he,ha,hc⟩,zuJ he hb⟩
 .rintro⟨⟨τ,he,ha,hc⟩,rfl⟩;exact⟨τ,he,ha,hc,(zuJ he hb).symm⟩
def zru(X:Mx)(σ:Asg)(g:Nat)(hs:List Nat):Prop:=∀j∈hs,j<X.ns.length/\((zaC σ (.var j)).isSome=true\/∃i q,g.testBit i=true/\X.WP[i]? =some q/\q.1.m.testBit j=true)
def zCk{L:List Rl}{X:Mx}{σ τ:Asg}{g i:Nat}{q:Pat×D}{r:Rl}{hs:List Nat}(hO:MxO X L)(hσ:σ.length=X.ns.length)(hq:X.WP[i]? =some q)(hr:L[q.1.r]? =some r){t:List Int×List Vse.F}(ht:t∈r.tu)(hb:zdg L X σ q.1 t.1=some τ){g':Nat}(hg:∀j,g'.testBit j=true↔(g.testBit j=true/\j≠i))(H:zru X σ g hs):zru X τ g' hs:=by
 have hP:=hO.P q (Z39 hq);obtain⟨h1,_⟩ :=zhT.1 hb;intro j hj;obtain⟨a,b⟩ :=H j hj;refine⟨a,?_⟩;rcases b with b|⟨i',q',b1,b2,b3⟩
 .obtain⟨z,hz⟩ :=Z158.1 b;left;rw[zfb (zgd h1) hz];rfl
 .by_cases e:i'=i
  .subst e;rw[hq]at b2;cases b2;exact .inl (zFY (zkg hP.o hσ (hP.a r hr t ht) h1) b3)
  .exact .inr ⟨i',q',(hg i').2 ⟨b1,e⟩,b2,b3⟩
def frH(σ:Asg)(hs:List Nat):Nat:=hs.foldl (fun f v=>Nat.lor f (zdm (2 ^ v) (zaQ σ))) 0
def zD5(σ:Asg)(l:List Nat)(v:Nat):frH σ (l++[v])=Nat.lor (frH σ l) (zdm (2 ^ v) (zaQ σ)):=by simp[frH]
def zqN{v:Nat}(h:v<6):2 ^ v<64:=by
 have:2 ^ v<=2 ^ 5:=Z113 (by decide) (by omega);omega
def or_64{a b:Nat}(ha:a<64)(hb:b<64):Nat.lor a b<64:=Nat.or_lt_two_pow (n:=6) ha hb
def zxc{σ:Asg}(h:σ.length<=6):zaQ σ<64:=by
 have h1:=zet σ;have:2 ^ σ.length<=2 ^ 6:=Z113 (by decide) h;omega
def zB7{σ:Asg}{hs:List Nat}(hσ:σ.length<=6)(hh:∀j∈hs,j<6):frH σ hs<64:=by
 have key:∀(l:List Nat) (f:Nat),f<64->(∀j∈l,j<6)->l.foldl (fun f v=>Nat.lor f (zdm (2 ^ v) (zaQ σ))) f<64:=by
  intro l
  induction l with
  |nil=>exact fun f h _=>h
  |cons a l ih=>exact fun f h hl=>ih _ (or_64 h (zmh (zqN (hl a (by simp))))) fun j hj=>hl j (by simp[hj])
 exact key hs 0 (by decide) hh
def zrG{σ:Asg}{hs:List Nat}(hσ:σ.length<=6)(hh:∀j∈hs,j<6)(i:Nat):(frH σ hs).testBit i=true↔i∈hs/\(zaC σ (.var i)).isSome=false:=by
 have key:∀(l:List Nat) (f:Nat),(∀j∈l,j<6)->((l.foldl (fun f v=>Nat.lor f (zdm (2 ^ v) (zaQ σ))) f).testBit i=true↔(f.testBit i=true\/(i∈l/\(zaC σ (.var i)).isSome=false))):=by
  intro l
  induction l with
  |nil=>intro f _;simp
  |cons a l ih=>
   intro f hl;have ha:=hl a (by simp);rw[Z42,ih _ fun j hj=>hl j (by simp[hj])];have e:(Nat.lor f (zdm (2 ^ a) (zaQ σ))).testBit i=(f.testBit i||(decide (a=i)&& !(zaC σ (.var i)).isSome)):=by
    show(f|||zdm (2 ^ a) (zaQ σ)).testBit i=_;rw[Nat.testBit_or,zi3 (zqN ha) (zxc hσ),zew,Nat.testBit_two_pow]
   rw[e];simp only[Z115,Z14,Z86,Z80,Z5];constructor
   .rintro ((h|⟨h1,h2⟩)|⟨h1,h2⟩)
    .exact .inl h
    .exact .inr ⟨.inl h1.symm,h2⟩
    .exact .inr ⟨.inr h1,h2⟩
   .rintro (h|⟨h1|h1,h2⟩)
    .exact .inl (.inl h)
    .exact .inl (.inr ⟨h1.symm,h2⟩)
    .exact .inr ⟨h1,h2⟩
 rw[frH,key hs 0 hh];simp
def frH_0{σ:Asg}{hs:List Nat}(hσ:σ.length<=6)(hh:∀j∈hs,j<6):frH σ hs=0↔∀i∈hs,(zaC σ (.var i)).isSome=true:=by
 constructor
 .intro h i hi
  by_cases hb:(zaC σ (.var i)).isSome=true
  .exact hb
  .have:=(zrG hσ hh i).2 ⟨hi,by simpa using hb⟩;rw[h,Nat.zero_testBit]at this;cases this
 .intro h;refine Nat.eq_of_testBit_eq fun i=> ?_
  rw[Nat.zero_testBit]
  by_cases hb:(frH σ hs).testBit i=true
  .obtain⟨h1,h2⟩ :=(zrG hσ hh i).1 hb;rw[h i h1]at h2;cases h2
  .simpa using hb
def zRn{X:Mx}{σ:Asg}{g:Nat}{hs:List Nat}(hσ:σ.length<=6)(H:zru X σ g hs)(hh:∀j∈hs,j<6)(h0:frH σ hs≠0):∃i q,g.testBit i=true/\X.WP[i]? =some q/\Nat.land q.1.m (frH σ hs)≠0:=by
 obtain⟨j,hj⟩ :∃j,(frH σ hs).testBit j=true:=by
  by_cases he:∃j,(frH σ hs).testBit j=true
  .exact he
  .exact absurd (Nat.eq_of_testBit_eq fun i=>by rw[Nat.zero_testBit];simpa using fun h=>he ⟨i,h⟩) h0
 obtain⟨h1,h2⟩ :=(zrG hσ hh j).1 hj;rcases (H j h1).2 with h3|⟨i,q,h3,h4,h5⟩
 .rw[h2]at h3;cases h3
 .refine⟨i,q,h3,h4,fun e=> ?_⟩;have:(Nat.land q.1.m (frH σ hs)).testBit j=true:=by
   show(q.1.m&&& frH σ hs).testBit j=true;rw[Nat.testBit_and,h5,hj];rfl
  rw[e,Nat.zero_testBit]at this;cases this
end Go.Proofs.YtdlcolcidohbkaaGreatDoor
end
