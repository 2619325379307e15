/- The matcher: consistent, the loop over the comparisons. -/
import Derived.Test.YthcehnaehljnfaaGreatDoorPb
import Derived.Test.YthcehnaehljnfaaGreatDoorPa
import Derived.KernelRfl
import Derived.IntWalk
set_option linter.all false
set_option maxRecDepth 100000
set_option maxHeartbeats 4000000
noncomputable section
section
namespace Go.Proofs.YthcehnaehljnfaaGreatDoor
open Go Go.Vse Go.Vse.Sm
def zkz(t:Opn):∃a b c d,t.c=[a,b,c,d]:=by cases t<;>exact⟨_,_,_,_,rfl⟩
def zd5{h:T Ob}{lo c es:Nat}{d:D}{els:List (List D)}(hg:Gro h lo c es d els){n:Nat}(hn:n<els.length):∃id ro,d= .sl id 0 els.length es els.length false/\h.get id=some (.arr es ro els)/\lo<=id/\id<c:=by
 rcases hg with⟨-,rfl⟩ |⟨id,ro,h1,-,h3,-,h5,h6⟩
 .simp at hn
 .exact⟨id,ro,h1,h3,h5,h6⟩
def zBJ{ops:List (Go.Vse.Op×Nat)}(n:Nat){L:List Go.Vse.En}{s:St}{Q:St->Prop}(h:∀T,T=ops.drop n->wpG pr L (ops.take n++T) s Q):wpG pr L ops s Q:=by
 have:=h _ rfl
 rwa[Z94]at this
def zrM{α:Type}{p:α->Bool}{l:List α}{n:Nat}{x:α}(hx:l[n]? =some x)(h:∀k∈l.take n,p k=true)(hp:p x=true):∀k∈l.take (n+1),p k=true:=by
 intro k hk;rw[Z105,hx]at hk;rcases Z4.1 hk with h1|h1
 .exact h k h1
 .simp at h1;rw[h1];exact hp
def all_false{α:Type}{p:α->Bool}{l:List α}{x:α}(hx:x∈l)(hp:p x=false):l.all p=false:=by
 rw[Z143];exact⟨x,hx,by simp[hp]⟩
def zBN(X:Mx)(σ:Asg)(h:T Ob)(c n:Nat)(s:St):Prop:=(s.tm.get 0=some (.ptr X.M 7 0 0)/\s.tm.get 13=some (X.dC)/\s.tm.get 14=some (.f (.i .i64 X.cs.length))/\s.tm.get 15=some (.f (.i .i64 n)))/\c<=s.c/\(∀id,id<c->s.h.get id=h.get id)/\(∀k∈X.cs.take n,zhk σ k=true)
def R186(X:Mx)(σ:Asg)(h:T Ob)(c:Nat)(e:Ex)(s:St):Prop:=(e= .exit 0/\zBN X σ h c X.cs.length s)\/(e= .ret/\s.tm.get 2=some (.f (.b false))/\c<=s.c/\(∀id,id<c->s.h.get id=h.get id)/\X.cs.all (zhk σ)=false)
def zGW:C:=zix.body.r.l.r.b.o
theorem zZL{h:T Ob}{c:Nat}{X:Mx}{σ:Asg}(H:MtS h c X σ)(hk:∀k∈X.cs,zjF σ.length k/\(k.op=1\/k.op=2\/k.op=3\/k.op=4))(hl:X.cs.length<1000){s:St}{K:Ex->St->Prop}
  (hJ:zBN X σ h c 0 s)(kx:∀s,zBN X σ h c X.cs.length s->K (.exit 0) s)(kr:∀s,s.tm.get 2=some (.f (.b false))->(∀id,id<c->s.h.get id=h.get id)->X.cs.all (zhk σ)=false->K .ret s):WL pr zGW s K:=by
 have hm:=H.m;have ho:=H.o;have gC:=H.C;have lC:=zd2 gC;have hcl:(cnD X.cs).length=X.cs.length:=by simp[cnD]
 rw[hcl]at lC;have hb:zaQ σ<64:=Z15 (zd6 σ) (Z113 (by decide) H.n6);refine zfa (fun k s=>∃n:Nat,n<=X.cs.length/\k=X.cs.length - n/\zBN X σ h c n s) (R186 X σ h c) ?_ X.cs.length _ ⟨0,Z61 _,rfl,hJ⟩ ?_
 .rintro k s ⟨n,hn,rfl,⟨h0,h13,h14,h15⟩,hc,hf,hI⟩;have hw:=zaH n (by omega);unfold zGW zix;simp only[rU,C.l,C.r,C.b,C.o]
  by_cases hlt:n<X.cs.length
  .have hx:X.cs[n]? =some X.cs[n]:=Z0 hlt;have hK:=hk _ (Z1 hlt);generalize hA:X.cs[n]=q at hx hK;obtain⟨op,l,r⟩ :=q;obtain⟨l0,l1,l2,l3,el⟩ :=zkz l;obtain⟨r0,r1,r2,r3,er⟩ :=zkz r;obtain⟨id,ro,e1,e2,e3,e4⟩ :=zd5 gC (n:=n) (by omega);have hrow:(cnD X.cs)[n]? =some [D.f (.i .i64 op),D.f l0,D.f l1,D.f l2,D.f l3,D.f r0,D.f r1,D.f r2,D.f r3,D.f (.i .u64 ((Cnd.mk op l r).m:Nat))]:=by simp[cnD,hx,el,er]
   have e2':s.h.get id=some (.arr 10 ro (cnD X.cs)):=(hf id e4).trans e2;have hm':s.h.get X.M=_:=(hf X.M (by omega)).trans hm;rw[hcl]at e1;have i1:¬id=s.c:=by omega
   have i2:¬X.M=s.c:=by omega
   have hm64:=zqM hK.1 H.n6;have ban:=zkj hm64 hb;have hsame:∀id,id<c->id≠s.c->(s.h.set s.c (.arr 10 0 [[D.f (.i .i64 op),D.f l0,D.f l1,D.f l2,D.f l3,D.f r0,D.f r1,D.f r2,D.f r3,D.f (.i .u64 ((Cnd.mk op l r).m:Nat))]])).get id=h.get id:=fun id h1 h2=>by
    rw[TG,Z49 h2];exact hf id h1
   simp[rW,h0,h13,h14,h15,hlt,e1,e2',hrow,i1,i2]
   by_cases hz:zcX (Cnd.mk op l r).m (zaQ σ)=0
   .rw[hz]at ban;obtain⟨v1,v2⟩ :=(zAy hK.1 H.n6).1 hz;obtain⟨a,ha⟩ :=Z158.1 v1;obtain⟨b,hb'⟩ :=Z158.1 v2;refine zfJ (zBJ 9 fun T hT=> ?_);simp only[List.take,List.drop,Z29,Z28]at hT|-;simp[rW,h0,h13,h14,h15,hm',i1,i2,ban,u_eq];subst hT;simp[rW,h0,h13,h14,h15,hm',i1,i2];refine wg_e (by simp only[rG];rfl) (by simp only[rG];rfl) (zDe ha (by rw[el];rfl) (H.up (fun id hid=> ?_) ?_)) ?_
    .have a:¬id=s.c:=by omega
     simp[rW,a];exact hf id hid
    .omega
    rintro d1 h1' c1 lw1 mx1 ⟨rfl,hs1⟩ hc1 hm1;have g4:h1'.get s.c=some (.arr 10 0 [[D.f (.i .i64 op),D.f l0,D.f l1,D.f l2,D.f l3,D.f r0,D.f r1,D.f r2,D.f r3,D.f (.i .u64 ((Cnd.mk op l r).m:Nat))]]):=by
     rw[hs1 _ (by omega)];simp[rW]
    have f1:∀x,x<c->h1'.get x=h.get x:=fun x hx=>by
     rw[hs1 _ (by omega)];have a:¬x=s.c:=by omega
     simp[rW,a];exact hf x hx
    simp[rW,h0,h13,h14,h15,g4,O.res,Z47];refine wg_e (by simp only[rG];rfl) (by simp only[rG];rfl) (zDe hb' (by rw[er];rfl) (H.up (fun id hid=> ?_) ?_)) ?_
    .exact f1 id hid
    .omega
    rintro d2 h2' c2 lw2 mx2 ⟨rfl,hs2⟩ hc2 hm2;have g5:h2'.get s.c=some (.arr 10 0 [[D.f (.i .i64 op),D.f l0,D.f l1,D.f l2,D.f l3,D.f r0,D.f r1,D.f r2,D.f r3,D.f (.i .u64 ((Cnd.mk op l r).m:Nat))]]):=by
     rw[hs2 _ (by omega)];exact g4
    have f2:∀x,x<c->h2'.get x=h.get x:=fun x hx=>by
     rw[hs2 _ (by omega)];exact f1 x hx
    have q1:=fun k=>zaC (k:=k) (zO6 a b)
    have q2:=fun k=>zaC (k:=k) (zZi op (zbq a b))
    rw[zSb op a b hK.2]at q2;simp only[Sm.vF]at q1;simp[rW,h0,h13,h14,h15,g4,g5,O.res,Z47,q1,q2];have hcb:zhk σ ⟨op,l,r⟩ =zr2 op a b:=by simp[zhk,ha,hb']
    by_cases hv:zr2 op a b=true
    .rw[Z51 hv];rw[hv]at hcb;refine⟨X.cs.length - (n+1),by omega,n+1,by omega,rfl,⟨?_,?_,?_,?_⟩,?_,?_,?_⟩
     .simp[rW,h0]
     .simp[rW,h13]
     .simp[rW,h14]
     .simp[rW,hw]
     .simp[rW];omega
     .intro id hid;simp[rW];exact f2 id hid
     .exact zrM hx hI hcb
    .rw[Z49 hv];refine .inr ⟨rfl,?_,?_,?_,all_false (Z39 hx) (by rw[hcb];simpa using hv)⟩
     .simp[rW]
     .simp[rW];omega
     .intro id hid;simp[rW];exact f2 id hid
   .have hz2:(((zcX (Cnd.mk op l r).m (zaQ σ):Nat):Int)==0)=false:=by simpa using hz
    have hcb:zhk σ ⟨op,l,r⟩ =true:=by
     unfold zhk;split
     .rename_i a b e1 e2;exact absurd ((zAy hK.1 H.n6).2 ⟨by rw[e1];rfl,by rw[e2];rfl⟩) hz
     .rfl
    refine zfJ (zBJ 9 fun T hT=> ?_);simp only[List.take,List.drop,Z29,Z28]at hT|-;simp[rW,h0,h13,h14,h15,hm',i1,i2,ban,u_eq,hz2];subst hT;simp[rW,h0,h13,h14,h15,hm',i1,i2];refine⟨X.cs.length - (n+1),by omega,n+1,by omega,rfl,⟨?_,?_,?_,?_⟩,?_,?_,?_⟩
    .simp[rW,h0]
    .simp[rW,h13]
    .simp[rW,h14]
    .simp[rW,hw]
    .simp[rW];omega
    .intro id hid;have a:¬id=s.c:=by omega
     simp[rW,a];exact hf id hid
    .exact zrM hx hI hcb
  .have hen:n=X.cs.length:=by omega
   subst hen;simp[rW,h0,h13,h14,h15];exact .inl ⟨rfl,⟨by simp[rW,h0],by simp[rW,h13],by simp[rW,h14],by simp[rW,h15]⟩,by simp[rW,hc],fun id hid=>by simp[rW];exact hf id hid,hI⟩
 .rintro e s (⟨rfl,hJ⟩ |⟨rfl,h2,hc,hf,hI⟩)
  .exact kx s hJ
  .exact kr s h2 hf hI
def zcN(σ:Asg):List Opn->Option (List Int)
 |[]=>some []
 |t::l=>match zaF σ t,zcN σ l with
  |some z,some v=>some (z::v)
  |_,_=>none
theorem ztw{σ:Asg}:∀{ts:List Opn},(∀t∈ts,(zaF σ t).isSome=true)->∃v,zcN σ ts=some v
 |[],_=>⟨[],rfl⟩
 |t::l,h=>by
  obtain⟨v,hv⟩ :=ztw (σ:=σ) (ts:=l) fun x hx=>h x (by simp[hx])
  obtain⟨z,hz⟩ :=Z158.1 (h t (by simp));exact⟨z::v,by simp[zcN,hv,hz]⟩
theorem zl2{σ:Asg}:∀{ts:List Opn} {v:List Int},zcN σ ts=some v->∀t∈ts,(zaF σ t).isSome=true
 |[],_,_=>by simp
 |t::l,v,h=>by
  simp only[zcN]at h;split at h
  .rename_i z w hz hw;intro x hx;rcases Z5.1 hx with rfl|hx
   .rw[hz];rfl
   .exact zl2 hw x hx
  .cases h
theorem zpH{σ:Asg}:∀{ts:List Opn} {v:List Int},zcN σ ts=some v->v.length=ts.length/\∀(i:Nat) (t:Opn),ts[i]? =some t->∃z,v[i]? =some z/\zaF σ t=some z
 |[],v,h=>by cases h;exact⟨rfl,by simp⟩
 |t::l,v,h=>by
  simp only[zcN]at h;split at h
  .rename_i z w hz hw;cases h;obtain⟨a1,a2⟩ :=zpH hw;refine⟨by simp[a1],fun i x hx=> ?_⟩;cases i with
   |zero=>cases hx;exact⟨z,rfl,hz⟩
   |succ i=>exact a2 i x hx
  .cases h
theorem zy2(i:Nat):∀(ts:List Opn) (b:Nat),(ts.foldl (fun b t=>b|||t.m) b).testBit i=(b.testBit i||ts.any fun t=>t.m.testBit i)
 |[],b=>by simp
 |t::l,b=>by
  rw[Z42,zy2 i l,Nat.testBit_or,List.any_cons,Bool.or_assoc]
def zhN(p:Pat)(i:Nat):p.m.testBit i=p.ts.any fun t=>t.m.testBit i:=by
 unfold Pat.m;rw[zy2];simp
theorem zsj{n:Nat}(hn:n<=6):∀(ts:List Opn) (b:Nat),b<64->(∀t∈ts,zea n t)->ts.foldl (fun b t=>b|||t.m) b<64
 |[],b,hb,_=>hb
 |t::l,b,hb,h=>zsj hn l _ (zD8 hb (zk8 (h t (by simp)) hn)) fun x hx=>h x (by simp[hx])
def zjo{n:Nat}(hn:n<=6){p:Pat}(h:∀t∈p.ts,zea n t):p.m<64:=zsj hn _ _ (by decide) h
def zBd{σ:Asg}{p:Pat}(h:∀t∈p.ts,zea σ.length t)(hn:σ.length<=6):zcX p.m (zaQ σ)=0↔∀t∈p.ts,(zaF σ t).isSome=true:=by
 have hm:zaQ σ<64:=Z15 (zd6 σ) (Z113 (by decide) hn);rw[zAs (zjo hn h) hm];constructor
 .intro H t ht;refine (zot (σ:=σ) (t:=t)).1 fun i hi=>H i ?_
  rw[zhN];exact Z30.2 ⟨t,ht,hi⟩
 .intro H i hi;rw[zhN]at hi;obtain⟨t,ht,h2⟩ :=Z30.1 hi;exact (zot (σ:=σ) (t:=t)).2 (H t ht) i h2
def hasB(L:List Rl)(i:Nat)(v:List Int):Bool:=match L[i]? with
 |some r=>r.tu.any fun t=>t.1==v
 |none=>false
def zhs(L:List Rl)(σ:Asg)(p:Pat):Bool:=match zcN σ p.ts with
 |some v=>!hasB L p.r v
 |none=>true
structure zB1(L:List Rl)(n:Nat)(p:Pat):Prop where
 r:p.r<L.length
 e:p.ts≠[]
 l:p.ts.length<1000
 o:∀t∈p.ts,zea n t
 a:∀r,L[p.r]? =some r->∀t∈r.tu,t.1.length=p.ts.length
structure MxO(X:Mx)(L:List Rl):Prop where
 c:∀k∈X.cs,zjF X.ns.length k/\(k.op=1\/k.op=2\/k.op=3\/k.op=4)
 cl:X.cs.length<1000
 N:∀q∈X.WN,zB1 L X.ns.length q.1
 P:∀q∈X.WP,zB1 L X.ns.length q.1
 Nl:X.WN.length<1000
 Pl:X.WP.length<=6
 L:∀r∈L,RlO r
structure MS(L:List Rl)(h:T Ob)(c:Nat)(X:Mx)(σ:Asg):Prop where
 m:MtS h c X σ
 s:zdm h X.M X.S L
 o:MxO X L
def MS.up{L:List Rl}{h h':T Ob}{c c':Nat}{X:Mx}{σ:Asg}(H:MS L h c X σ)(hf:∀id,id<c->h'.get id=h.get id)(hc:c<=c'):MS L h' c' X σ:=
 ⟨H.m.up hf hc,H.s.up fun id _ hid=>hf id (by have:=H.m.o;omega),H.o⟩
def zc:List D:=[.f (.i .i64 0),.f (.i .i64 0),.f (.s [])]
def zgE(v:List Int)(i:Nat):List (List D):=vRw (v.take i)++List.replicate (v.length - i) zc
def zKK{v:List Int}{i:Nat}(h:i<=v.length):(zgE v i).length=v.length:=by
 simp[zgE,vRw];omega
def zH0(v:List Int):zgE v 0=List.replicate v.length zc:=by simp[zgE,vRw]
def zze(v:List Int):zgE v v.length=vRw v:=by simp[zgE]
def zzh{v:List Int}{i:Nat}{z:Int}(h:v[i]? =some z):(zgE v i).set i [.f (.i .i64 1),.f (.i .i64 z),.f (.s [])]=zgE v (i+1):=by
 have hi:i<v.length:=(Z8.1 h).1;unfold zgE;have hl:(vRw (v.take i)).length=i:=by simp[vRw];omega
 rw[Z112 _ _ (by omega),hl,Z194,Z105,h];obtain⟨m,hm⟩ :∃m,v.length - i=m+1:=⟨v.length - i - 1,by omega⟩
 rw[hm,show v.length - (i+1)=m by omega,Z181];simp[vRw,Sm.vF]
def zzg{v:List Int}{i:Nat}(h:i<v.length):(zgE v i)[i]? =some zc:=by
 unfold zgE;have hl:(vRw (v.take i)).length=i:=by simp[vRw];omega
 rw[Z62 (by omega),hl,Z194,Z160,Z51 (by omega)]
def zBi(v:List Int)(i:Nat):hd8 (zgE v i)=false:=by
 unfold zgE;cases h:v.take i with
 |nil=>
  cases v.length - i with
  |zero=>rfl
  |succ n=>rfl
 |cons a l=>rfl
def zi7:C:=zix.body.r.r.l.r.b.o
def zx9:C:=zi7.r.r.l.b.r.r.r.l.r.b.o
def J4(X:Mx)(q:Pat×D)(v:List Int)(h:T Ob)(c R P6 k i:Nat)(s:St):Prop:=(s.tm.get 0=some (.ptr X.M 7 0 0)/\s.tm.get 6=some (.ptr P6 3 0 0)/\s.tm.get 7=some (.sl R 0 v.length 3 v.length true)/\s.tm.get 46=some (X.dN)/\s.tm.get 47=some (.f (.i .i64 X.WN.length))/\s.tm.get 48=some (.f (.i .i64 k))/\s.tm.get 65=some (q.2)/\s.tm.get 66=some (.f (.i .i64 v.length))/\s.tm.get 67=some (.f (.i .i64 i))/\s.h.get R=some (.arr 3 0 (zgE v i))/\s.h.get P6=some (.arr 3 0 [[.f (.i .i64 q.1.r),q.2,.f (.i .u64 q.1.m)]]))/\c<=R/\c<=P6/\R<s.c/\P6<s.c/\R≠P6/\∀id,id<c->s.h.get id=h.get id
theorem zZQ{h:T Ob}{c:Nat}{X:Mx}{σ:Asg}(H:MtS h c X σ){q:Pat×D}(hq:q∈X.WN){v:List Int}(hv:zcN σ q.1.ts=some v)(hl:v.length<1000){R P6 k:Nat}{s:St}{K:Ex->St->Prop}
  (hJ:J4 X q v h c R P6 k 0 s)(kx:∀s,J4 X q v h c R P6 k v.length s->K (.exit 4) s):WL pr zx9 s K:=by
 have hm:=H.m;have ho:=H.o;obtain⟨vl,vg⟩ :=zpH hv;have gQ:=H.N.2 q hq;have hql:(opD q.1.ts).length=v.length:=by simp[opD,vl]
 refine zc0 v.length (J4 X q v h c R P6 k) (fun e s=>e= .exit 4/\J4 X q v h c R P6 k v.length s) ?_ ?_ _ hJ ?_
 .rintro i s hlt ⟨⟨h0,h6,h7,h46,h47,h48,h65,h66,h67,gR,gP⟩,r1,r2,r3,r4,r5,hf⟩;have hw:=zaH i (by omega);obtain⟨id,ro,e1,e2,e3,e4⟩ :=zd5 gQ (n:=i) (by omega);have ht:q.1.ts[i]? =some (q.1.ts[i]'(by omega)):=Z0 (by omega);obtain⟨z,hz1,hz2⟩ :=vg i _ ht;generalize q.1.ts[i]'(by omega)=t at ht hz2;obtain⟨t0,t1,t2,t3,et⟩ :=zkz t;have hrow:(opD q.1.ts)[i]? =some [D.f t0,D.f t1,D.f t2,D.f t3]:=by simp[opD,ht,et]
  have e2':s.h.get id=some (.arr 4 ro (opD q.1.ts)):=(hf id e4).trans e2;have hm':s.h.get X.M=_:=(hf X.M (by omega)).trans hm;rw[hql]at e1;have i1:¬id=s.c:=by omega
  have i2:¬X.M=s.c:=by omega
  have i3:¬R=s.c:=by omega
  have hrl:=zKK (v:=v) (i:=i) (by omega);have hrs:=zzh hz1;unfold zx9 zi7 zix;simp only[rU,C.l,C.r,C.b,C.o];simp[rW,h0,h6,h7,h46,h47,h48,h65,h66,h67,hlt,e1,e2',hrow,i1,i2];refine zbQ [(0,.ptr X.M 7 0 0),(6,.ptr P6 3 0 0),(7,.sl R 0 v.length 3 v.length true),(46,X.dN),(47,.f (.i .i64 X.WN.length)),(48,.f (.i .i64 k)),(65,q.2),(66,.f (.i .i64 v.length)),(67,.f (.i .i64 i)),(72,.sl R 0 v.length 3 v.length true),(73,.f (.i .i64 i))] (zDe hz2 (by rw[et];rfl) (H.up (fun id hid=> ?_) ?_)) (by simp only[rG];rfl) (by simp only[rG];rfl) (by simp only[Rg];simp[rW,h0,h6,h7,h46,h47,h48,h65,h66,h67,e1]) rfl ?_
  .have a:¬id=s.c:=by omega
   simp[rW,a];exact hf id hid
  .omega
  rintro s1 d1 ⟨rfl,hs1⟩ hc1 k76 ⟨k0,k6,k7,k46,k47,k48,k65,k66,k67,k72,k73,-⟩;have f1:∀id,id<s.c->s1.h.get id=s.h.get id:=fun id hid=>by
   rw[hs1 id (by omega),TG,Z49 (by omega),TG,Z49 (by omega)]
  have gR1:=(f1 R r3).trans gR;have gP1:=(f1 P6 r4).trans gP;refine⟨?_⟩;have hge:=zzg hlt;have hgA:=(Z8.1 hge).2;have h8:=zBi v i;have j1:R<s1.c:=by omega
  have j2:¬P6=R:=fun e=>r5 e.symm
  simp[rW,k0,k6,k7,k46,k47,k48,k65,k66,k67,k72,k73,k76,gR1,hlt,hrl,hrs,hw,hgA,h8,zc,j1];refine⟨⟨?_,?_,?_,?_,?_,?_,?_,?_,?_,?_,?_⟩,r1,r2,?_,?_,r5,?_⟩
  .simp[rW,k0]
  .simp[rW,k6]
  .simp[rW,k7]
  .simp[rW,k46]
  .simp[rW,k47]
  .simp[rW,k48]
  .simp[rW,k65]
  .simp[rW,k66]
  .simp[rW,hw]
  .simp[rW]
  .simp[rW,j2,gP1]
  .simp only[rG];omega
  .simp only[rG];omega
  .intro id hid;have a:¬id=R:=by omega
   simp[rW,a];exact (f1 id (by omega)).trans (hf id hid)
 .rintro s ⟨⟨h0,h6,h7,h46,h47,h48,h65,h66,h67,gR,gP⟩,r1,r2,r3,r4,r5,hf⟩;unfold zx9 zi7 zix;simp only[rU,C.l,C.r,C.b,C.o];simp[rW,h0,h6,h7,h46,h47,h48,h65,h66,h67];exact⟨⟨by simp[rW,h0],by simp[rW,h6],by simp[rW,h7],by simp[rW,h46],by simp[rW,h47],by simp[rW,h48],by simp[rW,h65],by simp[rW,h66],by simp[rW,h67],gR,gP⟩,r1,r2,r3,r4,r5,hf⟩
 .rintro e s ⟨rfl,hJ⟩;exact kx s hJ
def J2(X:Mx)(L:List Rl)(σ:Asg)(h:T Ob)(c k:Nat)(s:St):Prop:=(s.tm.get 0=some (.ptr X.M 7 0 0)/\s.tm.get 46=some (X.dN)/\s.tm.get 47=some (.f (.i .i64 X.WN.length))/\s.tm.get 48=some (.f (.i .i64 k)))/\c<=s.c/\(∀id,id<c->s.h.get id=h.get id)/\∀q∈X.WN.take k,zhs L σ q.1=true
def R2(X:Mx)(L:List Rl)(σ:Asg)(h:T Ob)(c:Nat)(e:Ex)(s:St):Prop:=(e= .exit 2/\J2 X L σ h c X.WN.length s)\/(e= .ret/\s.tm.get 2=some (.f (.b false))/\(∀id,id<c->s.h.get id=h.get id)/\(X.WN.all fun q=>zhs L σ q.1)=false)
theorem zZN{L:List Rl}{h:T Ob}{c:Nat}{X:Mx}{σ:Asg}(H:MS L h c X σ){s:St}{K:Ex->St->Prop}
  (hJ:J2 X L σ h c 0 s)(kx:∀s,J2 X L σ h c X.WN.length s->K (.exit 2) s)(kr:∀s,s.tm.get 2=some (.f (.b false))->(∀id,id<c->s.h.get id=h.get id)->(X.WN.all fun q=>zhs L σ q.1)=false->K .ret s):WL pr zi7 s K:=by
 have hm:=H.m.m;have ho:=H.m.o;have gN:=H.m.N.1;have lN:=zd2 gN;have hcl:(paD X.WN).length=X.WN.length:=by simp[paD]
 have hwl:=H.o.Nl;have hn6:=H.m.n6;have hb:zaQ σ<64:=Z15 (zd6 σ) (Z113 (by decide) hn6);refine zfa (fun m s=>∃k:Nat,k<=X.WN.length/\m=X.WN.length - k/\J2 X L σ h c k s) (R2 X L σ h c) ?_ X.WN.length _ ⟨0,Z61 _,rfl,hJ⟩ ?_
 .rintro m s ⟨k,hn,rfl,⟨h0,h46,h47,h48⟩,hc,hf,hI⟩;have hw:=zaH k (by omega)
  by_cases hlt:k<X.WN.length
  .have hx:X.WN[k]? =some X.WN[k]:=Z0 hlt;have hmem:=Z1 hlt;generalize X.WN[k]=q at hx hmem;have hP:=H.o.N q hmem;have hgQ:=H.m.N.2 q hmem;have hQl:=zd2 hgQ;have hql:(opD q.1.ts).length=q.1.ts.length:=by simp[opD]
   rw[hql]at hQl;obtain⟨id,ro,e1,e2,e3,e4⟩ :=zd5 gN (n:=k) (by omega);have hrow:(paD X.WN)[k]? =some [.f (.i .i64 q.1.r),q.2,.f (.i .u64 q.1.m)]:=by simp[paD,hx]
   have hA:=(Z8.1 hrow).2;have hqc:q.2.cells=some [q.2]:=zbU hgQ;have e2':s.h.get id=some (.arr 3 ro (paD X.WN)):=(hf id e4).trans e2;have hm':s.h.get X.M=_:=(hf X.M (by omega)).trans hm;rw[hcl]at e1;have i1:¬id=s.c:=by omega
   have i2:¬X.M=s.c:=by omega
   have ho6:∀t∈q.1.ts,zea σ.length t:=by rw[H.m.n];exact hP.o
   have hm64:=zjo hn6 ho6;have ban:=zkj hm64 hb
   by_cases hz:zcX q.1.m (zaQ σ)=0
   .obtain⟨v,hv⟩ :=ztw ((zBd ho6 hn6).1 hz);have hvl:=(zpH hv).1;have hQl':zco q.2=some v.length:=by rw[hvl];exact hQl
    have hpl:=hP.l;have i9:¬s.c=s.c+1+1+1+1+1+1+1+1+1:=by omega
    have m1:v.length<=zaB:=by have:=zfW (n:=v.length) (by omega);simpa using this
    have m2:v.length*32<=zaB:=by have:=zfW (n:=v.length*32) (by omega);simpa using this
    rw[hz]at ban;unfold zi7 zix;simp only[rU,C.l,C.r,C.b,C.o];simp[rW,h0,h46,h47,h48,hlt,e1,e2',hrow,hA,hcl,hqc,i1,i2];refine zbf ?_;simp[rW,h0,h46,h47,h48,hm',i1,i2,i9,ban,zhv,hQl',m1,m2];obtain⟨r,hr⟩ :∃r,L[q.1.r]? =some r:=⟨L[q.1.r]'hP.r,Z0 hP.r⟩
    have hRO:=H.o.L r (Z39 hr);have hvne:v≠[]:=fun e=>hP.e (Z17.1 (by rw[<-hvl,e];rfl))
    have hnb:zhs L σ q.1= !(r.tu.any fun t=>t.1==v):=by simp[zhs,hv,hasB,hr]
    refine zZQ H.m hmem hv (by omega) (R:=s.c+1+1+1+1+1+1+1+1+1) (P6:=s.c) (k:=k) ⟨⟨?_,?_,?_,?_,?_,?_,?_,?_,?_,?_,?_⟩,by omega,by omega,?_,?_,by omega,?_⟩ ?_
    .simp[rW,h0]
    .simp[rW]
    .simp[rW]
    .simp[rW,h46]
    .simp[rW,h47]
    .simp[rW,h48]
    .simp[rW]
    .simp[rW]
    .simp[rW]
    .rw[zH0];simp[rW,zc]
    .simp[rW,i9]
    .simp only[rG];omega
    .simp only[rG];omega
    .intro id hid;have a:¬id=s.c:=by omega
     have b:¬id=s.c+1+1+1+1+1+1+1+1+1:=by omega
     simp[rW,a,b];exact hf id hid
    .generalize s.c+1+1+1+1+1+1+1+1+1=R;clear i9;rintro s' ⟨⟨k0,k6,k7,k46,k47,k48,k65,k66,k67,gR,gP⟩,r1,r2,r3,r4,r5,hf'⟩;rw[zze]at gR;have hm2:s'.h.get X.M=_:=(hf' X.M (by omega)).trans hm;simp[rW,k0,k6,k7,k46,k47,k48];refine zfJ ?_;simp[rW,k0,k6,k7,k46,k47,k48,hm2,gP];refine zmb [(0,.ptr X.M 7 0 0),(46,X.dN),(47,.f (.i .i64 X.WN.length)),(48,.f (.i .i64 k))] (z0f (c:=s'.c+1+1+1+1+1+1+1) (lo:=X.M) (H.s.up fun id _ hid=>hf' id (by omega)) (by omega) (by omega) hr hRO gR hvne (by omega)) (by simp only[rG]) (by simp only[rG]) (by simp only[Rg];simp[rW,k0,k46,k47,k48]) rfl ?_;rintro s2 d1 c' ⟨rfl,-,hs2⟩ hc1 hc2 j86 ⟨j0,j46,j47,j48,-⟩;have f2:∀id,id<c->s2.h.get id=h.get id:=fun id hid=>(hs2 id (by omega) (by omega)).trans (hf' id hid)
     refine⟨by simp[rW],⟨?_⟩⟩;cases hany:r.tu.any fun t=>t.1==v with
     |true=>
      rw[hany]at j86 hnb;simp[rW,j0,j46,j47,j48,j86];refine .inr ⟨rfl,by simp[rW],fun id hid=>by simp[rW];exact f2 id hid,all_false (Z39 hx) (by simpa using hnb)⟩
     |false=>
      rw[hany]at j86 hnb;simp[rW,j0,j46,j47,j48,j86,hw];refine⟨X.WN.length - (k+1),by omega,k+1,by omega,rfl,⟨?_,?_,?_,?_⟩,?_,?_,?_⟩
      .simp[rW,j0]
      .simp[rW,j46]
      .simp[rW,j47]
      .simp[rW,hw]
      .simp only[rG];omega
      .intro id hid;simp[rW];exact f2 id hid
      .exact zrM hx hI (by simpa using hnb)
   .have hz2:(((zcX q.1.m (zaQ σ):Nat):Int)==0)=false:=by simpa using hz
    have hnb:zhs L σ q.1=true:=by
     unfold zhs;split
     .rename_i v hv;exact absurd ((zBd ho6 hn6).2 (zl2 hv)) hz
     .rfl
    unfold zi7 zix;simp only[rU,C.l,C.r,C.b,C.o];simp[rW,h0,h46,h47,h48,hlt,e1,e2',hrow,hA,hcl,hqc,i1,i2];refine zbf ?_;simp[rW,h0,h46,h47,h48,hm',i1,i2,ban,zhv,hz2,hw];refine⟨X.WN.length - (k+1),by omega,k+1,by omega,rfl,⟨?_,?_,?_,?_⟩,?_,?_,?_⟩
    .simp[rW,h0]
    .simp[rW,h46]
    .simp[rW,h47]
    .simp[rW,hw]
    .simp only[rG];omega
    .intro id hid;have a:¬id=s.c:=by omega
     simp[rW,a];exact hf id hid
    .exact zrM hx hI hnb
  .have hen:k=X.WN.length:=by omega
   subst hen;unfold zi7 zix;simp only[rU,C.l,C.r,C.b,C.o];simp[rW,h0,h46,h47,h48];exact .inl ⟨rfl,⟨by simp[rW,h0],by simp[rW,h46],by simp[rW,h47],by simp[rW,h48]⟩,by simp[rW,hc],fun id hid=>by simp[rW];exact hf id hid,hI⟩
 .rintro e s (⟨rfl,hJ⟩ |⟨rfl,h2,hf,hI⟩)
  .exact kx s hJ
  .exact kr s h2 hf hI
def zcW(L:List Rl)(X:Mx)(σ:Asg):Bool:=X.cs.all (zhk σ)&&X.WN.all fun q=>zhs L σ q.1
def zHd{L:List Rl}{h:T Ob}{c:Nat}{X:Mx}{σ:Asg}(H:MS L h c X σ):Eff pr 186 [.ptr X.M 7 0 0] h c (Same (.f (.b (zcW L X σ))) h c):=by
 refine zb2 kps fn186 (fun d h' c' ⟨a,_⟩ _ _=>⟨a,fun _ _=>rfl⟩) ?_;have hm:=H.m.m;have ho:=H.m.o;have gC:=H.m.C;have lC:=zd2 gC;have hcl:(cnD X.cs).length=X.cs.length:=by simp[cnD]
 rw[hcl]at lC;have gN:=H.m.N.1;have lN:=zd2 gN;have hnl:(paD X.WN).length=X.WN.length:=by simp[paD]
 rw[hnl]at lN;have hk:∀k∈X.cs,zjF σ.length k/\(k.op=1\/k.op=2\/k.op=3\/k.op=4):=by rw[H.m.n];exact H.o.c
 simp only[zix,rU];simp[rW,st0,zay,hm,lC];refine zZL H.m hk H.o.cl ⟨⟨?_,?_,?_,?_⟩,?_,?_,?_⟩ ?_ ?_
 .simp[rW]
 .simp[rW]
 .simp[rW]
 .simp[rW]
 .simp[rW]
 .intro id hid;simp[rW]
 .simp
 .rintro s ⟨⟨h0,h13,h14,h15⟩,hc,hf,hI⟩;have hm':s.h.get X.M=_:=(hf X.M (by omega)).trans hm;have hI1:X.cs.all (zhk σ)=true:=by
   rw[Z7]at hI;exact Z50.2 hI
  simp[rW,h0,h13,h14,h15,hm',lN];refine zZN H ⟨⟨?_,?_,?_,?_⟩,?_,?_,?_⟩ ?_ ?_
  .simp[rW,h0]
  .simp[rW]
  .simp[rW]
  .simp[rW]
  .simp only[rG];omega
  .intro id hid;simp[rW];exact hf id hid
  .simp
  .rintro s ⟨⟨h0,h46,h47,h48⟩,hc,hf,hJ⟩;have hI2:(X.WN.all fun q=>zhs L σ q.1)=true:=by
    rw[Z7]at hJ;exact Z50.2 hJ
   simp[rW,zaU];exact⟨by simp[zcW,hI1,hI2],hf⟩
  .intro s h2 hf hJ;simp[rW,h2,zaU];exact⟨by simp[zcW,hJ],hf⟩
 .intro s h2 hf hJ;simp[rW,h2,zaU];exact⟨by simp[zcW,hJ],hf⟩
def zdL:Asg->List Opn->List Int->Option Asg
 |σ,t::ts,z::zs=>match zaF σ t with
  |some y=>if y=z then zdL σ ts zs else none
  |none=>match t with
   | .var i=>zdL (σ.set i (some z)) ts zs
   | .cst _=>none
 |σ,_,_=>some σ
def Ext(σ τ:Asg):Prop:=τ.length=σ.length/\∀(i:Nat) (z:Int),σ[i]? =some (some z)->τ[i]? =some (some z)
def Ext.rfl'(σ:Asg):Ext σ σ:=⟨rfl,fun _ _ h=>h⟩
def Ext.tr{a b c:Asg}(h:Ext a b)(g:Ext b c):Ext a c:=⟨g.1.trans h.1,fun i z hz=>g.2 i z (h.2 i z hz)⟩
def zAD{σ:Asg}{i:Nat}{z:Int}(h:zaF σ (.var i)=none):Ext σ (σ.set i (some z)):=by
 refine⟨by simp,fun j y hy=> ?_⟩;have hne:i≠j:=fun e=>by subst e;simp[zaF,hy]at h
 rw[Z125 hne];exact hy
theorem zfD:∀{ts:List Opn} {v:List Int} {σ τ:Asg},zdL σ ts v=some τ->Ext σ τ
 |[],v,σ,τ,h=>by cases v<;>(cases h;exact Ext.rfl' _)
 |t::ts,[],σ,τ,h=>by cases h;exact Ext.rfl' _
 |t::ts,z::zs,σ,τ,h=>by
  simp only[zdL]at h;split at h
  .split at h
   .exact zfD h
   .cases h
  .rename_i hn;split at h
   .exact (zAD hn).tr (zfD h)
   .cases h
def zJM:∀{σ:Asg} {i:Nat} (z:Int),i<σ.length->zaQ (σ.set i (some z))=zaQ σ|||2 ^ i:=by
 intro σ i z hi;refine Nat.eq_of_testBit_eq fun j=> ?_
 rw[zd8,Nat.testBit_or,zd8,Nat.testBit_two_pow];simp only[zaF]
 by_cases h:i=j
 .subst h;rw[Z140 hi];simp[Option.join]
 .rw[Z125 h];simp[h]
def ext_eq{σ τ:Asg}(h:Ext σ τ)(hm:zaQ τ=zaQ σ):τ=σ:=by
 refine Z107 fun i=> ?_
 have hb:(zaF τ (.var i)).isSome=(zaF σ (.var i)).isSome:=by rw[<-zd8,<-zd8,hm]
 by_cases hi:i<σ.length
 .have h1:σ[i]? =some σ[i]:=Z0 hi;have h2:τ[i]? =some (τ[i]'(by rw[h.1];exact hi)):=Z0 _;cases hs:σ[i]with
  |some z=>
   rw[hs]at h1;rw[h1,h.2 i z h1]
  |none=>
   rw[hs]at h1;rw[h1,h2];simp only[zaF,h1,h2,Option.join]at hb;cases ht:τ[i]'(by rw[h.1];exact hi)with
   |none=>rfl
   |some z=>rw[ht]at hb;cases hb
 .rw[Z97 (by rw[h.1];omega),Z97 (by omega)]
def zcQ(L:List Rl)(X:Mx)(σ:Asg)(p:Pat)(v:List Int):Option Asg:=(zdL σ p.ts v).filter (zcW L X)
structure Mv(L:List Rl)(X:Mx)(σ:Asg)(h:T Ob)(c:Nat)(τ:Asg)(h':T Ob)(c':Nat):Prop where
 m:MS L h' c' X τ
 e:Ext σ τ
 f:Fr X c h h'
def MtS.back{h h':T Ob}{c c':Nat}{X:Mx}{σ τ:Asg}(H:MtS h' c' X τ)(he:Ext σ τ)(hm:h.get X.M=some (.arr 7 0 [[.ptr X.S 2 0 0,.f (zak X.ns),X.dP,X.dN,X.dC,.sl X.V 0 X.ns.length 3 X.ns.length true,.f (.i .u64 (zaQ σ))]]))(hf:∀id,id<c'->id≠X.M->h.get id=h'.get id)(hc:c'<=c):MtS h c X σ:=by
 obtain⟨vs,v1,v2,v3,v4⟩ :=H.v;have ho:=H.o;have key:∀id,X.V+1<=id->id<c'->h.get id=h'.get id:=fun id h1 h2=>hf id h2 (by omega)
 exact⟨hm,⟨vs,by rw[hf _ (by omega) (by omega)];exact v1,v2,v3,fun i z hz=>v4 i z (he.2 i z hz)⟩,by rw[<-H.n,he.1],by rw[<-he.1];exact H.n6,H.P.up key hc,H.N.up key hc,zaV H.C hc key,by omega⟩
theorem MtS.set{h:T Ob}{c:Nat}{X:Mx}{τ:Asg}{i:Nat}{z:Int}{vs:List (List D)}(H:MtS h c X τ)(hv:h.get X.V=some (.arr 3 0 vs))(hs:zaF τ (.var i)=none)(hi:i<τ.length){h':T Ob}{c':Nat}(hc:c<=c')
  (hM:h'.get X.M=some (.arr 7 0 [[.ptr X.S 2 0 0,.f (zak X.ns),X.dP,X.dN,X.dC,.sl X.V 0 X.ns.length 3 X.ns.length true,.f (.i .u64 (zaQ (τ.set i (some z))))]]))(hV:h'.get X.V=some (.arr 3 0 (vs.set i ((Sm.vF z).map D.f))))(hf:∀id,id<c->id≠X.M->id≠X.V->h'.get id=h.get id):MtS h' c' X (τ.set i (some z)):=by
 obtain⟨vs',v1,v2,v3,v4⟩ :=H.v;rw[hv]at v1;cases v1;refine H.wr hf hc hM ⟨_,hV,by simpa using v2,fun x hx=> ?_,fun j y hy=> ?_⟩ (by simp)
 .rcases Z156 hx with h1|rfl
  .exact v3 x h1
  .exact⟨1,z,by simp[Sm.vF]⟩
 .by_cases h1:i=j
  .subst h1;rw[Z140 hi]at hy;cases hy;rw[Z140 (by rw[v2,<-H.n];exact hi)]
  .rw[Z125 h1]at hy|-;exact v4 j y hy
def fn191:pr.fn 191=some zph:=by kernel_rfl
def zye:C:=zph.body.r.r.l.r.b.o
def Jb(L:List Rl)(X:Mx)(σ:Asg)(q:Pat×D)(v:List Int)(h:T Ob)(c i:Nat)(s:St):Prop:=(s.tm.get 0=some (.ptr X.M 7 0 0)/\s.tm.get 2=some (.f (valsF v))/\s.tm.get 7=some (.f (.i .u64 (zaQ σ)))/\s.tm.get 15=some (q.2)/\s.tm.get 16=some (.f (.i .i64 q.1.ts.length))/\s.tm.get 17=some (.f (.i .i64 i)))/\c<=s.c/\∃τ,Mv L X σ h c τ s.h s.c/\zdL σ q.1.ts v=zdL τ (q.1.ts.drop i) (v.drop i)
def Rb(L:List Rl)(X:Mx)(σ:Asg)(q:Pat×D)(v:List Int)(h:T Ob)(c:Nat)(e:Ex)(s:St):Prop:=(e= .exit 0/\Jb L X σ q v h c q.1.ts.length s)\/(e= .ret/\s.tm.get 6=some (.f (.b false))/\zdL σ q.1.ts v=none/\c<=s.c/\∃τ,Mv L X σ h c τ s.h s.c)
theorem zRR{L:List Rl}{h:T Ob}{c:Nat}{X:Mx}{σ:Asg}(H:MS L h c X σ){q:Pat×D}(hq:q∈X.WP){v:List Int}(hv:v.length=q.1.ts.length){s:St}{K:Ex->St->Prop}
  (hJ:Jb L X σ q v h c 0 s)(hK:∀e s,Rb L X σ q v h c e s->K e s):WL pr zye s K:=by
 have hP:=H.o.P q hq;have hpl:=hP.l;have hn6:=H.m.n6;have hoo:=H.m.o;refine zfa (fun m s=>∃i:Nat,i<=q.1.ts.length/\m=q.1.ts.length - i/\Jb L X σ q v h c i s) (Rb L X σ q v h c) ?_ q.1.ts.length _ ⟨0,Z61 _,rfl,hJ⟩ hK;rintro m s ⟨i,hn,rfl,⟨h0,h2,h7,h15,h16,h17⟩,hc,τ,HT,hB⟩;have hw:=zaH i (by omega)
 by_cases hlt:i<q.1.ts.length
 .have gQ:=HT.m.m.P.2 q hq;have hql:(opD q.1.ts).length=q.1.ts.length:=by simp[opD]
  obtain⟨id,ro,e1,e2,e3,e4⟩ :=zd5 gQ (n:=i) (by omega);rw[hql]at e1;have hm:=HT.m.m.m;have ho:=HT.m.m.o;have ht:q.1.ts[i]? =some q.1.ts[i]:=Z0 hlt;have hto:=hP.o _ (Z1 hlt);have hd:=Z55 hlt;have hz:v[i]? =some (v[i]'(by omega)):=Z0 (by omega);have hzd:v.drop i=v[i]'(by omega)::v.drop (i+1):=Z55 (by omega);generalize v[i]'(by omega)=z at hz hzd;have hzA:=(Z8.1 hz).2;have hiv:i<v.length:=by omega
  generalize q.1.ts[i]=t at ht hto hd;obtain⟨t0,t1,t2,t3,et⟩ :=zkz t;have hrow:(opD q.1.ts)[i]? =some [D.f t0,D.f t1,D.f t2,D.f t3]:=by simp[opD,ht,et]
  rw[hd,hzd]at hB;have i1:¬id=s.c:=by omega
  have i2:¬X.M=s.c:=by omega
  have hb:zaQ τ<64:=Z15 (zd6 τ) (Z113 (by decide) HT.m.m.n6);have hc4:t.c.length=4:=zS0 t;obtain⟨H1,hH1⟩ :∃H1,H1=(s.h.set s.c (.arr 4 0 [[D.f (.i .i64 0),D.f (.i .i64 0),D.f (.i .i64 0),D.f (.s [])]])).set s.c (.arr 4 0 [[D.f t0,D.f t1,D.f t2,D.f t3]]):=⟨_,rfl⟩
  have g9:H1.get s.c=some (.arr 4 0 [[D.f t0,D.f t1,D.f t2,D.f t3]]):=by rw[hH1,TG,Z51 rfl]
  have f1:∀id,id<s.c->H1.get id=s.h.get id:=fun id hid=>by
   rw[hH1,TG,Z49 (by omega),TG,Z49 (by omega)]
  unfold zye zph;simp only[rU,C.l,C.r,C.b,C.o];simp[rW,h0,h2,h7,h15,h16,h17,hlt,e1,e2,hrow,i1,i2];refine zsw (fun s'=>Rg [(0,.ptr X.M 7 0 0),(2,.f (valsF v)),(7,.f (.i .u64 (zaQ σ))),(8,.f (.i .i64 i)),(9,.ptr s.c 4 0 0),(15,q.2),(16,.f (.i .i64 q.1.ts.length)),(17,.f (.i .i64 i)),(35,.f (.b (zaF τ t).isSome))] s'/\s'.h=H1/\s.c+1<=s'.c) (fun K hK=> ?_) ?_
  .refine zbf ?_;cases t with
   |cst y0=>
    simp only[Opn.c,List.cons.injEq,and_true]at et;obtain⟨rfl,rfl,rfl,rfl⟩ :=et;simp[rW,h0,h2,h7,h15,h16,h17,hm,i1,i2];exact hK _ ⟨by simp only[Rg];simp[rW,h0,h2,h7,h15,h16,h17,e1,zaF],by simp only[rG];exact hH1.symm,by simp only[rG];omega⟩
   |var j=>
    have hj:j<6:=by
     have h1:j<X.ns.length:=hto;have h2:=HT.m.m.n6;rw[HT.m.m.n]at h2;omega
    obtain⟨bb1,bb2⟩ :=zO9 hb hj;rw[zd8]at bb2;generalize zaQ τ>>>j=w at bb1 bb2;have hj0:¬((j:Int)<0):=by omega
    simp only[Opn.c,List.cons.injEq,and_true]at et;obtain⟨rfl,rfl,rfl,rfl⟩ :=et;cases hs:(zaF τ (.var j)).isSome with
    |true=>
     rw[hs]at bb2;simp[rW,h0,h2,h7,h15,h16,h17,hm,i1,i2,bb1,bb2,hj0,u_eq];exact hK _ ⟨by simp only[Rg];simp[rW,h0,h2,h7,h15,h16,h17,e1,hs],by simp only[rG];exact hH1.symm,by simp only[rG];omega⟩
    |false=>
     rw[hs]at bb2;simp[rW,h0,h2,h7,h15,h16,h17,hm,i1,i2,bb1,bb2,hj0,u_eq];exact hK _ ⟨by simp only[Rg];simp[rW,h0,h2,h7,h15,h16,h17,e1,hs],by simp only[rG];exact hH1.symm,by simp only[rG];omega⟩
  .rintro s' ⟨⟨k0,k2,k7,k8,k9,k15,k16,k17,k35,-⟩,hH,hc'⟩;have HT1:MS L s'.h s'.c X τ:=HT.m.up (fun id hid=>by rw[hH];exact f1 id hid) (by omega);have g9':=hH▸g9;cases hy:zaF τ t with
   |some y=>
    rw[hy]at k35;simp only[zdL,hy]at hB;simp[rW,k0,k2,k7,k8,k9,k15,k16,k17,k35];refine zfJ ?_;simp[rW,k0,k2,k7,k8,k9,k15,k16,k17,g9'];refine zmb [(0,.ptr X.M 7 0 0),(2,.f (valsF v)),(7,.f (.i .u64 (zaQ σ))),(8,.f (.i .i64 i)),(15,q.2),(16,.f (.i .i64 q.1.ts.length)),(17,.f (.i .i64 i))] (zDe (c:=s'.c+1+1) hy (by rw[et];rfl) (HT1.m.up (fun _ _=>rfl) (by omega))) (by simp only[rG]) (by simp only[rG]) (by simp only[Rg];simp[rW,k0,k2,k7,k8,k15,k16,k17]) rfl ?_;rintro s2 d1 c' ⟨rfl,hs1⟩ hc1 hc2 j38 ⟨j0,j2,j7,j8,j15,j16,j17,-⟩;have HT2:MS L s2.h s2.c X τ:=HT1.up (fun id hid=>hs1 id (by omega)) (by omega);have F2:Fr X c h s2.h:=fun id h1 h2 h3=>(hs1 id (by omega)).trans (((congrArg (fun x=>Vse.T.get x id) hH).trans (f1 id (by omega))).trans (HT.f id h1 h2 h3))
    have q1:=fun k=>zaC (k:=k) (zO6 y z)
    simp only[Sm.vF]at q1;refine⟨by simp[rW],⟨?_⟩⟩
    by_cases hyz:y=z
    .rw[Z51 hyz]at hB;have hc0:zbq y z=0:=(zfi _ _).2 hyz;simp[rW,j0,j2,j7,j8,j15,j16,j17,j38,zrR,hz,hiv,hzA,Sm.vF,q1,hc0,hw];refine⟨q.1.ts.length - (i+1),by omega,i+1,by omega,rfl,⟨?_,?_,?_,?_,?_,?_⟩,?_,τ,⟨HT2.up (fun id hid=> ?_) ?_,HT.e,fun id h1 h2 h3=> ?_⟩,hB⟩
     .simp[rW,j0]
     .simp[rW,j2]
     .simp[rW,j7]
     .simp[rW,j15]
     .simp[rW,j16]
     .simp[rW,hw]
     .simp only[rG];omega
     .simp[rW]
     .simp only[rG];omega
     .simp[rW];exact F2 id h1 h2 h3
    .rw[Z49 hyz]at hB;have hc0:¬zbq y z=0:=fun e=>hyz ((zfi _ _).1 e)
     simp[rW,j0,j2,j7,j8,j15,j16,j17,j38,zrR,hz,hiv,hzA,Sm.vF,q1,hc0,hw];refine .inr ⟨rfl,by simp[rW],hB,?_,τ,⟨HT2.up (fun id hid=> ?_) ?_,HT.e,fun id h1 h2 h3=> ?_⟩⟩
     .simp only[rG];omega
     .simp[rW]
     .simp only[rG];omega
     .simp[rW];exact F2 id h1 h2 h3
   |none=>
    cases t with
    |cst y0=>cases hy
    |var j=>
     have hjn:j<X.ns.length:=hto;have hn7:=HT1.m.n6;have hn8:=HT1.m.n;obtain⟨vs,v1,v2,v3,v4⟩ :=HT1.m.v;have hm1:=HT1.m.m;have h8:=zUD v3;have hvj:vs[j]? =some (vs[j]'(by omega)):=Z0 (by omega);obtain⟨a,b,hab⟩ :=v3 _ (Z1 (n:=j) (by omega));rw[hab]at hvj;have hva:=(Z8.1 hvj).2;simp only[Opn.c,List.cons.injEq,and_true]at et;obtain⟨rfl,rfl,rfl,rfl⟩ :=et;simp only[zdL,hy]at hB;have bsh:=zjT (i:=j) (by omega);have bor:=zm1 (a:=zaQ τ) (b:=2 ^ j) hb (by have:2 ^ j<=2 ^ 5:=Z113 (by decide) (by omega);omega);have hms:Nat.lor (zaQ τ) (2 ^ j)=zaQ (τ.set j (some z)):=(zJM z (by omega)).symm;rw[hms]at bor;generalize hw2:2 ^ j=w2 at bsh bor;rw[hy]at k35;have n1:¬X.M=X.V:=by omega
     have n2:¬s.c=X.V:=by omega
     have n3:X.V<s'.c:=by omega
     simp[rW,k0,k2,k7,k8,k9,k15,k16,k17,k35];refine zbf ?_;simp[rW,k0,k2,k7,k8,k9,k15,k16,k17,g9',hm1,zrR,hz,hiv,hzA,Sm.vF,hjn,v1,v2,hva,h8,n1,n2,n3];have hp1:s'.h.get s.c=some (.arr 4 0 [[D.f (.i .i64 j),D.f (.i .i64 0),D.f (.i .i64 0),D.f (.s [])]]):=g9';refine⟨by omega,z4K (fun s3=>Rg [(0,.ptr X.M 7 0 0),(2,.f (valsF v)),(7,.f (.i .u64 (zaQ σ))),(9,.ptr s.c 4 0 0),(15,q.2),(16,.f (.i .i64 q.1.ts.length)),(17,.f (.i .i64 i))] s3/\s3.h=s'.h.set X.V (.arr 3 0 (vs.set j [D.f (.i .i64 1),D.f (.i .i64 z),D.f (.s [])]))/\s'.c<=s3.c) ⟨by simp only[Rg];simp[rW,k0,k2,k7,k9,k15,k16,k17],by simp only[rG],by simp only[rG];omega⟩ ?_⟩;rintro s3 ⟨⟨j0,j2,j7,j9,j15,j16,j17,-⟩,hH3,hc3⟩;have m3:s3.h.get X.M=_:=(show s3.h.get X.M=s'.h.get X.M by rw[hH3,TG,Z49 n1]).trans hm1;have p3:s3.h.get s.c=_:=(show s3.h.get s.c=s'.h.get s.c by rw[hH3,TG,Z49 n2]).trans hp1;have n4:X.M<s3.c:=by omega
     have n5:¬s.c=X.M:=by omega
     refine zbf ?_;simp[rW,j0,j2,j7,j9,j15,j16,j17,m3,p3,bsh,bor,n4,n5,hw];refine⟨by omega,q.1.ts.length - (i+1),by omega,i+1,by omega,rfl,⟨?_,?_,?_,?_,?_,?_⟩,?_,τ.set j (some z),⟨⟨HT1.m.set v1 hy (by omega) ?_ ?_ ?_ ?_,HT1.s.up ?_,HT1.o⟩,HT.e.tr (zAD hy),?_⟩,hB⟩
     .simp[rW,j0]
     .simp[rW,j2]
     .simp[rW,j7]
     .simp[rW,j15]
     .simp[rW,j16]
     .simp[rW,hw]
     .simp only[rG];omega
     .simp only[rG];omega
     .simp[rW]
     .have a:¬X.V=X.M:=fun e=>n1 e.symm
      simp[rW,a,hH3,Sm.vF]
     .intro id h1 h2 h3;simp[rW,h2,h3,hH3]
     .intro id _ h1;have a:¬id=X.M:=by omega
      have b:¬id=X.V:=by omega
      simp[rW,a,b,hH3]
     .intro id h1 h2 h3;simp[rW,h2,h3,hH3];exact (((congrArg (fun x=>Vse.T.get x id) hH).trans (f1 id (by omega))).trans (HT.f id h1 h2 h3))
 .have hen:i=q.1.ts.length:=by omega
  subst hen;unfold zye zph;simp only[rU,C.l,C.r,C.b,C.o];simp[rW,h0,h2,h7,h15,h16,h17];exact .inl ⟨rfl,⟨by simp[rW,h0],by simp[rW,h2],by simp[rW,h7],by simp[rW,h15],by simp[rW,h16],by simp[rW,h17]⟩,by simp[rW,hc],τ,HT,hB⟩
def BindP(L:List Rl)(X:Mx)(σ:Asg)(p:Pat)(v:List Int)(h:T Ob)(c:Nat)(d:D)(h':T Ob)(c':Nat):Prop:=∃τ,Mv L X σ h c τ h' c'/\((d= .f (.b true)/\zcQ L X σ p v=some τ)\/(d= .f (.b false)/\zcQ L X σ p v=none))
def Mv.low{L:List Rl}{X:Mx}{σ τ:Asg}{h h':T Ob}{c c':Nat}(H:Mv L X σ h c τ h' c')(H0:MS L h c X σ)(hf:∀id,id<c->h'.get id=h.get id):τ=σ:=by
 have hm:=H.m.m.m;have ho:=H0.m.o;rw[hf X.M (by omega),H0.m.m]at hm;simp only[Z45,Ob.arr.injEq,List.cons.injEq,D.f.injEq,F.i.injEq,true_and,and_true]at hm;exact ext_eq H.e (by omega)
theorem z0c{L:List Rl}{h:T Ob}{c:Nat}{X:Mx}{σ:Asg}(H:MS L h c X σ)(hcn:zcW L X σ=true){q:Pat×D}(hq:q∈X.WP){v:List Int}(hv:v.length=q.1.ts.length):
  Eff pr 191 [.ptr X.M 7 0 0,.ag [.f (.i .i64 q.1.r),q.2,.f (.i .u64 q.1.m)],.f (valsF v)] h c (BindP L X σ q.1 v h c):=by
 refine zb2 kps fn191 (fun d h' c' ⟨τ,a,b⟩ _ hf=> ?_) ?_
 .have e:=a.low H hf;subst e;exact⟨τ,⟨H,Ext.rfl' _,Fr.refl _ _ _⟩,b⟩
 have hm:=H.m.m;have ho:=H.m.o;have gQ:=H.m.P.2 q hq;have lQ:=zd2 gQ;have hql:(opD q.1.ts).length=q.1.ts.length:=by simp[opD]
 rw[hql]at lQ;have hqc:q.2.cells=some [q.2]:=zbU gQ;have n1:¬X.M=c:=by omega
 simp only[zph,rU];simp[rW,st0,zay,hm,hqc,n1,lQ];refine zRR H hq hv ⟨⟨?_,?_,?_,?_,?_,?_⟩,?_,σ,⟨H.up (fun id hid=> ?_) ?_,Ext.rfl' _,fun id h1 h2 h3=> ?_⟩,by simp⟩ ?_
 .simp[rW]
 .simp[rW]
 .simp[rW]
 .simp[rW]
 .simp[rW]
 .simp[rW]
 .simp only[rG];omega
 .have a:¬id=c:=by omega
  simp[rW,a]
 .simp only[rG];omega
 .have a:¬id=c:=by omega
  simp[rW,a]
 rintro e s (⟨rfl,⟨h0,h2,h7,h15,h16,h17⟩,hc,τ,HT,hB⟩ |⟨rfl,h6,hB,hc,τ,HT⟩)
 .have hB1:zdL σ q.1.ts v=some τ:=by
   rw[hB,Z206];rfl
  have hm':=HT.m.m.m
  by_cases he:zaQ τ=zaQ σ
  .have:=ext_eq HT.e he;subst this;simp[rW,h0,h2,h7,h15,h16,h17,hm',u_eq,zaU];exact⟨τ,⟨HT.m.up (fun _ _=>rfl) (by first|(simp only[rG];omega)|omega),HT.e,fun id h1 h2 h3=>HT.f id h1 h2 h3⟩,.inl ⟨rfl,by simp[zcQ,hB1,hcn]⟩⟩
  .have he2:(((zaQ τ:Nat):Int)==((zaQ σ:Nat):Int))=false:=by
    simpa using fun e:((zaQ τ:Nat):Int)=((zaQ σ:Nat):Int)=>he (by omega)
   simp[rW,h0,h2,h7,h15,h16,h17,hm',u_eq,he2];refine zbQ [(73,.f (.b false))] (zHd HT.m) (by simp only[rG]) (by simp only[rG]) (by simp only[Rg];simp[rW,he2]) rfl ?_;rintro s2 d1 ⟨rfl,hs1⟩ hc1 j75 ⟨j73,-⟩;refine⟨?_⟩;simp[rW,j75,j73,zaU];refine⟨τ,⟨HT.m.up (fun id hid=>hs1 id hid) (by first|(simp only[rG];omega)|omega),HT.e,fun id h1 h2 h3=>(hs1 id (by omega)).trans (HT.f id h1 h2 h3)⟩,?_⟩;cases hcb:zcW L X τ with
   |true=>exact .inl ⟨rfl,by simp[zcQ,hB1,hcb]⟩
   |false=>exact .inr ⟨rfl,by simp[zcQ,hB1,hcb]⟩
 .simp[rW,h6,zaU];exact⟨τ,⟨HT.m.up (fun _ _=>rfl) (by first|(simp only[rG];omega)|omega),HT.e,fun id h1 h2 h3=>HT.f id h1 h2 h3⟩,.inr ⟨rfl,by simp[zcQ,hB]⟩⟩
def fn122:pr.fn 122=some zDm:=by kernel_rfl
def fn190:pr.fn 190=some zDy:=by kernel_rfl
section
variable {s:St}{Q:St->Prop}{dst:Option Nat}{l:List Go.Vse.Op}
def o_un{op:UnOp}{x:A}:wpO pr (⟨dst,none,.un op x⟩ ::l) s Q↔oB (((O.un op x).res (zah s.tm)).bind (opv s.h.get s.c)) fun r=>zau r.c r.wr=true/\wpO pr l (s.aft dst r.d r.wr r.c) Q:=zdp rfl
def o_iaa{es m:Nat}{x i:A}:wpO pr (⟨dst,none,.iaa es m x i⟩ ::l) s Q↔oB (((O.iaa es m x i).res (zah s.tm)).bind (opv s.h.get s.c)) fun r=>zau r.c r.wr=true/\wpO pr l (s.aft dst r.d r.wr r.c) Q:=zdp rfl
end
def zEs(f:A->Option D)(op:UnOp)(x:A):O.res f (.un op x)=(f x).bind fun x=>some (.un op x):=rfl
def z3x(f:A->Option D)(es m:Nat)(x i:A):O.res f (.iaa es m x i)=(f x).bind fun x=>(f i).bind fun i=>some (.iaa es m x i):=rfl
def z2y(tm:T D)(cs:List F):zah tm (.g cs)=some (.fptr cs):=rfl
def zDX(n:Int):Option Int:=match Vse.zib (Go.Op.unary .neg (.int .u64 n))with
 |some (.int .u64 n)=>some n
 |_=>none
def v_neg(h:Nat->Option Ob)(c:Nat)(n m:Int)(hn:zDX n=some m):opv h c (.un .neg (.f (.i .u64 n)))=some {d:= .f (.i .u64 m),c}:=by
 unfold zDX at hn;unfold opv;simp only;split at hn
 .rename_i k e;rw[e];cases hn;rfl
 .cases hn
def v_iaa(h:Nat->Option Ob)(c es m i:Nat)(k:IntKind)(cs:List F)(hi:i<m):opv h c (.iaa es m (.fptr cs) (.f (.i k (i:Nat))))=some {d:= .fptr (cs.drop (i*es)),c}:=by
 have e:zbu (.f (.i k (i:Nat)))=some i:=by simp[zbu]
 unfold opv;simp only[e];rw[Z51 hi];rfl
def zuF:List F:=[.i .u8 0,.i .u8 1,.i .u8 56,.i .u8 2,.i .u8 57,.i .u8 49,.i .u8 28,.i .u8 3,.i .u8 61,.i .u8 58,.i .u8 42,.i .u8 50,.i .u8 38,.i .u8 29,.i .u8 17,.i .u8 4,.i .u8 62,.i .u8 47,.i .u8 59,.i .u8 36,.i .u8 45,.i .u8 43,.i .u8 51,.i .u8 22,.i .u8 53,.i .u8 39,.i .u8 33,.i .u8 30,.i .u8 24,.i .u8 18,.i .u8 12,.i .u8 5,.i .u8 63,.i .u8 55,.i .u8 48,.i .u8 27,.i .u8 60,.i .u8 41,.i .u8 37,.i .u8 16,.i .u8 46,.i .u8 35,.i .u8 44,.i .u8 21,.i .u8 52,.i .u8 32,.i .u8 23,.i .u8 11,.i .u8 54,.i .u8 26,.i .u8 40,.i .u8 15,.i .u8 34,.i .u8 20,.i .u8 31,.i .u8 10,.i .u8 25,.i .u8 14,.i .u8 19,.i .u8 9,.i .u8 13,.i .u8 8,.i .u8 7,.i .u8 6]
theorem t_neg:((List.range 64).all fun a=>a==0||match zDX ((a:Nat):Int)with
 |some z=>z==18446744073709551616 - ((a:Nat):Int)
 |none=>false)=true:=by kernel_rfl
theorem t_an2:((List.range 64).all fun a=>a==0||match zaS .and (.i .u64 (a:Nat)) (.i .u64 (18446744073709551616 - ((a:Nat):Int)))with
 |some (.i .u64 z)=>z==((2 ^ tz a:Nat):Int)&&Nat.blt (tz a) 6
 |_=>false)=true:=by kernel_rfl
def tz_k(k:Nat)(hk:k<6):∃m j,zaS .mul (.i .u64 ((2 ^ k:Nat):Int)) (.i .u64 285870213051353865)=some (.i .u64 m)/\zaS .shr (.i .u64 m) (.i .u64 58)=some (.i .u64 ((j:Nat):Int))/\j<64/\∃r,zuF.drop (j*1)= .i .u8 (k:Nat)::r:=by
 match k,hk with
 |0,_=>exact⟨285870213051353865,0,by kernel_rfl,by kernel_rfl,by decide,_,rfl⟩
 |1,_=>exact⟨571740426102707730,1,by kernel_rfl,by kernel_rfl,by decide,_,rfl⟩
 |2,_=>exact⟨1143480852205415460,3,by kernel_rfl,by kernel_rfl,by decide,_,rfl⟩
 |3,_=>exact⟨2286961704410830920,7,by kernel_rfl,by kernel_rfl,by decide,_,rfl⟩
 |4,_=>exact⟨4573923408821661840,15,by kernel_rfl,by kernel_rfl,by decide,_,rfl⟩
 |5,_=>exact⟨9147846817643323680,31,by kernel_rfl,by kernel_rfl,by decide,_,rfl⟩
def z4m{a:Nat}(ha:a<64)(h0:a≠0):∃n b m j,zDX a=some n/\zaS .and (.i .u64 (a:Nat)) (.i .u64 n)=some (.i .u64 b)/\zaS .mul (.i .u64 b) (.i .u64 285870213051353865)=some (.i .u64 m)/\zaS .shr (.i .u64 m) (.i .u64 58)=some (.i .u64 ((j:Nat):Int))/\j<64/\(∃r,zuF.drop (j*1)= .i .u8 (tz a:Nat)::r)/\tz a<6:=by
 have h1:=Z50.1 t_neg a (by simpa using ha);have h2:=Z50.1 t_an2 a (by simpa using ha);have hz:(a==0)=false:=by simpa using h0
 rw[hz,Bool.false_or]at h1 h2;split at h1
 .rename_i n e;have h1:=eq_of_beq h1;subst h1;split at h2
  .rename_i b e2;simp only[Z14]at h2;have h3:=eq_of_beq h2.1;subst h3;have h4:tz a<6:=by simpa [Z79]using h2.2
   obtain⟨m,j,e3,e4,e5,e6⟩ :=tz_k (tz a) h4;exact⟨_,_,m,j,e,e2,e3,e4,e5,e6,h4⟩
  .cases h2
 .cases h1
def ro190{a:Nat}(ha:a<64)(h0:a≠0)(h:T Ob)(c:Nat):RO pr 190 [.f (.i .u64 (a:Nat))] h c (.f (.i .i64 (tz a:Nat))):=by
 obtain⟨n,b,m,j,e1,e2,e3,e4,hj,⟨r,e5⟩,h6⟩ :=z4m ha h0;refine ziL zgr fn190 rfl ?_;have hz:(((a:Nat):Int)==0)=false:=by simpa using h0
 have hw:IntKind.i64.wrap ((tz a:Nat):Int)=((tz a:Nat):Int):=wrap_i64 _ (by omega) (by omega);simp only[zDy,rU];simp[rW,st0,zay,u_eq,hz];refine (o_un).2 ?_;simp[rW,zEs,v_neg _ _ _ _ e1,e2,e3,e4];refine (o_iaa).2 ?_;have hv:=v_iaa h.get c 1 64 j .u64 zuF hj;rw[e5]at hv;unfold zuF at hv;simp[rW,z3x,z2y,hv,hw,zfd,zQu]
 try simp (disch:=omega) only[ziO,zjE]
 trace_state
def zuB{a:Nat}(ha:a<64)(h0:a≠0)(h:T Ob)(c:Nat):RO pr 122 [.f (.i .u64 (a:Nat))] h c (.f (.i .i64 (tz a:Nat))):=by
 refine ziL zgr fn122 rfl ?_;simp only[zDm,rU];simp[rW,st0,zay];refine zkd (ro190 ha h0 _ _) ?_ fun mx=> ?_
 .simp only[rG];omega
 .simp[rW,zfd]
  try simp (disch:=omega) only[ziO,zjE]
  trace_state
end Go.Proofs.YthcehnaehljnfaaGreatDoor
end
