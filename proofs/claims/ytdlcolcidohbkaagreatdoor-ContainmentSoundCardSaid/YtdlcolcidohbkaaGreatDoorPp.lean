/- The matcher: value. -/
import Derived.Test.YtdlcolcidohbkaaGreatDoorPo
import Derived.KernelRfl
import Derived.IntWalk
import Derived.Test.YtdlcolcidohbkaaGreatDoorPk
set_option linter.all false
set_option maxRecDepth 100000
set_option maxHeartbeats 4000000
noncomputable section
section
namespace Go.Proofs.YtdlcolcidohbkaaGreatDoor
open Go Go.Vse Go.Vse.Sm
def fn230:pr.fn 230=some zAd:=by kernel_rfl
def zJu(t:Opn):t.c.length=4:=by cases t<;>rfl
def zMy{h:T Ob}{c:Nat}{X:Mx}{σ:Asg}(H:MtS h c X σ){t:Opn}{z:Int}(hz:zaC σ t=some z):Eff pr 230 [.ptr X.M 7 0 0,.ag (t.c.map D.f)] h c (Same (.ag [.f (.i .i64 1),.f (.i .i64 z),.f (.s [])]) h c):=by
 refine zuw zgQ fn230 ?_;have hm:=H.m;have ho:=H.o;obtain⟨vs,v1,v2,v3,v4⟩ :=H.v;simp only[zAd,rU];cases t with
 |cst y=>
  cases hz;have n1:¬c=c+1:=by omega
  simp[rW,st0,zak,Opn.c,zqh,n1];refine⟨⟨rfl,fun id hid=> ?_⟩,fun _=>Same.rfl' _ _ _ _⟩;have a1:¬id=c:=by omega
  have a2:¬id=c+1:=by omega
  simp[rW,a1,a2]
 |var i=>
  have hs:σ[i]? =some (some z):=by
   simp only[zaC]at hz;cases hh:σ[i]? with
   |none=>rw[hh]at hz;cases hz
   |some o=>rw[hh]at hz;exact congrArg some hz
  have hv:=v4 i z hs;have hi:¬((i:Int)<0):=by omega
  have n1:¬c=c+1:=by omega
  have n2:¬X.M=c:=by omega
  have n3:¬X.M=c+1:=by omega
  have n4:¬X.V=c:=by omega
  have n5:¬X.V=c+1:=by omega
  have hl:i<X.ns.length:=by
   have:=(Z8.1 hs).1;rw[<-H.n];exact this
  simp[rW,st0,zak,Opn.c,hi];refine zaw ?_;simp[rW,st0,zak,hm,v1,hv,n1,n2,n3,n4,n5,hl,Sm.vF,zqh];refine⟨⟨rfl,fun id hid=> ?_⟩,fun _=>Same.rfl' _ _ _ _⟩;have a1:¬id=c:=by omega
  have a2:¬id=c+1:=by omega
  simp[rW,a1,a2]
def zzy{h:T Ob}{c:Nat}{X:Mx}{σ:Asg}{t:Opn}{z:Int}{cells:List D}(hz:zaC σ t=some z)(hc:t.c.map D.f=cells)(H:MtS h c X σ):Eff pr 230 [.ptr X.M 7 0 0,.ag cells] h c (Same (.ag [.f (.i .i64 1),.f (.i .i64 z),.f (.s [])]) h c):=hc▸zMy H hz
def fn187:pr.fn 187=some zjk:=by kernel_rfl
def fn229:pr.fn 229=some zAc:=by kernel_rfl
def zLB(op c:Int):Ans pr 229 [.i .i64 op,.i .i64 c] (.b (if op=1 then decide (c=0)else if op=2 then decide (c≠0)else if op=3 then decide (c<0)else if op=4 then decide (c<=0)else false)):=by
 refine zcf fn229 ?_;simp only[zAc,rU]
 by_cases e1:op=1
 .subst e1;simp[rW,st0,zak];rfl
 .by_cases e2:op=2
  .subst e2;simp[rW,st0,zak];rfl
  .by_cases e3:op=3
   .subst e3;simp[rW,st0,zak]
   .by_cases e4:op=4
    .subst e4;simp[rW,st0,zak]
    .simp[rW,st0,zak,e1,e2,e3,e4]
theorem zet:∀σ:Asg,zaQ σ<2 ^ σ.length
 |[]=>by simp[zaQ]
 |o::σ=>by
  have:=zet σ;simp only[zaQ,Z23,Z195];split<;>omega
theorem zew:∀(σ:Asg) (i:Nat),(zaQ σ).testBit i=(zaC σ (.var i)).isSome
 |[],i=>by simp[zaQ,zaC]
 |o::σ,0=>by
  simp only[zaQ,zaC,List.getElem?_cons_zero,Option.join];cases o<;>simp[Z200]
 |o::σ,i+1=>by
  have h:=zew σ i;simp only[zaC,List.getElem?_cons_succ]at h|-;rw[<-h,zaQ,Z161]
  congr 1
  split<;>omega
def zex(n:Nat):Opn->Prop
 | .var i=>i<n
 | .cst _=>True
def zgu(t:Opn)(j:Nat):t.m.testBit j=true↔t= .var j:=by
 cases t with
 |cst z=>simp[Opn.m]
 |var i=>
  simp only[Opn.m,Opn.var.injEq];rw[Nat.testBit_two_pow];simp
def zlZ{n:Nat}{t:Opn}(h:zex n t)(hn:n<=6):t.m<64:=by
 cases t with
 |cst z=>simp[Opn.m]
 |var i=>
  have h:i<n:=h;have:2 ^ i<=2 ^ 5:=Z113 (by decide) (by omega);simp only[Opn.m];omega
def zAJ{a b:Nat}(ha:a<64)(hb:b<64):a|||b<64:=Nat.or_lt_two_pow (n:=6) ha hb
def zkL(n:Nat)(k:Cnd):Prop:=zex n k.l/\zex n k.r
def zp9{n:Nat}{k:Cnd}(h:zkL n k)(hn:n<=6):k.m<64:=zAJ (zlZ h.1 hn) (zlZ h.2 hn)
def zoA{σ:Asg}{t:Opn}:(∀i,t.m.testBit i=true->(zaQ σ).testBit i=true)↔(zaC σ t).isSome=true:=by
 constructor
 .intro h;cases t with
  |cst z=>rfl
  |var i=>
   have:=h i ((zgu _ _).2 rfl)
   rwa[zew]at this
 .intro h i hi;have:=(zgu _ _).1 hi;subst this;rw[zew];exact h
def zwH{σ:Asg}{k:Cnd}(h:zkL σ.length k)(hn:σ.length<=6):zdm k.m (zaQ σ)=0↔(zaC σ k.l).isSome=true/\(zaC σ k.r).isSome=true:=by
 have hm:zaQ σ<64:=Z15 (zet σ) (Z113 (by decide) hn);rw[zwC (zp9 h hn) hm,<-zoA,<-zoA];unfold Cnd.m;constructor
 .intro H;exact⟨fun i hi=>H i (by rw[Nat.testBit_or,hi,Bool.true_or]),fun i hi=>H i (by rw[Nat.testBit_or,hi,Bool.or_true])⟩
 .intro H i hi;rw[Nat.testBit_or,Z115]at hi;exact hi.elim (H.1 i) (H.2 i)
def zhW(σ:Asg)(k:Cnd):Bool:=match zaC σ k.l,zaC σ k.r with
 |some a,some b=>zg4 k.op a b
 |_,_=>true
def zIi(op a b:Int)(h:op=1\/op=2\/op=3\/op=4):(if op=1 then decide (zaW a b=0)else if op=2 then decide (zaW a b≠0)else if op=3 then decide (zaW a b<0)else if op=4 then decide (zaW a b<=0)else false)=zg4 op a b:=by
 unfold zaW;rcases h with rfl|rfl|rfl|rfl<;>simp[zg4]<;>by_cases h1:a=b<;>by_cases h2:a<b<;>simp[h1,h2]<;>omega
def zly(t:Opn):∃a b c d,t.c=[a,b,c,d]:=by cases t<;>exact⟨_,_,_,_,rfl⟩
def zes{h:T Ob}{lo c es:Nat}{d:D}{els:List (List D)}(hg:Gro h lo c es d els){n:Nat}(hn:n<els.length):∃id ro,d= .sl id 0 els.length es els.length false/\h.get id=some (.arr es ro els)/\lo<=id/\id<c:=by
 rcases hg with⟨-,rfl⟩ |⟨id,ro,h1,-,h3,-,h5,h6⟩
 .simp at hn
 .exact⟨id,ro,h1,h3,h5,h6⟩
def zxT{ops:List (Go.Vse.Op×Nat)}(n:Nat){L:List Go.Vse.En}{s:St}{Q:St->Prop}(h:∀T,T=ops.drop n->wpG pr L (ops.take n++T) s Q):wpG pr L ops s Q:=by
 have:=h _ rfl
 rwa[Z94]at this
def zq7{α:Type}{p:α->Bool}{l:List α}{n:Nat}{x:α}(hx:l[n]? =some x)(h:∀k∈l.take n,p k=true)(hp:p x=true):∀k∈l.take (n+1),p k=true:=by
 intro k hk;rw[Z105,hx]at hk;rcases Z4.1 hk with h1|h1
 .exact h k h1
 .simp at h1;rw[h1];exact hp
def all_false{α:Type}{p:α->Bool}{l:List α}{x:α}(hx:x∈l)(hp:p x=false):l.all p=false:=by
 rw[Z143];exact⟨x,hx,by simp[hp]⟩
def zx1(X:Mx)(σ:Asg)(h:T Ob)(c n:Nat)(s:St):Prop:=(s.tm.get 0=some (.ptr X.M 7 0 0)/\s.tm.get 13=some (X.dC)/\s.tm.get 14=some (.f (.i .i64 X.cs.length))/\s.tm.get 15=some (.f (.i .i64 n)))/\c<=s.c/\(∀id,id<c->s.h.get id=h.get id)/\(∀k∈X.cs.take n,zhW σ k=true)
def R187(X:Mx)(σ:Asg)(h:T Ob)(c:Nat)(e:Ex)(s:St):Prop:=(e= .exit 0/\zx1 X σ h c X.cs.length s)\/(e= .ret/\s.tm.get 2=some (.f (.b false))/\c<=s.c/\(∀id,id<c->s.h.get id=h.get id)/\X.cs.all (zhW σ)=false)
def zBD:C:=zjk.body.r.l.r.b.o
theorem zL4{h:T Ob}{c:Nat}{X:Mx}{σ:Asg}(H:MtS h c X σ)(hk:∀k∈X.cs,zkL σ.length k/\(k.op=1\/k.op=2\/k.op=3\/k.op=4))(hl:X.cs.length<1000){s:St}{K:Ex->St->Prop}
  (hJ:zx1 X σ h c 0 s)(kx:∀s,zx1 X σ h c X.cs.length s->K (.exit 0) s)(kr:∀s,s.tm.get 2=some (.f (.b false))->(∀id,id<c->s.h.get id=h.get id)->X.cs.all (zhW σ)=false->K .ret s):WL pr zBD s K:=by
 have hm:=H.m;have ho:=H.o;have gC:=H.C;have lC:=zer gC;have hcl:(cnD X.cs).length=X.cs.length:=by simp[cnD]
 rw[hcl]at lC;have hb:zaQ σ<64:=Z15 (zet σ) (Z113 (by decide) H.n6);refine zcS (fun k s=>∃n:Nat,n<=X.cs.length/\k=X.cs.length - n/\zx1 X σ h c n s) (R187 X σ h c) ?_ X.cs.length _ ⟨0,Z61 _,rfl,hJ⟩ ?_
 .rintro k s ⟨n,hn,rfl,⟨h0,h13,h14,h15⟩,hc,hf,hI⟩;have hw:=zao n (by omega);unfold zBD zjk;simp only[rU,C.l,C.r,C.b,C.o]
  by_cases hlt:n<X.cs.length
  .have hx:X.cs[n]? =some X.cs[n]:=Z0 hlt;have hK:=hk _ (Z1 hlt);generalize hA:X.cs[n]=q at hx hK;obtain⟨op,l,r⟩ :=q;obtain⟨l0,l1,l2,l3,el⟩ :=zly l;obtain⟨r0,r1,r2,r3,er⟩ :=zly r;obtain⟨id,ro,e1,e2,e3,e4⟩ :=zes gC (n:=n) (by omega);have hrow:(cnD X.cs)[n]? =some [D.f (.i .i64 op),D.f l0,D.f l1,D.f l2,D.f l3,D.f r0,D.f r1,D.f r2,D.f r3,D.f (.i .u64 ((Cnd.mk op l r).m:Nat))]:=by simp[cnD,hx,el,er]
   have e2':s.h.get id=some (.arr 10 ro (cnD X.cs)):=(hf id e4).trans e2;have hm':s.h.get X.M=_:=(hf X.M (by omega)).trans hm;rw[hcl]at e1;have i1:¬id=s.c:=by omega
   have i2:¬X.M=s.c:=by omega
   have hm64:=zp9 hK.1 H.n6;have ban:=zll hm64 hb;have hsame:∀id,id<c->id≠s.c->(s.h.set s.c (.arr 10 0 [[D.f (.i .i64 op),D.f l0,D.f l1,D.f l2,D.f l3,D.f r0,D.f r1,D.f r2,D.f r3,D.f (.i .u64 ((Cnd.mk op l r).m:Nat))]])).get id=h.get id:=fun id h1 h2=>by
    rw[TG,Z49 h2];exact hf id h1
   simp[rW,h0,h13,h14,h15,hlt,e1,e2',hrow,i1,i2]
   by_cases hz:zdm (Cnd.mk op l r).m (zaQ σ)=0
   .rw[hz]at ban;obtain⟨v1,v2⟩ :=(zwH hK.1 H.n6).1 hz;obtain⟨a,ha⟩ :=Z158.1 v1;obtain⟨b,hb'⟩ :=Z158.1 v2;refine zgi (zxT 9 fun T hT=> ?_);simp only[List.take,List.drop,Z29,Z28]at hT|-;simp[rW,h0,h13,h14,h15,hm',i1,i2,ban,u_eq];subst hT;simp[rW,h0,h13,h14,h15,hm',i1,i2];refine wg_e (by simp only[rG];rfl) (by simp only[rG];rfl) (zzy ha (by rw[el];rfl) (H.up (fun id hid=> ?_) ?_)) ?_
    .have a:¬id=s.c:=by omega
     simp[rW,a];exact hf id hid
    .omega
    rintro d1 h1' c1 lw1 mx1 ⟨rfl,hs1⟩ hc1 hm1;have g4:h1'.get s.c=some (.arr 10 0 [[D.f (.i .i64 op),D.f l0,D.f l1,D.f l2,D.f l3,D.f r0,D.f r1,D.f r2,D.f r3,D.f (.i .u64 ((Cnd.mk op l r).m:Nat))]]):=by
     rw[hs1 _ (by omega)];simp[rW]
    have f1:∀x,x<c->h1'.get x=h.get x:=fun x hx=>by
     rw[hs1 _ (by omega)];have a:¬x=s.c:=by omega
     simp[rW,a];exact hf x hx
    simp[rW,h0,h13,h14,h15,g4,O.res,Z47];refine wg_e (by simp only[rG];rfl) (by simp only[rG];rfl) (zzy hb' (by rw[er];rfl) (H.up (fun id hid=> ?_) ?_)) ?_
    .exact f1 id hid
    .omega
    rintro d2 h2' c2 lw2 mx2 ⟨rfl,hs2⟩ hc2 hm2;have g5:h2'.get s.c=some (.arr 10 0 [[D.f (.i .i64 op),D.f l0,D.f l1,D.f l2,D.f l3,D.f r0,D.f r1,D.f r2,D.f r3,D.f (.i .u64 ((Cnd.mk op l r).m:Nat))]]):=by
     rw[hs2 _ (by omega)];exact g4
    have f2:∀x,x<c->h2'.get x=h.get x:=fun x hx=>by
     rw[hs2 _ (by omega)];exact f1 x hx
    have q1:=fun k=>zad (k:=k) (zGc a b)
    have q2:=fun k=>zad (k:=k) (zLB op (zaW a b))
    rw[zIi op a b hK.2]at q2;simp only[Sm.vF]at q1;simp[rW,h0,h13,h14,h15,g4,g5,O.res,Z47,q1,q2];have hcb:zhW σ ⟨op,l,r⟩ =zg4 op a b:=by simp[zhW,ha,hb']
    by_cases hv:zg4 op a b=true
    .rw[Z51 hv];rw[hv]at hcb;refine⟨X.cs.length - (n+1),by omega,n+1,by omega,rfl,⟨?_,?_,?_,?_⟩,?_,?_,?_⟩
     .simp[rW,h0]
     .simp[rW,h13]
     .simp[rW,h14]
     .simp[rW,hw]
     .simp[rW];omega
     .intro id hid;simp[rW];exact f2 id hid
     .exact zq7 hx hI hcb
    .rw[Z49 hv];refine .inr ⟨rfl,?_,?_,?_,all_false (Z39 hx) (by rw[hcb];simpa using hv)⟩
     .simp[rW]
     .simp[rW];omega
     .intro id hid;simp[rW];exact f2 id hid
   .have hz2:(((zdm (Cnd.mk op l r).m (zaQ σ):Nat):Int)==0)=false:=by simpa using hz
    have hcb:zhW σ ⟨op,l,r⟩ =true:=by
     unfold zhW;split
     .rename_i a b e1 e2;exact absurd ((zwH hK.1 H.n6).2 ⟨by rw[e1];rfl,by rw[e2];rfl⟩) hz
     .rfl
    refine zgi (zxT 9 fun T hT=> ?_);simp only[List.take,List.drop,Z29,Z28]at hT|-;simp[rW,h0,h13,h14,h15,hm',i1,i2,ban,u_eq,hz2];subst hT;simp[rW,h0,h13,h14,h15,hm',i1,i2];refine⟨X.cs.length - (n+1),by omega,n+1,by omega,rfl,⟨?_,?_,?_,?_⟩,?_,?_,?_⟩
    .simp[rW,h0]
    .simp[rW,h13]
    .simp[rW,h14]
    .simp[rW,hw]
    .simp[rW];omega
    .intro id hid;have a:¬id=s.c:=by omega
     simp[rW,a];exact hf id hid
    .exact zq7 hx hI hcb
  .have hen:n=X.cs.length:=by omega
   subst hen;simp[rW,h0,h13,h14,h15];exact .inl ⟨rfl,⟨by simp[rW,h0],by simp[rW,h13],by simp[rW,h14],by simp[rW,h15]⟩,by simp[rW,hc],fun id hid=>by simp[rW];exact hf id hid,hI⟩
 .rintro e s (⟨rfl,hJ⟩ |⟨rfl,h2,hc,hf,hI⟩)
  .exact kx s hJ
  .exact kr s h2 hf hI
def zdd(σ:Asg):List Opn->Option (List Int)
 |[]=>some []
 |t::l=>match zaC σ t,zdd σ l with
  |some z,some v=>some (z::v)
  |_,_=>none
theorem zsS{σ:Asg}:∀{ts:List Opn},(∀t∈ts,(zaC σ t).isSome=true)->∃v,zdd σ ts=some v
 |[],_=>⟨[],rfl⟩
 |t::l,h=>by
  obtain⟨v,hv⟩ :=zsS (σ:=σ) (ts:=l) fun x hx=>h x (by simp[hx])
  obtain⟨z,hz⟩ :=Z158.1 (h t (by simp));exact⟨z::v,by simp[zdd,hv,hz]⟩
theorem zmV{σ:Asg}:∀{ts:List Opn} {v:List Int},zdd σ ts=some v->∀t∈ts,(zaC σ t).isSome=true
 |[],_,_=>by simp
 |t::l,v,h=>by
  simp only[zdd]at h;split at h
  .rename_i z w hz hw;intro x hx;rcases Z5.1 hx with rfl|hx
   .rw[hz];rfl
   .exact zmV hw x hx
  .cases h
theorem zpO{σ:Asg}:∀{ts:List Opn} {v:List Int},zdd σ ts=some v->v.length=ts.length/\∀(i:Nat) (t:Opn),ts[i]? =some t->∃z,v[i]? =some z/\zaC σ t=some z
 |[],v,h=>by cases h;exact⟨rfl,by simp⟩
 |t::l,v,h=>by
  simp only[zdd]at h;split at h
  .rename_i z w hz hw;cases h;obtain⟨a1,a2⟩ :=zpO hw;refine⟨by simp[a1],fun i x hx=> ?_⟩;cases i with
   |zero=>cases hx;exact⟨z,rfl,hz⟩
   |succ i=>exact a2 i x hx
  .cases h
theorem zvc(i:Nat):∀(ts:List Opn) (b:Nat),(ts.foldl (fun b t=>b|||t.m) b).testBit i=(b.testBit i||ts.any fun t=>t.m.testBit i)
 |[],b=>by simp
 |t::l,b=>by
  rw[Z42,zvc i l,Nat.testBit_or,List.any_cons,Bool.or_assoc]
def ziz(p:Pat)(i:Nat):p.m.testBit i=p.ts.any fun t=>t.m.testBit i:=by
 unfold Pat.m;rw[zvc];simp
theorem zrS{n:Nat}(hn:n<=6):∀(ts:List Opn) (b:Nat),b<64->(∀t∈ts,zex n t)->ts.foldl (fun b t=>b|||t.m) b<64
 |[],b,hb,_=>hb
 |t::l,b,hb,h=>zrS hn l _ (zAJ hb (zlZ (h t (by simp)) hn)) fun x hx=>h x (by simp[hx])
def zkq{n:Nat}(hn:n<=6){p:Pat}(h:∀t∈p.ts,zex n t):p.m<64:=zrS hn _ _ (by decide) h
def zxj{σ:Asg}{p:Pat}(h:∀t∈p.ts,zex σ.length t)(hn:σ.length<=6):zdm p.m (zaQ σ)=0↔∀t∈p.ts,(zaC σ t).isSome=true:=by
 have hm:zaQ σ<64:=Z15 (zet σ) (Z113 (by decide) hn);rw[zwC (zkq hn h) hm];constructor
 .intro H t ht;refine (zoA (σ:=σ) (t:=t)).1 fun i hi=>H i ?_
  rw[ziz];exact Z30.2 ⟨t,ht,hi⟩
 .intro H i hi;rw[ziz]at hi;obtain⟨t,ht,h2⟩ :=Z30.1 hi;exact (zoA (σ:=σ) (t:=t)).2 (H t ht) i h2
def hasB(L:List Rl)(i:Nat)(v:List Int):Bool:=match L[i]? with
 |some r=>r.tu.any fun t=>t.1==v
 |none=>false
def zh5(L:List Rl)(σ:Asg)(p:Pat):Bool:=match zdd σ p.ts with
 |some v=>!hasB L p.r v
 |none=>true
structure zyg(L:List Rl)(n:Nat)(p:Pat):Prop where
 r:p.r<L.length
 e:p.ts≠[]
 l:p.ts.length<1000
 o:∀t∈p.ts,zex n t
 a:∀r,L[p.r]? =some r->∀t∈r.tu,t.1.length=p.ts.length
structure MxO(X:Mx)(L:List Rl):Prop where
 c:∀k∈X.cs,zkL X.ns.length k/\(k.op=1\/k.op=2\/k.op=3\/k.op=4)
 cl:X.cs.length<1000
 N:∀q∈X.WN,zyg L X.ns.length q.1
 P:∀q∈X.WP,zyg L X.ns.length q.1
 Nl:X.WN.length<1000
 Pl:X.WP.length<=6
 L:∀r∈L,RlO r
structure MS(L:List Rl)(h:T Ob)(c:Nat)(X:Mx)(σ:Asg):Prop where
 m:MtS h c X σ
 s:zdD h X.M X.S L
 o:MxO X L
def MS.up{L:List Rl}{h h':T Ob}{c c':Nat}{X:Mx}{σ:Asg}(H:MS L h c X σ)(hf:∀id,id<c->h'.get id=h.get id)(hc:c<=c'):MS L h' c' X σ:=
 ⟨H.m.up hf hc,H.s.up fun id _ hid=>hf id (by have:=H.m.o;omega),H.o⟩
def zc:List D:=[.f (.i .i64 0),.f (.i .i64 0),.f (.s [])]
def zhg(v:List Int)(i:Nat):List (List D):=vRw (v.take i)++List.replicate (v.length - i) zc
def zFu{v:List Int}{i:Nat}(h:i<=v.length):(zhg v i).length=v.length:=by
 simp[zhg,vRw];omega
def zCG(v:List Int):zhg v 0=List.replicate v.length zc:=by simp[zhg,vRw]
def zvu(v:List Int):zhg v v.length=vRw v:=by simp[zhg]
def zvw{v:List Int}{i:Nat}{z:Int}(h:v[i]? =some z):(zhg v i).set i [.f (.i .i64 1),.f (.i .i64 z),.f (.s [])]=zhg v (i+1):=by
 have hi:i<v.length:=(Z8.1 h).1;unfold zhg;have hl:(vRw (v.take i)).length=i:=by simp[vRw];omega
 rw[Z112 _ _ (by omega),hl,Z194,Z105,h];obtain⟨m,hm⟩ :∃m,v.length - i=m+1:=⟨v.length - i - 1,by omega⟩
 rw[hm,show v.length - (i+1)=m by omega,Z181];simp[vRw,Sm.vF]
def zvv{v:List Int}{i:Nat}(h:i<v.length):(zhg v i)[i]? =some zc:=by
 unfold zhg;have hl:(vRw (v.take i)).length=i:=by simp[vRw];omega
 rw[Z62 (by omega),hl,Z194,Z160,Z51 (by omega)]
def zxo(v:List Int)(i:Nat):hd8 (zhg v i)=false:=by
 unfold zhg;cases h:v.take i with
 |nil=>
  cases v.length - i with
  |zero=>rfl
  |succ n=>rfl
 |cons a l=>rfl
def zka:C:=zjk.body.r.r.l.r.b.o
def zuh:C:=zka.r.r.l.b.r.r.r.l.r.b.o
def J4(X:Mx)(q:Pat×D)(v:List Int)(h:T Ob)(c R P6 k i:Nat)(s:St):Prop:=(s.tm.get 0=some (.ptr X.M 7 0 0)/\s.tm.get 6=some (.ptr P6 3 0 0)/\s.tm.get 7=some (.sl R 0 v.length 3 v.length true)/\s.tm.get 46=some (X.dN)/\s.tm.get 47=some (.f (.i .i64 X.WN.length))/\s.tm.get 48=some (.f (.i .i64 k))/\s.tm.get 65=some (q.2)/\s.tm.get 66=some (.f (.i .i64 v.length))/\s.tm.get 67=some (.f (.i .i64 i))/\s.h.get R=some (.arr 3 0 (zhg v i))/\s.h.get P6=some (.arr 3 0 [[.f (.i .i64 q.1.r),q.2,.f (.i .u64 q.1.m)]]))/\c<=R/\c<=P6/\R<s.c/\P6<s.c/\R≠P6/\∀id,id<c->s.h.get id=h.get id
theorem zL9{h:T Ob}{c:Nat}{X:Mx}{σ:Asg}(H:MtS h c X σ){q:Pat×D}(hq:q∈X.WN){v:List Int}(hv:zdd σ q.1.ts=some v)(hl:v.length<1000){R P6 k:Nat}{s:St}{K:Ex->St->Prop}
  (hJ:J4 X q v h c R P6 k 0 s)(kx:∀s,J4 X q v h c R P6 k v.length s->K (.exit 4) s):WL pr zuh s K:=by
 have hm:=H.m;have ho:=H.o;obtain⟨vl,vg⟩ :=zpO hv;have gQ:=H.N.2 q hq;have hql:(opD q.1.ts).length=v.length:=by simp[opD,vl]
 refine zbD v.length (J4 X q v h c R P6 k) (fun e s=>e= .exit 4/\J4 X q v h c R P6 k v.length s) ?_ ?_ _ hJ ?_
 .rintro i s hlt ⟨⟨h0,h6,h7,h46,h47,h48,h65,h66,h67,gR,gP⟩,r1,r2,r3,r4,r5,hf⟩;have hw:=zao i (by omega);obtain⟨id,ro,e1,e2,e3,e4⟩ :=zes gQ (n:=i) (by omega);have ht:q.1.ts[i]? =some (q.1.ts[i]'(by omega)):=Z0 (by omega);obtain⟨z,hz1,hz2⟩ :=vg i _ ht;generalize q.1.ts[i]'(by omega)=t at ht hz2;obtain⟨t0,t1,t2,t3,et⟩ :=zly t;have hrow:(opD q.1.ts)[i]? =some [D.f t0,D.f t1,D.f t2,D.f t3]:=by simp[opD,ht,et]
  have e2':s.h.get id=some (.arr 4 ro (opD q.1.ts)):=(hf id e4).trans e2;have hm':s.h.get X.M=_:=(hf X.M (by omega)).trans hm;rw[hql]at e1;have i1:¬id=s.c:=by omega
  have i2:¬X.M=s.c:=by omega
  have i3:¬R=s.c:=by omega
  have hrl:=zFu (v:=v) (i:=i) (by omega);have hrs:=zvw hz1;unfold zuh zka zjk;simp only[rU,C.l,C.r,C.b,C.o];simp[rW,h0,h6,h7,h46,h47,h48,h65,h66,h67,hlt,e1,e2',hrow,i1,i2];refine zbR [(0,.ptr X.M 7 0 0),(6,.ptr P6 3 0 0),(7,.sl R 0 v.length 3 v.length true),(46,X.dN),(47,.f (.i .i64 X.WN.length)),(48,.f (.i .i64 k)),(65,q.2),(66,.f (.i .i64 v.length)),(67,.f (.i .i64 i)),(72,.sl R 0 v.length 3 v.length true),(73,.f (.i .i64 i))] (zzy hz2 (by rw[et];rfl) (H.up (fun id hid=> ?_) ?_)) (by simp only[rG];rfl) (by simp only[rG];rfl) (by simp only[Rg];simp[rW,h0,h6,h7,h46,h47,h48,h65,h66,h67,e1]) rfl ?_
  .have a:¬id=s.c:=by omega
   simp[rW,a];exact hf id hid
  .omega
  rintro s1 d1 ⟨rfl,hs1⟩ hc1 k76 ⟨k0,k6,k7,k46,k47,k48,k65,k66,k67,k72,k73,-⟩;have f1:∀id,id<s.c->s1.h.get id=s.h.get id:=fun id hid=>by
   rw[hs1 id (by omega),TG,Z49 (by omega),TG,Z49 (by omega)]
  have gR1:=(f1 R r3).trans gR;have gP1:=(f1 P6 r4).trans gP;refine⟨?_⟩;have hge:=zvv hlt;have hgA:=(Z8.1 hge).2;have h8:=zxo v i;have j1:R<s1.c:=by omega
  have j2:¬P6=R:=fun e=>r5 e.symm
  simp[rW,k0,k6,k7,k46,k47,k48,k65,k66,k67,k72,k73,k76,gR1,hlt,hrl,hrs,hw,hgA,h8,zc,j1];refine⟨⟨?_,?_,?_,?_,?_,?_,?_,?_,?_,?_,?_⟩,r1,r2,?_,?_,r5,?_⟩
  .simp[rW,k0]
  .simp[rW,k6]
  .simp[rW,k7]
  .simp[rW,k46]
  .simp[rW,k47]
  .simp[rW,k48]
  .simp[rW,k65]
  .simp[rW,k66]
  .simp[rW,hw]
  .simp[rW]
  .simp[rW,j2,gP1]
  .simp only[rG];omega
  .simp only[rG];omega
  .intro id hid;have a:¬id=R:=by omega
   simp[rW,a];exact (f1 id (by omega)).trans (hf id hid)
 .rintro s ⟨⟨h0,h6,h7,h46,h47,h48,h65,h66,h67,gR,gP⟩,r1,r2,r3,r4,r5,hf⟩;unfold zuh zka zjk;simp only[rU,C.l,C.r,C.b,C.o];simp[rW,h0,h6,h7,h46,h47,h48,h65,h66,h67];exact⟨⟨by simp[rW,h0],by simp[rW,h6],by simp[rW,h7],by simp[rW,h46],by simp[rW,h47],by simp[rW,h48],by simp[rW,h65],by simp[rW,h66],by simp[rW,h67],gR,gP⟩,r1,r2,r3,r4,r5,hf⟩
 .rintro e s ⟨rfl,hJ⟩;exact kx s hJ
def J2(X:Mx)(L:List Rl)(σ:Asg)(h:T Ob)(c k:Nat)(s:St):Prop:=(s.tm.get 0=some (.ptr X.M 7 0 0)/\s.tm.get 46=some (X.dN)/\s.tm.get 47=some (.f (.i .i64 X.WN.length))/\s.tm.get 48=some (.f (.i .i64 k)))/\c<=s.c/\(∀id,id<c->s.h.get id=h.get id)/\∀q∈X.WN.take k,zh5 L σ q.1=true
def R2(X:Mx)(L:List Rl)(σ:Asg)(h:T Ob)(c:Nat)(e:Ex)(s:St):Prop:=(e= .exit 2/\J2 X L σ h c X.WN.length s)\/(e= .ret/\s.tm.get 2=some (.f (.b false))/\(∀id,id<c->s.h.get id=h.get id)/\(X.WN.all fun q=>zh5 L σ q.1)=false)
theorem zL6{L:List Rl}{h:T Ob}{c:Nat}{X:Mx}{σ:Asg}(H:MS L h c X σ){s:St}{K:Ex->St->Prop}
  (hJ:J2 X L σ h c 0 s)(kx:∀s,J2 X L σ h c X.WN.length s->K (.exit 2) s)(kr:∀s,s.tm.get 2=some (.f (.b false))->(∀id,id<c->s.h.get id=h.get id)->(X.WN.all fun q=>zh5 L σ q.1)=false->K .ret s):WL pr zka s K:=by
 have hm:=H.m.m;have ho:=H.m.o;have gN:=H.m.N.1;have lN:=zer gN;have hcl:(paD X.WN).length=X.WN.length:=by simp[paD]
 have hwl:=H.o.Nl;have hn6:=H.m.n6;have hb:zaQ σ<64:=Z15 (zet σ) (Z113 (by decide) hn6);refine zcS (fun m s=>∃k:Nat,k<=X.WN.length/\m=X.WN.length - k/\J2 X L σ h c k s) (R2 X L σ h c) ?_ X.WN.length _ ⟨0,Z61 _,rfl,hJ⟩ ?_
 .rintro m s ⟨k,hn,rfl,⟨h0,h46,h47,h48⟩,hc,hf,hI⟩;have hw:=zao k (by omega)
  by_cases hlt:k<X.WN.length
  .have hx:X.WN[k]? =some X.WN[k]:=Z0 hlt;have hmem:=Z1 hlt;generalize X.WN[k]=q at hx hmem;have hP:=H.o.N q hmem;have hgQ:=H.m.N.2 q hmem;have hQl:=zer hgQ;have hql:(opD q.1.ts).length=q.1.ts.length:=by simp[opD]
   rw[hql]at hQl;obtain⟨id,ro,e1,e2,e3,e4⟩ :=zes gN (n:=k) (by omega);have hrow:(paD X.WN)[k]? =some [.f (.i .i64 q.1.r),q.2,.f (.i .u64 q.1.m)]:=by simp[paD,hx]
   have hA:=(Z8.1 hrow).2;have hqc:q.2.cells=some [q.2]:=zbY hgQ;have e2':s.h.get id=some (.arr 3 ro (paD X.WN)):=(hf id e4).trans e2;have hm':s.h.get X.M=_:=(hf X.M (by omega)).trans hm;rw[hcl]at e1;have i1:¬id=s.c:=by omega
   have i2:¬X.M=s.c:=by omega
   have ho6:∀t∈q.1.ts,zex σ.length t:=by rw[H.m.n];exact hP.o
   have hm64:=zkq hn6 ho6;have ban:=zll hm64 hb
   by_cases hz:zdm q.1.m (zaQ σ)=0
   .obtain⟨v,hv⟩ :=zsS ((zxj ho6 hn6).1 hz);have hvl:=(zpO hv).1;have hQl':zci q.2=some v.length:=by rw[hvl];exact hQl
    have hpl:=hP.l;have i9:¬s.c=s.c+1+1+1+1+1+1+1+1+1:=by omega
    have m1:v.length<=zav:=by have:=zcL (n:=v.length) (by omega);simpa using this
    have m2:v.length*32<=zav:=by have:=zcL (n:=v.length*32) (by omega);simpa using this
    rw[hz]at ban;unfold zka zjk;simp only[rU,C.l,C.r,C.b,C.o];simp[rW,h0,h46,h47,h48,hlt,e1,e2',hrow,hA,hcl,hqc,i1,i2];refine zaw ?_;simp[rW,h0,h46,h47,h48,hm',i1,i2,i9,ban,zih,hQl',m1,m2];obtain⟨r,hr⟩ :∃r,L[q.1.r]? =some r:=⟨L[q.1.r]'hP.r,Z0 hP.r⟩
    have hRO:=H.o.L r (Z39 hr);have hvne:v≠[]:=fun e=>hP.e (Z17.1 (by rw[<-hvl,e];rfl))
    have hnb:zh5 L σ q.1= !(r.tu.any fun t=>t.1==v):=by simp[zh5,hv,hasB,hr]
    refine zL9 H.m hmem hv (by omega) (R:=s.c+1+1+1+1+1+1+1+1+1) (P6:=s.c) (k:=k) ⟨⟨?_,?_,?_,?_,?_,?_,?_,?_,?_,?_,?_⟩,by omega,by omega,?_,?_,by omega,?_⟩ ?_
    .simp[rW,h0]
    .simp[rW]
    .simp[rW]
    .simp[rW,h46]
    .simp[rW,h47]
    .simp[rW,h48]
    .simp[rW]
    .simp[rW]
    .simp[rW]
    .rw[zCG];simp[rW,zc]
    .simp[rW,i9]
    .simp only[rG];omega
    .simp only[rG];omega
    .intro id hid;have a:¬id=s.c:=by omega
     have b:¬id=s.c+1+1+1+1+1+1+1+1+1:=by omega
     simp[rW,a,b];exact hf id hid
    .generalize s.c+1+1+1+1+1+1+1+1+1=R;clear i9;rintro s' ⟨⟨k0,k6,k7,k46,k47,k48,k65,k66,k67,gR,gP⟩,r1,r2,r3,r4,r5,hf'⟩;rw[zvu]at gR;have hm2:s'.h.get X.M=_:=(hf' X.M (by omega)).trans hm;simp[rW,k0,k6,k7,k46,k47,k48];refine zgi ?_;simp[rW,k0,k6,k7,k46,k47,k48,hm2,gP];refine zm1 [(0,.ptr X.M 7 0 0),(46,X.dN),(47,.f (.i .i64 X.WN.length)),(48,.f (.i .i64 k))] (zMA (c:=s'.c+1+1+1+1+1+1+1) (lo:=X.M) (H.s.up fun id _ hid=>hf' id (by omega)) (by omega) (by omega) hr hRO gR hvne (by omega)) (by simp only[rG]) (by simp only[rG]) (by simp only[Rg];simp[rW,k0,k46,k47,k48]) rfl ?_;rintro s2 d1 c' ⟨rfl,-,hs2⟩ hc1 hc2 j86 ⟨j0,j46,j47,j48,-⟩;have f2:∀id,id<c->s2.h.get id=h.get id:=fun id hid=>(hs2 id (by omega) (by omega)).trans (hf' id hid)
     refine⟨by simp[rW],⟨?_⟩⟩;cases hany:r.tu.any fun t=>t.1==v with
     |true=>
      rw[hany]at j86 hnb;simp[rW,j0,j46,j47,j48,j86];refine .inr ⟨rfl,by simp[rW],fun id hid=>by simp[rW];exact f2 id hid,all_false (Z39 hx) (by simpa using hnb)⟩
     |false=>
      rw[hany]at j86 hnb;simp[rW,j0,j46,j47,j48,j86,hw];refine⟨X.WN.length - (k+1),by omega,k+1,by omega,rfl,⟨?_,?_,?_,?_⟩,?_,?_,?_⟩
      .simp[rW,j0]
      .simp[rW,j46]
      .simp[rW,j47]
      .simp[rW,hw]
      .simp only[rG];omega
      .intro id hid;simp[rW];exact f2 id hid
      .exact zq7 hx hI (by simpa using hnb)
   .have hz2:(((zdm q.1.m (zaQ σ):Nat):Int)==0)=false:=by simpa using hz
    have hnb:zh5 L σ q.1=true:=by
     unfold zh5;split
     .rename_i v hv;exact absurd ((zxj ho6 hn6).2 (zmV hv)) hz
     .rfl
    unfold zka zjk;simp only[rU,C.l,C.r,C.b,C.o];simp[rW,h0,h46,h47,h48,hlt,e1,e2',hrow,hA,hcl,hqc,i1,i2];refine zaw ?_;simp[rW,h0,h46,h47,h48,hm',i1,i2,ban,zih,hz2,hw];refine⟨X.WN.length - (k+1),by omega,k+1,by omega,rfl,⟨?_,?_,?_,?_⟩,?_,?_,?_⟩
    .simp[rW,h0]
    .simp[rW,h46]
    .simp[rW,h47]
    .simp[rW,hw]
    .simp only[rG];omega
    .intro id hid;have a:¬id=s.c:=by omega
     simp[rW,a];exact hf id hid
    .exact zq7 hx hI hnb
  .have hen:k=X.WN.length:=by omega
   subst hen;unfold zka zjk;simp only[rU,C.l,C.r,C.b,C.o];simp[rW,h0,h46,h47,h48];exact .inl ⟨rfl,⟨by simp[rW,h0],by simp[rW,h46],by simp[rW,h47],by simp[rW,h48]⟩,by simp[rW,hc],fun id hid=>by simp[rW];exact hf id hid,hI⟩
 .rintro e s (⟨rfl,hJ⟩ |⟨rfl,h2,hf,hI⟩)
  .exact kx s hJ
  .exact kr s h2 hf hI
def zdk(L:List Rl)(X:Mx)(σ:Asg):Bool:=X.cs.all (zhW σ)&&X.WN.all fun q=>zh5 L σ q.1
def zBS{L:List Rl}{h:T Ob}{c:Nat}{X:Mx}{σ:Asg}(H:MS L h c X σ):Eff pr 187 [.ptr X.M 7 0 0] h c (Same (.f (.b (zdk L X σ))) h c):=by
 refine zb2 kps fn187 (fun d h' c' ⟨a,_⟩ _ _=>⟨a,fun _ _=>rfl⟩) ?_;have hm:=H.m.m;have ho:=H.m.o;have gC:=H.m.C;have lC:=zer gC;have hcl:(cnD X.cs).length=X.cs.length:=by simp[cnD]
 rw[hcl]at lC;have gN:=H.m.N.1;have lN:=zer gN;have hnl:(paD X.WN).length=X.WN.length:=by simp[paD]
 rw[hnl]at lN;have hk:∀k∈X.cs,zkL σ.length k/\(k.op=1\/k.op=2\/k.op=3\/k.op=4):=by rw[H.m.n];exact H.o.c
 simp only[zjk,rU];simp[rW,st0,zak,hm,lC];refine zL4 H.m hk H.o.cl ⟨⟨?_,?_,?_,?_⟩,?_,?_,?_⟩ ?_ ?_
 .simp[rW]
 .simp[rW]
 .simp[rW]
 .simp[rW]
 .simp[rW]
 .intro id hid;simp[rW]
 .simp
 .rintro s ⟨⟨h0,h13,h14,h15⟩,hc,hf,hI⟩;have hm':s.h.get X.M=_:=(hf X.M (by omega)).trans hm;have hI1:X.cs.all (zhW σ)=true:=by
   rw[Z7]at hI;exact Z50.2 hI
  simp[rW,h0,h13,h14,h15,hm',lN];refine zL6 H ⟨⟨?_,?_,?_,?_⟩,?_,?_,?_⟩ ?_ ?_
  .simp[rW,h0]
  .simp[rW]
  .simp[rW]
  .simp[rW]
  .simp only[rG];omega
  .intro id hid;simp[rW];exact hf id hid
  .simp
  .rintro s ⟨⟨h0,h46,h47,h48⟩,hc,hf,hJ⟩;have hI2:(X.WN.all fun q=>zh5 L σ q.1)=true:=by
    rw[Z7]at hJ;exact Z50.2 hJ
   simp[rW,zaR];exact⟨by simp[zdk,hI1,hI2],hf⟩
  .intro s h2 hf hJ;simp[rW,h2,zaR];exact⟨by simp[zdk,hJ],hf⟩
 .intro s h2 hf hJ;simp[rW,h2,zaR];exact⟨by simp[zdk,hJ],hf⟩
def zea:Asg->List Opn->List Int->Option Asg
 |σ,t::ts,z::zs=>match zaC σ t with
  |some y=>if y=z then zea σ ts zs else none
  |none=>match t with
   | .var i=>zea (σ.set i (some z)) ts zs
   | .cst _=>none
 |σ,_,_=>some σ
def Ext(σ τ:Asg):Prop:=τ.length=σ.length/\∀(i:Nat) (z:Int),σ[i]? =some (some z)->τ[i]? =some (some z)
def Ext.rfl'(σ:Asg):Ext σ σ:=⟨rfl,fun _ _ h=>h⟩
def Ext.tr{a b c:Asg}(h:Ext a b)(g:Ext b c):Ext a c:=⟨g.1.trans h.1,fun i z hz=>g.2 i z (h.2 i z hz)⟩
def zwP{σ:Asg}{i:Nat}{z:Int}(h:zaC σ (.var i)=none):Ext σ (σ.set i (some z)):=by
 refine⟨by simp,fun j y hy=> ?_⟩;have hne:i≠j:=fun e=>by subst e;simp[zaC,hy]at h
 rw[Z125 hne];exact hy
theorem zgd:∀{ts:List Opn} {v:List Int} {σ τ:Asg},zea σ ts v=some τ->Ext σ τ
 |[],v,σ,τ,h=>by cases v<;>(cases h;exact Ext.rfl' _)
 |t::ts,[],σ,τ,h=>by cases h;exact Ext.rfl' _
 |t::ts,z::zs,σ,τ,h=>by
  simp only[zea]at h;split at h
  .split at h
   .exact zgd h
   .cases h
  .rename_i hn;split at h
   .exact (zwP hn).tr (zgd h)
   .cases h
def zEw:∀{σ:Asg} {i:Nat} (z:Int),i<σ.length->zaQ (σ.set i (some z))=zaQ σ|||2 ^ i:=by
 intro σ i z hi;refine Nat.eq_of_testBit_eq fun j=> ?_
 rw[zew,Nat.testBit_or,zew,Nat.testBit_two_pow];simp only[zaC]
 by_cases h:i=j
 .subst h;rw[Z140 hi];simp[Option.join]
 .rw[Z125 h];simp[h]
def ext_eq{σ τ:Asg}(h:Ext σ τ)(hm:zaQ τ=zaQ σ):τ=σ:=by
 refine Z107 fun i=> ?_
 have hb:(zaC τ (.var i)).isSome=(zaC σ (.var i)).isSome:=by rw[<-zew,<-zew,hm]
 by_cases hi:i<σ.length
 .have h1:σ[i]? =some σ[i]:=Z0 hi;have h2:τ[i]? =some (τ[i]'(by rw[h.1];exact hi)):=Z0 _;cases hs:σ[i]with
  |some z=>
   rw[hs]at h1;rw[h1,h.2 i z h1]
  |none=>
   rw[hs]at h1;rw[h1,h2];simp only[zaC,h1,h2,Option.join]at hb;cases ht:τ[i]'(by rw[h.1];exact hi)with
   |none=>rfl
   |some z=>rw[ht]at hb;cases hb
 .rw[Z97 (by rw[h.1];omega),Z97 (by omega)]
def zdg(L:List Rl)(X:Mx)(σ:Asg)(p:Pat)(v:List Int):Option Asg:=(zea σ p.ts v).filter (zdk L X)
structure Mv(L:List Rl)(X:Mx)(σ:Asg)(h:T Ob)(c:Nat)(τ:Asg)(h':T Ob)(c':Nat):Prop where
 m:MS L h' c' X τ
 e:Ext σ τ
 f:Fr X c h h'
def MtS.back{h h':T Ob}{c c':Nat}{X:Mx}{σ τ:Asg}(H:MtS h' c' X τ)(he:Ext σ τ)(hm:h.get X.M=some (.arr 7 0 [[.ptr X.S 2 0 0,.f (zah X.ns),X.dP,X.dN,X.dC,.sl X.V 0 X.ns.length 3 X.ns.length true,.f (.i .u64 (zaQ σ))]]))(hf:∀id,id<c'->id≠X.M->h.get id=h'.get id)(hc:c'<=c):MtS h c X σ:=by
 obtain⟨vs,v1,v2,v3,v4⟩ :=H.v;have ho:=H.o;have key:∀id,X.V+1<=id->id<c'->h.get id=h'.get id:=fun id h1 h2=>hf id h2 (by omega)
 exact⟨hm,⟨vs,by rw[hf _ (by omega) (by omega)];exact v1,v2,v3,fun i z hz=>v4 i z (he.2 i z hz)⟩,by rw[<-H.n,he.1],by rw[<-he.1];exact H.n6,H.P.up key hc,H.N.up key hc,zaX H.C hc key,by omega⟩
theorem MtS.set{h:T Ob}{c:Nat}{X:Mx}{τ:Asg}{i:Nat}{z:Int}{vs:List (List D)}(H:MtS h c X τ)(hv:h.get X.V=some (.arr 3 0 vs))(hs:zaC τ (.var i)=none)(hi:i<τ.length){h':T Ob}{c':Nat}(hc:c<=c')
  (hM:h'.get X.M=some (.arr 7 0 [[.ptr X.S 2 0 0,.f (zah X.ns),X.dP,X.dN,X.dC,.sl X.V 0 X.ns.length 3 X.ns.length true,.f (.i .u64 (zaQ (τ.set i (some z))))]]))(hV:h'.get X.V=some (.arr 3 0 (vs.set i ((Sm.vF z).map D.f))))(hf:∀id,id<c->id≠X.M->id≠X.V->h'.get id=h.get id):MtS h' c' X (τ.set i (some z)):=by
 obtain⟨vs',v1,v2,v3,v4⟩ :=H.v;rw[hv]at v1;cases v1;refine H.wr hf hc hM ⟨_,hV,by simpa using v2,fun x hx=> ?_,fun j y hy=> ?_⟩ (by simp)
 .rcases Z156 hx with h1|rfl
  .exact v3 x h1
  .exact⟨1,z,by simp[Sm.vF]⟩
 .by_cases h1:i=j
  .subst h1;rw[Z140 hi]at hy;cases hy;rw[Z140 (by rw[v2,<-H.n];exact hi)]
  .rw[Z125 h1]at hy|-;exact v4 j y hy
def fn192:pr.fn 192=some zpp:=by kernel_rfl
def zun:C:=zpp.body.r.r.l.r.b.o
def Jb(L:List Rl)(X:Mx)(σ:Asg)(q:Pat×D)(v:List Int)(h:T Ob)(c i:Nat)(s:St):Prop:=(s.tm.get 0=some (.ptr X.M 7 0 0)/\s.tm.get 2=some (.f (valsF v))/\s.tm.get 7=some (.f (.i .u64 (zaQ σ)))/\s.tm.get 15=some (q.2)/\s.tm.get 16=some (.f (.i .i64 q.1.ts.length))/\s.tm.get 17=some (.f (.i .i64 i)))/\c<=s.c/\∃τ,Mv L X σ h c τ s.h s.c/\zea σ q.1.ts v=zea τ (q.1.ts.drop i) (v.drop i)
def Rb(L:List Rl)(X:Mx)(σ:Asg)(q:Pat×D)(v:List Int)(h:T Ob)(c:Nat)(e:Ex)(s:St):Prop:=(e= .exit 0/\Jb L X σ q v h c q.1.ts.length s)\/(e= .ret/\s.tm.get 6=some (.f (.b false))/\zea σ q.1.ts v=none/\c<=s.c/\∃τ,Mv L X σ h c τ s.h s.c)
theorem zH1{L:List Rl}{h:T Ob}{c:Nat}{X:Mx}{σ:Asg}(H:MS L h c X σ){q:Pat×D}(hq:q∈X.WP){v:List Int}(hv:v.length=q.1.ts.length){s:St}{K:Ex->St->Prop}
  (hJ:Jb L X σ q v h c 0 s)(hK:∀e s,Rb L X σ q v h c e s->K e s):WL pr zun s K:=by
 have hP:=H.o.P q hq;have hpl:=hP.l;have hn6:=H.m.n6;have hoo:=H.m.o;refine zcS (fun m s=>∃i:Nat,i<=q.1.ts.length/\m=q.1.ts.length - i/\Jb L X σ q v h c i s) (Rb L X σ q v h c) ?_ q.1.ts.length _ ⟨0,Z61 _,rfl,hJ⟩ hK;rintro m s ⟨i,hn,rfl,⟨h0,h2,h7,h15,h16,h17⟩,hc,τ,HT,hB⟩;have hw:=zao i (by omega)
 by_cases hlt:i<q.1.ts.length
 .have gQ:=HT.m.m.P.2 q hq;have hql:(opD q.1.ts).length=q.1.ts.length:=by simp[opD]
  obtain⟨id,ro,e1,e2,e3,e4⟩ :=zes gQ (n:=i) (by omega);rw[hql]at e1;have hm:=HT.m.m.m;have ho:=HT.m.m.o;have ht:q.1.ts[i]? =some q.1.ts[i]:=Z0 hlt;have hto:=hP.o _ (Z1 hlt);have hd:=Z55 hlt;have hz:v[i]? =some (v[i]'(by omega)):=Z0 (by omega);have hzd:v.drop i=v[i]'(by omega)::v.drop (i+1):=Z55 (by omega);generalize v[i]'(by omega)=z at hz hzd;have hzA:=(Z8.1 hz).2;have hiv:i<v.length:=by omega
  generalize q.1.ts[i]=t at ht hto hd;obtain⟨t0,t1,t2,t3,et⟩ :=zly t;have hrow:(opD q.1.ts)[i]? =some [D.f t0,D.f t1,D.f t2,D.f t3]:=by simp[opD,ht,et]
  rw[hd,hzd]at hB;have i1:¬id=s.c:=by omega
  have i2:¬X.M=s.c:=by omega
  have hb:zaQ τ<64:=Z15 (zet τ) (Z113 (by decide) HT.m.m.n6);have hc4:t.c.length=4:=zJu t;obtain⟨H1,hH1⟩ :∃H1,H1=(s.h.set s.c (.arr 4 0 [[D.f (.i .i64 0),D.f (.i .i64 0),D.f (.i .i64 0),D.f (.s [])]])).set s.c (.arr 4 0 [[D.f t0,D.f t1,D.f t2,D.f t3]]):=⟨_,rfl⟩
  have g9:H1.get s.c=some (.arr 4 0 [[D.f t0,D.f t1,D.f t2,D.f t3]]):=by rw[hH1,TG,Z51 rfl]
  have f1:∀id,id<s.c->H1.get id=s.h.get id:=fun id hid=>by
   rw[hH1,TG,Z49 (by omega),TG,Z49 (by omega)]
  unfold zun zpp;simp only[rU,C.l,C.r,C.b,C.o];simp[rW,h0,h2,h7,h15,h16,h17,hlt,e1,e2,hrow,i1,i2];refine zr3 (fun s'=>Rg [(0,.ptr X.M 7 0 0),(2,.f (valsF v)),(7,.f (.i .u64 (zaQ σ))),(8,.f (.i .i64 i)),(9,.ptr s.c 4 0 0),(15,q.2),(16,.f (.i .i64 q.1.ts.length)),(17,.f (.i .i64 i)),(35,.f (.b (zaC τ t).isSome))] s'/\s'.h=H1/\s.c+1<=s'.c) (fun K hK=> ?_) ?_
  .refine zaw ?_;cases t with
   |cst y0=>
    simp only[Opn.c,List.cons.injEq,and_true]at et;obtain⟨rfl,rfl,rfl,rfl⟩ :=et;simp[rW,h0,h2,h7,h15,h16,h17,hm,i1,i2];exact hK _ ⟨by simp only[Rg];simp[rW,h0,h2,h7,h15,h16,h17,e1,zaC],by simp only[rG];exact hH1.symm,by simp only[rG];omega⟩
   |var j=>
    have hj:j<6:=by
     have h1:j<X.ns.length:=hto;have h2:=HT.m.m.n6;rw[HT.m.m.n]at h2;omega
    obtain⟨bb1,bb2⟩ :=zGi hb hj;rw[zew]at bb2;generalize zaQ τ>>>j=w at bb1 bb2;have hj0:¬((j:Int)<0):=by omega
    simp only[Opn.c,List.cons.injEq,and_true]at et;obtain⟨rfl,rfl,rfl,rfl⟩ :=et;cases hs:(zaC τ (.var j)).isSome with
    |true=>
     rw[hs]at bb2;simp[rW,h0,h2,h7,h15,h16,h17,hm,i1,i2,bb1,bb2,hj0,u_eq];exact hK _ ⟨by simp only[Rg];simp[rW,h0,h2,h7,h15,h16,h17,e1,hs],by simp only[rG];exact hH1.symm,by simp only[rG];omega⟩
    |false=>
     rw[hs]at bb2;simp[rW,h0,h2,h7,h15,h16,h17,hm,i1,i2,bb1,bb2,hj0,u_eq];exact hK _ ⟨by simp only[Rg];simp[rW,h0,h2,h7,h15,h16,h17,e1,hs],by simp only[rG];exact hH1.symm,by simp only[rG];omega⟩
  .rintro s' ⟨⟨k0,k2,k7,k8,k9,k15,k16,k17,k35,-⟩,hH,hc'⟩;have HT1:MS L s'.h s'.c X τ:=HT.m.up (fun id hid=>by rw[hH];exact f1 id hid) (by omega);have g9':=hH▸g9;cases hy:zaC τ t with
   |some y=>
    rw[hy]at k35;simp only[zea,hy]at hB;simp[rW,k0,k2,k7,k8,k9,k15,k16,k17,k35];refine zgi ?_;simp[rW,k0,k2,k7,k8,k9,k15,k16,k17,g9'];refine zm1 [(0,.ptr X.M 7 0 0),(2,.f (valsF v)),(7,.f (.i .u64 (zaQ σ))),(8,.f (.i .i64 i)),(15,q.2),(16,.f (.i .i64 q.1.ts.length)),(17,.f (.i .i64 i))] (zzy (c:=s'.c+1+1) hy (by rw[et];rfl) (HT1.m.up (fun _ _=>rfl) (by omega))) (by simp only[rG]) (by simp only[rG]) (by simp only[Rg];simp[rW,k0,k2,k7,k8,k15,k16,k17]) rfl ?_;rintro s2 d1 c' ⟨rfl,hs1⟩ hc1 hc2 j38 ⟨j0,j2,j7,j8,j15,j16,j17,-⟩;have HT2:MS L s2.h s2.c X τ:=HT1.up (fun id hid=>hs1 id (by omega)) (by omega);have F2:Fr X c h s2.h:=fun id h1 h2 h3=>(hs1 id (by omega)).trans (((congrArg (fun x=>Vse.T.get x id) hH).trans (f1 id (by omega))).trans (HT.f id h1 h2 h3))
    have q1:=fun k=>zad (k:=k) (zGc y z)
    simp only[Sm.vF]at q1;refine⟨by simp[rW],⟨?_⟩⟩
    by_cases hyz:y=z
    .rw[Z51 hyz]at hB;have hc0:zaW y z=0:=(zfD _ _).2 hyz;simp[rW,j0,j2,j7,j8,j15,j16,j17,j38,zri,hz,hiv,hzA,Sm.vF,q1,hc0,hw];refine⟨q.1.ts.length - (i+1),by omega,i+1,by omega,rfl,⟨?_,?_,?_,?_,?_,?_⟩,?_,τ,⟨HT2.up (fun id hid=> ?_) ?_,HT.e,fun id h1 h2 h3=> ?_⟩,hB⟩
     .simp[rW,j0]
     .simp[rW,j2]
     .simp[rW,j7]
     .simp[rW,j15]
     .simp[rW,j16]
     .simp[rW,hw]
     .simp only[rG];omega
     .simp[rW]
     .simp only[rG];omega
     .simp[rW];exact F2 id h1 h2 h3
    .rw[Z49 hyz]at hB;have hc0:¬zaW y z=0:=fun e=>hyz ((zfD _ _).1 e)
     simp[rW,j0,j2,j7,j8,j15,j16,j17,j38,zri,hz,hiv,hzA,Sm.vF,q1,hc0,hw];refine .inr ⟨rfl,by simp[rW],hB,?_,τ,⟨HT2.up (fun id hid=> ?_) ?_,HT.e,fun id h1 h2 h3=> ?_⟩⟩
     .simp only[rG];omega
     .simp[rW]
     .simp only[rG];omega
     .simp[rW];exact F2 id h1 h2 h3
   |none=>
    cases t with
    |cst y0=>cases hy
    |var j=>
     have hjn:j<X.ns.length:=hto;have hn7:=HT1.m.n6;have hn8:=HT1.m.n;obtain⟨vs,v1,v2,v3,v4⟩ :=HT1.m.v;have hm1:=HT1.m.m;have h8:=zKU v3;have hvj:vs[j]? =some (vs[j]'(by omega)):=Z0 (by omega);obtain⟨a,b,hab⟩ :=v3 _ (Z1 (n:=j) (by omega));rw[hab]at hvj;have hva:=(Z8.1 hvj).2;simp only[Opn.c,List.cons.injEq,and_true]at et;obtain⟨rfl,rfl,rfl,rfl⟩ :=et;simp only[zea,hy]at hB;have bsh:=zkO (i:=j) (by omega);have bor:=znl (a:=zaQ τ) (b:=2 ^ j) hb (by have:2 ^ j<=2 ^ 5:=Z113 (by decide) (by omega);omega);have hms:Nat.lor (zaQ τ) (2 ^ j)=zaQ (τ.set j (some z)):=(zEw z (by omega)).symm;rw[hms]at bor;generalize hw2:2 ^ j=w2 at bsh bor;rw[hy]at k35;have n1:¬X.M=X.V:=by omega
     have n2:¬s.c=X.V:=by omega
     have n3:X.V<s'.c:=by omega
     simp[rW,k0,k2,k7,k8,k9,k15,k16,k17,k35];refine zaw ?_;simp[rW,k0,k2,k7,k8,k9,k15,k16,k17,g9',hm1,zri,hz,hiv,hzA,Sm.vF,hjn,v1,v2,hva,h8,n1,n2,n3];have hp1:s'.h.get s.c=some (.arr 4 0 [[D.f (.i .i64 j),D.f (.i .i64 0),D.f (.i .i64 0),D.f (.s [])]]):=g9';refine⟨by omega,zRB (fun s3=>Rg [(0,.ptr X.M 7 0 0),(2,.f (valsF v)),(7,.f (.i .u64 (zaQ σ))),(9,.ptr s.c 4 0 0),(15,q.2),(16,.f (.i .i64 q.1.ts.length)),(17,.f (.i .i64 i))] s3/\s3.h=s'.h.set X.V (.arr 3 0 (vs.set j [D.f (.i .i64 1),D.f (.i .i64 z),D.f (.s [])]))/\s'.c<=s3.c) ⟨by simp only[Rg];simp[rW,k0,k2,k7,k9,k15,k16,k17],by simp only[rG],by simp only[rG];omega⟩ ?_⟩;rintro s3 ⟨⟨j0,j2,j7,j9,j15,j16,j17,-⟩,hH3,hc3⟩;have m3:s3.h.get X.M=_:=(show s3.h.get X.M=s'.h.get X.M by rw[hH3,TG,Z49 n1]).trans hm1;have p3:s3.h.get s.c=_:=(show s3.h.get s.c=s'.h.get s.c by rw[hH3,TG,Z49 n2]).trans hp1;have n4:X.M<s3.c:=by omega
     have n5:¬s.c=X.M:=by omega
     refine zaw ?_;simp[rW,j0,j2,j7,j9,j15,j16,j17,m3,p3,bsh,bor,n4,n5,hw];refine⟨by omega,q.1.ts.length - (i+1),by omega,i+1,by omega,rfl,⟨?_,?_,?_,?_,?_,?_⟩,?_,τ.set j (some z),⟨⟨HT1.m.set v1 hy (by omega) ?_ ?_ ?_ ?_,HT1.s.up ?_,HT1.o⟩,HT.e.tr (zwP hy),?_⟩,hB⟩
     .simp[rW,j0]
     .simp[rW,j2]
     .simp[rW,j7]
     .simp[rW,j15]
     .simp[rW,j16]
     .simp[rW,hw]
     .simp only[rG];omega
     .simp only[rG];omega
     .simp[rW]
     .have a:¬X.V=X.M:=fun e=>n1 e.symm
      simp[rW,a,hH3,Sm.vF]
     .intro id h1 h2 h3;simp[rW,h2,h3,hH3]
     .intro id _ h1;have a:¬id=X.M:=by omega
      have b:¬id=X.V:=by omega
      simp[rW,a,b,hH3]
     .intro id h1 h2 h3;simp[rW,h2,h3,hH3];exact (((congrArg (fun x=>Vse.T.get x id) hH).trans (f1 id (by omega))).trans (HT.f id h1 h2 h3))
 .have hen:i=q.1.ts.length:=by omega
  subst hen;unfold zun zpp;simp only[rU,C.l,C.r,C.b,C.o];simp[rW,h0,h2,h7,h15,h16,h17];exact .inl ⟨rfl,⟨by simp[rW,h0],by simp[rW,h2],by simp[rW,h7],by simp[rW,h15],by simp[rW,h16],by simp[rW,h17]⟩,by simp[rW,hc],τ,HT,hB⟩
def BindP(L:List Rl)(X:Mx)(σ:Asg)(p:Pat)(v:List Int)(h:T Ob)(c:Nat)(d:D)(h':T Ob)(c':Nat):Prop:=∃τ,Mv L X σ h c τ h' c'/\((d= .f (.b true)/\zdg L X σ p v=some τ)\/(d= .f (.b false)/\zdg L X σ p v=none))
def Mv.low{L:List Rl}{X:Mx}{σ τ:Asg}{h h':T Ob}{c c':Nat}(H:Mv L X σ h c τ h' c')(H0:MS L h c X σ)(hf:∀id,id<c->h'.get id=h.get id):τ=σ:=by
 have hm:=H.m.m.m;have ho:=H0.m.o;rw[hf X.M (by omega),H0.m.m]at hm;simp only[Z45,Ob.arr.injEq,List.cons.injEq,D.f.injEq,F.i.injEq,true_and,and_true]at hm;exact ext_eq H.e (by omega)
theorem zMx{L:List Rl}{h:T Ob}{c:Nat}{X:Mx}{σ:Asg}(H:MS L h c X σ)(hcn:zdk L X σ=true){q:Pat×D}(hq:q∈X.WP){v:List Int}(hv:v.length=q.1.ts.length):
  Eff pr 192 [.ptr X.M 7 0 0,.ag [.f (.i .i64 q.1.r),q.2,.f (.i .u64 q.1.m)],.f (valsF v)] h c (BindP L X σ q.1 v h c):=by
 refine zb2 kps fn192 (fun d h' c' ⟨τ,a,b⟩ _ hf=> ?_) ?_
 .have e:=a.low H hf;subst e;exact⟨τ,⟨H,Ext.rfl' _,Fr.refl _ _ _⟩,b⟩
 have hm:=H.m.m;have ho:=H.m.o;have gQ:=H.m.P.2 q hq;have lQ:=zer gQ;have hql:(opD q.1.ts).length=q.1.ts.length:=by simp[opD]
 rw[hql]at lQ;have hqc:q.2.cells=some [q.2]:=zbY gQ;have n1:¬X.M=c:=by omega
 simp only[zpp,rU];simp[rW,st0,zak,hm,hqc,n1,lQ];refine zH1 H hq hv ⟨⟨?_,?_,?_,?_,?_,?_⟩,?_,σ,⟨H.up (fun id hid=> ?_) ?_,Ext.rfl' _,fun id h1 h2 h3=> ?_⟩,by simp⟩ ?_
 .simp[rW]
 .simp[rW]
 .simp[rW]
 .simp[rW]
 .simp[rW]
 .simp[rW]
 .simp only[rG];omega
 .have a:¬id=c:=by omega
  simp[rW,a]
 .simp only[rG];omega
 .have a:¬id=c:=by omega
  simp[rW,a]
 rintro e s (⟨rfl,⟨h0,h2,h7,h15,h16,h17⟩,hc,τ,HT,hB⟩ |⟨rfl,h6,hB,hc,τ,HT⟩)
 .have hB1:zea σ q.1.ts v=some τ:=by
   rw[hB,Z206];rfl
  have hm':=HT.m.m.m
  by_cases he:zaQ τ=zaQ σ
  .have:=ext_eq HT.e he;subst this;simp[rW,h0,h2,h7,h15,h16,h17,hm',u_eq,zaR];exact⟨τ,⟨HT.m.up (fun _ _=>rfl) (by first|(simp only[rG];omega)|omega),HT.e,fun id h1 h2 h3=>HT.f id h1 h2 h3⟩,.inl ⟨rfl,by simp[zdg,hB1,hcn]⟩⟩
  .have he2:(((zaQ τ:Nat):Int)==((zaQ σ:Nat):Int))=false:=by
    simpa using fun e:((zaQ τ:Nat):Int)=((zaQ σ:Nat):Int)=>he (by omega)
   simp[rW,h0,h2,h7,h15,h16,h17,hm',u_eq,he2];refine zbR [(73,.f (.b false))] (zBS HT.m) (by simp only[rG]) (by simp only[rG]) (by simp only[Rg];simp[rW,he2]) rfl ?_;rintro s2 d1 ⟨rfl,hs1⟩ hc1 j75 ⟨j73,-⟩;refine⟨?_⟩;simp[rW,j75,j73,zaR];refine⟨τ,⟨HT.m.up (fun id hid=>hs1 id hid) (by first|(simp only[rG];omega)|omega),HT.e,fun id h1 h2 h3=>(hs1 id (by omega)).trans (HT.f id h1 h2 h3)⟩,?_⟩;cases hcb:zdk L X τ with
   |true=>exact .inl ⟨rfl,by simp[zdg,hB1,hcb]⟩
   |false=>exact .inr ⟨rfl,by simp[zdg,hB1,hcb]⟩
 .simp[rW,h6,zaR];exact⟨τ,⟨HT.m.up (fun _ _=>rfl) (by first|(simp only[rG];omega)|omega),HT.e,fun id h1 h2 h3=>HT.f id h1 h2 h3⟩,.inr ⟨rfl,by simp[zdg,hB]⟩⟩
def fn112:pr.fn 112=some zzQ:=by kernel_rfl
def fn191:pr.fn 191=some zz8:=by kernel_rfl
section
variable {s:St}{Q:St->Prop}{dst:Option Nat}{l:List Go.Vse.Op}
def o_un{op:UnOp}{x:A}:wpO pr (⟨dst,none,.un op x⟩ ::l) s Q↔oB (((O.un op x).res (zae s.tm)).bind (opv s.h.get s.c)) fun r=>zas r.c r.wr=true/\wpO pr l (s.aft dst r.d r.wr r.c) Q:=zdK rfl
def ziV{es m:Nat}{x i:A}:wpO pr (⟨dst,none,.iaa es m x i⟩ ::l) s Q↔oB (((O.iaa es m x i).res (zae s.tm)).bind (opv s.h.get s.c)) fun r=>zas r.c r.wr=true/\wpO pr l (s.aft dst r.d r.wr r.c) Q:=zdK rfl
end
def zAY(f:A->Option D)(op:UnOp)(x:A):O.res f (.un op x)=(f x).bind fun x=>some (.un op x):=rfl
def zgN(f:A->Option D)(es m:Nat)(x i:A):O.res f (.iaa es m x i)=(f x).bind fun x=>(f i).bind fun i=>some (.iaa es m x i):=rfl
def zPw(tm:T D)(cs:List F):zae tm (.g cs)=some (.fptr cs):=rfl
def zAC(n:Int):Option Int:=match Vse.ziX (Go.Op.unary .neg (.int .u64 n))with
 |some (.int .u64 n)=>some n
 |_=>none
def v_neg(h:Nat->Option Ob)(c:Nat)(n m:Int)(hn:zAC n=some m):opv h c (.un .neg (.f (.i .u64 n)))=some {d:= .f (.i .u64 m),c}:=by
 unfold zAC at hn;unfold opv;simp only;split at hn
 .rename_i k e;rw[e];cases hn;rfl
 .cases hn
def v_iaa(h:Nat->Option Ob)(c es m i:Nat)(k:IntKind)(cs:List F)(hi:i<m):opv h c (.iaa es m (.fptr cs) (.f (.i k (i:Nat))))=some {d:= .fptr (cs.drop (i*es)),c}:=by
 have e:zbv (.f (.i k (i:Nat)))=some i:=by simp[zbv]
 unfold opv;simp only[e];rw[Z51 hi];rfl
def ztB:List F:=[.i .u8 0,.i .u8 1,.i .u8 56,.i .u8 2,.i .u8 57,.i .u8 49,.i .u8 28,.i .u8 3,.i .u8 61,.i .u8 58,.i .u8 42,.i .u8 50,.i .u8 38,.i .u8 29,.i .u8 17,.i .u8 4,.i .u8 62,.i .u8 47,.i .u8 59,.i .u8 36,.i .u8 45,.i .u8 43,.i .u8 51,.i .u8 22,.i .u8 53,.i .u8 39,.i .u8 33,.i .u8 30,.i .u8 24,.i .u8 18,.i .u8 12,.i .u8 5,.i .u8 63,.i .u8 55,.i .u8 48,.i .u8 27,.i .u8 60,.i .u8 41,.i .u8 37,.i .u8 16,.i .u8 46,.i .u8 35,.i .u8 44,.i .u8 21,.i .u8 52,.i .u8 32,.i .u8 23,.i .u8 11,.i .u8 54,.i .u8 26,.i .u8 40,.i .u8 15,.i .u8 34,.i .u8 20,.i .u8 31,.i .u8 10,.i .u8 25,.i .u8 14,.i .u8 19,.i .u8 9,.i .u8 13,.i .u8 8,.i .u8 7,.i .u8 6]
theorem t_neg:((List.range 64).all fun a=>a==0||match zAC ((a:Nat):Int)with
 |some z=>z==18446744073709551616 - ((a:Nat):Int)
 |none=>false)=true:=by kernel_rfl
theorem t_an2:((List.range 64).all fun a=>a==0||match zaK .and (.i .u64 (a:Nat)) (.i .u64 (18446744073709551616 - ((a:Nat):Int)))with
 |some (.i .u64 z)=>z==((2 ^ tz a:Nat):Int)&&Nat.blt (tz a) 6
 |_=>false)=true:=by kernel_rfl
def tz_k(k:Nat)(hk:k<6):∃m j,zaK .mul (.i .u64 ((2 ^ k:Nat):Int)) (.i .u64 285870213051353865)=some (.i .u64 m)/\zaK .shr (.i .u64 m) (.i .u64 58)=some (.i .u64 ((j:Nat):Int))/\j<64/\∃r,ztB.drop (j*1)= .i .u8 (k:Nat)::r:=by
 match k,hk with
 |0,_=>exact⟨285870213051353865,0,by kernel_rfl,by kernel_rfl,by decide,_,rfl⟩
 |1,_=>exact⟨571740426102707730,1,by kernel_rfl,by kernel_rfl,by decide,_,rfl⟩
 |2,_=>exact⟨1143480852205415460,3,by kernel_rfl,by kernel_rfl,by decide,_,rfl⟩
 |3,_=>exact⟨2286961704410830920,7,by kernel_rfl,by kernel_rfl,by decide,_,rfl⟩
 |4,_=>exact⟨4573923408821661840,15,by kernel_rfl,by kernel_rfl,by decide,_,rfl⟩
 |5,_=>exact⟨9147846817643323680,31,by kernel_rfl,by kernel_rfl,by decide,_,rfl⟩
def zRm{a:Nat}(ha:a<64)(h0:a≠0):∃n b m j,zAC a=some n/\zaK .and (.i .u64 (a:Nat)) (.i .u64 n)=some (.i .u64 b)/\zaK .mul (.i .u64 b) (.i .u64 285870213051353865)=some (.i .u64 m)/\zaK .shr (.i .u64 m) (.i .u64 58)=some (.i .u64 ((j:Nat):Int))/\j<64/\(∃r,ztB.drop (j*1)= .i .u8 (tz a:Nat)::r)/\tz a<6:=by
 have h1:=Z50.1 t_neg a (by simpa using ha);have h2:=Z50.1 t_an2 a (by simpa using ha);have hz:(a==0)=false:=by simpa using h0
 rw[hz,Bool.false_or]at h1 h2;split at h1
 .rename_i n e;have h1:=eq_of_beq h1;subst h1;split at h2
  .rename_i b e2;simp only[Z14]at h2;have h3:=eq_of_beq h2.1;subst h3;have h4:tz a<6:=by simpa [Z79]using h2.2
   obtain⟨m,j,e3,e4,e5,e6⟩ :=tz_k (tz a) h4;exact⟨_,_,m,j,e,e2,e3,e4,e5,e6,h4⟩
  .cases h2
 .cases h1
def ro191{a:Nat}(ha:a<64)(h0:a≠0)(h:T Ob)(c:Nat):RO pr 191 [.f (.i .u64 (a:Nat))] h c (.f (.i .i64 (tz a:Nat))):=by
 obtain⟨n,b,m,j,e1,e2,e3,e4,hj,⟨r,e5⟩,h6⟩ :=zRm ha h0;refine zjE zgQ fn191 rfl ?_;have hz:(((a:Nat):Int)==0)=false:=by simpa using h0
 have hw:IntKind.i64.wrap ((tz a:Nat):Int)=((tz a:Nat):Int):=wrap_i64 _ (by omega) (by omega);simp only[zz8,rU];simp[rW,st0,zak,u_eq,hz];refine (o_un).2 ?_;simp[rW,zAY,v_neg _ _ _ _ e1,e2,e3,e4];refine (ziV).2 ?_;have hv:=v_iaa h.get c 1 64 j .u64 ztB hj;rw[e5]at hv;unfold ztB at hv;simp[rW,zgN,zPw,hv,hw,zfz,zGN]
 try simp (disch:=omega) only[zjK,zkK]
 trace_state
def ztw{a:Nat}(ha:a<64)(h0:a≠0)(h:T Ob)(c:Nat):RO pr 112 [.f (.i .u64 (a:Nat))] h c (.f (.i .i64 (tz a:Nat))):=by
 refine zjE zgQ fn112 rfl ?_;simp only[zzQ,rU];simp[rW,st0,zak];refine zk6 (ro191 ha h0 _ _) ?_ fun mx=> ?_
 .simp only[rG];omega
 .simp[rW,zfz]
  try simp (disch:=omega) only[zjK,zkK]
  trace_state
def fn113:pr.fn 113=some zpk:=by kernel_rfl
def zt4:C:=zpk.body.r.r.l.r.b.o
def zt7:C:=zt4.r.l.b.r.r.l.r.b.o
def zkJ{a:Nat}(ha:a<64)(h0:a≠0):a.testBit (tz a)=true/\tz a<6:=by
 have h:=znn ha h0;have:tz a∈zhU a:=by rw[h];simp
 exact⟨(zin.1 this).2,(zin.1 this).1⟩
def zKN:((List.range 64).all fun a=>a==0||Nat.blt (Nat.land a (a - 1)) a)=true:=by kernel_rfl
def zu0{a:Nat}(ha:a<64)(h0:a≠0):Nat.land a (a - 1)<a:=by
 have h1:=Z50.1 zKN a (by simpa using ha);have hz:(a==0)=false:=by simpa using h0
 rw[hz,Bool.false_or]at h1;simpa [Z79]using h1
def zoz{a i:Nat}(h:(Nat.land a (a - 1)).testBit i=true):a.testBit i=true:=by
 have h:(a&&& (a - 1)).testBit i=true:=h;rw[Nat.testBit_and,Z14]at h;exact h.1
def zem{a n i:Nat}(ha:a<2 ^ n)(h:a.testBit i=true):i<n:=by
 rcases Z145 i n with h1|h1
 .exact h1
 .have:2 ^ n<=2 ^ i:=Z113 (by decide) h1;rw[Nat.testBit_lt_two_pow (by omega)]at h;cases h
def Jc2(L:List Rl)(X:Mx)(σ:Asg)(q:Pat×D)(h:T Ob)(c:Nat)(R:List (Nat×D))(k:Nat)(s:St):Prop:=Rg R s/\(s.tm.get 28=some (q.2)/\s.tm.get 29=some (.f (.i .i64 q.1.ts.length))/\s.tm.get 30=some (.f (.i .i64 k)))/\(∃n:Nat,n<=k/\s.tm.get 9=some (.f (.i .i64 n)))/\c<=s.c/\∀id,id<c->s.h.get id=h.get id
theorem ch_l2{L:List Rl}{h:T Ob}{c:Nat}{X:Mx}{σ:Asg}(H:MS L h c X σ){q:Pat×D}(hq:q∈X.WP){a b:D}{rest cur i:D}{s:St}{K:Ex->St->Prop}
  (hJ:Jc2 L X σ q h c [(0,.ptr X.M 7 0 0),(1,rest),(5,a),(6,b),(7,cur),(8,i)] 0 s)(kx:∀s,Jc2 L X σ q h c [(0,.ptr X.M 7 0 0),(1,rest),(5,a),(6,b),(7,cur),(8,i)] q.1.ts.length s->K (.exit 2) s):WL pr zt7 s K:=by
 have hP:=H.o.P q hq;have hpl:=hP.l;have hm:=H.m.m;have ho:=H.m.o;have gQ:=H.m.P.2 q hq;have hql:(opD q.1.ts).length=q.1.ts.length:=by simp[opD]
 have hb:zaQ σ<64:=Z15 (zet σ) (Z113 (by decide) H.m.n6);refine zbD q.1.ts.length (Jc2 L X σ q h c [(0,.ptr X.M 7 0 0),(1,rest),(5,a),(6,b),(7,cur),(8,i)]) (fun e s=>e= .exit 2/\Jc2 L X σ q h c [(0,.ptr X.M 7 0 0),(1,rest),(5,a),(6,b),(7,cur),(8,i)] q.1.ts.length s) ?_ ?_ _ hJ ?_
 .rintro k s hlt ⟨⟨h0,h1,h5,h6,h7,h8,-⟩,⟨h28,h29,h30⟩,⟨n,hn,h9⟩,hc,hf⟩;have hw:=zao k (by omega);have hwn:=zao n (by omega);obtain⟨id,ro,e1,e2,e3,e4⟩ :=zes gQ (n:=k) (by omega);rw[hql]at e1;have ht:q.1.ts[k]? =some q.1.ts[k]:=Z0 hlt;have hto:=hP.o _ (Z1 hlt);generalize q.1.ts[k]=t at ht hto;obtain⟨t0,t1,t2,t3,et⟩ :=zly t;have hrow:(opD q.1.ts)[k]? =some [D.f t0,D.f t1,D.f t2,D.f t3]:=by simp[opD,ht,et]
  have e2':s.h.get id=some (.arr 4 ro (opD q.1.ts)):=(hf id e4).trans e2;have hm':s.h.get X.M=_:=(hf X.M (by omega)).trans hm;have i1:¬id=s.c:=by omega
  have i2:¬X.M=s.c:=by omega
  obtain⟨H1,hH1⟩ :∃H1,H1=(s.h.set s.c (.arr 4 0 [[D.f (.i .i64 0),D.f (.i .i64 0),D.f (.i .i64 0),D.f (.s [])]])).set s.c (.arr 4 0 [[D.f t0,D.f t1,D.f t2,D.f t3]]):=⟨_,rfl⟩
  have f1:∀id,id<s.c->H1.get id=s.h.get id:=fun id hid=>by
   rw[hH1,TG,Z49 (by omega),TG,Z49 (by omega)]
  unfold zt7 zt4 zpk;simp only[rU,C.l,C.r,C.b,C.o];simp[rW,h28,h29,h30,hlt,e1,e2',hrow,i1,i2];refine zr3 (fun s'=>Rg [(0,.ptr X.M 7 0 0),(1,rest),(5,a),(6,b),(7,cur),(8,i),(28,q.2),(29,.f (.i .i64 q.1.ts.length)),(30,.f (.i .i64 k)),(9,.f (.i .i64 n)),(47,.f (.b (zaC σ t).isSome))] s'/\s'.h=H1/\s.c+1<=s'.c) (fun K hK=> ?_) ?_
  .refine zaw ?_;cases t with
   |cst y0=>
    simp only[Opn.c,List.cons.injEq,and_true]at et;obtain⟨rfl,rfl,rfl,rfl⟩ :=et;simp[rW,h0,h1,h5,h6,h7,h8,h9,h28,h29,h30,hm',i1,i2];exact hK _ ⟨by simp only[Rg];simp[rW,h0,h1,h5,h6,h7,h8,h9,h28,h29,h30,e1,zaC],by simp only[rG];exact hH1.symm,by simp only[rG];omega⟩
   |var j=>
    have hj:j<6:=by
     have h1:j<X.ns.length:=hto;have h2:=H.m.n6;rw[H.m.n]at h2;omega
    obtain⟨bb1,bb2⟩ :=zGi hb hj;rw[zew]at bb2;generalize zaQ σ>>>j=w at bb1 bb2;have hj0:¬((j:Int)<0):=by omega
    simp only[Opn.c,List.cons.injEq,and_true]at et;obtain⟨rfl,rfl,rfl,rfl⟩ :=et;cases hs:(zaC σ (.var j)).isSome with
    |true=>
     rw[hs]at bb2;simp[rW,h0,h1,h5,h6,h7,h8,h9,h28,h29,h30,hm',i1,i2,bb1,bb2,hj0,u_eq];exact hK _ ⟨by simp only[Rg];simp[rW,h0,h1,h5,h6,h7,h8,h9,h28,h29,h30,e1,hs],by simp only[rG];exact hH1.symm,by simp only[rG];omega⟩
    |false=>
     rw[hs]at bb2;simp[rW,h0,h1,h5,h6,h7,h8,h9,h28,h29,h30,hm',i1,i2,bb1,bb2,hj0,u_eq];exact hK _ ⟨by simp only[Rg];simp[rW,h0,h1,h5,h6,h7,h8,h9,h28,h29,h30,e1,hs],by simp only[rG];exact hH1.symm,by simp only[rG];omega⟩
  .rintro s' ⟨⟨k0,k1,k5,k6,k7,k8,k28,k29,k30,k9,k47,-⟩,hH,hc'⟩;have hf':∀id,id<c->s'.h.get id=h.get id:=fun id hid=>by rw[hH,f1 id (by omega)];exact hf id hid
   cases hy:(zaC σ t).isSome with
   |true=>
    rw[hy]at k47;simp[rW,k0,k1,k5,k6,k7,k8,k9,k28,k29,k30,k47,hw,hwn];exact⟨by simp only[Rg];simp[rW,k0,k1,k5,k6,k7,k8],⟨by simp[rW,k28],by simp[rW,k29],by simp[rW,hw]⟩,⟨n+1,by omega,by simp[rW,hwn]⟩,by simp only[rG];omega,fun id hid=>by simp[rW];exact hf' id hid⟩
   |false=>
    rw[hy]at k47;simp[rW,k0,k1,k5,k6,k7,k8,k9,k28,k29,k30,k47,hw,hwn];exact⟨by simp only[Rg];simp[rW,k0,k1,k5,k6,k7,k8],⟨by simp[rW,k28],by simp[rW,k29],by simp[rW,hw]⟩,⟨n,by omega,by simp[rW,k9]⟩,by simp only[rG];omega,fun id hid=>by simp[rW];exact hf' id hid⟩
 .rintro s ⟨⟨h0,h1,h5,h6,h7,h8,-⟩,⟨h28,h29,h30⟩,⟨n,hn,h9⟩,hc,hf⟩;unfold zt7 zt4 zpk;simp only[rU,C.l,C.r,C.b,C.o];simp[rW,h28,h29,h30];exact⟨by simp only[Rg];simp[rW,h0,h1,h5,h6,h7,h8],⟨by simp[rW,h28],by simp[rW,h29],by simp[rW,h30]⟩,⟨n,hn,by simp[rW,h9]⟩,by simp only[rG];omega,fun id hid=>by simp[rW];exact hf id hid⟩
 .rintro e s ⟨rfl,hJ⟩;exact kx s hJ
def Jc0(X:Mx)(rest:Nat)(h:T Ob)(c cur:Nat)(s:St):Prop:=(s.tm.get 0=some (.ptr X.M 7 0 0)/\s.tm.get 1=some (.f (.i .u64 rest))/\s.tm.get 7=some (.f (.i .u64 cur)))/\cur<64/\(∀i,cur.testBit i=true->rest.testBit i=true)/\(∃a b:Int,s.tm.get 5=some (.f (.i .i64 a))/\s.tm.get 6=some (.f (.i .i64 b))/\((b= -1/\cur≠0)\/∃i:Nat,a=i/\rest.testBit i=true))/\c<=s.c/\∀id,id<c->s.h.get id=h.get id
def Rc0(X:Mx)(rest:Nat)(h:T Ob)(c:Nat)(e:Ex)(s:St):Prop:=e= .exit 0/\Jc0 X rest h c 0 s
def ChP(rest:Nat)(h:T Ob)(c:Nat)(d:D)(h':T Ob)(_:Nat):Prop:=(∃i:Nat,d= .f (.i .i64 i)/\rest.testBit i=true)/\∀id,id<c->h'.get id=h.get id
def zBQ{L:List Rl}{h:T Ob}{c:Nat}{X:Mx}{σ:Asg}(H:MS L h c X σ){rest:Nat}(hr0:rest≠0)(hrl:rest<2 ^ X.WP.length):Eff pr 113 [.ptr X.M 7 0 0,.f (.i .u64 rest)] h c (ChP rest h c):=by
 refine zb2 kps fn113 (fun d h' c' ⟨a,_⟩ _ _=>⟨a,fun _ _=>rfl⟩) ?_;have hPl:=H.o.Pl;have hm:=H.m.m;have ho:=H.m.o;have gP:=H.m.P.1;have hpd:(paD X.WP).length=X.WP.length:=by simp[paD]
 have hr64:rest<64:=Z15 hrl (Z113 (by decide) hPl);simp only[zpk,rU];simp[rW,st0,zak];refine zcS (fun k s=>∃cur,k=cur/\Jc0 X rest h c cur s) (Rc0 X rest h c) ?_ rest _ ⟨rest,rfl,⟨?_,?_,?_⟩,hr64,fun _ h=>h,⟨-1,-1,?_,?_,.inl ⟨rfl,hr0⟩⟩,?_,?_⟩ ?_
 .rintro cur s ⟨_,rfl,⟨h0,h1,h7⟩,hc64,hsub,⟨a,b,h5,h6,hab⟩,hc,hf⟩
  by_cases hz:cur=0
  .subst hz;rcases hab with⟨_,h⟩ |hab
   .exact absurd rfl h
   simp[rW,h0,h1,h5,h6,h7,zih];exact⟨rfl,⟨by simp[rW,h0],by simp[rW,h1],by simp[rW,h7]⟩,hc64,hsub,⟨a,b,by simp[rW,h5],by simp[rW,h6],.inr hab⟩,by simp only[rG];omega,fun id hid=>by simp[rW];exact hf id hid⟩
  .obtain⟨tm1,tm2⟩ :=zkJ hc64 hz;have htr:=hsub _ tm1;have hti:=zem hrl htr;have hz2:(((cur:Nat):Int)==0)=false:=by simpa using hz
   obtain⟨lb1,lb2⟩ :=zyQ hc64 hz;have hll:=zu0 hc64 hz;generalize hi:tz cur=i at tm1 tm2 htr hti;have hx:X.WP[i]? =some X.WP[i]:=Z0 hti;have hmem:=Z1 hti;generalize X.WP[i]=q at hx hmem;have lQ:=zer (H.m.P.2 q hmem);have hql:(opD q.1.ts).length=q.1.ts.length:=by simp[opD]
   rw[hql]at lQ;obtain⟨id,ro,e1,e2,e3,e4⟩ :=zes gP (n:=i) (by omega);rw[hpd]at e1;have hrow:(paD X.WP)[i]? =some [.f (.i .i64 q.1.r),q.2,.f (.i .u64 q.1.m)]:=by simp[paD,hx]
   have hA:=(Z8.1 hrow).2;simp[rW,h0,h1,h5,h6,h7,zih,hz2];refine zbR [(0,.ptr X.M 7 0 0),(1,.f (.i .u64 rest)),(5,.f (.i .i64 a)),(6,.f (.i .i64 b)),(7,.f (.i .u64 cur))] (zkw (ztw hc64 hz s.h s.c)) (by simp only[rG]) (by simp only[rG]) (by simp only[Rg];simp[rW,h0,h1,h5,h6,h7]) rfl ?_;rintro s1 d1 ⟨rfl,hh,hcc⟩ hc1 k20 ⟨k0,k1,k5,k6,k7,-⟩;rw[hi]at k20;refine⟨?_⟩;have hm':s1.h.get X.M=_:=(show s1.h.get X.M=h.get X.M by rw[hh];exact hf X.M (by omega)).trans hm;have e2':s1.h.get id=some (.arr 3 ro (paD X.WP)):=(show s1.h.get id=h.get id by rw[hh];exact hf id e4).trans e2;simp[rW,k0,k1,k5,k6,k7,k20,hm',e1,hti,e2',hrow,hA,hpd,lQ];refine ch_l2 H hmem (a:= .f (.i .i64 a)) (b:= .f (.i .i64 b)) (rest:= .f (.i .u64 rest)) (cur:= .f (.i .u64 cur)) (i:= .f (.i .i64 i)) ⟨by simp only[Rg];simp[rW,k0,k1,k5,k6,k7],⟨by simp[rW],by simp[rW],by simp[rW]⟩,⟨0,Z2 _,by simp[rW]⟩,by simp only[rG];omega,fun id hid=>by simp[rW,hh];exact hf id hid⟩ ?_;rintro s2 ⟨⟨j0,j1,j5,j6,j7,j8,-⟩,-,⟨n,hn,j9⟩,hc2,hf2⟩;have hcur:∀i,(Nat.land cur (cur - 1)).testBit i=true->rest.testBit i=true:=fun i hi=>hsub i (zoz hi)
   by_cases hgt:b< (n:Int)
   .simp[rW,j0,j1,j5,j6,j7,j8,j9,hgt,lb1,lb2];exact⟨_,hll,⟨by simp[rW,j0],by simp[rW,j1],by simp[rW]⟩,by omega,hcur,⟨i,n,by simp[rW],by simp[rW],.inr ⟨i,rfl,htr⟩⟩,by simp only[rG];omega,fun id hid=>by simp[rW];exact hf2 id hid⟩
   .have hab':∃i:Nat,a=i/\rest.testBit i=true:=by
     rcases hab with⟨e,_⟩ |h
     .omega
     .exact h
    simp[rW,j0,j1,j5,j6,j7,j8,j9,hgt,lb1,lb2];exact⟨_,hll,⟨by simp[rW,j0],by simp[rW,j1],by simp[rW]⟩,by omega,hcur,⟨a,b,by simp[rW,j5],by simp[rW,j6],.inr hab'⟩,by simp only[rG];omega,fun id hid=>by simp[rW];exact hf2 id hid⟩
 .simp[rW]
 .simp[rW]
 .simp[rW]
 .simp[rW]
 .simp[rW]
 .simp only[rG];omega
 .intro id hid;simp[rW]
 .rintro e s ⟨rfl,⟨h0,h1,h7⟩,hc64,hsub,⟨a,b,h5,h6,hab⟩,hc,hf⟩;rcases hab with⟨_,h⟩ |⟨i,rfl,hi⟩
  .exact absurd rfl h
  simp[rW,h0,h1,h5,h6,h7,zaR];exact⟨⟨i,rfl,hi⟩,hf⟩
def fn188:pr.fn 188=some zjl:=by kernel_rfl
def fn232:pr.fn 232=some zAi:=by kernel_rfl
def zkX(a b:Nat):Nat:=if Nat.land a b=0 then a else Nat.lor a b
def zBy{a b:Nat}(ha:a<64)(hb:b<64):Ans pr 232 [.i .u64 a,.i .u64 b] (.i .u64 (zkX a b:Nat)):=by
 refine zcf fn232 ?_;have h1:=zyP ha hb;have h2:=znl ha hb;simp only[zAi,rU];unfold zkX
 by_cases h:Nat.land a b=0
 .rw[h]at h1;rw[Z51 h];simp[rW,st0,zak,h1,u_eq]
 .have hz:(((Nat.land a b:Nat):Int)==0)=false:=by simpa using h
  generalize Nat.land a b=w at h1 hz h;rw[Z49 h];generalize Nat.lor a b=w2 at h2;simp[rW,st0,zak,h1,u_eq,hz,h2]
def Sub(a b:Nat):Prop:=∀j,a.testBit j=true->b.testBit j=true
def Dis(a b:Nat):Prop:=∀j,a.testBit j=true->b.testBit j=false
def OkC(b f:Nat):Prop:=Dis f b\/Sub f b
def zix(a b j:Nat):(Nat.lor a b).testBit j=(a.testBit j||b.testBit j):=Nat.testBit_or a b j
def zuS(a b j:Nat):(Nat.land a b).testBit j=(a.testBit j&&b.testBit j):=Nat.testBit_and a b j
def zuU{a b:Nat}:Nat.land a b=0↔Dis a b:=by
 constructor
 .intro h j hj;have:=zuS a b j;rw[h,Nat.zero_testBit,hj,Z103]at this;exact this.symm
 .intro h;refine Nat.eq_of_testBit_eq fun j=> ?_
  rw[zuS,Nat.zero_testBit];cases ha:a.testBit j with
  |false=>rfl
  |true=>rw[h j ha];rfl
def Dis.comm{a b:Nat}(h:Dis a b):Dis b a:=fun j hj=>by
 cases ha:a.testBit j with
 |false=>rfl
 |true=>rw[h j ha]at hj;cases hj
def zuZ{a b:Nat}(ha:a<64)(hb:b<64):Nat.lor a b<64:=zAJ ha hb
def lor_eq{a b:Nat}(h:Nat.lor a b=a):Sub b a:=fun j hj=>by
 rw[<-h,zix,hj,Bool.or_true]
def zJc{r f:Nat}(hr:r<64)(hf:f<64):zkX r f<64/\r<=zkX r f/\Sub r (zkX r f)/\(zkX r f=r->OkC r f):=by
 unfold zkX
 by_cases h:Nat.land r f=0
 .rw[Z51 h];exact⟨hr,Z2 _,fun _ h=>h,fun _=> .inl (zuU.1 h).comm⟩
 .rw[Z49 h];exact⟨zuZ hr hf,Nat.left_le_or,fun j hj=>by rw[zix,hj,Bool.true_or],fun e=> .inr (lor_eq e)⟩
def frN(σ:Asg)(m:Nat):Nat:=zdm m (zaQ σ)
def zgc:C:=zjl.body.r.r.r.r.b.o
def zuj:C:=zgc.b.r.l.r.b.o
def zuk:C:=zgc.b.r.r.l.r.b.o
def zum:C:=zgc.b.r.r.r.l.r.b.o
def Gw(bef:Nat)(P:Nat->Prop)(s:St):Prop:=∃r:Nat,s.tm.get 7=some (.f (.i .u64 r))/\r<64/\bef<=r/\Sub bef r/\(r=bef->P r)
def Gw.step{bef f:Nat}{P P':Nat->Prop}{s':St}{r:Nat}(hs:s'.tm.get 7=some (.f (.i .u64 (zkX r f:Nat))))(h1:r<64)(h2:bef<=r)(h3:Sub bef r)(h4:r=bef->P r)(hf:f<64)(hP:P bef->OkC bef f->P' bef):Gw bef P' s':=by
 obtain⟨j1,j2,j3,j4⟩ :=zJc h1 hf;refine⟨_,hs,j1,by omega,fun j hj=>j3 j (h3 j hj),fun e=> ?_⟩;have e1:r=bef:=by omega
 subst e1;rw[e];exact hP (h4 rfl) (j4 e)
def Jg2(X:Mx)(σ:Asg)(R:List (Nat×D))(bef:Nat)(h:T Ob)(c n:Nat)(s:St):Prop:=Rg R s/\(s.tm.get 37=some (X.dC)/\s.tm.get 38=some (.f (.i .i64 X.cs.length))/\s.tm.get 39=some (.f (.i .i64 n)))/\Gw bef (fun r=>∀k∈X.cs.take n,OkC r (frN σ k.m)) s/\c<=s.c/\∀id,id<c->s.h.get id=h.get id
def zDe{α:Type}{p:α->Prop}{l:List α}{n:Nat}{x:α}(hx:l[n]? =some x)(h:∀k∈l.take n,p k)(hp:p x):∀k∈l.take (n+1),p k:=by
 intro k hk;rw[Z105,hx]at hk;rcases Z4.1 hk with h1|h1
 .exact h k h1
 .simp at h1;rw[h1];exact hp
theorem gr_l2{L:List Rl}{h:T Ob}{c:Nat}{X:Mx}{σ:Asg}(H:MS L h c X σ){rest g:D}{bef:Nat}{s:St}{K:Ex->St->Prop}
  (hJ:Jg2 X σ [(0,.ptr X.M 7 0 0),(1,rest),(6,g),(8,.f (.i .u64 bef))] bef h c 0 s)(kx:∀s,Jg2 X σ [(0,.ptr X.M 7 0 0),(1,rest),(6,g),(8,.f (.i .u64 bef))] bef h c X.cs.length s->K (.exit 2) s):WL pr zuj s K:=by
 have hm:=H.m.m;have ho:=H.m.o;have gC:=H.m.C;have hcl:(cnD X.cs).length=X.cs.length:=by simp[cnD]
 have hb:zaQ σ<64:=Z15 (zet σ) (Z113 (by decide) H.m.n6);have hl:=H.o.cl;have hk:∀k∈X.cs,zkL σ.length k:=by rw[H.m.n];exact fun k hk=>(H.o.c k hk).1
 refine zbD X.cs.length (Jg2 X σ [(0,.ptr X.M 7 0 0),(1,rest),(6,g),(8,.f (.i .u64 bef))] bef h c) (fun e s=>e= .exit 2/\Jg2 X σ [(0,.ptr X.M 7 0 0),(1,rest),(6,g),(8,.f (.i .u64 bef))] bef h c X.cs.length s) ?_ ?_ _ hJ ?_
 .rintro n s hlt ⟨⟨h0,h1,h6,h8,-⟩,⟨h37,h38,h39⟩,⟨r,h7,r1,r2,r3,r4⟩,hc,hf⟩;have hw:=zao n (by omega);have hx:X.cs[n]? =some X.cs[n]:=Z0 hlt;have hK:=hk _ (Z1 hlt);generalize X.cs[n]=q at hx hK;obtain⟨l0,l1,l2,l3,el⟩ :=zly q.l;obtain⟨r0,r1',r2',r3',er⟩ :=zly q.r;obtain⟨id,ro,e1,e2,e3,e4⟩ :=zes gC (n:=n) (by omega);have hrow:(cnD X.cs)[n]? =some [D.f (.i .i64 q.op),D.f l0,D.f l1,D.f l2,D.f l3,D.f r0,D.f r1',D.f r2',D.f r3',D.f (.i .u64 (q.m:Nat))]:=by simp[cnD,hx,el,er]
  have e2':s.h.get id=some (.arr 10 ro (cnD X.cs)):=(hf id e4).trans e2;have hm':s.h.get X.M=_:=(hf X.M (by omega)).trans hm;rw[hcl]at e1;have i1:¬id=s.c:=by omega
  have i2:¬X.M=s.c:=by omega
  have hm64:=zp9 hK H.m.n6;have ban:=zll hm64 hb;have hf64:frN σ q.m<64:=zmh hm64;have q1:=fun k=>zad (k:=k) (zBy r1 hf64)
  have hfr:zdm q.m (zaQ σ)=frN σ q.m:=rfl;rw[hfr]at ban;unfold zuj zgc zjl;simp only[rU,C.l,C.r,C.b,C.o];simp[rW,h0,h1,h6,h7,h8,h37,h38,h39,hlt,e1,e2',hrow,i1,i2];refine zaw ?_;simp[rW,h0,h1,h6,h7,h8,h37,h38,h39,hm',i1,i2,ban,q1,hw];refine⟨by simp only[Rg];simp[rW,h0,h1,h6,h8],⟨by simp[rW,h37,e1],by simp[rW,h38],by simp[rW,hw]⟩,Gw.step (P:=fun r=>∀k∈X.cs.take n,OkC r (frN σ k.m)) (by simp[rW]) r1 r2 r3 r4 hf64 fun p o=>zDe hx p o,by simp only[rG];omega,fun id hid=> ?_⟩;have a:¬id=s.c:=by omega
  simp[rW,a];exact hf id hid
 .rintro s ⟨⟨h0,h1,h6,h8,-⟩,⟨h37,h38,h39⟩,hG,hc,hf⟩;obtain⟨r,h7,hr⟩ :=hG;unfold zuj zgc zjl;simp only[rU,C.l,C.r,C.b,C.o];simp[rW,h37,h38,h39];exact⟨by simp only[Rg];simp[rW,h0,h1,h6,h8],⟨by simp[rW,h37],by simp[rW,h38],by simp[rW,h39]⟩,⟨r,by simp[rW,h7],hr⟩,by simp only[rG];omega,fun id hid=>by simp[rW];exact hf id hid⟩
 .rintro e s ⟨rfl,hJ⟩;exact kx s hJ
def Jg4(X:Mx)(σ:Asg)(R:List (Nat×D))(bef:Nat)(h:T Ob)(c n:Nat)(s:St):Prop:=Rg R s/\(s.tm.get 56=some (X.dN)/\s.tm.get 57=some (.f (.i .i64 X.WN.length))/\s.tm.get 58=some (.f (.i .i64 n)))/\Gw bef (fun r=>(∀k∈X.cs,OkC r (frN σ k.m))/\∀q∈X.WN.take n,OkC r (frN σ q.1.m)) s/\c<=s.c/\∀id,id<c->s.h.get id=h.get id
theorem gr_l4{L:List Rl}{h:T Ob}{c:Nat}{X:Mx}{σ:Asg}(H:MS L h c X σ){rest g:D}{bef:Nat}{s:St}{K:Ex->St->Prop}
  (hJ:Jg4 X σ [(0,.ptr X.M 7 0 0),(1,rest),(6,g),(8,.f (.i .u64 bef))] bef h c 0 s)(kx:∀s,Jg4 X σ [(0,.ptr X.M 7 0 0),(1,rest),(6,g),(8,.f (.i .u64 bef))] bef h c X.WN.length s->K (.exit 4) s):WL pr zuk s K:=by
 have hm:=H.m.m;have ho:=H.m.o;have gN:=H.m.N.1;have hcl:(paD X.WN).length=X.WN.length:=by simp[paD]
 have hb:zaQ σ<64:=Z15 (zet σ) (Z113 (by decide) H.m.n6);have hl:=H.o.Nl;refine zbD X.WN.length (Jg4 X σ [(0,.ptr X.M 7 0 0),(1,rest),(6,g),(8,.f (.i .u64 bef))] bef h c) (fun e s=>e= .exit 4/\Jg4 X σ [(0,.ptr X.M 7 0 0),(1,rest),(6,g),(8,.f (.i .u64 bef))] bef h c X.WN.length s) ?_ ?_ _ hJ ?_
 .rintro n s hlt ⟨⟨h0,h1,h6,h8,-⟩,⟨h56,h57,h58⟩,⟨r,h7,r1,r2,r3,r4⟩,hc,hf⟩;have hw:=zao n (by omega);have hx:X.WN[n]? =some X.WN[n]:=Z0 hlt;have hmem:=Z1 hlt;generalize X.WN[n]=q at hx hmem;have hP:=H.o.N q hmem;obtain⟨id,ro,e1,e2,e3,e4⟩ :=zes gN (n:=n) (by omega);have hrow:(paD X.WN)[n]? =some [.f (.i .i64 q.1.r),q.2,.f (.i .u64 q.1.m)]:=by simp[paD,hx]
  have hA:=(Z8.1 hrow).2;have hqc:q.2.cells=some [q.2]:=zbY (H.m.N.2 q hmem);have e2':s.h.get id=some (.arr 3 ro (paD X.WN)):=(hf id e4).trans e2;have hm':s.h.get X.M=_:=(hf X.M (by omega)).trans hm;rw[hcl]at e1;have i1:¬id=s.c:=by omega
  have i2:¬X.M=s.c:=by omega
  have hm64:=zkq H.m.n6 (p:=q.1) (by rw[H.m.n];exact hP.o);have ban:=zll hm64 hb;have hf64:frN σ q.1.m<64:=zmh hm64;have q1:=fun k=>zad (k:=k) (zBy r1 hf64)
  have hfr:zdm q.1.m (zaQ σ)=frN σ q.1.m:=rfl;rw[hfr]at ban;unfold zuk zgc zjl;simp only[rU,C.l,C.r,C.b,C.o];simp[rW,h0,h1,h6,h7,h8,h56,h57,h58,hlt,e1,e2',hrow,hA,hcl,hqc,i1,i2];refine zaw ?_;simp[rW,h0,h1,h6,h7,h8,h56,h57,h58,hm',i1,i2,ban,q1,hw];refine⟨by simp only[Rg];simp[rW,h0,h1,h6,h8],⟨by simp[rW,h56,e1],by simp[rW,h57],by simp[rW,hw]⟩,Gw.step (P:=fun r=>(∀k∈X.cs,OkC r (frN σ k.m))/\∀q∈X.WN.take n,OkC r (frN σ q.1.m)) (by simp[rW]) r1 r2 r3 r4 hf64 fun p o=>⟨p.1,zDe hx p.2 o⟩,by simp only[rG];omega,fun id hid=> ?_⟩;have a:¬id=s.c:=by omega
  simp[rW,a];exact hf id hid
 .rintro s ⟨⟨h0,h1,h6,h8,-⟩,⟨h56,h57,h58⟩,hG,hc,hf⟩;obtain⟨r,h7,hr⟩ :=hG;unfold zuk zgc zjl;simp only[rU,C.l,C.r,C.b,C.o];simp[rW,h56,h57,h58];exact⟨by simp only[Rg];simp[rW,h0,h1,h6,h8],⟨by simp[rW,h56],by simp[rW,h57],by simp[rW,h58]⟩,⟨r,by simp[rW,h7],hr⟩,by simp only[rG];omega,fun id hid=>by simp[rW];exact hf id hid⟩
 .rintro e s ⟨rfl,hJ⟩;exact kx s hJ
end Go.Proofs.YtdlcolcidohbkaaGreatDoor
end
