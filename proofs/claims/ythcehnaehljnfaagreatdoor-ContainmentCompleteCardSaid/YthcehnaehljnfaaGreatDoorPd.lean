/- The matcher: choose (some atom of the set). -/
import Derived.Test.YthcehnaehljnfaaGreatDoorPc
import Derived.KernelRfl
import Derived.IntWalk
set_option linter.all false
set_option maxRecDepth 100000
set_option maxHeartbeats 4000000
noncomputable section
section
namespace Go.Proofs.YthcehnaehljnfaaGreatDoor
open Go Go.Vse Go.Vse.Sm
def fn123:pr.fn 123=some zpc:=by kernel_rfl
def zx3:C:=zpc.body.r.r.l.r.b.o
def zx4:C:=zx3.r.l.b.r.r.l.r.b.o
def zjA{a:Nat}(ha:a<64)(h0:a≠0):a.testBit (tz a)=true/\tz a<6:=by
 have h:=zm3 ha h0;have:tz a∈zhh a:=by rw[h];simp
 exact⟨(zhA.1 this).2,(zhA.1 this).1⟩
def zUt:((List.range 64).all fun a=>a==0||Nat.blt (Nat.land a (a - 1)) a)=true:=by kernel_rfl
def zyR{a:Nat}(ha:a<64)(h0:a≠0):Nat.land a (a - 1)<a:=by
 have h1:=Z50.1 zUt a (by simpa using ha);have hz:(a==0)=false:=by simpa using h0
 rw[hz,Bool.false_or]at h1;simpa [Z79]using h1
def zos{a i:Nat}(h:(Nat.land a (a - 1)).testBit i=true):a.testBit i=true:=by
 have h:(a&&& (a - 1)).testBit i=true:=h;rw[Nat.testBit_and,Z14]at h;exact h.1
def zdZ{a n i:Nat}(ha:a<2 ^ n)(h:a.testBit i=true):i<n:=by
 rcases Z145 i n with h1|h1
 .exact h1
 .have:2 ^ n<=2 ^ i:=Z113 (by decide) h1;rw[Nat.testBit_lt_two_pow (by omega)]at h;cases h
def Jc2(L:List Rl)(X:Mx)(σ:Asg)(q:Pat×D)(h:T Ob)(c:Nat)(R:List (Nat×D))(k:Nat)(s:St):Prop:=Rg R s/\(s.tm.get 28=some (q.2)/\s.tm.get 29=some (.f (.i .i64 q.1.ts.length))/\s.tm.get 30=some (.f (.i .i64 k)))/\(∃n:Nat,n<=k/\s.tm.get 9=some (.f (.i .i64 n)))/\c<=s.c/\∀id,id<c->s.h.get id=h.get id
theorem ch_l2{L:List Rl}{h:T Ob}{c:Nat}{X:Mx}{σ:Asg}(H:MS L h c X σ){q:Pat×D}(hq:q∈X.WP){a b:D}{rest cur i:D}{s:St}{K:Ex->St->Prop}
  (hJ:Jc2 L X σ q h c [(0,.ptr X.M 7 0 0),(1,rest),(5,a),(6,b),(7,cur),(8,i)] 0 s)(kx:∀s,Jc2 L X σ q h c [(0,.ptr X.M 7 0 0),(1,rest),(5,a),(6,b),(7,cur),(8,i)] q.1.ts.length s->K (.exit 2) s):WL pr zx4 s K:=by
 have hP:=H.o.P q hq;have hpl:=hP.l;have hm:=H.m.m;have ho:=H.m.o;have gQ:=H.m.P.2 q hq;have hql:(opD q.1.ts).length=q.1.ts.length:=by simp[opD]
 have hb:zaQ σ<64:=Z15 (zd6 σ) (Z113 (by decide) H.m.n6);refine zc0 q.1.ts.length (Jc2 L X σ q h c [(0,.ptr X.M 7 0 0),(1,rest),(5,a),(6,b),(7,cur),(8,i)]) (fun e s=>e= .exit 2/\Jc2 L X σ q h c [(0,.ptr X.M 7 0 0),(1,rest),(5,a),(6,b),(7,cur),(8,i)] q.1.ts.length s) ?_ ?_ _ hJ ?_
 .rintro k s hlt ⟨⟨h0,h1,h5,h6,h7,h8,-⟩,⟨h28,h29,h30⟩,⟨n,hn,h9⟩,hc,hf⟩;have hw:=zaH k (by omega);have hwn:=zaH n (by omega);obtain⟨id,ro,e1,e2,e3,e4⟩ :=zd5 gQ (n:=k) (by omega);rw[hql]at e1;have ht:q.1.ts[k]? =some q.1.ts[k]:=Z0 hlt;have hto:=hP.o _ (Z1 hlt);generalize q.1.ts[k]=t at ht hto;obtain⟨t0,t1,t2,t3,et⟩ :=zkz t;have hrow:(opD q.1.ts)[k]? =some [D.f t0,D.f t1,D.f t2,D.f t3]:=by simp[opD,ht,et]
  have e2':s.h.get id=some (.arr 4 ro (opD q.1.ts)):=(hf id e4).trans e2;have hm':s.h.get X.M=_:=(hf X.M (by omega)).trans hm;have i1:¬id=s.c:=by omega
  have i2:¬X.M=s.c:=by omega
  obtain⟨H1,hH1⟩ :∃H1,H1=(s.h.set s.c (.arr 4 0 [[D.f (.i .i64 0),D.f (.i .i64 0),D.f (.i .i64 0),D.f (.s [])]])).set s.c (.arr 4 0 [[D.f t0,D.f t1,D.f t2,D.f t3]]):=⟨_,rfl⟩
  have f1:∀id,id<s.c->H1.get id=s.h.get id:=fun id hid=>by
   rw[hH1,TG,Z49 (by omega),TG,Z49 (by omega)]
  unfold zx4 zx3 zpc;simp only[rU,C.l,C.r,C.b,C.o];simp[rW,h28,h29,h30,hlt,e1,e2',hrow,i1,i2];refine zsw (fun s'=>Rg [(0,.ptr X.M 7 0 0),(1,rest),(5,a),(6,b),(7,cur),(8,i),(28,q.2),(29,.f (.i .i64 q.1.ts.length)),(30,.f (.i .i64 k)),(9,.f (.i .i64 n)),(47,.f (.b (zaF σ t).isSome))] s'/\s'.h=H1/\s.c+1<=s'.c) (fun K hK=> ?_) ?_
  .refine zbf ?_;cases t with
   |cst y0=>
    simp only[Opn.c,List.cons.injEq,and_true]at et;obtain⟨rfl,rfl,rfl,rfl⟩ :=et;simp[rW,h0,h1,h5,h6,h7,h8,h9,h28,h29,h30,hm',i1,i2];exact hK _ ⟨by simp only[Rg];simp[rW,h0,h1,h5,h6,h7,h8,h9,h28,h29,h30,e1,zaF],by simp only[rG];exact hH1.symm,by simp only[rG];omega⟩
   |var j=>
    have hj:j<6:=by
     have h1:j<X.ns.length:=hto;have h2:=H.m.n6;rw[H.m.n]at h2;omega
    obtain⟨bb1,bb2⟩ :=zO9 hb hj;rw[zd8]at bb2;generalize zaQ σ>>>j=w at bb1 bb2;have hj0:¬((j:Int)<0):=by omega
    simp only[Opn.c,List.cons.injEq,and_true]at et;obtain⟨rfl,rfl,rfl,rfl⟩ :=et;cases hs:(zaF σ (.var j)).isSome with
    |true=>
     rw[hs]at bb2;simp[rW,h0,h1,h5,h6,h7,h8,h9,h28,h29,h30,hm',i1,i2,bb1,bb2,hj0,u_eq];exact hK _ ⟨by simp only[Rg];simp[rW,h0,h1,h5,h6,h7,h8,h9,h28,h29,h30,e1,hs],by simp only[rG];exact hH1.symm,by simp only[rG];omega⟩
    |false=>
     rw[hs]at bb2;simp[rW,h0,h1,h5,h6,h7,h8,h9,h28,h29,h30,hm',i1,i2,bb1,bb2,hj0,u_eq];exact hK _ ⟨by simp only[Rg];simp[rW,h0,h1,h5,h6,h7,h8,h9,h28,h29,h30,e1,hs],by simp only[rG];exact hH1.symm,by simp only[rG];omega⟩
  .rintro s' ⟨⟨k0,k1,k5,k6,k7,k8,k28,k29,k30,k9,k47,-⟩,hH,hc'⟩;have hf':∀id,id<c->s'.h.get id=h.get id:=fun id hid=>by rw[hH,f1 id (by omega)];exact hf id hid
   cases hy:(zaF σ t).isSome with
   |true=>
    rw[hy]at k47;simp[rW,k0,k1,k5,k6,k7,k8,k9,k28,k29,k30,k47,hw,hwn];exact⟨by simp only[Rg];simp[rW,k0,k1,k5,k6,k7,k8],⟨by simp[rW,k28],by simp[rW,k29],by simp[rW,hw]⟩,⟨n+1,by omega,by simp[rW,hwn]⟩,by simp only[rG];omega,fun id hid=>by simp[rW];exact hf' id hid⟩
   |false=>
    rw[hy]at k47;simp[rW,k0,k1,k5,k6,k7,k8,k9,k28,k29,k30,k47,hw,hwn];exact⟨by simp only[Rg];simp[rW,k0,k1,k5,k6,k7,k8],⟨by simp[rW,k28],by simp[rW,k29],by simp[rW,hw]⟩,⟨n,by omega,by simp[rW,k9]⟩,by simp only[rG];omega,fun id hid=>by simp[rW];exact hf' id hid⟩
 .rintro s ⟨⟨h0,h1,h5,h6,h7,h8,-⟩,⟨h28,h29,h30⟩,⟨n,hn,h9⟩,hc,hf⟩;unfold zx4 zx3 zpc;simp only[rU,C.l,C.r,C.b,C.o];simp[rW,h28,h29,h30];exact⟨by simp only[Rg];simp[rW,h0,h1,h5,h6,h7,h8],⟨by simp[rW,h28],by simp[rW,h29],by simp[rW,h30]⟩,⟨n,hn,by simp[rW,h9]⟩,by simp only[rG];omega,fun id hid=>by simp[rW];exact hf id hid⟩
 .rintro e s ⟨rfl,hJ⟩;exact kx s hJ
def Jc0(X:Mx)(rest:Nat)(h:T Ob)(c cur:Nat)(s:St):Prop:=(s.tm.get 0=some (.ptr X.M 7 0 0)/\s.tm.get 1=some (.f (.i .u64 rest))/\s.tm.get 7=some (.f (.i .u64 cur)))/\cur<64/\(∀i,cur.testBit i=true->rest.testBit i=true)/\(∃a b:Int,s.tm.get 5=some (.f (.i .i64 a))/\s.tm.get 6=some (.f (.i .i64 b))/\((b= -1/\cur≠0)\/∃i:Nat,a=i/\rest.testBit i=true))/\c<=s.c/\∀id,id<c->s.h.get id=h.get id
def Rc0(X:Mx)(rest:Nat)(h:T Ob)(c:Nat)(e:Ex)(s:St):Prop:=e= .exit 0/\Jc0 X rest h c 0 s
def ChP(rest:Nat)(h:T Ob)(c:Nat)(d:D)(h':T Ob)(_:Nat):Prop:=(∃i:Nat,d= .f (.i .i64 i)/\rest.testBit i=true)/\∀id,id<c->h'.get id=h.get id
def zHb{L:List Rl}{h:T Ob}{c:Nat}{X:Mx}{σ:Asg}(H:MS L h c X σ){rest:Nat}(hr0:rest≠0)(hrl:rest<2 ^ X.WP.length):Eff pr 123 [.ptr X.M 7 0 0,.f (.i .u64 rest)] h c (ChP rest h c):=by
 refine zb2 kps fn123 (fun d h' c' ⟨a,_⟩ _ _=>⟨a,fun _ _=>rfl⟩) ?_;have hPl:=H.o.Pl;have hm:=H.m.m;have ho:=H.m.o;have gP:=H.m.P.1;have hpd:(paD X.WP).length=X.WP.length:=by simp[paD]
 have hr64:rest<64:=Z15 hrl (Z113 (by decide) hPl);simp only[zpc,rU];simp[rW,st0,zay];refine zfa (fun k s=>∃cur,k=cur/\Jc0 X rest h c cur s) (Rc0 X rest h c) ?_ rest _ ⟨rest,rfl,⟨?_,?_,?_⟩,hr64,fun _ h=>h,⟨-1,-1,?_,?_,.inl ⟨rfl,hr0⟩⟩,?_,?_⟩ ?_
 .rintro cur s ⟨_,rfl,⟨h0,h1,h7⟩,hc64,hsub,⟨a,b,h5,h6,hab⟩,hc,hf⟩
  by_cases hz:cur=0
  .subst hz;rcases hab with⟨_,h⟩ |hab
   .exact absurd rfl h
   simp[rW,h0,h1,h5,h6,h7,zhv];exact⟨rfl,⟨by simp[rW,h0],by simp[rW,h1],by simp[rW,h7]⟩,hc64,hsub,⟨a,b,by simp[rW,h5],by simp[rW,h6],.inr hab⟩,by simp only[rG];omega,fun id hid=>by simp[rW];exact hf id hid⟩
  .obtain⟨tm1,tm2⟩ :=zjA hc64 hz;have htr:=hsub _ tm1;have hti:=zdZ hrl htr;have hz2:(((cur:Nat):Int)==0)=false:=by simpa using hz
   obtain⟨lb1,lb2⟩ :=zC4 hc64 hz;have hll:=zyR hc64 hz;generalize hi:tz cur=i at tm1 tm2 htr hti;have hx:X.WP[i]? =some X.WP[i]:=Z0 hti;have hmem:=Z1 hti;generalize X.WP[i]=q at hx hmem;have lQ:=zd2 (H.m.P.2 q hmem);have hql:(opD q.1.ts).length=q.1.ts.length:=by simp[opD]
   rw[hql]at lQ;obtain⟨id,ro,e1,e2,e3,e4⟩ :=zd5 gP (n:=i) (by omega);rw[hpd]at e1;have hrow:(paD X.WP)[i]? =some [.f (.i .i64 q.1.r),q.2,.f (.i .u64 q.1.m)]:=by simp[paD,hx]
   have hA:=(Z8.1 hrow).2;simp[rW,h0,h1,h5,h6,h7,zhv,hz2];refine zbQ [(0,.ptr X.M 7 0 0),(1,.f (.i .u64 rest)),(5,.f (.i .i64 a)),(6,.f (.i .i64 b)),(7,.f (.i .u64 cur))] (zjs (zuB hc64 hz s.h s.c)) (by simp only[rG]) (by simp only[rG]) (by simp only[Rg];simp[rW,h0,h1,h5,h6,h7]) rfl ?_;rintro s1 d1 ⟨rfl,hh,hcc⟩ hc1 k20 ⟨k0,k1,k5,k6,k7,-⟩;rw[hi]at k20;refine⟨?_⟩;have hm':s1.h.get X.M=_:=(show s1.h.get X.M=h.get X.M by rw[hh];exact hf X.M (by omega)).trans hm;have e2':s1.h.get id=some (.arr 3 ro (paD X.WP)):=(show s1.h.get id=h.get id by rw[hh];exact hf id e4).trans e2;simp[rW,k0,k1,k5,k6,k7,k20,hm',e1,hti,e2',hrow,hA,hpd,lQ];refine ch_l2 H hmem (a:= .f (.i .i64 a)) (b:= .f (.i .i64 b)) (rest:= .f (.i .u64 rest)) (cur:= .f (.i .u64 cur)) (i:= .f (.i .i64 i)) ⟨by simp only[Rg];simp[rW,k0,k1,k5,k6,k7],⟨by simp[rW],by simp[rW],by simp[rW]⟩,⟨0,Z2 _,by simp[rW]⟩,by simp only[rG];omega,fun id hid=>by simp[rW,hh];exact hf id hid⟩ ?_;rintro s2 ⟨⟨j0,j1,j5,j6,j7,j8,-⟩,-,⟨n,hn,j9⟩,hc2,hf2⟩;have hcur:∀i,(Nat.land cur (cur - 1)).testBit i=true->rest.testBit i=true:=fun i hi=>hsub i (zos hi)
   by_cases hgt:b< (n:Int)
   .simp[rW,j0,j1,j5,j6,j7,j8,j9,hgt,lb1,lb2];exact⟨_,hll,⟨by simp[rW,j0],by simp[rW,j1],by simp[rW]⟩,by omega,hcur,⟨i,n,by simp[rW],by simp[rW],.inr ⟨i,rfl,htr⟩⟩,by simp only[rG];omega,fun id hid=>by simp[rW];exact hf2 id hid⟩
   .have hab':∃i:Nat,a=i/\rest.testBit i=true:=by
     rcases hab with⟨e,_⟩ |h
     .omega
     .exact h
    simp[rW,j0,j1,j5,j6,j7,j8,j9,hgt,lb1,lb2];exact⟨_,hll,⟨by simp[rW,j0],by simp[rW,j1],by simp[rW]⟩,by omega,hcur,⟨a,b,by simp[rW,j5],by simp[rW,j6],.inr hab'⟩,by simp only[rG];omega,fun id hid=>by simp[rW];exact hf2 id hid⟩
 .simp[rW]
 .simp[rW]
 .simp[rW]
 .simp[rW]
 .simp[rW]
 .simp only[rG];omega
 .intro id hid;simp[rW]
 .rintro e s ⟨rfl,⟨h0,h1,h7⟩,hc64,hsub,⟨a,b,h5,h6,hab⟩,hc,hf⟩;rcases hab with⟨_,h⟩ |⟨i,rfl,hi⟩
  .exact absurd rfl h
  simp[rW,h0,h1,h5,h6,h7,zaU];exact⟨⟨i,rfl,hi⟩,hf⟩
def fn187:pr.fn 187=some ziy:=by kernel_rfl
def fn237:pr.fn 237=some zDG:=by kernel_rfl
def zj2(a b:Nat):Nat:=if Nat.land a b=0 then a else Nat.lor a b
def zGP{a b:Nat}(ha:a<64)(hb:b<64):Ans pr 237 [.i .u64 a,.i .u64 b] (.i .u64 (zj2 a b:Nat)):=by
 refine zdr fn237 ?_;have h1:=zC3 ha hb;have h2:=zm1 ha hb;simp only[zDG,rU];unfold zj2
 by_cases h:Nat.land a b=0
 .rw[h]at h1;rw[Z51 h];simp[rW,st0,zay,h1,u_eq]
 .have hz:(((Nat.land a b:Nat):Int)==0)=false:=by simpa using h
  generalize Nat.land a b=w at h1 hz h;rw[Z49 h];generalize Nat.lor a b=w2 at h2;simp[rW,st0,zay,h1,u_eq,hz,h2]
def Sub(a b:Nat):Prop:=∀j,a.testBit j=true->b.testBit j=true
def Dis(a b:Nat):Prop:=∀j,a.testBit j=true->b.testBit j=false
def OkC(b f:Nat):Prop:=Dis f b\/Sub f b
def zhK(a b j:Nat):(Nat.lor a b).testBit j=(a.testBit j||b.testBit j):=Nat.testBit_or a b j
def zyM(a b j:Nat):(Nat.land a b).testBit j=(a.testBit j&&b.testBit j):=Nat.testBit_and a b j
def zyN{a b:Nat}:Nat.land a b=0↔Dis a b:=by
 constructor
 .intro h j hj;have:=zyM a b j;rw[h,Nat.zero_testBit,hj,Z103]at this;exact this.symm
 .intro h;refine Nat.eq_of_testBit_eq fun j=> ?_
  rw[zyM,Nat.zero_testBit];cases ha:a.testBit j with
  |false=>rfl
  |true=>rw[h j ha];rfl
def Dis.comm{a b:Nat}(h:Dis a b):Dis b a:=fun j hj=>by
 cases ha:a.testBit j with
 |false=>rfl
 |true=>rw[h j ha]at hj;cases hj
def zyQ{a b:Nat}(ha:a<64)(hb:b<64):Nat.lor a b<64:=zD8 ha hb
def lor_eq{a b:Nat}(h:Nat.lor a b=a):Sub b a:=fun j hj=>by
 rw[<-h,zhK,hj,Bool.or_true]
def zSL{r f:Nat}(hr:r<64)(hf:f<64):zj2 r f<64/\r<=zj2 r f/\Sub r (zj2 r f)/\(zj2 r f=r->OkC r f):=by
 unfold zj2
 by_cases h:Nat.land r f=0
 .rw[Z51 h];exact⟨hr,Z2 _,fun _ h=>h,fun _=> .inl (zyN.1 h).comm⟩
 .rw[Z49 h];exact⟨zyQ hr hf,Nat.left_le_or,fun j hj=>by rw[zhK,hj,Bool.true_or],fun e=> .inr (lor_eq e)⟩
def frN(σ:Asg)(m:Nat):Nat:=zcX m (zaQ σ)
def zfC:C:=ziy.body.r.r.r.r.b.o
def zya:C:=zfC.b.r.l.r.b.o
def zyb:C:=zfC.b.r.r.l.r.b.o
def zyc:C:=zfC.b.r.r.r.l.r.b.o
def Gw(bef:Nat)(P:Nat->Prop)(s:St):Prop:=∃r:Nat,s.tm.get 7=some (.f (.i .u64 r))/\r<64/\bef<=r/\Sub bef r/\(r=bef->P r)
def Gw.step{bef f:Nat}{P P':Nat->Prop}{s':St}{r:Nat}(hs:s'.tm.get 7=some (.f (.i .u64 (zj2 r f:Nat))))(h1:r<64)(h2:bef<=r)(h3:Sub bef r)(h4:r=bef->P r)(hf:f<64)(hP:P bef->OkC bef f->P' bef):Gw bef P' s':=by
 obtain⟨j1,j2,j3,j4⟩ :=zSL h1 hf;refine⟨_,hs,j1,by omega,fun j hj=>j3 j (h3 j hj),fun e=> ?_⟩;have e1:r=bef:=by omega
 subst e1;rw[e];exact hP (h4 rfl) (j4 e)
def Jg2(X:Mx)(σ:Asg)(R:List (Nat×D))(bef:Nat)(h:T Ob)(c n:Nat)(s:St):Prop:=Rg R s/\(s.tm.get 37=some (X.dC)/\s.tm.get 38=some (.f (.i .i64 X.cs.length))/\s.tm.get 39=some (.f (.i .i64 n)))/\Gw bef (fun r=>∀k∈X.cs.take n,OkC r (frN σ k.m)) s/\c<=s.c/\∀id,id<c->s.h.get id=h.get id
def zIp{α:Type}{p:α->Prop}{l:List α}{n:Nat}{x:α}(hx:l[n]? =some x)(h:∀k∈l.take n,p k)(hp:p x):∀k∈l.take (n+1),p k:=by
 intro k hk;rw[Z105,hx]at hk;rcases Z4.1 hk with h1|h1
 .exact h k h1
 .simp at h1;rw[h1];exact hp
theorem gr_l2{L:List Rl}{h:T Ob}{c:Nat}{X:Mx}{σ:Asg}(H:MS L h c X σ){rest g:D}{bef:Nat}{s:St}{K:Ex->St->Prop}
  (hJ:Jg2 X σ [(0,.ptr X.M 7 0 0),(1,rest),(6,g),(8,.f (.i .u64 bef))] bef h c 0 s)(kx:∀s,Jg2 X σ [(0,.ptr X.M 7 0 0),(1,rest),(6,g),(8,.f (.i .u64 bef))] bef h c X.cs.length s->K (.exit 2) s):WL pr zya s K:=by
 have hm:=H.m.m;have ho:=H.m.o;have gC:=H.m.C;have hcl:(cnD X.cs).length=X.cs.length:=by simp[cnD]
 have hb:zaQ σ<64:=Z15 (zd6 σ) (Z113 (by decide) H.m.n6);have hl:=H.o.cl;have hk:∀k∈X.cs,zjF σ.length k:=by rw[H.m.n];exact fun k hk=>(H.o.c k hk).1
 refine zc0 X.cs.length (Jg2 X σ [(0,.ptr X.M 7 0 0),(1,rest),(6,g),(8,.f (.i .u64 bef))] bef h c) (fun e s=>e= .exit 2/\Jg2 X σ [(0,.ptr X.M 7 0 0),(1,rest),(6,g),(8,.f (.i .u64 bef))] bef h c X.cs.length s) ?_ ?_ _ hJ ?_
 .rintro n s hlt ⟨⟨h0,h1,h6,h8,-⟩,⟨h37,h38,h39⟩,⟨r,h7,r1,r2,r3,r4⟩,hc,hf⟩;have hw:=zaH n (by omega);have hx:X.cs[n]? =some X.cs[n]:=Z0 hlt;have hK:=hk _ (Z1 hlt);generalize X.cs[n]=q at hx hK;obtain⟨l0,l1,l2,l3,el⟩ :=zkz q.l;obtain⟨r0,r1',r2',r3',er⟩ :=zkz q.r;obtain⟨id,ro,e1,e2,e3,e4⟩ :=zd5 gC (n:=n) (by omega);have hrow:(cnD X.cs)[n]? =some [D.f (.i .i64 q.op),D.f l0,D.f l1,D.f l2,D.f l3,D.f r0,D.f r1',D.f r2',D.f r3',D.f (.i .u64 (q.m:Nat))]:=by simp[cnD,hx,el,er]
  have e2':s.h.get id=some (.arr 10 ro (cnD X.cs)):=(hf id e4).trans e2;have hm':s.h.get X.M=_:=(hf X.M (by omega)).trans hm;rw[hcl]at e1;have i1:¬id=s.c:=by omega
  have i2:¬X.M=s.c:=by omega
  have hm64:=zqM hK H.m.n6;have ban:=zkj hm64 hb;have hf64:frN σ q.m<64:=zlt hm64;have q1:=fun k=>zaC (k:=k) (zGP r1 hf64)
  have hfr:zcX q.m (zaQ σ)=frN σ q.m:=rfl;rw[hfr]at ban;unfold zya zfC ziy;simp only[rU,C.l,C.r,C.b,C.o];simp[rW,h0,h1,h6,h7,h8,h37,h38,h39,hlt,e1,e2',hrow,i1,i2];refine zbf ?_;simp[rW,h0,h1,h6,h7,h8,h37,h38,h39,hm',i1,i2,ban,q1,hw];refine⟨by simp only[Rg];simp[rW,h0,h1,h6,h8],⟨by simp[rW,h37,e1],by simp[rW,h38],by simp[rW,hw]⟩,Gw.step (P:=fun r=>∀k∈X.cs.take n,OkC r (frN σ k.m)) (by simp[rW]) r1 r2 r3 r4 hf64 fun p o=>zIp hx p o,by simp only[rG];omega,fun id hid=> ?_⟩;have a:¬id=s.c:=by omega
  simp[rW,a];exact hf id hid
 .rintro s ⟨⟨h0,h1,h6,h8,-⟩,⟨h37,h38,h39⟩,hG,hc,hf⟩;obtain⟨r,h7,hr⟩ :=hG;unfold zya zfC ziy;simp only[rU,C.l,C.r,C.b,C.o];simp[rW,h37,h38,h39];exact⟨by simp only[Rg];simp[rW,h0,h1,h6,h8],⟨by simp[rW,h37],by simp[rW,h38],by simp[rW,h39]⟩,⟨r,by simp[rW,h7],hr⟩,by simp only[rG];omega,fun id hid=>by simp[rW];exact hf id hid⟩
 .rintro e s ⟨rfl,hJ⟩;exact kx s hJ
def Jg4(X:Mx)(σ:Asg)(R:List (Nat×D))(bef:Nat)(h:T Ob)(c n:Nat)(s:St):Prop:=Rg R s/\(s.tm.get 56=some (X.dN)/\s.tm.get 57=some (.f (.i .i64 X.WN.length))/\s.tm.get 58=some (.f (.i .i64 n)))/\Gw bef (fun r=>(∀k∈X.cs,OkC r (frN σ k.m))/\∀q∈X.WN.take n,OkC r (frN σ q.1.m)) s/\c<=s.c/\∀id,id<c->s.h.get id=h.get id
theorem gr_l4{L:List Rl}{h:T Ob}{c:Nat}{X:Mx}{σ:Asg}(H:MS L h c X σ){rest g:D}{bef:Nat}{s:St}{K:Ex->St->Prop}
  (hJ:Jg4 X σ [(0,.ptr X.M 7 0 0),(1,rest),(6,g),(8,.f (.i .u64 bef))] bef h c 0 s)(kx:∀s,Jg4 X σ [(0,.ptr X.M 7 0 0),(1,rest),(6,g),(8,.f (.i .u64 bef))] bef h c X.WN.length s->K (.exit 4) s):WL pr zyb s K:=by
 have hm:=H.m.m;have ho:=H.m.o;have gN:=H.m.N.1;have hcl:(paD X.WN).length=X.WN.length:=by simp[paD]
 have hb:zaQ σ<64:=Z15 (zd6 σ) (Z113 (by decide) H.m.n6);have hl:=H.o.Nl;refine zc0 X.WN.length (Jg4 X σ [(0,.ptr X.M 7 0 0),(1,rest),(6,g),(8,.f (.i .u64 bef))] bef h c) (fun e s=>e= .exit 4/\Jg4 X σ [(0,.ptr X.M 7 0 0),(1,rest),(6,g),(8,.f (.i .u64 bef))] bef h c X.WN.length s) ?_ ?_ _ hJ ?_
 .rintro n s hlt ⟨⟨h0,h1,h6,h8,-⟩,⟨h56,h57,h58⟩,⟨r,h7,r1,r2,r3,r4⟩,hc,hf⟩;have hw:=zaH n (by omega);have hx:X.WN[n]? =some X.WN[n]:=Z0 hlt;have hmem:=Z1 hlt;generalize X.WN[n]=q at hx hmem;have hP:=H.o.N q hmem;obtain⟨id,ro,e1,e2,e3,e4⟩ :=zd5 gN (n:=n) (by omega);have hrow:(paD X.WN)[n]? =some [.f (.i .i64 q.1.r),q.2,.f (.i .u64 q.1.m)]:=by simp[paD,hx]
  have hA:=(Z8.1 hrow).2;have hqc:q.2.cells=some [q.2]:=zbU (H.m.N.2 q hmem);have e2':s.h.get id=some (.arr 3 ro (paD X.WN)):=(hf id e4).trans e2;have hm':s.h.get X.M=_:=(hf X.M (by omega)).trans hm;rw[hcl]at e1;have i1:¬id=s.c:=by omega
  have i2:¬X.M=s.c:=by omega
  have hm64:=zjo H.m.n6 (p:=q.1) (by rw[H.m.n];exact hP.o);have ban:=zkj hm64 hb;have hf64:frN σ q.1.m<64:=zlt hm64;have q1:=fun k=>zaC (k:=k) (zGP r1 hf64)
  have hfr:zcX q.1.m (zaQ σ)=frN σ q.1.m:=rfl;rw[hfr]at ban;unfold zyb zfC ziy;simp only[rU,C.l,C.r,C.b,C.o];simp[rW,h0,h1,h6,h7,h8,h56,h57,h58,hlt,e1,e2',hrow,hA,hcl,hqc,i1,i2];refine zbf ?_;simp[rW,h0,h1,h6,h7,h8,h56,h57,h58,hm',i1,i2,ban,q1,hw];refine⟨by simp only[Rg];simp[rW,h0,h1,h6,h8],⟨by simp[rW,h56,e1],by simp[rW,h57],by simp[rW,hw]⟩,Gw.step (P:=fun r=>(∀k∈X.cs,OkC r (frN σ k.m))/\∀q∈X.WN.take n,OkC r (frN σ q.1.m)) (by simp[rW]) r1 r2 r3 r4 hf64 fun p o=>⟨p.1,zIp hx p.2 o⟩,by simp only[rG];omega,fun id hid=> ?_⟩;have a:¬id=s.c:=by omega
  simp[rW,a];exact hf id hid
 .rintro s ⟨⟨h0,h1,h6,h8,-⟩,⟨h56,h57,h58⟩,hG,hc,hf⟩;obtain⟨r,h7,hr⟩ :=hG;unfold zyb zfC ziy;simp only[rU,C.l,C.r,C.b,C.o];simp[rW,h56,h57,h58];exact⟨by simp only[Rg];simp[rW,h0,h1,h6,h8],⟨by simp[rW,h56],by simp[rW,h57],by simp[rW,h58]⟩,⟨r,by simp[rW,h7],hr⟩,by simp only[rG];omega,fun id hid=>by simp[rW];exact hf id hid⟩
 .rintro e s ⟨rfl,hJ⟩;exact kx s hJ
def fmN(X:Mx)(σ:Asg)(i:Nat):Nat:=frN σ (match X.WP[i]? with|some q=>q.1.m|none=>0)
structure G6(X:Mx)(σ:Asg)(rest bef cur g r:Nat):Prop where
 g64:g<64
 gs:Sub g rest
 g0:g.testBit (tz rest)=true
 r64:r<64
 rb:bef<=r
 rs:Sub bef r
 gi:∀i,g.testBit i=true->Sub (fmN X σ i) r
 p:r=bef->(∀k∈X.cs,OkC r (frN σ k.m))/\(∀q∈X.WN,OkC r (frN σ q.1.m))/\∀i,rest.testBit i=true->g.testBit i=false->cur.testBit i=false->Dis (fmN X σ i) r
def zAS{a i:Nat}(ha:a<64)(h0:a≠0):a.testBit i=true↔i=tz a\/(Nat.land a (a - 1)).testBit i=true:=by
 constructor
 .intro h;have hi:i<6:=zdZ (n:=6) ha h;have:i∈zhh a:=zhA.2 ⟨hi,h⟩;rw[zm3 ha h0]at this;rcases Z5.1 this with h1|h1
  .exact .inl h1
  .exact .inr (zhA.1 h1).2
 .rintro (rfl|h)
  .exact (zjA ha h0).1
  .exact zos h
def z1w{X:Mx}{σ:Asg}{rest bef cur g r:Nat}(H:G6 X σ rest bef cur g r)(hc:cur<64)(h0:cur≠0)(hs:Sub cur rest)(hf:fmN X σ (tz cur)<64):G6 X σ rest bef (Nat.land cur (cur - 1)) (Nat.lor g (2 ^ tz cur)) (Nat.lor r (fmN X σ (tz cur))):=by
 have ht:=zjA hc h0;have h2:2 ^ tz cur<64:=by
  have:2 ^ tz cur<=2 ^ 5:=Z113 (by decide) (by omega);omega
 refine⟨zyQ H.g64 h2,fun j hj=> ?_,by rw[zhK,H.g0,Bool.true_or],zyQ H.r64 hf,Z3 H.rb Nat.left_le_or,fun j hj=>by rw[zhK,H.rs j hj,Bool.true_or],fun i hi j hj=> ?_,fun e=> ?_⟩
 .rw[zhK,Z115]at hj;rcases hj with h|h
  .exact H.gs j h
  .rw[Nat.testBit_two_pow]at h;have:tz cur=j:=by simpa using h
   exact this▸hs _ ht.1
 .rw[zhK,Z115]at hi|-;rcases hi with h|h
  .exact .inl (H.gi i h j hj)
  .rw[Nat.testBit_two_pow]at h;have:tz cur=i:=by simpa using h
   exact .inr (this▸hj)
 .have hle:r<=Nat.lor r (fmN X σ (tz cur)):=Nat.left_le_or;have hb:=H.rb;have e1:r=bef:=by omega
  obtain⟨p1,p2,p3⟩ :=H.p e1;rw[e,<-e1];refine⟨p1,p2,fun i h1 h2 h3=> ?_⟩;rw[zhK,Bool.or_eq_false_iff]at h2;refine p3 i h1 h2.1 ?_;cases hci:cur.testBit i with
  |false=>rfl
  |true=>
   rcases (zAS hc h0).1 hci with rfl|h
   .have:=h2.2;rw[Nat.testBit_two_pow_self]at this;cases this
   .rw[h]at h3;cases h3
def zSq{X:Mx}{σ:Asg}{rest bef cur g r:Nat}(H:G6 X σ rest bef cur g r)(hc:cur<64)(h0:cur≠0)(hd:Dis (fmN X σ (tz cur)) r):G6 X σ rest bef (Nat.land cur (cur - 1)) g r:=by
 refine⟨H.g64,H.gs,H.g0,H.r64,H.rb,H.rs,H.gi,fun e=> ?_⟩;obtain⟨p1,p2,p3⟩ :=H.p e;refine⟨p1,p2,fun i h1 h2 h3=> ?_⟩;cases hci:cur.testBit i with
 |false=>exact p3 i h1 h2 hci
 |true=>
  rcases (zAS hc h0).1 hci with rfl|h
  .exact hd
  .rw[h]at h3;cases h3
def J6(X:Mx)(σ:Asg)(rest bef:Nat)(h:T Ob)(c cur:Nat)(s:St):Prop:=Rg [(0,.ptr X.M 7 0 0),(1,.f (.i .u64 rest)),(8,.f (.i .u64 bef)),(13,.f (.i .u64 cur))] s/\cur<64/\Sub cur rest/\(∃g r:Nat,s.tm.get 6=some (.f (.i .u64 g))/\s.tm.get 7=some (.f (.i .u64 r))/\G6 X σ rest bef cur g r)/\c<=s.c/\∀id,id<c->s.h.get id=h.get id
def R6(X:Mx)(σ:Asg)(rest bef:Nat)(h:T Ob)(c:Nat)(e:Ex)(s:St):Prop:=e= .exit 6/\J6 X σ rest bef h c 0 s
theorem gr_l6{L:List Rl}{h:T Ob}{c:Nat}{X:Mx}{σ:Asg}(H:MS L h c X σ){rest bef cur:Nat}(hrl:rest<2 ^ X.WP.length){s:St}{K:Ex->St->Prop}
  (hJ:J6 X σ rest bef h c cur s)(kx:∀s,J6 X σ rest bef h c 0 s->K (.exit 6) s):WL pr zyc s K:=by
 have hPl:=H.o.Pl;have hm:=H.m.m;have ho:=H.m.o;have gP:=H.m.P.1;have hpd:(paD X.WP).length=X.WP.length:=by simp[paD]
 have hb:zaQ σ<64:=Z15 (zd6 σ) (Z113 (by decide) H.m.n6);refine zfa (fun k s=>J6 X σ rest bef h c k s) (R6 X σ rest bef h c) ?_ cur _ hJ ?_
 .clear hJ;clear cur;rintro cur s ⟨⟨h0,h1,h8,h13,-⟩,hc64,hsub,⟨g,r,h6,h7,HG⟩,hc,hf⟩
  by_cases hz:cur=0
  .subst hz;unfold zyc zfC ziy;simp only[rU,C.l,C.r,C.b,C.o];simp[rW,h0,h1,h6,h7,h8,h13,zhv];exact⟨rfl,by simp only[Rg];simp[rW,h0,h1,h8,h13],hc64,hsub,⟨g,r,by simp[rW,h6],by simp[rW,h7],HG⟩,by simp only[rG];omega,fun id hid=>by simp[rW];exact hf id hid⟩
  .obtain⟨tm1,tm2⟩ :=zjA hc64 hz;have hti:=zdZ hrl (hsub _ tm1);have hz2:(((cur:Nat):Int)==0)=false:=by simpa using hz
   obtain⟨lb1,lb2⟩ :=zC4 hc64 hz;have hll:=zyR hc64 hz;have hx:X.WP[tz cur]? =some X.WP[tz cur]:=Z0 hti;have hmem:=Z1 hti;generalize X.WP[tz cur]=q at hx hmem;have hP:=H.o.P q hmem;have hm64:=zjo H.m.n6 (p:=q.1) (by rw[H.m.n];exact hP.o);have hfm:fmN X σ (tz cur)=frN σ q.1.m:=by simp[fmN,hx]
   have hf64:fmN X σ (tz cur)<64:=by rw[hfm];exact zlt hm64
   have ban:=zkj hm64 hb;rw[show zcX q.1.m (zaQ σ)=fmN X σ (tz cur)from hfm.symm]at ban;obtain⟨id,ro,e1,e2,e3,e4⟩ :=zd5 gP (n:=tz cur) (by omega);rw[hpd]at e1;have hrow:(paD X.WP)[tz cur]? =some [.f (.i .i64 q.1.r),q.2,.f (.i .u64 q.1.m)]:=by simp[paD,hx]
   have hA:=(Z8.1 hrow).2;have hA6:=zC3 hf64 HG.r64;have hO6:=zm1 HG.r64 hf64;have h26:2 ^ tz cur<64:=by
    have:2 ^ tz cur<=2 ^ 5:=Z113 (by decide) (by omega);omega
   have hO7:=zm1 HG.g64 h26;have hS:=zjT (i:=tz cur) (by omega);have hit:=z1w HG hc64 hz hsub hf64;have miss:=fun hd=>zSq HG hc64 hz hd
   have hsub':Sub (Nat.land cur (cur - 1)) rest:=fun i hi=>hsub i (zos hi)
   have hld:=zyN (a:=fmN X σ (tz cur)) (b:=r);have hrt:=zuB hc64 hz s.h s.c;generalize 2 ^ tz cur=w2 at hS hO7 hit h26;generalize fmN X σ (tz cur)=fm at*;generalize tz cur=ti at*;generalize Nat.land cur (cur - 1)=cur' at*;unfold zyc zfC ziy;simp only[rU,C.l,C.r,C.b,C.o];simp[rW,h0,h1,h6,h7,h8,h13,zhv,hz2];refine zbQ [(0,.ptr X.M 7 0 0),(1,.f (.i .u64 rest)),(8,.f (.i .u64 bef)),(13,.f (.i .u64 cur)),(6,.f (.i .u64 g)),(7,.f (.i .u64 r))] (zjs hrt) (by simp only[rG]) (by simp only[rG]) (by simp only[Rg];simp[rW,h0,h1,h6,h7,h8,h13]) rfl ?_;rintro s1 d1 ⟨rfl,hh,hcc⟩ hc1 k82 ⟨k0,k1,k8,k13,k6,k7,-⟩;refine⟨?_⟩;have hm':s1.h.get X.M=_:=(show s1.h.get X.M=h.get X.M by rw[hh];exact hf X.M (by omega)).trans hm;have e2':s1.h.get id=some (.arr 3 ro (paD X.WP)):=(show s1.h.get id=h.get id by rw[hh];exact hf id e4).trans e2;simp[rW,k0,k1,k6,k7,k8,k13,k82];refine zsw (fun s'=>Rg [(0,.ptr X.M 7 0 0),(1,.f (.i .u64 rest)),(8,.f (.i .u64 bef)),(13,.f (.i .u64 cur)),(6,.f (.i .u64 g)),(7,.f (.i .u64 r)),(14,.f (.i .i64 ti)),(15,.f (.i .u64 fm))] s'/\s'.h=s1.h/\s1.c<=s'.c) (fun K hK=> ?_) ?_
   .refine zbf ?_;simp[rW,k0,k1,k6,k7,k8,k13,k82,hm',e1,hti,e2',hrow,hA,hpd,ban];exact hK _ ⟨by simp only[Rg];simp[rW,k0,k1,k6,k7,k8,k13],by simp only[rG],by simp only[rG];omega⟩
   .rintro s2 ⟨⟨j0,j1,j8,j13,j6,j7,j14,j15,-⟩,hh2,hc2⟩;have hf2:∀id,id<c->s2.h.get id=h.get id:=fun id hid=>by rw[hh2,hh];exact hf id hid
    by_cases hl:Nat.land fm r=0
    .have hd:=miss (hld.1 hl);rw[hl]at hA6;simp[rW,j0,j1,j6,j7,j8,j13,j14,j15,hA6,zhv,lb1,lb2];exact⟨_,hll,by simp only[Rg];simp[rW,j0,j1,j8],by omega,hsub',⟨g,r,by simp[rW,j6],by simp[rW,j7],hd⟩,by simp only[rG];omega,fun id hid=>by simp[rW];exact hf2 id hid⟩
    .have hl2:(((Nat.land fm r:Nat):Int)==0)=false:=by simpa using hl
     generalize Nat.land fm r=w3 at hA6 hl2;simp[rW,j0,j1,j6,j7,j8,j13,j14,j15,hA6,hl2,zhv,lb1,lb2,hS,hO7,hO6];exact⟨_,hll,by simp only[Rg];simp[rW,j0,j1,j8],by omega,hsub',⟨_,_,by simp[rW],by simp[rW],hit⟩,by simp only[rG];omega,fun id hid=>by simp[rW];exact hf2 id hid⟩
 .rintro e s ⟨rfl,hJ⟩;exact kx s hJ
structure zID(X:Mx)(σ:Asg)(rest g r:Nat):Prop where
 gs:Sub g rest
 g0:g.testBit (tz rest)=true
 gi:∀i,g.testBit i=true->Sub (fmN X σ i) r
 pc:∀k∈X.cs,OkC r (frN σ k.m)
 pn:∀q∈X.WN,OkC r (frN σ q.1.m)
 pd:∀i,rest.testBit i=true->g.testBit i=false->Dis (fmN X σ i) r
def GrP(X:Mx)(σ:Asg)(rest:Nat)(h:T Ob)(c:Nat)(d:D)(h':T Ob)(_:Nat):Prop:=(∃g r,d= .f (.i .u64 (g:Nat))/\g<64/\zID X σ rest g r)/\∀id,id<c->h'.get id=h.get id
def Jg0(X:Mx)(σ:Asg)(rest:Nat)(h:T Ob)(c k:Nat)(s:St):Prop:=∃g r:Nat,k=64 - r/\(s.tm.get 0=some (.ptr X.M 7 0 0)/\s.tm.get 1=some (.f (.i .u64 rest))/\s.tm.get 6=some (.f (.i .u64 g))/\s.tm.get 7=some (.f (.i .u64 r)))/\g<64/\Sub g rest/\g.testBit (tz rest)=true/\r<64/\(∀i,g.testBit i=true->Sub (fmN X σ i) r)/\c<=s.c/\∀id,id<c->s.h.get id=h.get id
def Rg0(X:Mx)(σ:Asg)(rest:Nat)(h:T Ob)(c:Nat)(e:Ex)(s:St):Prop:=e= .ret/\∃g r,s.tm.get 4=some (.f (.i .u64 (g:Nat)))/\g<64/\zID X σ rest g r/\∀id,id<c->s.h.get id=h.get id
def gr_l0{L:List Rl}{h:T Ob}{c:Nat}{X:Mx}{σ:Asg}(H:MS L h c X σ){rest:Nat}(hr0:rest≠0)(hrl:rest<2 ^ X.WP.length){k:Nat}{s:St}{K:Ex->St->Prop}(hJ:Jg0 X σ rest h c k s)(hK:∀e s,Rg0 X σ rest h c e s->K e s):WL pr zfC s K:=by
 have hm:=H.m.m;have ho:=H.m.o;have lC:=zd2 H.m.C;have hcl:(cnD X.cs).length=X.cs.length:=by simp[cnD]
 rw[hcl]at lC;have lN:=zd2 H.m.N.1;have hnl:(paD X.WN).length=X.WN.length:=by simp[paD]
 rw[hnl]at lN;have hr64:rest<64:=Z15 hrl (Z113 (by decide) H.o.Pl);refine zfa (fun k s=>Jg0 X σ rest h c k s) (Rg0 X σ rest h c) ?_ k _ hJ hK;clear hJ;clear k;rintro k s ⟨g,bef,rfl,⟨h0,h1,h6,h7⟩,hg,hgs,hg0,hb64,hgi,hc,hf⟩;have hm':s.h.get X.M=_:=(hf X.M (by omega)).trans hm;unfold zfC ziy;simp only[rU,C.l,C.r,C.b,C.o];simp[rW,h0,h1,h6,h7,hm',lC];refine gr_l2 H (rest:= .f (.i .u64 rest)) (g:= .f (.i .u64 g)) (bef:=bef) ⟨by simp only[Rg];simp[rW,h0,h1,h6],⟨by simp[rW],by simp[rW],by simp[rW]⟩,⟨bef,by simp[rW,h7],hb64,Z2 _,fun _ h=>h,fun _=>by simp⟩,by simp only[rG];omega,fun id hid=>by simp[rW];exact hf id hid⟩ ?_;rintro s1 ⟨⟨k0,k1,k6,k8,-⟩,-,⟨r1,k7,a1,a2,a3,a4⟩,hc1,hf1⟩;have hm1:s1.h.get X.M=_:=(hf1 X.M (by omega)).trans hm;rw[Z7]at a4;simp[rW,k0,k1,k6,k7,k8,hm1,lN];refine gr_l4 H (rest:= .f (.i .u64 rest)) (g:= .f (.i .u64 g)) (bef:=bef) ⟨by simp only[Rg];simp[rW,k0,k1,k6,k8],⟨by simp[rW],by simp[rW],by simp[rW]⟩,⟨r1,by simp[rW,k7],a1,a2,a3,fun e=>⟨a4 e,by simp⟩⟩,by simp only[rG];omega,fun id hid=>by simp[rW];exact hf1 id hid⟩ ?_;rintro s2 ⟨⟨j0,j1,j6,j8,-⟩,-,⟨r2,j7,b1,b2,b3,b4⟩,hc2,hf2⟩;rw[Z7]at b4;have ban:=zkj hr64 hg;have han:=zlt (b:=g) hr64;have hbits:=fun i=>zii (i:=i) hr64 hg
 simp[rW,j0,j1,j6,j7,j8,ban];refine gr_l6 H hrl (bef:=bef) (cur:=zcX rest g) ⟨by simp only[Rg];simp[rW,j0,j1,j8],han,fun i hi=> ?_,⟨g,r2,by simp[rW,j6],by simp[rW,j7],⟨hg,hgs,hg0,b1,b2,b3,fun i hi j hj=>b3 j (hgi i hi j hj),fun e=>⟨(b4 e).1,(b4 e).2,fun i h1 h2 h3=> ?_⟩⟩⟩,by simp only[rG];omega,fun id hid=>by simp[rW];exact hf2 id hid⟩ ?_
 .rw[hbits,Z14]at hi;exact hi.1
 .rw[hbits,h1,h2]at h3;cases h3
 rintro s3 ⟨⟨i0,i1,i8,i13,-⟩,-,-,⟨g3,r3,i6,i7,HG⟩,hc3,hf3⟩
 by_cases he:r3=bef
 .obtain⟨p1,p2,p3⟩ :=HG.p he;rw[he]at i7;simp[rW,i0,i1,i6,i7,i8,u_eq];exact⟨rfl,g3,r3,by simp[rW],HG.g64,⟨HG.gs,HG.g0,HG.gi,p1,p2,fun i h1 h2=>p3 i h1 h2 (Nat.zero_testBit i)⟩,fun id hid=>by simp[rW];exact hf3 id hid⟩
 .have hz:(((r3:Nat):Int)==((bef:Nat):Int))=false:=by
   simpa using fun e:((r3:Nat):Int)=((bef:Nat):Int)=>he (by omega)
  have hlt:64 - r3<64 - bef:=by have:=HG.rb;have:=HG.r64;omega
  simp[rW,i0,i1,i6,i7,i8,u_eq,hz];exact⟨_,hlt,g3,r3,rfl,⟨by simp[rW,i0],by simp[rW,i1],by simp[rW,i6],by simp[rW,i7]⟩,HG.g64,HG.gs,HG.g0,HG.r64,HG.gi,by simp only[rG];omega,fun id hid=>by simp[rW];exact hf3 id hid⟩
def z0a{L:List Rl}{h:T Ob}{c:Nat}{X:Mx}{σ:Asg}(H:MS L h c X σ){rest:Nat}(hr0:rest≠0)(hrl:rest<2 ^ X.WP.length):Eff pr 187 [.ptr X.M 7 0 0,.f (.i .u64 rest)] h c (GrP X σ rest h c):=by
 refine zb2 kps fn187 (fun d h' c' ⟨a,_⟩ _ _=>⟨a,fun _ _=>rfl⟩) ?_;have hm:=H.m.m;have ho:=H.m.o;have gP:=H.m.P.1;have hpd:(paD X.WP).length=X.WP.length:=by simp[paD]
 have hr64:rest<64:=Z15 hrl (Z113 (by decide) H.o.Pl);have hb:zaQ σ<64:=Z15 (zd6 σ) (Z113 (by decide) H.m.n6);obtain⟨tm1,tm2⟩ :=zjA hr64 hr0;have hti:=zdZ hrl tm1;have hx:X.WP[tz rest]? =some X.WP[tz rest]:=Z0 hti;have hmem:=Z1 hti;generalize X.WP[tz rest]=q at hx hmem;have hP:=H.o.P q hmem;have hm64:=zjo H.m.n6 (p:=q.1) (by rw[H.m.n];exact hP.o);have hfm:fmN X σ (tz rest)=frN σ q.1.m:=by simp[fmN,hx]
 have hf64:fmN X σ (tz rest)<64:=by rw[hfm];exact zlt hm64
 have ban:=zkj hm64 hb;rw[show zcX q.1.m (zaQ σ)=fmN X σ (tz rest)from hfm.symm]at ban;obtain⟨id,ro,e1,e2,e3,e4⟩ :=zd5 gP (n:=tz rest) (by omega);rw[hpd]at e1;have hrow:(paD X.WP)[tz rest]? =some [.f (.i .i64 q.1.r),q.2,.f (.i .u64 q.1.m)]:=by simp[paD,hx]
 have hA:=(Z8.1 hrow).2;have hS:=zjT (i:=tz rest) (by omega);have h26:2 ^ tz rest<64:=by
  have:2 ^ tz rest<=2 ^ 5:=Z113 (by decide) (by omega);omega
 have hw2:∀i,(2 ^ tz rest).testBit i=true->i=tz rest:=fun i hi=>by
  rw[Nat.testBit_two_pow]at hi;exact (of_decide_eq_true hi).symm
 have hw3:(2 ^ tz rest).testBit (tz rest)=true:=Nat.testBit_two_pow_self;have hfs:∀i,i=tz rest->Sub (fmN X σ i) (fmN X σ (tz rest)):=fun i e=>by subst e;exact fun _ h=>h
 generalize 2 ^ tz rest=w2 at hS h26 hw2 hw3;generalize hfe:fmN X σ (tz rest)=fm at ban hf64 hfs;simp only[ziy,rU];simp[rW,st0,zay];refine zbQ [(0,.ptr X.M 7 0 0),(1,.f (.i .u64 rest))] (zjs (zuB hr64 hr0 h c)) (by simp only[rG]) (by simp only[rG]) (by simp only[Rg];simp[rW]) rfl ?_;rintro s1 d1 ⟨rfl,hh,hcc⟩ hc1 k17 ⟨k0,k1,-⟩;refine⟨?_⟩;have hm':s1.h.get X.M=_:=(show s1.h.get X.M=h.get X.M by rw[hh]).trans hm;have e2':s1.h.get id=some (.arr 3 ro (paD X.WP)):=(show s1.h.get id=h.get id by rw[hh]).trans e2;simp[rW,k0,k1,k17,hS];refine zsw (fun s'=>Rg [(0,.ptr X.M 7 0 0),(1,.f (.i .u64 rest)),(6,.f (.i .u64 w2)),(7,.f (.i .u64 fm))] s'/\s'.h=s1.h/\s1.c<=s'.c) (fun K hK=> ?_) ?_
 .refine zbf ?_;simp[rW,k0,k1,k17,hm',e1,hti,e2',hrow,hA,hpd,ban];exact hK _ ⟨by simp only[Rg];simp[rW,k0,k1],by simp only[rG],by simp only[rG];omega⟩
 .rintro s2 ⟨⟨j0,j1,j6,j7,-⟩,hh2,hc2⟩;simp[rW,j0,j1,j6,j7];refine gr_l0 H hr0 hrl (k:=64 - fm) ⟨w2,fm,rfl,⟨by simp[rW,j0],by simp[rW,j1],by simp[rW,j6],by simp[rW,j7]⟩,h26,fun i hi=>hw2 i hi▸tm1,hw3,hf64,fun i hi=>hfs i (hw2 i hi),by omega,fun id hid=>by rw[hh2,hh]⟩ ?_;rintro e s3 ⟨rfl,g,r,i4,hg,HG,hf⟩;simp[rW,i4,zaU];exact⟨⟨g,r,rfl,hg,HG⟩,hf⟩
def fn124:pr.fn 124=some zpe:=by kernel_rfl
structure Vst(X:Mx)(F:T Ob->Nat->Prop)(A:Nat->Bool->T Ob->Nat->Prop):Prop where
 lt:∀k b h c id,A k b h c->F h id->id<c/\id≠X.M/\id≠X.V
 up:∀k b h c h' c',A k b h c->(∀id,id<c->id≠X.M->id≠X.V->h'.get id=h.get id)->c<=c'->A k b h' c'/\∀id,F h' id->F h id
def Lft(X:Mx)(F:T Ob->Nat->Prop)(h:T Ob)(c:Nat)(h':T Ob):Prop:=(∀id,id<c->id≠X.M->id≠X.V->¬F h id->h'.get id=h.get id)/\∀id,F h' id->F h id\/c<=id
def Lft.refl(X:Mx)(F:T Ob->Nat->Prop)(h:T Ob)(c:Nat):Lft X F h c h:=⟨fun _ _ _ _ _=>rfl,fun _ h=> .inl h⟩
def Lft.tr{X:Mx}{F:T Ob->Nat->Prop}{h h1 h2:T Ob}{c c1:Nat}(a:Lft X F h c h1)(b:Lft X F h1 c1 h2)(hc:c<=c1):Lft X F h c h2:=
 ⟨fun id k1 k2 k3 k4=>(b.1 id (by omega) k2 k3 fun hF=>(a.2 id hF).elim k4 fun h=>by omega).trans (a.1 id k1 k2 k3 k4),fun id k=>(b.2 id k).elim (a.2 id) fun h=> .inr (by omega)⟩
def zCx(L:List Rl)(X:Mx)(F:T Ob->Nat->Prop)(A:Bool->T Ob->Nat->Prop)(τ:Asg)(h:T Ob)(c:Nat)(d:D)(h':T Ob)(c':Nat):Prop:=
 (∃τ',Ext τ τ'/\MS L h' c' X τ')/\(∃b,d= .f (.b b)/\A (!b) h' c')/\Lft X F h c h'
def EtP(L:List Rl)(X:Mx)(F:T Ob->Nat->Prop)(A:Nat->Bool->T Ob->Nat->Prop)(σ:Asg)(n:Nat)(h:T Ob)(c:Nat)(d:D)(h':T Ob)(c':Nat):Prop:=
 MS L h' c' X σ/\(∃b k,d= .f (.b b)/\A k (!b) h' c'/\(b=true->k=n))/\Lft X F h c h'
def zx7:C:=zpe.body.r.r.r.r.l.r.b.o
def Je(L:List Rl)(X:Mx)(F:T Ob->Nat->Prop)(A:Nat->Bool->T Ob->Nat->Prop)(σ:Asg)(q:Pat×D)(r:Rl)(vd pd:D)(h:T Ob)(c P7 n:Nat)(s:St):Prop:=(s.tm.get 0=some (.ptr X.M 7 0 0)/\s.tm.get 2=some (vd)/\s.tm.get 7=some (.ptr P7 3 0 0)/\s.tm.get 8=some (.f (.i .u64 (zaQ σ)))/\s.tm.get 9=some (.f (zdf r.tu))/\s.tm.get 46=some (pd)/\s.tm.get 47=some (.f (.i .i64 r.tu.length))/\s.tm.get 48=some (.f (.i .i64 n))/\s.h.get P7=some (.arr 3 0 [[.f (.i .i64 q.1.r),q.2,.f (.i .u64 q.1.m)]]))/\MS L s.h s.c X σ/\A n false s.h s.c/\c<=s.c/\c<=P7/\P7<s.c/\Lft X F h c s.h/\¬F s.h P7
def Re(L:List Rl)(X:Mx)(F:T Ob->Nat->Prop)(A:Nat->Bool->T Ob->Nat->Prop)(σ:Asg)(n:Nat)(h:T Ob)(c:Nat)(e:Ex)(s:St):Prop:=(e= .exit 0/\MS L s.h s.c X σ/\A n false s.h s.c/\Lft X F h c s.h)\/(e= .ret/\s.tm.get 6=some (.f (.b false))/\MS L s.h s.c X σ/\(∃k,A k true s.h s.c)/\Lft X F h c s.h)
theorem et_l0{L:List Rl}{h:T Ob}{c:Nat}{X:Mx}{σ:Asg}{F:T Ob->Nat->Prop}{A:Nat->Bool->T Ob->Nat->Prop}(hV:Vst X F A)(hcn:zcW L X σ=true){q:Pat×D}(hq:q∈X.WP){r:Rl}(hr:L[q.1.r]? =some r){f:Nat}{caps:List D}{pd:D}{P7:Nat}
  (hpl:zkJ h X.S X.M pd r.tu.length)(hMc:X.V<c)
  (hv:∀(k:Nat) (t:List Int×List Vse.F) (τ:Asg) (h1:T Ob) (c1:Nat),r.tu[k]? =some t->zcQ L X σ q.1 t.1=some τ->MS L h1 c1 X τ->A k false h1 c1->c<=c1->Eff pr f caps h1 c1 (zCx L X F (A (k+1)) τ h1 c1))
  (hs:∀(k:Nat) (t:List Int×List Vse.F) (h1:T Ob) (c1:Nat),r.tu[k]? =some t->zcQ L X σ q.1 t.1=none->A k false h1 c1->A (k+1) false h1 c1)
  (hFM:∀id,F h id->id+1<X.S\/X.M<=id)
  {s:St}{K:Ex->St->Prop}(hJ:Je L X F A σ q r (.fn f [] caps) pd h c P7 0 s)(hK:∀e s,Re L X F A σ r.tu.length h c e s->K e s):WL pr zx7 s K:=by
 refine zfa (fun k s=>∃n:Nat,n<=r.tu.length/\k=r.tu.length - n/\Je L X F A σ q r (.fn f [] caps) pd h c P7 n s) (Re L X F A σ r.tu.length h c) ?_ r.tu.length _ ⟨0,Z61 _,rfl,hJ⟩ hK;clear hJ;rintro k s ⟨n,hn,rfl,⟨h0,h2,h7,h8,h9,h46,h47,h48,g7⟩,HM,hA,hc,hP1,hP2,hL,hnF⟩;have ho:=HM.m.o;have hRO:=HM.o.L r (Z39 hr);have hP:=HM.o.P q hq;have h3:=hRO.n;have hw:=zaH n (by omega)
 by_cases hlt:n<r.tu.length
 .have hx:r.tu[n]? =some r.tu[n]:=Z0 hlt;have hmem:=Z1 hlt;generalize r.tu[n]=t at hx hmem;have hxA:=(Z8.1 hx).2;have htl:t.1.length=q.1.ts.length:=hP.a r hr t hmem;obtain⟨ip,i1,i2⟩ :=hpl.ia;have hip:=i2 (by omega);have hipg:s.h.get ip=some (.arr 1 0 (ziz (List.range r.tu.length))):=by
   rw[hL.1 ip (by omega) (by omega) (by have:=HM.m.o;omega) fun hF=>by have:=hFM ip hF;omega];exact hip.1
  have hrow:=zrt r.tu.length n hlt;have hidx:=i1 n hlt;have hm:=HM.m.m;have ho:=HM.m.o;unfold zx7 zpe;simp only[rU,C.l,C.r,C.b,C.o];simp[rW,h0,h2,h7,h8,h9,h46,h47,h48,hlt,hidx,hipg,hrow];refine zfJ ?_;simp[rW,h0,h2,h7,h8,h9,h46,h47,h48,g7,zIs,hx,hxA,hlt,tuF];obtain⟨mrow,hmr⟩ :∃mrow,mrow=Ob.arr 7 0 [[.ptr X.S 2 0 0,.f (zak X.ns),X.dP,X.dN,X.dC,.sl X.V 0 X.ns.length 3 X.ns.length true,.f (.i .u64 (zaQ σ))]]:=⟨_,rfl⟩
  have key:∀(h3:T Ob) (c3 c4:Nat) (τ':Asg) (b:Bool),MS L h3 c3 X τ'->Ext σ τ'->A (n+1) (!b) h3 c3->Lft X F h c h3->c<=c3->¬F h3 P7->h3.get P7=some (.arr 3 0 [[.f (.i .i64 q.1.r),q.2,.f (.i .u64 q.1.m)]])->c3<=c4->
    MS L (h3.set X.M mrow) c4 X σ/\A (n+1) (!b) (h3.set X.M mrow) c4/\Lft X F h c (h3.set X.M mrow)/\¬F (h3.set X.M mrow) P7/\(h3.set X.M mrow).get P7=some (.arr 3 0 [[.f (.i .i64 q.1.r),q.2,.f (.i .u64 q.1.m)]]):=by
   intro h3 c3 c4 τ' b HT he hAb hL3 hc3 hn3 hp3 hc4;have ho3:=HT.m.o;have hup:=hV.up _ _ _ _ (h3.set X.M mrow) c4 hAb (fun id _ k2 _=>by rw[TG,Z49 k2]) hc4;refine⟨⟨HT.m.back he (by rw[TG,Z51 rfl,hmr]) (fun id _ h2=>by rw[TG,Z49 h2]) hc4,HT.s.up fun id _ hid=>by rw[TG,Z49 (by omega)],HT.o⟩,hup.1,⟨fun id k1 k2 k3 k4=>by rw[TG,Z49 k2];exact hL3.1 id k1 k2 k3 k4,fun id hF=>hL3.2 id (hup.2 id hF)⟩,fun hF=>hn3 (hup.2 _ hF),by rw[TG,Z49 (by omega)];exact hp3⟩
  refine zmb [(0,.ptr X.M 7 0 0),(2,.fn f [] caps),(7,.ptr P7 3 0 0),(8,.f (.i .u64 (zaQ σ))),(9,.f (zdf r.tu)),(46,pd),(47,.f (.i .i64 r.tu.length)),(48,.f (.i .i64 n))] (z0c (c:=s.c+1+1+1+1+1+1+1) (HM.up (fun _ _=>rfl) (by omega)) hcn hq htl) (by simp only[rG]) (by simp only[rG]) (by simp only[Rg];simp[rW,h0,h2,h7,h8,h9,h46,h47,h48,hidx]) rfl ?_;rintro s2 d1 c' ⟨τ,HT,hres⟩ hc1 hc2 j59 ⟨j0,j2,j7,j8,j9,j46,j47,j48,-⟩;have hT2:MS L s2.h s2.c X τ:=HT.m.up (fun _ _=>rfl) hc2;have hup:=hV.up _ _ _ _ s2.h s2.c hA (fun id h1 k2 k3=>HT.f id (by omega) k2 k3) (by omega);have hg7:s2.h.get P7=_:=(HT.f P7 (by omega) (by omega) (by omega)).trans g7;have hL2:Lft X F h c s2.h:=hL.tr ⟨fun id k1 k2 k3 _=>HT.f id (by omega) k2 k3,fun id hF=> .inl (hup.2 id hF)⟩ (Z2 c);refine⟨by simp[rW],⟨?_⟩⟩;have hn2:¬F s2.h P7:=fun hF=>hnF (hup.2 _ hF)
  rcases hres with⟨rfl,hb⟩ |⟨rfl,hb⟩
  .simp[rW,j0,j2,j7,j8,j9,j46,j47,j48,j59];have hA3:=(hV.up _ _ _ _ s2.h (s2.c+1+1+1) hup.1 (fun _ _ _ _=>rfl) (by omega)).1;refine zmb [(0,.ptr X.M 7 0 0),(2,.fn f [] caps),(7,.ptr P7 3 0 0),(8,.f (.i .u64 (zaQ σ))),(9,.f (zdf r.tu)),(46,pd),(47,.f (.i .i64 r.tu.length)),(48,.f (.i .i64 n)),(61,.f (.b false))] (hv n t τ s2.h (s2.c+1+1+1) hx hb (hT2.up (fun _ _=>rfl) (by omega)) hA3 (by omega)) (by simp only[rG]) (by simp only[rG]) (by simp only[Rg];simp[rW,j0,j2,j7,j8,j9,j46,j47,j48]) rfl ?_;rintro s3 d3 c3 ⟨⟨τ',he',HM'⟩,⟨b,rfl,hAb⟩,hL'⟩ hc3 hc3' i63 ⟨i0,i2,i7,i8,i9,i46,i47,i48,i61,-⟩;have hm3:=HM'.m.m;have hp3:s3.h.get P7=_:=(hL'.1 P7 (by omega) (by omega) (by omega) hn2).trans hg7;have hn3:¬F s3.h P7:=fun hF=>(hL'.2 _ hF).elim hn2 fun h=>by omega
   have K3:=fun c4=>key s3.h c3 c4 τ' b HM' (HT.e.tr he') hAb (hL2.tr hL' (by omega)) (by omega) hn3 hp3
   rw[hmr]at K3;have n4:X.M<s3.c+1+1:=by omega
   refine⟨by simp[rW],⟨?_⟩⟩;cases b with
   |true=>
    simp[rW,i0,i2,i7,i8,i9,i46,i47,i48,i61,i63,hm3,n4,hw];obtain⟨a1,a2,a3,a4,a5⟩ :=K3 (s3.c+1+1) (by omega);exact⟨r.tu.length - (n+1),by omega,n+1,by omega,rfl,⟨⟨by simp[rW,i0],by simp[rW,i2],by simp[rW,i7],by simp[rW,i8],by simp[rW,i9],by simp[rW,i46],by simp[rW,i47],by simp[rW,hw],by simp only[rG];exact a5⟩,by simp only[rG];exact a1,by simp only[rG];exact a2,by simp only[rG];omega,hP1,by simp only[rG];omega,by simp only[rG];exact a3,by simp only[rG];exact a4⟩⟩
   |false=>
    simp[rW,i0,i2,i7,i8,i9,i46,i47,i48,i61,i63,hm3,n4,hw];obtain⟨a1,a2,a3,a4,a5⟩ :=K3 (s3.c+1+1) (by omega);exact .inr ⟨rfl,by simp[rW],by simp only[rG];exact a1,⟨n+1,by simp only[rG];exact a2⟩,by simp only[rG];exact a3⟩
  .simp[rW,j0,j2,j7,j8,j9,j46,j47,j48,j59,hT2.m.m,hw];obtain⟨a1,a2,a3,a4,a5⟩ :=key s2.h s2.c (s2.c+1+1+1+1) τ true hT2 HT.e (hs n t _ _ hx hb hup.1) hL2 (by omega) hn2 hg7 (by omega);rw[hmr]at a1 a2 a3 a4 a5;exact⟨by omega,r.tu.length - (n+1),by omega,n+1,by omega,rfl,⟨⟨by simp[rW,j0],by simp[rW,j2],by simp[rW,j7],by simp[rW,j8],by simp[rW,j9],by simp[rW,j46],by simp[rW,j47],by simp[rW,hw],by simp only[rG];exact a5⟩,by simp only[rG];exact a1,by simp only[rG];exact a2,by simp only[rG];omega,hP1,by simp only[rG];omega,by simp only[rG];exact a3,by simp only[rG];exact a4⟩⟩
 .have hen:n=r.tu.length:=by omega
  subst hen;unfold zx7 zpe;simp only[rU,C.l,C.r,C.b,C.o];simp[rW,h0,h2,h7,h8,h9,h46,h47,h48];exact .inl ⟨rfl,HM.up (fun _ _=>rfl) (by simp only[rG];omega),hA,hL⟩
theorem zHc{L:List Rl}{h:T Ob}{c:Nat}{X:Mx}{σ:Asg}(H:MS L h c X σ)(hcn:zcW L X σ=true){F:T Ob->Nat->Prop}{A:Nat->Bool->T Ob->Nat->Prop}(hV:Vst X F A){i:Nat}{q:Pat×D}(hi:X.WP[i]? =some q){r:Rl}(hr:L[q.1.r]? =some r){f:Nat}{caps:List D}
  (hA0:A 0 false h c)(hclo:∀k b h' c',A k b h' c'->(∀id,id<c->h'.get id=h.get id)->A k b h c)
  (hv:∀(k:Nat) (t:List Int×List Vse.F) (τ:Asg) (h1:T Ob) (c1:Nat),r.tu[k]? =some t->zcQ L X σ q.1 t.1=some τ->MS L h1 c1 X τ->A k false h1 c1->c<=c1->Eff pr f caps h1 c1 (zCx L X F (A (k+1)) τ h1 c1))
  (hs:∀(k:Nat) (t:List Int×List Vse.F) (h1:T Ob) (c1:Nat),r.tu[k]? =some t->zcQ L X σ q.1 t.1=none->A k false h1 c1->A (k+1) false h1 c1)
  (hFM:∀id,F h id->id+1<X.S\/X.M<=id):Eff pr 124 [.ptr X.M 7 0 0,.f (.i .i64 i),.fn f [] caps] h c (EtP L X F A σ r.tu.length h c):=by
 refine zb2 kps fn124 (fun d h' c' ⟨_,⟨b,k,e1,e2,e3⟩,_⟩ _ hf=>⟨H,⟨b,k,e1,hclo _ _ _ _ e2 hf,e3⟩,Lft.refl _ _ _ _⟩) ?_;have hq:q∈X.WP:=Z39 hi;have hil:i<X.WP.length:=(Z8.1 hi).1;have hm:=H.m.m;have ho:=H.m.o;have gP:=H.m.P.1;have hpd:(paD X.WP).length=X.WP.length:=by simp[paD]
 obtain⟨id,ro,e1,e2,e3,e4⟩ :=zd5 gP (n:=i) (by omega);rw[hpd]at e1;have hrow:(paD X.WP)[i]? =some [.f (.i .i64 q.1.r),q.2,.f (.i .u64 q.1.m)]:=by simp[paD,hi]
 have hA:=(Z8.1 hrow).2;have hqc:q.2.cells=some [q.2]:=zbU (H.m.P.2 q hq);obtain⟨⟨PR,W,a1,a2,a3,a4,a5⟩,hl⟩ :=H.s;obtain⟨pd,b1,b2⟩ :=a5 q.1.r r hr;have hiL:q.1.r<L.length:=(Z8.1 hr).1;have hprow:(W.map fun d=>[d])[q.1.r]? =some [pd]:=by rw[Z36,b1];rfl
 have hLA:=(Z8.1 hr).2;have hB:=(Z8.1 b1).2;have lpd:=b2.len;have n1:¬id=c:=by omega
 have n2:¬X.M=c:=by omega
 have n3:¬X.S=c:=by omega
 have n4:¬PR=c:=by omega
 simp only[zpe,rU];simp[rW,st0,zay,hm,e1,hil,e2,hrow,hA,hpd,hqc,n1,n2];refine zsw (fun s'=>Rg [(0,.ptr X.M 7 0 0),(2,.fn f [] caps),(7,.ptr c 3 0 0),(8,.f (.i .u64 (zaQ σ))),(9,.f (zdf r.tu))] s'/\s'.h=(h.set c (.arr 3 0 [[.f (.i .i64 0),.f .nils,.f (.i .u64 0)]])).set c (.arr 3 0 [[.f (.i .i64 q.1.r),q.2,.f (.i .u64 q.1.m)]])/\c+1<=s'.c) (fun K hK=> ?_) ?_
 .refine zbf ?_;simp[rW,hm,n2,n3,a1,znF,hr,hLA,hiL,rlE];exact hK _ ⟨by simp only[Rg];simp[rW],by simp only[rG],by simp only[rG];omega⟩
 rintro s1 ⟨⟨k0,k2,k7,k8,k9,-⟩,hh,hc1⟩;have f1:∀id,id≠c->s1.h.get id=h.get id:=fun id hne=>by rw[hh,TG,Z49 hne,TG,Z49 hne]
 have g7:s1.h.get c=some (.arr 3 0 [[.f (.i .i64 q.1.r),q.2,.f (.i .u64 q.1.m)]]):=by rw[hh,TG,Z51 rfl]
 have m1:=(f1 X.M n2).trans hm;have s1':=(f1 X.S n3).trans a1;have p1:=(f1 PR n4).trans a2;simp[rW,k0,k2,k7,k8,k9];refine zsw (fun s'=>Rg [(0,.ptr X.M 7 0 0),(2,.fn f [] caps),(7,.ptr c 3 0 0),(8,.f (.i .u64 (zaQ σ))),(9,.f (zdf r.tu)),(46,pd),(47,.f (.i .i64 r.tu.length)),(48,.f (.i .i64 0))] s'/\s'.h=s1.h/\s1.c<=s'.c) (fun K hK=> ?_) ?_
 .refine zbf ?_;simp[rW,k0,k2,k7,k8,k9,m1,s1',p1,g7,hprow,hiL,a4,hB,lpd];exact hK _ ⟨by simp only[Rg];simp[rW,k0,k2,k7,k8,k9],by simp only[rG],by simp only[rG];omega⟩
 rintro s2 ⟨⟨j0,j2,j7,j8,j9,j46,j47,j48,-⟩,hh2,hc2⟩;have f2:∀id,id≠c->s2.h.get id=h.get id:=fun id hne=>by rw[hh2];exact f1 id hne
 have hup:=hV.up _ _ _ _ s2.h s2.c hA0 (fun id h1 _ _=>f2 id (by omega)) (by omega);simp[rW,j0,j2,j7,j8,j9,j46,j47,j48];refine et_l0 hV hcn hq hr b2 ho.2.2 hv hs hFM ⟨⟨by simp[rW,j0],by simp[rW,j2],by simp[rW,j7],by simp[rW,j8],by simp[rW,j9],by simp[rW,j46],by simp[rW,j47],by simp[rW,j48],by rw[hh2];exact g7⟩,H.up (fun id hid=>f2 id (by omega)) (by omega),hup.1,by omega,Z2 _,by omega,⟨fun id k1 _ _ _=>f2 id (by omega),fun id hF=> .inl (hup.2 id hF)⟩,fun hF=>by have:=hV.lt _ _ _ _ _ hA0 (hup.2 _ hF);omega⟩ ?_;rintro e s (⟨rfl,HM,hAn,hL⟩ |⟨rfl,h6,HM,⟨k,hAk⟩,hL⟩)
 .simp[rW,zaU];exact⟨HM.up (fun _ _=>rfl) (by first|(simp only[rG];omega)|omega),⟨true,r.tu.length,rfl,hAn,fun _=>rfl⟩,hL⟩
 .simp[rW,h6,zaU];exact⟨HM,⟨false,k,rfl,hAk,fun h=>by cases h⟩,hL⟩
end Go.Proofs.YthcehnaehljnfaaGreatDoor
end
