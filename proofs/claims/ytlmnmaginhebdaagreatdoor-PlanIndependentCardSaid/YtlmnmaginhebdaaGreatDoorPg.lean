/- The program: whether two atoms are independent. -/
import Derived.Test.YtlmnmaginhebdaaGreatDoorPf
import Derived.KernelRfl
import Derived.IntWalk
import Derived.Test.YtlmnmaginhebdaaGreatDoorPe
set_option linter.all false
set_option maxRecDepth 100000
set_option maxHeartbeats 4000000
section
namespace Go.Proofs.YtlmnmaginhebdaaGreatDoor
open Go Go.Vse Go.Vse.Sm
def fn19:pr.fn 19=some g19:=by kernel_rfl
def fn17:pr.fn 17=some g17:=by kernel_rfl
def fn36:pr.fn 36=some g36:=by kernel_rfl
def fn6:pr.fn 6=some g6:=by kernel_rfl
theorem ro36(l:List Nat)(p:Nat->Bool)(hl:l.length<100000){h:T Ob}{c g:Nat}{fv:D}{cap:List D}(hfv:zfu fv=some (g,[],cap))(hcl:∀n (hn:n<l.length),RO pr g (.f (.i .i64 (l[n]:Nat))::cap) h c (.f (.b (p l[n])))):
  RO pr 36 [.f (zg4 l),fv] h c (.f (.i .i64 (ixP l p))):=by
 refine zqP zqG fn36 rfl ?_;simp only[g36,rU];simp -implicitDefEqProofs [rW,st0,zaF,zJC];refine zDb l p (fun n s=>s.tm.get 0=some (.f (zg4 l))/\s.tm.get 1=some (fv)/\s.tm.get 7=some (.f (.i .i64 l.length))/\s.tm.get 8=some (.f (.i .i64 n))/\s.h=h/\s.c=c/\s.lw=c) (fun x s=>x= .exit 0/\s.lw=c) (fun n y s=>y= .ret/\s.tm.get 4=some (.f (.i .i64 n))/\s.lw=c) ?_ ?_ _ ?_ ?_ ?_
 .rintro n s hn ⟨h0,h1,h7,h8,eh,ec,el⟩;have hw:=zcM n (by omega);have hp:=hcl n hn;have hx:l[n]? =some l[n]:=Z0 hn;generalize hA:l[n]=A at hp hx|-;simp -implicitDefEqProofs [rW,h0,h1,h7,h8,hn,zWX,hx,hA,hfv];refine zoC (d:= .f (.b (p A))) ?_ ?_ ?_
  .simp only[rG];rw[eh,ec];exact hp
  .simp only[rG];omega
  .intro mx;cases hb:p A with
   |true=>simp -implicitDefEqProofs [rW,h0,h1,h7,h8,el]
   |false=>simp -implicitDefEqProofs [rW,h0,h1,h7,h8,hw,eh,ec,el]
 .rintro s ⟨h0,h1,h7,h8,eh,ec,el⟩;simp -implicitDefEqProofs [rW,h0,h1,h7,h8,el]
 .simp -implicitDefEqProofs [rW,st0,zaF]
 .rintro h z s ⟨rfl,el⟩;rw[zwB h];simp -implicitDefEqProofs [rW,zid,el]
 .rintro n hn hp hm z s ⟨rfl,h4,el⟩;rw[zyz hn hp hm];simp -implicitDefEqProofs [rW,h4,zid,el]
theorem ro17(l:List Nat)(p:Nat->Bool)(hl:l.length<100000){h:T Ob}{c g:Nat}{fv:D}{cap:List D}(hfv:zfu fv=some (g,[],cap))(hcl:∀n (hn:n<l.length),RO pr g (.f (.i .i64 (l[n]:Nat))::cap) h c (.f (.b (p l[n])))):
  RO pr 17 [.f (zg4 l),fv] h c (.f (.b (l.any p))):=by
 refine zqP zqG fn17 rfl ?_;simp only[g17,rU];rw[<-zyy l p];simp -implicitDefEqProofs [rW,st0,zaF];refine zoC (d:= .f (.i .i64 (ixP l p))) ?_ ?_ ?_
 .simp only[rG];exact ro36 l p hl hfv hcl
 .simp only[rG];omega
 .intro mx;simp -implicitDefEqProofs [rW,zid]
def zic(l:List Str):(D.f (zd8 l)).cells=some [.f (zd8 l)]:=zfC _ _
def atD(a:Atm):List D:=[.f (.s a.r),.f (.b a.neg),.f (zp6 a.ts)]
theorem ro19(a b:CQ)(x y:Atm)(ps:List Str)(ha:CqG a)(hb:CqG b)(hx:zdo x)(hy:zdo y)(hl:ps.length<1000000)(k:Nat)(hk:k<x.ts.length)(hk2:k<y.ts.length){h:T Ob}{c A X B Y P:Nat}
  (gA:h.get A=some (.arr 2 0 [[.f (zjD a),.f (zhH a)]]))(gX:h.get X=some (.arr 3 0 [atD x]))(gB:h.get B=some (.arr 2 0 [[.f (zjD b),.f (zhH b)]]))(gY:h.get Y=some (.arr 3 0 [atD y]))(gP:h.get P=some (.arr 1 0 [[.f (zd8 ps)]])):
  RO pr 19 [.f (.i .i64 k),.ptr A 2 0 0,.ptr X 3 0 0,.ptr B 2 0 0,.ptr Y 3 0 0,.ptr P 1 0 0] h c (.f (.b (zqH a x b y ps k))):=by
 refine zqP zqG fn19 rfl ?_;simp only[g19,rU];have hxk:x.ts[k]? =some x.ts[k]:=Z0 hk;have hyk:y.ts[k]? =some y.ts[k]:=Z0 hk2;have hxo:=hx.1 _ (Z1 hk);have hyo:=hy.1 _ (Z1 hk2);have e:zqH a x b y ps k=dif a x.ts[k] b y.ts[k] ps:=by unfold zqH;rw[hxk,hyk]
 rw[e];generalize hU:x.ts[k]=u at hxk hxo|-;generalize hV:y.ts[k]=v at hyk hyo|-;have q:=fun f=>zal (k:=f) (ans20 a b u v ps ha hb hxo hyo hl)
 simp only[cqE,tmE]at q;simp only[atD]at gX gY;simp -implicitDefEqProofs [rW,st0,zaF];refine zaV ?_;simp -implicitDefEqProofs [rW,gA,gX,gB,gY,gP,zii,hxk,hyk,hU,hV,tmE,zd5,zd6,zdn,q,zid]
def zaan(l:List Nat):(zg4 l).d= .f (zg4 l):=zfU ..
def zNs(s:Sch):Prop:=s.co.length<1000/\Ans pr 18 [.ag (zp0 s)] (zg4 (zkI s))
def ans6(s:Sch)(hs:zNs s)(a b:CQ)(i j:Int)(ps:List Str)(ha:CqG a)(hb:CqG b)(hl:ps.length<1000000):Ans pr 6 [.ag (zp0 s),.ag (cqF a),.i .i64 i,.ag (cqF b),.i .i64 j,zd8 ps] (.b (ind s a i b j ps)):=by
 refine zex fn6 ?_;simp only[g6,rU];obtain⟨hcl,h22⟩ :=hs;simp only[zp0,cqE]at h22|-;have q22:=fun f=>zal (k:=f) h22
 by_cases hi0:i<0
 .have e:ind s a i b j ps=false:=by unfold ind;rw[Z49 (by omega)]
  rw[e];simp -implicitDefEqProofs [rW,st0,zaF,zhJ,zd5,zd6,zdn,zic,hi0]
 by_cases hi1:(a.as.length:Int)<=i
 .have e:ind s a i b j ps=false:=by unfold ind;rw[Z49 (by omega)]
  rw[e];simp -implicitDefEqProofs [rW,st0,zaF,zhJ,zd5,zd6,zdn,zic,hi0,hi1,zdQ]
 by_cases hj0:j<0
 .have e:ind s a i b j ps=false:=by unfold ind;rw[Z49 (by omega)]
  rw[e];simp -implicitDefEqProofs [rW,st0,zaF,zhJ,zd5,zd6,zdn,zic,hi0,hi1,hj0,zdQ]
 by_cases hj1:(b.as.length:Int)<=j
 .have e:ind s a i b j ps=false:=by unfold ind;rw[Z49 (by omega)]
  rw[e];simp -implicitDefEqProofs [rW,st0,zaF,zhJ,zd5,zd6,zdn,zic,hi0,hi1,hj0,hj1,zdQ]
 obtain⟨n,rfl⟩ :∃n:Nat,i=n:=⟨i.toNat,by omega⟩
 obtain⟨m,rfl⟩ :∃m:Nat,j=m:=⟨j.toNat,by omega⟩
 have hn:n<a.as.length:=by omega
 have hm:m<b.as.length:=by omega
 have hxn:a.as[n]? =some a.as[n]:=Z0 hn;have hym:b.as[m]? =some b.as[m]:=Z0 hm;have hxo:=ha.toCqSm.toCqOk.as _ (Z1 hn);have hyo:=hb.toCqSm.toCqOk.as _ (Z1 hm);have e:ind s a n b m ps=zD1 s a a.as[n] b b.as[m] ps:=by
  unfold ind;rw[Z51 (by omega)];simp only[Int.toNat_natCast,hxn,hym]
 rw[e];generalize hX:a.as[n]=x at hxn hxo|-;generalize hY:b.as[m]=y at hym hyo|-;have hnn:¬(n:Int)<0:=by omega
 have hmm:¬(m:Int)<0:=by omega
 have hn1:¬(a.as.length:Int)<=n:=by omega
 have hm1:¬(b.as.length:Int)<=m:=by omega
 have hn2:¬a.as.length<=n:=by omega
 have hm2:¬b.as.length<=m:=by omega
 obtain⟨nm,ce,co⟩ :=s;simp only at hcl h22 q22|-;unfold zD1
 by_cases h1:ce=true
 .subst h1;simp only[true_or,Z60];simp -implicitDefEqProofs [rW,st0,zaF,zhJ,zd5,zd6,zdn,zic,hnn,hmm,hn1,hm1,hn2,hm2,zdQ];refine zaV ?_;simp -implicitDefEqProofs [rW,st0,zaF,hn,hm,zee,hxn,hX,hym,hY,atE,zgJ,zdQ]
 obtain rfl:ce=false:=by simpa using h1
 by_cases h2:x.r=nm
 case neg=>
  have e2:(x.r != nm)=true:=by simp[h2]
  rw[Z51 (.inr (.inl h2))];simp -implicitDefEqProofs [rW,st0,zaF,zhJ,zd5,zd6,zdn,zic,hnn,hmm,hn1,hm1,hn2,hm2,zdQ];refine zaV ?_;simp -implicitDefEqProofs [rW,st0,zaF,hn,hm,zee,hxn,hX,hym,hY,atE,zgJ,zdQ,h2,e2]
 by_cases h3:y.r=nm
 case neg=>
  have e3:(y.r != nm)=true:=by simp[h3]
  rw[Z51 (.inr (.inr h3))];simp -implicitDefEqProofs [rW,st0,zaF,zhJ,zd5,zd6,zdn,zic,hnn,hmm,hn1,hm1,hn2,hm2,zdQ];refine zaV ?_;simp -implicitDefEqProofs [rW,st0,zaF,hn,hm,zee,hxn,hX,hym,hY,atE,zgJ,zdQ,h2,h3,e3]
 rw[Z49 (by simp[h2,h3])]
 by_cases h4:x.ts.length=co.length
 case neg=>
  have e4:¬(x.ts.length:Int)=co.length:=by omega
  rw[Z51 (.inl h4)];simp -implicitDefEqProofs [rW,st0,zaF,zhJ,zd5,zd6,zdn,zic,hnn,hmm,hn1,hm1,hn2,hm2,zdQ];refine zaV ?_;simp -implicitDefEqProofs [rW,st0,zaF,hn,hm,zee,hxn,hX,hym,hY,atE,zgJ,zfx,zri,zdQ,h2,h3,e4]
 by_cases h5:y.ts.length=co.length
 case neg=>
  have e5:¬(y.ts.length:Int)=co.length:=by omega
  rw[Z51 (.inr h5)];simp -implicitDefEqProofs [rW,st0,zaF,zhJ,zd5,zd6,zdn,zic,hnn,hmm,hn1,hm1,hn2,hm2,zdQ];refine zaV ?_;simp -implicitDefEqProofs [rW,st0,zaF,hn,hm,zee,hxn,hX,hym,hY,atE,zgJ,zfx,zri,zdQ,h2,h3,h4,e5]
 rw[Z49 (by simp[h4,h5]),<-zW5 ⟨nm,false,co⟩];simp -implicitDefEqProofs [rW,st0,zaF,zhJ,zd5,zd6,zdn,zic,hnn,hmm,hn1,hm1,hn2,hm2,zdQ];refine zaV ?_;simp -implicitDefEqProofs [rW,st0,zaF,hn,hm,zee,hxn,hX,hym,hY,atE,zgJ,zfx,zri,zdQ,h2,h3,h4,h5,q22,zaan];refine zoC (d:= .f (.b ((zkI ⟨nm,false,co⟩).any fun k=>zqH a x b y ps k))) ?_ ?_ ?_
 .simp only[rG];refine ro17 _ _ (by have:=zKb ⟨nm,false,co⟩;simp only at this;omega) rfl fun k hk=> ?_
  have hlt:=zW4 _ _ (Z1 hk);simp only at hlt;refine ro19 a b x y ps ha hb hxo hyo hl _ (by omega) (by omega) ?_ ?_ ?_ ?_ ?_
  all_goals simp[TG,atD]
  all_goals first|exact h2.symm|exact h3.symm
 .simp only[rG]
  repeat refine Z3 (zi2 _ _).1 ?_
  omega
 .intro mx;simp -implicitDefEqProofs [rW,]
def sR:Sch:=⟨[82],false,[([97],1,false),([98],1,false)]⟩
def sS:Sch:=⟨[83],false,[([97],1,false)]⟩
def sK:Sch:=⟨[75],false,[([107],1,true),([118],1,false)]⟩
def sC:Sch:=⟨[67],true,[([97],1,false),([98],1,false)]⟩
def zoz:List Sch:=[sR,sS,sK,sC]
def okR0:Ans pr 18 [.ag (zp0 sR)] (zg4 (zkI sR)):=zas (n:=1000) (zay pr) (by kernel_rfl)
def okS0:Ans pr 18 [.ag (zp0 sS)] (zg4 (zkI sS)):=zas (n:=1000) (zay pr) (by kernel_rfl)
def okK0:Ans pr 18 [.ag (zp0 sK)] (zg4 (zkI sK)):=zas (n:=1000) (zay pr) (by kernel_rfl)
def okC0:Ans pr 18 [.ag (zp0 sC)] (zg4 (zkI sC)):=zas (n:=1000) (zay pr) (by kernel_rfl)
def zaaV:∀s∈zoz,zNs s:=by
 intro s hs;simp only[zoz,Z5,Z164,or_false]at hs;rcases hs with rfl|rfl|rfl|rfl
 .exact⟨by decide,okR0⟩
 .exact⟨by decide,okS0⟩
 .exact⟨by decide,okK0⟩
 .exact⟨by decide,okC0⟩
def zuu(i:Nat)(r:Str):Nat->List Trm->List (Nat×Nat×Str×Int)
 |_,[]=>[]
 |k,.cst m::l=>(i,k,r,m)::zuu i r (k+1) l
 |k,.var _::l=>zuu i r (k+1) l
def zC0:Nat->List Atm->List (Nat×Nat×Str×Int)
 |_,[]=>[]
 |i,a::l=>zuu i a.r 0 a.ts++zC0 (i+1) l
theorem zrn(i:Nat)(r:Str)(m:Int):∀(l:List Trm) (k0 k:Nat),l[k]? =some (.cst m)->(i,k0+k,r,m)∈zuu i r k0 l
 |[],_,_,h=>by simp at h
 | .cst n::l,k0,0,h=>by
  have:n=m:=by simpa using h
  subst this;simp[zuu]
 | .var _::l,k0,0,h=>by simp at h
 | .cst n::l,k0,k+1,h=>by
  have:=zrn i r m l (k0+1) k (by simpa using h);rw[show k0+(k+1)=k0+1+k by omega];exact Z40 _ this
 | .var _::l,k0,k+1,h=>by
  have:=zrn i r m l (k0+1) k (by simpa using h);rw[show k0+(k+1)=k0+1+k by omega];exact this
theorem zrm(m:Int)(k:Nat):∀(l:List Atm) (i0 i:Nat) (x:Atm),l[i]? =some x->x.ts[k]? =some (.cst m)->(i0+i,k,x.r,m)∈zC0 i0 l
 |[],_,_,_,h,_=>by simp at h
 |a::l,i0,0,x,h,h2=>by
  have:a=x:=by simpa using h
  subst this;have:=zrn i0 a.r m a.ts 0 k h2;rw[Z25]at this;exact Z102 _ this
 |a::l,i0,i+1,x,h,h2=>by
  have:=zrm m k l (i0+1) i x (by simpa using h) h2;rw[show i0+(i+1)=i0+1+i by omega];exact Z96 _ this
def Six(c:CQ)(i:Nat)(m:Int):Prop:=(m=1\/m=2\/m=3)/\((c=cqA m/\i=0)\/(c=cqB m/\i=1))
def Pq(c:CQ):Prop:=(∀k∈c.cs,k.op=2\/k.op=3->isV k.l=true/\isV k.r=true)/\∀t∈zC0 0 c.as,(t.2.2.1=[82]/\t.2.1=1/\Six c t.1 t.2.2.2)\/(t.2.2.1=[75]/\t.2.1=1)
def zPQ:∀c∈CQl,Pq c:=by
 intro c hc;simp only[CQl,Z5,Z164,or_false]at hc;rcases hc with rfl|rfl|rfl|rfl|rfl|rfl|rfl|rfl|rfl|rfl|rfl|rfl|rfl|rfl|rfl|rfl|rfl|rfl|rfl|rfl|rfl|rfl|rfl|rfl|rfl|rfl|rfl|rfl|rfl|rfl|rfl|rfl|rfl|rfl
 all_goals exact⟨by simp[cq0,cq1,cq2,cq3,cq4,cq5,cq6,cq7,cq8,cq9,zlw,zlx,zly,zlz,zlA,zlB,zlC,zlD,zlF,zlG,zlH,zlI,zlJ,zlK,zlL,zlM,zlO,zlP,zlQ,zlR,zlT,zlU,zlV,zlW,isV],by simp[cq0,cq1,cq2,cq3,cq4,cq5,cq6,cq7,cq8,cq9,zlw,zlx,zly,zlz,zlA,zlB,zlC,zlD,zlF,zlG,zlH,zlI,zlJ,zlK,zlL,zlM,zlO,zlP,zlQ,zlR,zlT,zlU,zlV,zlW,zC0,zuu,Six,cqA,cqB]⟩
def zsO{c:CQ}(h:Pq c)(z g:Trm):exP c z g []=false:=by
 cases hq:exP c z g []
 .rfl
 .exfalso;unfold exP at hq;simp only[Z14]at hq;obtain⟨⟨h1,h2⟩,h3⟩ :=hq;cases g with
  |var v=>simp[grd]at h2
  |cst n=>
   unfold excl at h3;rw[Z30]at h3;obtain⟨k,hk,h4⟩ :=h3;unfold exk at h4;simp only[Z14,Z115,Z86]at h4;obtain⟨h5,h6⟩ :=h4;have:=h.1 k hk h5;rcases h6 with⟨h7,h8⟩ |⟨h7,h8⟩
   .rw[h7]at this;simp[isV]at this
   .rw[h8]at this;simp[isV]at this
def zWB{a b:CQ}(ha:Pq a)(hb:Pq b){u v:Trm}(h:dif a u b v []=true):∃m k:Int,m≠k/\u= .cst m/\v= .cst k:=by
 cases u with
 |cst m=>cases v with
  |cst k=>exact⟨m,k,by simpa [dif]using h,rfl,rfl⟩
  |var s=>rw[zC3 (.inr rfl),zsO ha,zsO hb]at h;simp at h
 |var s=>rw[zC3 (.inl rfl),zsO ha,zsO hb]at h;simp at h
theorem zWW{s:Sch}(hs:s∈zoz)(hce:s.ce=false){a b:CQ}(ha:a∈CQl)(hb:b∈CQl){i j:Nat}{x y:Atm}(hi:a.as[i]? =some x)(hj:b.as[j]? =some y)(hx:x.r=s.nm)(hy:y.r=s.nm)
  (h:ind s a i b j []=true):s=sR/\∃m k:Int,m≠k/\Six a i m/\Six b j k:=by
 have pa:=zPQ a ha;have pb:=zPQ b hb;have il:i<a.as.length:=(Z8.1 hi).1;have jl:j<b.as.length:=(Z8.1 hj).1;unfold ind at h;rw[Z51 ⟨by omega,by omega,by omega,by omega⟩]at h;simp only[Int.toNat_natCast,hi,hj]at h;unfold zD1 at h;rw[Z49 (by simp[hce,hx,hy])]at h;split at h
 .exact absurd h (by simp)
 .rw[Z30]at h;obtain⟨k,hk,h2⟩ :=h;rw[Z14]at h2;obtain⟨h3,h4⟩ :=h2;unfold zqH at h4;split at h4
  .rename_i u v hu hv;obtain⟨m,n,hmn,rfl,rfl⟩ :=zWB pa pb h4;have t1:=pa.2 _ (zrm m k a.as 0 i x hi hu);have t2:=pb.2 _ (zrm n k b.as 0 j y hj hv);rw[Z25]at t1 t2;simp only at t1 t2;rw[hx]at t1;rw[hy]at t2;simp only[zoz,Z5,Z164,or_false]at hs;rcases hs with rfl|rfl|rfl|rfl
   .rcases t1 with⟨_,_,t1⟩ |⟨t1,_⟩
    .rcases t2 with⟨_,_,t2⟩ |⟨t2,_⟩
     .exact⟨rfl,m,n,hmn,t1,t2⟩
     .simp[sR]at t2
    .simp[sR]at t1
   .rcases t1 with⟨t1,_⟩ |⟨t1,_⟩ <;>simp[sS]at t1
   .rcases t1 with⟨t1,_⟩ |⟨_,t1⟩
    .simp[sK]at t1
    .subst t1;exact absurd h3 (by decide)
   .simp[sC]at hce
  .exact absurd h4 (by simp)
def fn3:pr.fn 3=some g3:=by kernel_rfl
theorem six21(A B C E:List (List Int×List F))(hA:A.length<=3/\∀t∈A,TuR t)(hB:B.length<=3/\∀t∈B,TuS t)(c:CQ)(i:Nat)(m:Int)(h:Six c i m):
  ∃L:List Int,L.length<1000/\Ans pr 21 [slc 4 ([rR A,rS B,rK C,rC E].map rlF),.ag (cqF c),.i .i64 i] (imF m L):=by
 have hr:(slc 4 ([rR A,rS B,rK C,rC E].map rlF)).d= .f (slc 4 ([rR A,rS B,rK C,rC E].map rlF)):=zfU ..;obtain⟨hm,⟨rfl,rfl⟩ |⟨rfl,rfl⟩⟩ :=h
 .have h1:=exA m hm A hA.1 hA.2 B C E;have hl:(zJh m A).length<=3:=Z3 (List.length_filterMap_le _ _) hA.1;have h2:=zkP (zJh m A) [];simp only[Z170]at h2;exact⟨_,by omega,zNu _ hr (cqA m) 0 _ m rfl rfl _ (by omega) (by omega) (zNx _ hr _ _ (by omega) h1 (bdA m)) (bdA m)⟩
 .have h1:=exB m B hB.1 hB.2 A C E;have hl:(zJi B).length<=3:=Z3 (List.length_filterMap_le _ _) hB.1;have h2:=zkP (zJi B) [];simp only[Z170]at h2;exact⟨_,by omega,zNu _ hr (cqB m) 1 _ m rfl rfl _ (by omega) (by omega) (zNx _ hr _ _ (by omega) h1 (bdB m)) (bdB m)⟩
def rowK(A B C E:List (List Int×List F))(k:Nat)(hk:k<4):∃s tu,s∈zoz/\iaB 4 (.f (slc 4 ([rR A,rS B,rK C,rC E].map rlF))) k=some (D.fptr [.s s.nm,.b s.ce,zme s.co,tu])/\(s=sR->k=0):=by
 match k,hk with
 |0,_=>exact⟨sR,_,by simp[zoz],rfl,fun _=>rfl⟩
 |1,_=>exact⟨sS,_,by simp[zoz],rfl,fun h=>by have:=congrArg Sch.nm h;simp[sS,sR]at this⟩
 |2,_=>exact⟨sK,_,by simp[zoz],rfl,fun h=>by have:=congrArg Sch.nm h;simp[sK,sR]at this⟩
 |3,_=>exact⟨sC,_,by simp[zoz],rfl,fun h=>by have:=congrArg Sch.nm h;simp[sC,sR]at this⟩
def zNT{c:CQ}(h:CqN 1 c):CqG c:=by
 have:=h.la;have:=h.lc;exact⟨⟨⟨fun a ha=>(h.al a ha).1,h.cs,by omega,by omega⟩,by omega,fun a ha=>by have:=(h.al a ha).2;omega,by omega,fun a ha=>(h.al a ha).2⟩,fun a ha=>(h.av a ha).1⟩
def JI(r:F)(a b:CQ)(s:St):Prop:=s.tm.get 7=some (.ptr 0 2 0 0)/\s.tm.get 8=some (.ptr 1 2 0 0)/\s.tm.get 9=some (.f r)/\s.h.get 0=some (.arr 2 0 [[.f (zjD a),.f (zhH a)]])/\s.h.get 1=some (.arr 2 0 [[.f (zjD b),.f (zhH b)]])
def ans3{x:F}(hx:zgK x)(n m:Int):Ans pr 3 [x,.i .i64 n,.i .i64 m] (.b true):=by
 have hxd:x.d= .f x:=by rcases hx with rfl|⟨zs,rfl⟩ <;>rfl
 obtain⟨a,ha,ha4⟩ :=ans4 n;obtain⟨b,hb,hb4⟩ :=ans4 m;obtain⟨A,B,C,E,hA,hB,-,-,h5⟩ :=ans5 x hx hxd;have hrow:=rowK A B C E;have h21:=six21 A B C E hA hB;have hrl:zej (.f (slc 4 ([rR A,rS B,rK C,rC E].map rlF)))=some 4:=rfl;have hr:(slc 4 ([rR A,rS B,rK C,rC E].map rlF)).d= .f (slc 4 ([rR A,rS B,rK C,rC E].map rlF)):=zfU ..;generalize slc 4 ([rR A,rS B,rK C,rC E].map rlF)=r at*;have ga:=zNS a ha;have gb:=zNS b hb;have la:=ga.la;have lb:=gb.la;have q4a:=fun k=>zal (k:=k) ha4
 have q4b:=fun k=>zal (k:=k) hb4
 have q5:=fun k=>zal (k:=k) h5
 have q8:=fun k=>zal (k:=k) ans8
 simp only[cqE]at q4a q4b;refine zex fn3 ?_;simp only[g3,rU];simp -implicitDefEqProofs [rW,st0,zaF,hxd,hr,q4a,q4b,q5,zd5,zd6];refine zfm (fun k s=>∃i:Nat,k=a.as.length - i/\i<=a.as.length/\JI r a b s/\s.tm.get 10=some (.f (.i .i64 i))) (fun e s=>e= .exit 0/\True) ?_ a.as.length _ ⟨0,rfl,Z61 _,?_,?_⟩ ?_
 .rintro k s ⟨i,rfl,hi,⟨h7,h8,h9,g0,g1⟩,h10⟩;have hw:=zcM i (by omega)
  by_cases hlt:i<a.as.length
  .have hx:a.as[i]? =some a.as[i]:=Z0 hlt;generalize hX:a.as[i]=x1 at hx;simp -implicitDefEqProofs [rW,h7,h8,h9,h10,g0,g1,zdQ,hlt];refine zfm (fun k s=>∃j:Nat,k=b.as.length - j/\j<=b.as.length/\JI r a b s/\s.tm.get 10=some (.f (.i .i64 i))/\s.tm.get 11=some (.f (.i .i64 j))) (fun e s=>e= .exit 2/\JI r a b s/\s.tm.get 10=some (.f (.i .i64 i))) ?_ b.as.length _ ⟨0,rfl,Z61 _,?_,?_⟩ ?_
   .clear h7 h8 h9 g0 g1 h10;rintro k s ⟨j,rfl,hj,⟨h7,h8,h9,g0,g1⟩,h10,h11⟩;have hwj:=zcM j (by omega)
    by_cases hlj:j<b.as.length
    .have hy:b.as[j]? =some b.as[j]:=Z0 hlj;generalize hY:b.as[j]=y1 at hy;simp -implicitDefEqProofs [rW,h7,h8,h9,h10,h11,g0,g1,zdQ,hlj];refine zfm (fun k s=>∃p:Nat,k=4 - p/\p<=4/\JI r a b s/\s.tm.get 10=some (.f (.i .i64 i))/\s.tm.get 11=some (.f (.i .i64 j))/\s.tm.get 12=some (.f (.i .i64 p))) (fun e s=>e= .exit 4/\JI r a b s/\s.tm.get 10=some (.f (.i .i64 i))/\s.tm.get 11=some (.f (.i .i64 j))) ?_ 4 _ ⟨0,rfl,Z61 _,?_,?_⟩ ?_
     .clear h7 h8 h9 g0 g1 h10 h11;rintro k s ⟨p,rfl,hp,⟨h7,h8,h9,g0,g1⟩,h10,h11,h12⟩;have hwp:=zcM p (by omega)
      by_cases hlp:p<4
      .obtain⟨sc,tu,hs,hia,hk0⟩ :=hrow p hlp;have q6:=fun k=>zal (k:=k) (ans6 sc (zaaV sc hs) a b i j [] (zNT ga) (zNT gb) (by simp))
       simp only[cqE,zp0]at q6;rw[show zd8 []= .nils from rfl]at q6;have hlp2:(p:Int)<4:=by omega
       have hcd:(zme sc.co).d= .f (zme sc.co):=zhJ _;cases hce:sc.ce with
       |true=>
        rw[hce]at hia;simp -implicitDefEqProofs [rW,h7,h8,h9,h10,h11,h12,g0,g1,hrl,hlp,hlp2];refine zaV ?_;simp -implicitDefEqProofs [rW,h7,h8,h9,h10,h11,h12,g0,g1,hrl,hlp,hlp2,hia,hcd,hwp,zee,hx,hX,hlt,hy,hY,hlj,atE];rw[zc0];refine⟨4 - (p+1),by omega,p+1,rfl,by omega,?_,?_⟩
        .unfold JI;simp -implicitDefEqProofs [rW,h7,h8,h9,g0,g1]
        .simp -implicitDefEqProofs [rW,h10,h11,hwp]
       |false=>
        rw[hce]at hia q6
        by_cases r1:x1.r=sc.nm
        .by_cases r2:y1.r=sc.nm
         .cases hi2:ind sc a i b j []with
          |false=>
           rw[hi2]at q6;simp -implicitDefEqProofs [rW,h7,h8,h9,h10,h11,h12,g0,g1,hrl,hlp,hlp2];refine zaV ?_;simp -implicitDefEqProofs [rW,h7,h8,h9,h10,h11,h12,g0,g1,hrl,hlp,hlp2,hia,hcd,hwp,zee,hx,hX,hlt,hy,hY,hlj,atE,r1,r2,q6];rw[zc0];refine⟨4 - (p+1),by omega,p+1,rfl,by omega,?_,?_⟩
           .unfold JI;simp -implicitDefEqProofs [rW,h7,h8,h9,g0,g1]
           .simp -implicitDefEqProofs [rW,h10,h11,hwp]
          |true=>
           obtain⟨rfl,m1,m2,hm,s1,s2⟩ :=zWW hs hce ha hb hx hy r1 r2 hi2;obtain rfl:=hk0 rfl;obtain⟨L1,l1,t1⟩ :=h21 a i m1 s1;obtain⟨L2,l2,t2⟩ :=h21 b j m2 s2;have q7:=fun k=>zal (k:=k) (ans7 r hr tu hia a b i j m1 m2 hm L1 L2 l1 l2 t1 t2)
           simp only[cqE]at q7;rw[hi2]at q6;simp -implicitDefEqProofs [rW,h7,h8,h9,h10,h11,h12,g0,g1,hrl,hlp,hlp2];refine zaV ?_;simp -implicitDefEqProofs [rW,h7,h8,h9,h10,h11,h12,g0,g1,hrl,hlp,hlp2,hia,hcd,hwp,zee,hx,hX,hlt,hy,hY,hlj,atE,r1,r2,q6,q7];rw[zc0];refine⟨3,by omega,1,rfl,by omega,?_,?_⟩
           .unfold JI;simp -implicitDefEqProofs [rW,h7,h8,h9,g0,g1]
           .simp -implicitDefEqProofs [rW,h10,h11,show IntKind.i64.wrap 1=1 by decide]
         .simp -implicitDefEqProofs [rW,h7,h8,h9,h10,h11,h12,g0,g1,hrl,hlp,hlp2];refine zaV ?_;simp -implicitDefEqProofs [rW,h7,h8,h9,h10,h11,h12,g0,g1,hrl,hlp,hlp2,hia,hcd,hwp,zee,hx,hX,hlt,hy,hY,hlj,atE,r1,r2];rw[zc0];refine⟨4 - (p+1),by omega,p+1,rfl,by omega,?_,?_⟩
          .unfold JI;simp -implicitDefEqProofs [rW,h7,h8,h9,g0,g1]
          .simp -implicitDefEqProofs [rW,h10,h11,hwp]
        .simp -implicitDefEqProofs [rW,h7,h8,h9,h10,h11,h12,g0,g1,hrl,hlp,hlp2];refine zaV ?_;simp -implicitDefEqProofs [rW,h7,h8,h9,h10,h11,h12,g0,g1,hrl,hlp,hlp2,hia,hcd,hwp,zee,hx,hX,hlt,hy,hY,hlj,atE,r1];rw[zc0];refine⟨4 - (p+1),by omega,p+1,rfl,by omega,?_,?_⟩
         .unfold JI;simp -implicitDefEqProofs [rW,h7,h8,h9,g0,g1]
         .simp -implicitDefEqProofs [rW,h10,h11,hwp]
      .obtain rfl:p=4:=by omega
       simp -implicitDefEqProofs [rW,h7,h8,h9,h10,h11,h12,g0,g1,hrl];unfold JI;simp -implicitDefEqProofs [rW,h7,h8,h9,h10,h11,g0,g1]
     .unfold JI;simp -implicitDefEqProofs [rW,h7,h8,h9,h10,h11,g0,g1]
     .simp -implicitDefEqProofs [rW,h10,h11]
     .clear h7 h8 h9 g0 g1 h10 h11;rintro e s ⟨rfl,⟨h7,h8,h9,g0,g1⟩,h10,h11⟩;simp -implicitDefEqProofs [rW,h7,h8,h9,h10,h11,g0,g1,hwj];rw[zc0];refine⟨b.as.length - (j+1),by omega,j+1,rfl,by omega,?_,?_⟩
      .unfold JI;simp -implicitDefEqProofs [rW,h7,h8,h9,g0,g1]
      .simp -implicitDefEqProofs [rW,h10,hwj]
    .obtain rfl:j=b.as.length:=by omega
     simp -implicitDefEqProofs [rW,h7,h8,h9,h10,h11,g0,g1,zdQ];unfold JI;simp -implicitDefEqProofs [rW,h7,h8,h9,h10,h11,g0,g1]
   .unfold JI;simp -implicitDefEqProofs [rW,h7,h8,h9,h10,g0,g1]
   .simp -implicitDefEqProofs [rW,h10]
   .clear h7 h8 h9 g0 g1 h10;rintro e s ⟨rfl,⟨h7,h8,h9,g0,g1⟩,h10⟩;simp -implicitDefEqProofs [rW,h7,h8,h9,h10,g0,g1,hw];rw[zc0];refine⟨a.as.length - (i+1),by omega,i+1,rfl,by omega,?_,?_⟩
    .unfold JI;simp -implicitDefEqProofs [rW,h7,h8,h9,g0,g1]
    .simp -implicitDefEqProofs [rW,hw]
  .obtain rfl:i=a.as.length:=by omega
   simp -implicitDefEqProofs [rW,h7,h8,h9,h10,g0,g1,zdQ]
 .unfold JI;simp -implicitDefEqProofs [rW,]
 .simp -implicitDefEqProofs [rW,]
 .rintro e s ⟨rfl,-⟩;simp -implicitDefEqProofs [rW,q8]
end Go.Proofs.YtlmnmaginhebdaaGreatDoor
end
