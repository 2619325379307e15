/- NatGCD. -/
import Derived.Test.YtkcnnkncapiohaaGreatDoorPh
import Derived.KernelRfl
import Derived.IntWalk
set_option linter.all false
set_option maxRecDepth 100000
set_option maxHeartbeats 4000000
section
namespace Go.Proofs.YtkcnnkncapiohaaGreatDoor
open Go Go.Vse Go.Vse.Sm
def fn120:pr.fn 120=some zBr:=by kernel_rfl
def VL(h:T Ob)(c:Nat)(d:D)(l:List Nat):Prop:=(∃x,d= .f x/\NF x l)\/∃id lim ex ro,d= .sl id 0 l.length 1 lim ex/\h.get id=some (.arr 1 ro (dE l))/\id<c
def VL.rd{h:T Ob}{c:Nat}{d:D}{l:List Nat}(hv:VL h c d l):Rd1 h c d l:=by
 rcases hv with⟨x,rfl,hx⟩ |⟨id,lim,ex,ro,rfl,hg,hc⟩
 .exact zdH hx h c
 .exact zk9 hg hc
def VL.cells{h:T Ob}{c:Nat}{d:D}{l:List Nat}(hv:VL h c d l):d.cells=some [d]:=by
 rcases hv with⟨x,rfl,rfl|⟨rfl,_⟩⟩ |⟨id,lim,ex,ro,rfl,hg,hc⟩ <;>rfl
def VL.frz{h:T Ob}{c:Nat}{d:D}{l:List Nat}(hv:VL h c d l):∃x rd,NF x l/\(∀k,frz h.get (k+2) d=some (x,rd))/\(∀id∈rd,d.oid=some id)/\∀id∈rd,id<c:=by
 rcases hv with⟨x,rfl,hx⟩ |⟨id,lim,ex,ro,rfl,hg,hc⟩
 .exact⟨x,[],hx,fun k=>rfl,fun _ h=>by simp at h,fun _ h=>by simp at h⟩
 .refine⟨.sl 1 (dF l),[id],.inl rfl,fun k=> ?_,fun i hi=>by rw[Z31.1 hi];rfl,fun i hi=>by rw[Z31.1 hi];exact hc⟩;rw[zfQ,hg,zcE,zfC];simp[zeE,<-zeE,zEt,zcE]
def VL.up{h h':T Ob}{c c':Nat}{d:D}{l:List Nat}(hv:VL h c d l)(hc:c<=c')(hh:∀id,id<c->h'.get id=h.get id):VL h' c' d l:=by
 rcases hv with hv|⟨id,lim,ex,ro,rfl,hg,hi⟩
 .exact .inl hv
 .exact .inr ⟨id,lim,ex,ro,rfl,by rw[hh id hi];exact hg,by omega⟩
def zlg.vl{h:T Ob}{lo c:Nat}{d:D}{l:List Nat}(ho:zlg h lo c d l):VL h c d l:=by
 obtain⟨id,lim,ex,rfl,hg,_,h2⟩ :=ho;exact .inr ⟨id,lim,ex,0,rfl,hg,h2⟩
theorem zn6(h0:Nat->Option Ob)(id:Nat):∀(rd:List Nat) (h:T Ob),id∉rd->(wrT h (zat h0 rd)).get id=h.get id
 |[],_,_=>rfl
 |i::l,h,hn=>by
  simp only[Z5,not_or]at hn;rw[zxz];cases hg:h0 i with
  |none=>simp only[roO];exact zn6 h0 id l h hn.2
  |some o=>
   cases o with
   |map e=>simp only[roO];exact zn6 h0 id l h hn.2
   |arr es ro els=>
    rw[znz];split
    .exact zn6 h0 id l h hn.2
    .simp only[wrT];rw[zn6 h0 id l _ hn.2,TG,Z49 hn.1]
theorem zk7(h0:Nat->Option Ob)(id:Nat):∀(rd:List Nat) (h:T Ob),(h.get id=h0 id\/∃es ro els,h0 id=some (.arr es ro els)/\h.get id=some (.arr es els.length els))->((wrT h (zat h0 rd)).get id=h0 id\/∃es ro els,h0 id=some (.arr es ro els)/\(wrT h (zat h0 rd)).get id=some (.arr es els.length els))
 |[],_,hh=>hh
 |i::l,h,hh=>by
  rw[zxz];cases hg:h0 i with
  |none=>simp only[roO];exact zk7 h0 id l h hh
  |some o=>
   cases o with
   |map e=>simp only[roO];exact zk7 h0 id l h hh
   |arr es ro els=>
    rw[znz];split
    .exact zk7 h0 id l h hh
    .simp only[wrT];refine zk7 h0 id l _ ?_;rw[TG]
     by_cases hi:id=i
     .subst hi;exact .inr ⟨es,ro,els,hg,by simp⟩
     .rw[Z49 hi];exact hh
theorem zhU(h0:Nat->Option Ob){c:Nat}:∀rd:List Nat,(∀id∈rd,id<c)->zaC c (zat h0 rd)=true
 |[],_=>rfl
 |i::l,hn=>by
  have ih:=zhU h0 l fun id hi=>hn id (by simp[hi])
  rw[zxz];cases hg:h0 i with
  |none=>exact ih
  |some o=>
   cases o with
   |map e=>exact ih
   |arr es ro els=>
    rw[znz];split
    .exact ih
    .simp only[zaC,ih,Z187];rw[Z79];exact hn i (by simp)
def VL.mark{h:T Ob}{c c':Nat}{d:D}{l:List Nat}(hv:VL h c d l)(hc:c<=c')(rd:List Nat):VL (wrT h (zat h.get rd)) c' d l:=by
 rcases hv with hv|⟨id,lim,ex,ro,rfl,hg,hi⟩
 .exact .inl hv
 .rcases zk7 h.get id rd h (.inl rfl)with h1|⟨es,ro',els,h1,h2⟩
  .exact .inr ⟨id,lim,ex,ro,rfl,by rw[h1];exact hg,by omega⟩
  .rw[hg]at h1;cases h1;exact .inr ⟨id,lim,ex,_,rfl,h2,by omega⟩
def zhN{h:Nat->Option Ob}{d:D}{x:F}{rd:List Nat}(hf:∀k,frz h (k+2) d=some (x,rd)):frz h 12 d=some (x,rd):=hf 10
def GC(M:Nat)(N:Nat)(u v:List Nat)(n:Nat)(s:St):Prop:=
 Dg u/\Dg v/\nrm v=v/\u.length<=M/\v.length<=M/\nv u≠0/\nv u*2 ^ n<=N/\s.tm.get 7=some (.f (.i .i64 (n:Nat)))/\(∃d,s.tm.get 5=some d/\VL s.h s.c d u)/\∃d,s.tm.get 6=some d/\VL s.h s.c d v
def A120(M N:Nat)(k:Nat)(s:St):Prop:=∃u v n,k=nv u/\GC M N u v n s/\nv v≠0
def B120(M N e:Nat)(x:Ex)(s:St):Prop:=x= .exit e/\∃u v n,GC M N u v n s
def C120(M N:Nat)(k:Nat)(s:St):Prop:=∃u v n,k=nv u+nv v/\GC M N u v n s
def D120(M N U:Nat)(v:List Nat)(n k:Nat)(s:St):Prop:=∃w,k=nv w/\GC M N w v n s/\nv w<=U
def E120(M N U:Nat)(v:List Nat)(n:Nat)(x:Ex)(s:St):Prop:=x= .exit 4/\∃w,GC M N w v n s/\nv w<=U
def H120(M N V:Nat)(w:List Nat)(n k:Nat)(s:St):Prop:=∃t,k=nv t/\GC M N w t n s/\nv t≠0/\nv t<=V
def I120(M N V:Nat)(w:List Nat)(n:Nat)(x:Ex)(s:St):Prop:=x= .exit 6/\∃t,GC M N w t n s/\nv t≠0/\nv t<=V
def K120(M n i:Nat)(s:St):Prop:=∃l d,Dg l/\l.length<=M+i/\(s.tm.get 5=some (d)/\s.tm.get 7=some (.f (.i .i64 n))/\s.tm.get 8=some (.f (.i .i64 i)))/\VL s.h s.c d l
def L120(M n:Nat)(x:Ex)(s:St):Prop:=x= .exit 8/\∃l d,Dg l/\l.length<=M+n/\s.tm.get 5=some d/\VL s.h s.c d l
def zRz{x y:F}{a b:List Nat}(hx:NF x a)(hy:NF y b)(da:Dg a)(db:Dg b)(M:Nat)(la:a.length<=M)(lb:b.length<=M)(hM:M<1000):∃z,(∃l,NF z l/\Dg l/\l.length<=33*M)/\Ans pr 120 [x,y] z:=by
 refine zdR fn120 ?_;simp only[zBr,rU];simp[rW,st0,zal,zak hx,zak hy];refine zez rfl rfl (zdD (zdH hx _ _) (by omega)) ?_;rintro d1 h1 c1 lw1 mx1 ⟨ho1,hf1⟩ hc1;simp only[rG]at ho1 hf1 hc1;simp[rW,zak hy];refine zez rfl rfl (zdD (zdH hy _ _) (by omega)) ?_;rintro d2 h2 c2 lw2 mx2 ⟨ho2,hf2⟩ hc2;simp only[rG]at ho2 hf2 hc2;have v1:VL h2 c2 d1 (nrm a):=ho1.vl.up hc2 hf2;have v2:VL h2 c2 d2 (nrm b):=ho2.vl;have l1:=zeh a;have l2:=zeh b;have n1:=zdG a;have n2:=zdG b
 replace da:=zdZ da
 replace db:=zdZ db
 generalize nrm a=u at v1 l1 n1 da;generalize nrm b=v at v2 l2 n2 db;have hlu:=v1.rd.len;have hlv:=v2.rd.len;obtain⟨x1,rd1,hx1,hf1,_,_⟩ :=v1.frz;obtain⟨x2,rd2,hx2,hf2,_,_⟩ :=v2.frz;have hf1:=zhN hf1;have hf2:=zhN hf2
 by_cases hu:u=[]
 .subst hu;have e0:((([]:List Nat).length:Nat):Int)=0:=rfl;simp[rW,hlu,e0,hf2];exact⟨v,hx2,db,by omega⟩
 by_cases hv:v=[]
 .subst hv;have e0:((([]:List Nat).length:Nat):Int)=0:=rfl;simp[rW,hlu,hlv,e0,hu,hf1];exact⟨u,hx1,da,by omega⟩
 have u0:nv u≠0:=fun e=>hu (by rw[<-n1];exact zn9.2 e)
 have v0:nv v≠0:=fun e=>hv (by rw[<-n2];exact zn9.2 e)
 simp[rW,hlu,hlv,hu,hv];obtain⟨N,hNe⟩ :∃N,N=nv u:=⟨_,rfl⟩
 have hN:N<2 ^ (32*M):=by
  have h1:=zqT da;rw[pow32]at h1;rw[hNe];exact Z15 h1 (Z113 (by omega) (by omega))
 have hNn:∀n w,nv w≠0->nv w*2 ^ n<=N->n<32*M:=by
  intro n w h0 h1;have h2:2 ^ n<=nv w*2 ^ n:=Nat.le_mul_of_pos_left _ (by omega);exact (Nat.pow_lt_pow_iff_right (by omega)).1 (by omega:2 ^ n<2 ^ (32*M))
 refine zbS (A120 M N) (B120 M N 0) ?_ (nv u) _ ⟨u,v,0,rfl,⟨da,db,n2,by omega,by omega,u0,by rw[hNe];simp,?_,⟨d1,?_,?_⟩,d2,?_,?_⟩,v0⟩ ?_
 .clear v0 u0 hu hv hlu hlv hf1 hf2 hNe v1 v2 l1 l2 n1 n2 da db hx1 hx2 ho1 ho2;rintro k s ⟨u,v,n,rfl,⟨du,dv,nvv,lu,lv,u0,hle,h7,⟨d5,h5,V5⟩,d6,h6,V6⟩,v0⟩;have hlu:=ziO u0;have hlv:=ziO v0;obtain⟨p1,rp1,i1,k1⟩ :=V5.rd.get 0 hlu;obtain⟨p2,rp2,i2,k2⟩ :=V6.rd.get 0 hlv;have k1:=k1 s.h fun _ _=>rfl
  have k2:=k2 s.h fun _ _=>rfl
  have b1:=znV _ (du _ (Z1 hlu));have b2:=znV _ (dv _ (Z1 hlv));have m1:=zoa hlu;have m2:=zoa hlv;rw[m1]at b1;rw[m2]at b2
  by_cases hu:nv u%2=0
  .by_cases hv:nv v%2=0
   .have hn:=hNn n u u0 hle;have hw:=zaB n (by omega);obtain⟨x5,r5,hx5,f5,_,c5⟩ :=V5.frz;obtain⟨z5,⟨l5,nf5,dg5,nr5,hv5,hl5⟩,a5⟩ :=zpO hx5 du (by omega);have q5:=fun k=>zad (k:=k) a5
    obtain⟨x6,r6,hx6,f6,_,c6⟩ :=(V6.mark (Z2 _) r5).frz;obtain⟨z6,⟨l6,nf6,dg6,nr6,hv6,hl6⟩,a6⟩ :=zpO hx6 dv (by omega);have q6:=fun k=>zad (k:=k) a6
    have f5:=zhN f5;have f6:=zhN f6;have o5:=zhU s.h.get r5 c5;have o6:=zhU (wrT s.h (zat s.h.get r5)).get r6 c6;rw[hu]at b1;rw[hv]at b2;simp[rW,h5,h6,h7,i1,k1,i2,k2,b1,b2,zga,f5,q5,o5,f6,q6,o6,hw,zak nf5,zak nf6];have e2:2 ^ (n+1)=2*2 ^ n:=by rw[Z195];omega
    rw[za1];refine⟨nv l5,by omega,l5,l6,n+1,rfl,⟨dg5,dg6,nr6,by omega,by omega,by omega,?_,?_,⟨.f z5,?_,.inl ⟨z5,rfl,nf5⟩⟩,.f z6,?_,.inl ⟨z6,rfl,nf6⟩⟩,by omega⟩
    .rw[hv5,e2,<-Z185];have:nv u/2*2=nv u:=by omega
     rw[this];exact hle
    all_goals simp[rW,hw]
   .have hv1:nv v%2=1:=by omega
    rw[hu]at b1;rw[hv1]at b2;simp[rW,h5,h6,h7,i1,k1,i2,k2,b1,b2,zga];exact⟨rfl,u,v,n,du,dv,nvv,lu,lv,u0,hle,by simp[rW,h7],⟨d5,by simp[rW,h5],by simp[rW];exact V5⟩,d6,by simp[rW,h6],by simp[rW];exact V6⟩
  .have hu1:nv u%2=1:=by omega
   rw[hu1]at b1;simp[rW,h5,h6,h7,i1,k1,b1,zga];exact⟨rfl,u,v,n,du,dv,nvv,lu,lv,u0,hle,by simp[rW,h7],⟨d5,by simp[rW,h5],by simp[rW];exact V5⟩,d6,by simp[rW,h6],by simp[rW];exact V6⟩
 .simp[rW]
 .simp[rW]
 .simp[rW];exact v1
 .simp[rW]
 .simp[rW];exact v2
 .clear v0 u0 hu hv hlu hlv hf1 hf2 hNe v1 v2 l1 l2 n1 n2 da db hx1 hx2 ho1 ho2;rintro x s ⟨rfl,u,v,n,hG⟩;simp[rW];refine zbS (C120 M N) (B120 M N 2) ?_ (nv u+nv v) _ ⟨u,v,n,rfl,hG⟩ ?_
  .clear hG u v n s;rintro k s ⟨u,v,n,rfl,⟨du,dv,nvv,lu,lv,u0,hle,h7,⟨d5,h5,V5⟩,d6,h6,V6⟩⟩;have hlv:=V6.rd.len
   by_cases hv:v=[]
   .subst hv;have e0:((([]:List Nat).length:Nat):Int)=0:=rfl;simp[rW,h6,hlv,e0];exact⟨rfl,u,[],n,du,dv,nvv,lu,lv,u0,hle,by simp[rW,h7],⟨d5,by simp[rW,h5],by simp[rW];exact V5⟩,d6,by simp[rW,h6],by simp[rW];exact V6⟩
   have v0:nv v≠0:=fun e=>hv (by rw[<-nvv];exact zn9.2 e)
   have hpos:0<v.length:=Z129.2 hv;simp[rW,h6,hlv,hpos,hv];refine zbS (D120 M N (nv u) v n) (E120 M N (nv u) v n) ?_ (nv u) _ ⟨u,rfl,⟨du,dv,nvv,lu,lv,u0,hle,?_,⟨d5,?_,?_⟩,d6,?_,?_⟩,Z2 _⟩ ?_
   .clear h5 h6 h7 V5 V6 d5 d6 hlv s;rintro k s ⟨w,rfl,⟨dw,dv,nvv,lw,lv,w0,hlw,h7,⟨d5,h5,V5⟩,d6,h6,V6⟩,hwu⟩;have hlu:=ziO w0;obtain⟨p1,rp1,i1,k1⟩ :=V5.rd.get 0 hlu;have k1:=k1 s.h fun _ _=>rfl
    have b1:=znV _ (dw _ (Z1 hlu));have m1:=zoa hlu;rw[m1]at b1
    by_cases hu:nv w%2=0
    .obtain⟨x5,r5,hx5,f5,_,c5⟩ :=V5.frz;obtain⟨z5,⟨l5,nf5,dg5,nr5,hv5,hl5⟩,a5⟩ :=zpO hx5 dw (by omega);have q5:=fun k=>zad (k:=k) a5
     have f5:=zhN f5;have o5:=zhU s.h.get r5 c5;have V6:=V6.mark (Z2 _) r5;rw[hu]at b1;simp[rW,h5,h6,h7,i1,k1,b1,zga,f5,q5,o5,zak nf5];rw[za1];refine⟨nv l5,by omega,l5,rfl,⟨dg5,dv,nvv,by omega,lv,by omega,?_,?_,⟨.f z5,?_,.inl ⟨z5,rfl,nf5⟩⟩,d6,?_,?_⟩,by omega⟩
     .exact Z3 (Z9 _ (by omega)) hlw
     .simp[rW,h7]
     .simp[rW]
     .simp[rW,h6]
     .simp[rW];exact V6
    .have hu1:nv w%2=1:=by omega
     rw[hu1]at b1;simp[rW,h5,h6,h7,i1,k1,b1,zga];exact⟨rfl,w,⟨dw,dv,nvv,lw,lv,w0,hlw,by simp[rW,h7],⟨d5,by simp[rW,h5],by simp[rW];exact V5⟩,d6,by simp[rW,h6],by simp[rW];exact V6⟩,hwu⟩
   .simp[rW,h7]
   .simp[rW,h5]
   .simp[rW];exact V5
   .simp[rW,h6]
   .simp[rW];exact V6
   clear h5 h6 h7 V5 V6 d5 d6 hlv s;rintro x s ⟨rfl,w,hG,hwu⟩;simp[rW];refine zbS (H120 M N (nv v) w n) (I120 M N (nv v) w n) ?_ (nv v) _ ⟨v,rfl,hG,v0,Z2 _⟩ ?_
   .clear hG s;rintro k s ⟨t,rfl,⟨dw,dt,ntt,lw,lt,w0,hlw,h7,⟨d5,h5,V5⟩,d6,h6,V6⟩,t0,htv⟩;have hlu:=ziO t0;obtain⟨p1,rp1,i1,k1⟩ :=V6.rd.get 0 hlu;have k1:=k1 s.h fun _ _=>rfl
    have b1:=znV _ (dt _ (Z1 hlu));have m1:=zoa hlu;rw[m1]at b1
    by_cases hu:nv t%2=0
    .obtain⟨x5,r5,hx5,f5,_,c5⟩ :=V6.frz;obtain⟨z5,⟨l5,nf5,dg5,nr5,hv5,hl5⟩,a5⟩ :=zpO hx5 dt (by omega);have q5:=fun k=>zad (k:=k) a5
     have f5:=zhN f5;have o5:=zhU s.h.get r5 c5;have V5:=V5.mark (Z2 _) r5;rw[hu]at b1;simp[rW,h5,h6,h7,i1,k1,b1,zga,f5,q5,o5,zak nf5];rw[za1];refine⟨nv l5,by omega,l5,rfl,⟨dw,dg5,nr5,lw,by omega,w0,hlw,?_,⟨d5,?_,?_⟩,.f z5,?_,.inl ⟨z5,rfl,nf5⟩⟩,by omega,by omega⟩
     .simp[rW,h7]
     .simp[rW,h5]
     .simp[rW];exact V5
     .simp[rW]
    .have hu1:nv t%2=1:=by omega
     rw[hu1]at b1;simp[rW,h5,h6,h7,i1,k1,b1,zga];exact⟨rfl,t,⟨dw,dt,ntt,lw,lt,w0,hlw,by simp[rW,h7],⟨d5,by simp[rW,h5],by simp[rW];exact V5⟩,d6,by simp[rW,h6],by simp[rW];exact V6⟩,t0,htv⟩
   clear hG s;rintro x s ⟨rfl,t,⟨dw,dt,ntt,lw,lt,w0,hlw,h7,⟨d5,h5,V5⟩,d6,h6,V6⟩,t0,htv⟩;obtain⟨x5,r5,hx5,f5,_,c5⟩ :=V5.frz;obtain⟨x6,r6,hx6,f6,_,c6⟩ :=V6.frz;have f5:=zhN f5;have f6:=zhN f6;have qc:=fun k=>zad (k:=k) (zmE hx5 hx6 dw dt (by omega) (by omega))
   have oc:=zhU s.h.get (r5++r6) (fun id hi=>(Z4.1 hi).elim (c5 id) (c6 id));have W5:=V5.mark (Z2 _) (r5++r6);have W6:=V6.mark (Z2 _) (r5++r6);obtain⟨y5,t5,hy5,g5,_,e5⟩ :=W5.frz;obtain⟨y6,t6,hy6,g6,_,e6⟩ :=W6.frz;have g5:=zhN g5;have g6:=zhN g6
   by_cases hgt:nv t<nv w
   .rw[zAT hgt]at qc;obtain⟨z,⟨l,nfz,dgz,nrz,hvz,hlz⟩,az⟩ :=zmF hy5 hy6 dw dt (by omega) (by omega) (Z110 hgt);have qz:=fun k=>zad (k:=k) az
    have oz:=zhU (wrT s.h (zat s.h.get (r5++r6))).get (t5++t6) (fun id hi=>(Z4.1 hi).elim (e5 id) (e6 id));have X6:=W6.mark (Z2 _) (t5++t6);simp[rW,h5,h6,h7,f5,f6,qc,oc,g5,g6,qz,oz,zak nfz];rw[za1];refine⟨nv t+nv l,by omega,t,l,n,rfl,dt,dgz,nrz,lt,by omega,t0,?_,?_,⟨d6,?_,?_⟩,.f z,?_,.inl ⟨z,rfl,nfz⟩⟩
    .exact Z3 (Z9 _ (by omega)) hlw
    .simp[rW,h7]
    .simp[rW]
    .simp[rW];exact X6
    .simp[rW]
   .have hc:¬(0:Int)<cN (nv w) (nv t):=by
     unfold cN;split
     .decide
     .rw[Z51 (by omega)];decide
    generalize cN (nv w) (nv t)=C at qc hc;obtain⟨z,⟨l,nfz,dgz,nrz,hvz,hlz⟩,az⟩ :=zmF hy6 hy5 dt dw (by omega) (by omega) (by omega);have qz:=fun k=>zad (k:=k) az
    have oz:=zhU (wrT s.h (zat s.h.get (r5++r6))).get (t6++t5) (fun id hi=>(Z4.1 hi).elim (e6 id) (e5 id));have X5:=W5.mark (Z2 _) (t6++t5);simp[rW,h5,h6,h7,f5,f6,qc,hc,oc,g5,g6,qz,oz,zak nfz];rw[za1];refine⟨nv w+nv l,by omega,w,l,n,rfl,dw,dgz,nrz,lw,by omega,w0,hlw,?_,⟨d5,?_,?_⟩,.f z,?_,.inl ⟨z,rfl,nfz⟩⟩
    .simp[rW,h7]
    .simp[rW,h5]
    .simp[rW];exact X5
    .simp[rW]
  .clear hG u v n s;rintro x s ⟨rfl,u,v,n,⟨du,dv,nvv,lu,lv,u0,hle,h7,⟨d5,h5,V5⟩,d6,h6,V6⟩⟩;have hn:=hNn n u u0 hle;simp[rW];refine zex n (K120 M n) (L120 M n) ?_ ?_ _ ⟨u,d5,du,by omega,⟨?_,?_,?_⟩,?_⟩ ?_
   .clear h5 h6 h7 V5 V6 d5 d6 s;rintro i s hi ⟨l,d,dl,hl,⟨h5,h7,h8⟩,V⟩;have hw:=zaB i (by omega);obtain⟨x5,r5,hx5,f5,_,c5⟩ :=V.frz;have f5:=zhN f5;obtain⟨z5,⟨l5,nf5,dg5,nr5,hl5⟩,a5⟩ :=zDP hx5 dl (by omega) 0 (by omega);have q5:=fun k=>zad (k:=k) a5
    have e0:((0:Nat):Int)=0:=rfl;rw[e0]at q5;have o5:=zhU s.h.get r5 c5;simp[rW,h5,h7,h8,hi,f5,q5,o5,zak nf5,hw];exact⟨l5,.f z5,dg5,by omega,⟨by simp[rW],by simp[rW,h7],by simp[rW,hw]⟩,.inl ⟨z5,rfl,nf5⟩⟩
   .clear h5 h6 h7 V5 V6 d5 d6 s;rintro s ⟨l,d,dl,hl,⟨h5,h7,h8⟩,V⟩;simp[rW,h7,h8];exact⟨rfl,l,d,dl,hl,by simp[rW,h5],by simp[rW];exact V⟩
   .simp[rW,h5]
   .simp[rW,h7]
   .simp[rW]
   .simp[rW];exact V5
   .clear h5 h6 h7 V5 V6 d5 d6 s;rintro e s ⟨rfl,l,d,dl,hl,h5,V⟩;obtain⟨x5,r5,hx5,f5,_,c5⟩ :=V.frz;have f5:=zhN f5;simp[rW,h5,f5];exact⟨l,hx5,dl,by omega⟩
def fn121:pr.fn 121=some zBs:=by kernel_rfl
def quo32(a:Nat)(ha:a<1000000):zaN .quo (.i .i64 (a:Int)) (.i .i64 32)=some (.i .i64 ((a/32:Nat):Int)):=by
 have e:zaN .quo (.i .i64 (a:Int)) (.i .i64 32)=some (.i .i64 (IntKind.i64.wrap ((a:Int).tdiv 32))):=rfl;rw[e,show((a:Int).tdiv 32)=((a/32:Nat):Int)from rfl,wrap_i64 _ (by omega) (by omega)]
def rem32(a:Nat):zaN .rem (.i .i64 (a:Int)) (.i .i64 32)=some (.i .i64 ((a%32:Nat):Int)):=rfl
def zCZ(s:St)(a b c:Rv):resD s [a,b,c]=om (resV s a) fun x=>om (resV s b) fun y=>om (resV s c) fun z=>some (.tu [x,y,z]):=by
 simp only[resD,zay,om];cases resV s a<;>cases resV s b<;>cases resV s c<;>rfl
def DmR(n:Nat)(y:F):Prop:=y= .tu [.nils,.nils,.b false]\/∃q r,y= .tu [q,r,.b true]/\(zlU q fun l=>l.length<=n)/\zlU r fun _=>True
def DM(u v:List Nat)(B i1 i2 i3 l1 l2:Nat)(e1 e2:Bool)(k:Nat)(s:St):Prop:=
 ∃(r:F) (l q:List Nat) (ro1 ro2:Nat),NF r l/\Dg l/\l.length+k<=B/\q.length=u.length/\Dg q/\
  (s.tm.get 7=some (.sl i1 0 u.length 1 l1 e1)/\s.tm.get 8=some (.sl i2 0 v.length 1 l2 e2)/\s.tm.get 9=some (.sl i3 0 u.length 1 u.length true)/\s.tm.get 10=some (.f r)/\s.tm.get 11=some (.f (.i .i64 ((k:Int) - 1)))/\s.h.get i1=some (.arr 1 ro1 (dE u))/\s.h.get i2=some (.arr 1 ro2 (dE v))/\s.h.get i3=some (.arr 1 0 (dE q)))/\i1<i2/\i2<i3/\i3<s.c
def zqM{h:T Ob}{rd:List Nat}{id ro:Nat}{els:List (List D)}(hg:h.get id=some (.arr 1 ro els)):∃ro',(wrT h (zat h.get rd)).get id=some (.arr 1 ro' els):=by
 rcases zk7 h.get id rd h (.inl rfl)with h1|⟨es,ro',els',h1,h2⟩
 .exact⟨ro,by rw[h1];exact hg⟩
 .rw[hg]at h1;cases h1;exact⟨_,h2⟩
def J121(u v:List Nat)(i1 i2 i3 l1 l2:Nat)(e1 e2:Bool)(k:Nat)(s:St):Prop:=DM u v (32*u.length) i1 i2 i3 l1 l2 e1 e2 k s/\k<=32*u.length
def R121(u v:List Nat)(i1 i2 i3 l1 l2:Nat)(e1 e2:Bool)(x:Ex)(s:St):Prop:=x= .exit 0/\∃k,DM u v (32*u.length) i1 i2 i3 l1 l2 e1 e2 k s
def zDO{x y:F}{a b:List Nat}(hx:NF x a)(hy:NF y b)(da:Dg a)(db:Dg b)(la:a.length<1000)(lb:b.length<50000):∃z,DmR a.length z/\Ans pr 121 [x,y] z:=by
 refine zdR fn121 ?_;simp only[zBs,rU];simp[rW,st0,zal,zak hx,zak hy];refine zez rfl rfl (zdD (zdH hx _ _) (by omega)) ?_;rintro d1 h1 c1 lw1 mx1 ⟨ho1,hf1⟩ hc1;simp only[rG]at ho1 hf1 hc1;simp[rW,zak hy];refine zez rfl rfl (zdD (zdH hy _ _) (by omega)) ?_;rintro d2 h2 c2 lw2 mx2 ⟨ho2,hf2⟩ hc2;simp only[rG]at ho2 hf2 hc2;obtain⟨i1,l1,e1,rfl,g1,j1,k1⟩ :=ho1;obtain⟨i2,l2,e2,rfl,g2,j2,k2⟩ :=ho2;have g1:h2.get i1=some (.arr 1 0 (dE (nrm a))):=by rw[hf2 i1 k1];exact g1
 have ll:=zeh a;have ll2:=zeh b
 replace da:=zdZ da
 replace db:=zdZ db
 generalize nrm a=u at*;generalize nrm b=v at*
 by_cases hv:v=[]
 .subst hv;have e0:((([]:List Nat).length:Nat):Int)=0:=rfl;simp[rW,e0,zCZ];exact .inl rfl
 have hv0:0<v.length:=Z129.2 hv;have m1:u.length<=zax:=by have:=zaH (n:=u.length) (by omega);simpa using this
 have m2:u.length*4<=zax:=by have:=zaH (n:=u.length*4) (by omega);simpa using this
 have w1:IntKind.i64.wrap (32*(u.length:Int))=32*(u.length:Int):=IntWalk.i64_in _ (by omega);have w2:IntKind.i64.wrap (32*(u.length:Int) - 1)=((32*u.length:Nat):Int) - 1:=by rw[IntWalk.i64_in _ (by omega)];omega
 have bm:zaN .mul (.i .i64 32) (.i .i64 (u.length:Int))=some (.i .i64 (IntKind.i64.wrap (32*(u.length:Int)))):=rfl;simp[rW,hv,m1,m2,bm,w1,w2];refine zbS (J121 u v i1 i2 c2 l1 l2 e1 e2) (R121 u v i1 i2 c2 l1 l2 e1 e2) ?_ (32*u.length) _ ⟨⟨.nils,[],List.replicate u.length 0,0,0,.inr ⟨rfl,rfl⟩,fun _ h=>by simp at h,by simp,by simp,?_,⟨?_,?_,?_,?_,?_,?_,?_,?_⟩,by omega,by omega,?_⟩,Z2 _⟩ ?_
 .clear g1 g2 hv0;rintro k s ⟨⟨r,l,q,ro1,ro2,nr,dl,hl,hq,dq,⟨h7,h8,h9,h10,h11,gi1,gi2,gc2⟩,o1,o2,o3⟩,hk⟩;cases k with
  |zero=>
   simp[rW,h11];exact⟨rfl,0,r,l,q,ro1,ro2,nr,dl,hl,hq,dq,⟨by simp[rW,h7],by simp[rW,h8],by simp[rW,h9],by simp[rW,h10],by simp[rW,h11],by simp[rW,gi1],by simp[rW,gi2],by simp[rW,gc2]⟩,o1,o2,by simp[rW,o3]⟩
  |succ m=>
   have em:(((m+1:Nat):Int) - 1)=(m:Int):=by omega
   rw[em]at h11;have hw:IntKind.i64.wrap ((m:Int) - 1)=(m:Int) - 1:=IntWalk.i64_in _ (by omega);have hq32:=quo32 m (by omega);have hr32:=rem32 m;have hi:m/32<u.length:=by omega
   have hiq:m/32<q.length:=by omega
   have x1:=zjr u _ hi;have x3:=zjr q _ hiq;have wc:IntKind.u64.wrap ((m:Int)%32)=(m:Int)%32:=IntWalk.u64_in _ (by omega);have cm:((m%32:Nat):Int)=(m:Int)%32:=by omega
   have tD:((m:Int)/32).toNat=m/32:=by omega
   have pD:(0:Int)<=(m:Int)/32:=by omega
   obtain⟨z1,b1⟩ :=zPh (u[m/32]:Nat) (m%32);rw[cm]at b1;obtain⟨z2,hz2,b2⟩ :=zM5 z1 1;obtain⟨z,⟨lz,nfz,dgz,nrz,hlz⟩,az⟩ :=zDP nr dl (by omega) z2 hz2;have qz:=fun k=>zad (k:=k) az
   have V8:VL s.h s.c (.sl i2 0 v.length 1 l2 e2) v:= .inr ⟨i2,l2,e2,ro2,rfl,gi2,by omega⟩;obtain⟨y2,r2,hy2,f2,oid2,c2'⟩ :=V8.frz;have f2:=zhN f2;have qc:=fun k=>zad (k:=k) (zmE nfz hy2 dgz db (by omega) (by omega))
   have oc:=zhU s.h.get r2 c2';have n3:c2∉r2:=fun hm=>by have:=oid2 _ hm;simp[D.oid]at this;omega
   obtain⟨ro1',G1⟩ :=zqM (rd:=r2) gi1;obtain⟨ro2',G2⟩ :=zqM (rd:=r2) gi2;have G3:(wrT s.h (zat s.h.get r2)).get c2=some (.arr 1 0 (dE q)):=by rw[zn6 _ _ _ _ n3];exact gc2
   by_cases hge:nv v<=nv lz
   .have hc:(0:Int)<=cN (nv lz) (nv v):=by
     unfold cN;rw[Z49 (by omega)];split<;>decide
    generalize cN (nv lz) (nv v)=C at qc hc;have W8:VL (wrT s.h (zat s.h.get r2)) s.c (.sl i2 0 v.length 1 l2 e2) v:= .inr ⟨i2,l2,e2,ro2',rfl,G2,by omega⟩;obtain⟨y3,r3,hy3,f3,oid3,c3'⟩ :=W8.frz;have f3:=zhN f3;obtain⟨w,⟨lw,nfw,dgw,nrw,hvw,hlw⟩,aw⟩ :=zmF nfz hy3 dgz db (by omega) (by omega) hge;have qw:=fun k=>zad (k:=k) aw
    have ow:=zhU (wrT s.h (zat s.h.get r2)).get r3 c3';have n3':c2∉r3:=fun hm=>by have:=oid3 _ hm;simp[D.oid]at this;omega
    obtain⟨ro1'',K1⟩ :=zqM (rd:=r3) G1;obtain⟨ro2'',K2⟩ :=zqM (rd:=r3) G2;have K3:(wrT (wrT s.h (zat s.h.get r2)) (zat (wrT s.h (zat s.h.get r2)).get r3)).get c2=some (.arr 1 0 (dE q)):=by rw[zn6 _ _ _ _ n3'];exact G3
    obtain⟨d1,hd1,b3⟩ :=zzP 1 (m%32);rw[cm]at b3;obtain⟨d2,hd2,b4⟩ :=zFw (q[m/32]:Nat) d1;have sE:=zsH q (m/32) d2;have n13:¬i1=c2:=by omega
    have n23:¬i2=c2:=by omega
    simp[rW,h7,h8,h9,h10,h11,gi1,gi2,gc2,hi,hq32,hr32,x1,wc,tD,pD,b1,b2,zak nr,qz,zak nfz,f2,qc,hc,oc,f3,qw,ow,zak nfw,K3,x3,b3,b4,sE,zjs,hw,o3];rw[za1];refine⟨m,by omega,⟨w,lw,q.set (m/32) d2,ro1'',ro2'',nfw,dgw,by omega,by simp[hq],zwD dq hd2,⟨?_,?_,?_,?_,?_,?_,?_,?_⟩,o1,o2,?_⟩,by omega⟩
    all_goals simp[rW,h7,h8,h9,h10,h11,gi1,gi2,gc2,n13,n23,K1,K2,K3,hw,o3]
   .rw[zve (by omega)]at qc;simp[rW,h7,h8,h9,h10,h11,gi1,gi2,gc2,hi,hq32,hr32,x1,wc,tD,pD,b1,b2,zak nr,qz,zak nfz,f2,qc,oc,hw];rw[za1];refine⟨m,by omega,⟨z,lz,q,ro1',ro2',nfz,dgz,by omega,hq,dq,⟨?_,?_,?_,?_,?_,?_,?_,?_⟩,o1,o2,?_⟩,by omega⟩
    all_goals simp[rW,h7,h8,h9,h10,h11,gi1,gi2,gc2,G1,G2,G3,hw,o3]
 .intro d hd;rw[List.eq_of_mem_replicate hd];decide
 .simp[rW]
 .simp[rW]
 .simp[rW]
 .simp[rW]
 .simp[rW]
 .have:¬i1=c2:=by omega
  simp[rW,this,g1]
 .have:¬i2=c2:=by omega
  simp[rW,this,g2]
 .simp[rW,dE]
 .simp[rW]
 .rintro x s ⟨rfl,k,r,l,q,ro1,ro2,nr,dl,hl,hq,dq,⟨h7,h8,h9,h10,h11,gi1,gi2,gc2⟩,o1,o2,o3⟩;have rr:Rd1 s.h s.c (.sl c2 0 u.length 1 u.length true) q:=by
   have:=zk9 (c:=s.c) (lim:=u.length) (ex:=true) gc2 (by omega);rw[hq]at this;exact this
  simp[rW,h9,h10];refine zez rfl rfl (zdD (rr.up (by simp only[rG];omega) (fun id _=>by simp only[rG])) (by omega)) ?_;rintro d3 h3 c3 lw3 mx3 ⟨ho3,hf3⟩ hc3;simp only[rG]at ho3 hf3 hc3;simp[rW,h9,h10,zak nr];refine zez rfl rfl (zdD (zdH nr _ _) (by omega)) ?_;rintro d4 h4 c4 lw4 mx4 ⟨ho4,hf4⟩ hc4;simp only[rG]at ho4 hf4 hc4;have v3:VL h4 c4 d3 (nrm q):=ho3.vl.up hc4 hf4;obtain⟨z3,r3,hz3,f3,-,-⟩ :=v3.frz;obtain⟨z4,r4,hz4,f4,-,-⟩ :=ho4.vl.frz;have f3:frz h4.get 11 d3=some (z3,r3):=f3 9;have f4:frz h4.get 11 d4=some (z4,r4):=f4 9;simp[rW,v3.cells,ho4.cells,f3,f4,zCZ];refine .inr ⟨z3,z4,rfl,⟨nrm q,hz3,zdZ dq,zdG q,?_⟩,nrm l,hz4,zdZ dl,zdG l,trivial⟩;have:=zeh q;omega
def fn78:pr.fn 78=some g78:=by kernel_rfl
def fn47:pr.fn 47=some g47:=by kernel_rfl
def fn46:pr.fn 46=some g46:=by kernel_rfl
def zBd:pr.fn 169=some zsP:=by kernel_rfl
def fn210:pr.fn 210=some zBE:=by kernel_rfl
def fn170:pr.fn 170=some zBy:=by kernel_rfl
def fn20:pr.fn 20=some g20:=by kernel_rfl
def fn118:pr.fn 118=some zBp:=by kernel_rfl
def fn119:pr.fn 119=some zBq:=by kernel_rfl
def fn116:pr.fn 116=some zBk:=by kernel_rfl
def FrP(n:Nat)(p:List F):Prop:=∃b x y l m,p=[.b b,x,y]/\NF x l/\NF y m/\Dg l/\Dg m/\l.length<=n/\m.length<=n
def FrP.up{n m:Nat}{p:List F}(h:FrP n p)(hn:n<=m):FrP m p:=by
 obtain⟨b,x,y,l,k,h1,h2,h3,h4,h5,h6,h7⟩ :=h;exact⟨b,x,y,l,k,h1,h2,h3,h4,h5,by omega,by omega⟩
def of1:Ans pr 79 [.i .u64 1] (.sl 1 [[.i .u32 1]]):=zaF (n:=1000) (zaM pr) (by kernel_rfl)
def fi0:Ans pr 42 [.i .i64 0] (.ag [.b false,.nils,.sl 1 [[.i .u32 1]]]):=zaF (n:=1000) (zaM pr) (by kernel_rfl)
def fi1:Ans pr 42 [.i .i64 1] (.ag [.b false,.sl 1 [[.i .u32 1]],.sl 1 [[.i .u32 1]]]):=zaF (n:=1000) (zaM pr) (by kernel_rfl)
def nf1:NF (.sl 1 [[.i .u32 1]]) [1]:= .inl rfl
def dgI:Dg [1]:=fun d hd=>by rw[Z31.1 hd];decide
def dgNl:Dg []:=fun d hd=>by simp at hd
def nfN:NF .nils []:= .inr ⟨rfl,rfl⟩
def zlC:FrP 1 [.b false,.nils,.sl 1 [[.i .u32 1]]]:=⟨_,_,_,[],[1],rfl,nfN,nf1,dgNl,dgI,by simp,by simp⟩
def frp1:FrP 1 [.b false,.sl 1 [[.i .u32 1]],.sl 1 [[.i .u32 1]]]:=⟨_,_,_,[1],[1],rfl,nf1,nf1,dgI,dgI,by simp,by simp⟩
def znT(b:Bool){x y:F}{l m:List Nat}(hx:NF x l)(hy:NF y m)(dl:Dg l)(dm:Dg m)(n:Nat)(h1:1<=n)(hn:n<1000)(ll:l.length<=n)(lm:m.length<=n):∃p,FrP n p/\Ans pr 78 [.b b,x,y] (.ag p):=by
 have main:∃z,(∃p,z= .ag p/\FrP n p)/\Ans pr 78 [.b b,x,y] z:=by
  obtain⟨g,⟨k,nk,dk,lk⟩,ag⟩ :=zRz hx hy dl dm n ll lm hn;have qg:=fun k=>zad (k:=k) ag
  obtain⟨r1,hr1,a1⟩ :=zDO hx nk dl dk (by omega) (by omega);obtain⟨r2,hr2,a2⟩ :=zDO hy nk dm dk (by omega) (by omega);have q1:=fun k=>zad (k:=k) a1
  have q2:=fun k=>zad (k:=k) a2
  have qo:=fun k=>zad (k:=k) of1
  have ez:∃p,(F.ag [.b false,.nils,.sl 1 [[.i .u32 1]]])= .ag p/\FrP n p:=⟨_,rfl,zlC.up h1⟩
  refine zdR fn78 ?_;simp only[g78,rU];rcases hr1 with rfl|⟨u,r,rfl,⟨lu,nu,du,nru,hlu⟩,lr,nr,-⟩
  .rcases hr2 with rfl|⟨v,t,rfl,⟨lv,nv',dv,nrv,hlv⟩,lt,nt,-⟩
   .simp[rW,st0,zal,zak hx,zak hy,zak nk,qg,q1,q2,qo];exact zlC.up h1
   .simp[rW,st0,zal,zak hx,zak hy,zak nk,zak nv',zak nt,qg,q1,q2,qo];exact zlC.up h1
  .rcases hr2 with rfl|⟨v,t,rfl,⟨lv,nv',dv,nrv,hlv⟩,lt,nt,-⟩
   .have e1:=(zdH nu .e 0).len
    by_cases c1:lu=[]
    .subst c1;simp[rW,st0,zal,zak hx,zak hy,zak nk,zak nu,zak nr,qg,q1,q2,qo,e1];exact zlC.up h1
    .have c1':¬lu.length=0:=fun e=>c1 (Z17.1 e)
     simp[rW,st0,zal,zak hx,zak hy,zak nk,zak nu,zak nr,qg,q1,q2,qo,e1,c1];exact zlC.up h1
   .have e1:=(zdH nu .e 0).len;have e2:=(zdH nv' .e 0).len
    by_cases c1:lu=[]
    .subst c1;simp[rW,st0,zal,zak hx,zak hy,zak nk,zak nu,zak nr,zak nv',zak nt,qg,q1,q2,qo,e1];exact zlC.up h1
    .by_cases c2:lv=[]
     .subst c2;simp[rW,st0,zal,zak hx,zak hy,zak nk,zak nu,zak nr,zak nv',zak nt,qg,q1,q2,qo,e1,e2,c1];exact zlC.up h1
     .have cu:(D.f u).cells=some [.f u]:=by rcases nu with rfl|⟨rfl,_⟩ <;>rfl
      have cv:(D.f v).cells=some [.f v]:=by rcases nv' with rfl|⟨rfl,_⟩ <;>rfl
      simp[rW,st0,zal,zak hx,zak hy,zak nk,zak nu,zak nr,zak nv',zak nt,qg,q1,q2,qo,e1,e2,c1,c2,cu,cv];exact⟨_,_,_,lu,lv,rfl,nu,nv',du,dv,by omega,by omega⟩
 obtain⟨z,⟨p,rfl,hp⟩,ha⟩ :=main;exact⟨p,hp,ha⟩
def zaX{x:F}{l:List Nat}(h:NF x l):(D.f x).cells=some [.f x]:=by rcases h with rfl|⟨rfl,_⟩ <;>rfl
def zAF{n:Nat}{p:List F}(h:FrP n p)(h1:1<=n)(hn:n<1000):∃q,FrP n q/\Ans pr 47 [.ag p] (.ag q):=by
 obtain⟨b,x,y,l,m,rfl,nx,ny,dl,dm,ll,lm⟩ :=h;obtain⟨q,hq,aq⟩ :=znT b nx ny dl dm n h1 hn ll lm;refine⟨q,hq,?_⟩;obtain⟨b',x',y',l',m',rfl,nx',ny',-,-,-,-⟩ :=hq;have qf:=fun k=>zad (k:=k) aq
 refine zbN fn47 ?_;simp only[g47,rU];simp[rW,st0,zal,zak nx,zak ny,qf,zak nx',zak ny',zaX nx,zaX ny,zaX nx',zaX ny']
def zRC{n:Nat}{p:List F}(h:FrP n p)(h1:1<=n)(hn:n<1000):∃q,FrP n q/\Ans pr 210 [.ag p] (.ag q):=by
 obtain⟨b,x,y,l,m,rfl,nx,ny,dl,dm,ll,lm⟩ :=h;obtain⟨q,hq,aq⟩ :=znT (!b) nx ny dl dm n h1 hn ll lm;refine⟨q,hq,?_⟩;obtain⟨b',x',y',l',m',rfl,nx',ny',-,-,-,-⟩ :=hq;have qf:=fun k=>zad (k:=k) aq
 refine zbN fn210 ?_;simp only[zBE,rU];simp[rW,st0,zal,zak nx,zak ny,qf,zak nx',zak ny',zaX nx,zaX ny,zaX nx',zaX ny']
def ans46{n m:Nat}{p q:List F}(hp:FrP n p)(hq:FrP m q)(h1:1<=n+m)(hn:n+m<1000):∃r,FrP (n+m) r/\Ans pr 46 [.ag p,.ag q] (.ag r):=by
 obtain⟨b,x,y,l,k,rfl,nx,ny,dl,dk,ll,lk⟩ :=hp;obtain⟨b2,x2,y2,l2,k2,rfl,nx2,ny2,dl2,dk2,ll2,lk2⟩ :=hq;obtain⟨u,⟨lu,nu,du,-,hlu⟩,au⟩ :=zpQ nx nx2 dl dl2 (by omega) (by omega);obtain⟨v,⟨lv,nv',dv,-,hlv⟩,av⟩ :=zpQ ny ny2 dk dk2 (by omega) (by omega);obtain⟨r,hr,ar⟩ :=znT (!(b==b2)) nu nv' du dv (n+m) h1 hn (by omega) (by omega);refine⟨r,hr,?_⟩;obtain⟨b',x',y',l',m',rfl,nx',ny',-,-,-,-⟩ :=hr;have q1:=fun k=>zad (k:=k) au
 have q2:=fun k=>zad (k:=k) av
 have qf:=fun k=>zad (k:=k) ar
 refine zbN fn46 ?_;simp only[g46,rU];simp[rW,st0,zal,zak nx,zak ny,zak nx2,zak ny2,zaX nx,zaX ny,zaX nx2,zaX ny2];refine zaq ?_;simp[rW,st0,zal,q1,q2,qf,zak nx,zak ny,zak nx2,zak ny2,zak nu,zak nv',zak nx',zak ny',zaX nx',zaX ny']
def zpP{n:Nat}{p:List F}(h:FrP n p)(h1:1<=n)(hn:n<1000):∃z:Int,Ans pr 20 [.ag p] (.i .i64 z):=by
 obtain⟨q,hq,aq⟩ :=zAF h h1 hn;obtain⟨b,x,y,l,m,rfl,nx,ny,dl,dm,ll,lm⟩ :=h;obtain⟨b',x',y',l',m',rfl,nx',ny',-,-,-,-⟩ :=hq;have qf:=fun k=>zad (k:=k) aq
 have e1:=(zdH nx' .e 0).len;have main:∃w,(∃z:Int,w= .i .i64 z)/\Ans pr 20 [.ag [.b b,x,y]] w:=by
  refine zdR fn20 ?_;simp only[g20,rU]
  by_cases hz:l'=[]
  .subst hz;simp[rW,st0,zal,zak nx,zak ny,qf,zak nx',zak ny',zaX nx,zaX ny,zaX nx',zaX ny',e1]
  .cases b'
   .simp[rW,st0,zal,zak nx,zak ny,qf,zak nx',zak ny',zaX nx,zaX ny,zaX nx',zaX ny',e1,hz]
   .simp[rW,st0,zal,zak nx,zak ny,qf,zak nx',zak ny',zaX nx,zaX ny,zaX nx',zaX ny',e1,hz]
 obtain⟨_,⟨z,rfl⟩,ha⟩ :=main;exact⟨z,ha⟩
def zwa{n:Nat}{p q:List F}(hp:FrP n p)(hq:FrP n q)(h1:1<=n)(hn:2*n+1<1000):∃r,FrP (2*n+1) r/\Ans pr 169 [.ag p,.ag q] (.ag r):=by
 obtain⟨p',hp',ap⟩ :=zAF hp h1 (by omega);obtain⟨q',hq',aq⟩ :=zAF hq h1 (by omega);obtain⟨b,x,y,l,k,rfl,nx,ny,dl,dk,ll,lk⟩ :=hp;obtain⟨b2,x2,y2,l2,k2,rfl,nx2,ny2,dl2,dk2,ll2,lk2⟩ :=hq;obtain⟨c,X,Y,L,K,rfl,nX,nY,dL,dK,lL,lK⟩ :=hp';obtain⟨c2,X2,Y2,L2,K2,rfl,nX2,nY2,dL2,dK2,lL2,lK2⟩ :=hq';obtain⟨u,⟨lu,nu,du,-,hlu⟩,au⟩ :=zpQ nX nY2 dL dK2 (by omega) (by omega);obtain⟨v,⟨lv,nv',dv,-,hlv⟩,av⟩ :=zpQ nX2 nY dL2 dK (by omega) (by omega);obtain⟨w,⟨lw,nw,dw,-,hlw⟩,aw⟩ :=zpQ nY nY2 dK dK2 (by omega) (by omega);have qp:=fun k=>zad (k:=k) ap
 have qq:=fun k=>zad (k:=k) aq
 have qu:=fun k=>zad (k:=k) au
 have qv:=fun k=>zad (k:=k) av
 have qw:=fun k=>zad (k:=k) aw
 by_cases hb:c=c2
 .subst hb;obtain⟨s,⟨ls,ns,ds,-,hls⟩,asz⟩ :=zRB nu nv' du dv (2*n) (by omega) (by omega) (by omega);obtain⟨r,hr,ar⟩ :=znT c ns nw ds dw (2*n+1) (by omega) hn (by omega) (by omega);refine⟨r,hr,?_⟩;obtain⟨b',x',y',l',m',rfl,nx',ny',-,-,-,-⟩ :=hr;have qs:=fun k=>zad (k:=k) asz
  have qr:=fun k=>zad (k:=k) ar
  refine zbN zBd ?_;simp only[zsP,rU];simp[rW,st0,zal,zak nx,zak ny,zak nx2,zak ny2,zaX nx,zaX ny,zaX nx2,zaX ny2];refine zaq ?_;simp[rW,qp,qq,zak nx,zak ny,zak nx2,zak ny2,zak nX,zak nY,zak nX2,zak nY2,zaX nX,zaX nY,zaX nX2,zaX nY2];refine zaq ?_;simp[rW,qu,qv,zak nu,zak nv',zak nX,zak nY,zak nX2,zak nY2];simp[rW,qw,zak nw,zak nY,zak nY2];refine zaq ?_;simp[rW,qs,qr,zak nu,zak nv',zak nw,zak ns,zak nx',zak ny',zaX nx',zaX ny']
 .have hb':(c==c2)=false:=by simpa using hb
  by_cases hle:nv lv<=nv lu
  .have qc:=fun k=>zad (k:=k) (zmE nu nv' du dv (by omega) (by omega))
   have hc:(0:Int)<=cN (nv lu) (nv lv):=by
    unfold cN;rw[Z49 (by omega)];split<;>decide
   generalize cN (nv lu) (nv lv)=C at qc hc;obtain⟨s,⟨ls,ns,ds,-,-,hls⟩,asz⟩ :=zmF nu nv' du dv (by omega) (by omega) hle;obtain⟨r,hr,ar⟩ :=znT c ns nw ds dw (2*n+1) (by omega) hn (by omega) (by omega);refine⟨r,hr,?_⟩;obtain⟨b',x',y',l',m',rfl,nx',ny',-,-,-,-⟩ :=hr;have qs:=fun k=>zad (k:=k) asz
   have qr:=fun k=>zad (k:=k) ar
   refine zbN zBd ?_;simp only[zsP,rU];simp[rW,st0,zal,zak nx,zak ny,zak nx2,zak ny2,zaX nx,zaX ny,zaX nx2,zaX ny2];refine zaq ?_;simp[rW,qp,qq,zak nx,zak ny,zak nx2,zak ny2,zak nX,zak nY,zak nX2,zak nY2,zaX nX,zaX nY,zaX nX2,zaX nY2];refine zaq ?_;simp[rW,qu,qv,qw,zak nu,zak nv',zak nw,zak nX,zak nY,zak nX2,zak nY2,hb',qc,hc,qs,qr,zak ns,zak nx',zak ny',zaX nx',zaX ny']
  .have qc:=fun k=>zad (k:=k) (zmE nu nv' du dv (by omega) (by omega))
   rw[zve (by omega)]at qc;obtain⟨s,⟨ls,ns,ds,-,-,hls⟩,asz⟩ :=zmF nv' nu dv du (by omega) (by omega) (by omega);obtain⟨r,hr,ar⟩ :=znT c2 ns nw ds dw (2*n+1) (by omega) hn (by omega) (by omega);refine⟨r,hr,?_⟩;obtain⟨b',x',y',l',m',rfl,nx',ny',-,-,-,-⟩ :=hr;have qs:=fun k=>zad (k:=k) asz
   have qr:=fun k=>zad (k:=k) ar
   refine zbN zBd ?_;simp only[zsP,rU];simp[rW,st0,zal,zak nx,zak ny,zak nx2,zak ny2,zaX nx,zaX ny,zaX nx2,zaX ny2];refine zaq ?_;simp[rW,qp,qq,zak nx,zak ny,zak nx2,zak ny2,zak nX,zak nY,zak nX2,zak nY2,zaX nX,zaX nY,zaX nX2,zaX nY2];refine zaq ?_;simp[rW,qu,qv,qw,zak nu,zak nv',zak nw,zak nX,zak nY,zak nX2,zak nY2,hb',qc,qs,qr,zak ns,zak nx',zak ny',zaX nx',zaX ny']
def FrP.cells{n:Nat}{p:List F}(h:FrP n p):∃a b c,p=[a,b,c]/\a.d= .f a/\b.d= .f b/\c.d= .f c/\(D.f a).cells=some [.f a]/\(D.f b).cells=some [.f b]/\(D.f c).cells=some [.f c]:=by
 obtain⟨b,x,y,l,k,rfl,nx,ny,-⟩ :=h;exact⟨_,_,_,rfl,rfl,zak nx,zak ny,rfl,zaX nx,zaX ny⟩
def zRA{n:Nat}{p q:List F}(hp:FrP n p)(hq:FrP n q)(h1:1<=n)(hn:2*n+1<1000):∃r,FrP (2*n+1) r/\Ans pr 170 [.ag p,.ag q] (.ag r):=by
 obtain⟨q',hq',aq⟩ :=zRC hq h1 (by omega);obtain⟨r,hr,ar⟩ :=zwa hp hq' h1 hn;refine⟨r,hr,?_⟩;obtain⟨a0,a1,a2,rfl,d0,d1,d2,c0,c1,c2⟩ :=hp.cells;obtain⟨b0,b1,b2,rfl,e0,e1,e2,k0,k1,k2⟩ :=hq.cells;obtain⟨x0,x1,x2,rfl,f0,f1,f2,g0,g1,g2⟩ :=hq'.cells;obtain⟨y0,y1,y2,rfl,i0,i1,i2,j0,j1,j2⟩ :=hr.cells;have q1:=fun k=>zad (k:=k) aq
 have q2:=fun k=>zad (k:=k) ar
 refine zbN fn170 ?_;simp only[zBy,rU];simp[rW,st0,zal,d0,d1,d2,c0,c1,c2,e0,e1,e2,k0,k1,k2];refine zaq ?_;simp[rW,q1,q2,d0,d1,d2,e0,e1,e2,f0,f1,f2,i0,i1,i2,j0,j1,j2]
def zDN{n:Nat}{p:List F}(hp:FrP n p)(h1:1<=n)(hn:2*n+1<1000):∃r,FrP (2*n+1) r/\Ans pr 118 [.ag p] (.ag r):=by
 obtain⟨r,hr,ar⟩ :=zRA (frp1.up h1) hp h1 hn;refine⟨r,hr,?_⟩;obtain⟨a0,a1,a2,rfl,d0,d1,d2,c0,c1,c2⟩ :=hp.cells;obtain⟨y0,y1,y2,rfl,i0,i1,i2,j0,j1,j2⟩ :=hr.cells;have q1:=fun k=>zad (k:=k) fi1
 have q2:=fun k=>zad (k:=k) ar
 refine zbN fn118 ?_;simp only[zBp,rU];simp[rW,st0,zal,d0,d1,d2,c0,c1,c2];refine zaq ?_;simp[rW,q1,q2,d0,d1,d2,i0,i1,i2,j0,j1,j2]
def zRt{n:Nat}{p:List F}(hp:FrP n p)(h1:1<=n)(hn:2*n+1<1000):∃b,Ans pr 116 [.ag p] (.b b):=by
 obtain⟨z,az⟩ :=zpP hp h1 (by omega);obtain⟨r,hr,ar⟩ :=zDN hp h1 hn;obtain⟨w,aw⟩ :=zpP hr (by omega) hn;obtain⟨a0,a1,a2,rfl,d0,d1,d2,c0,c1,c2⟩ :=hp.cells;obtain⟨y0,y1,y2,rfl,i0,i1,i2,j0,j1,j2⟩ :=hr.cells;have q1:=fun k=>zad (k:=k) az
 have q2:=fun k=>zad (k:=k) ar
 have q3:=fun k=>zad (k:=k) aw
 have main:∃w,(∃b,w= .b b)/\Ans pr 116 [.ag [a0,a1,a2]] w:=by
  refine zdR fn116 ?_;simp only[zBk,rU]
  by_cases hz:0<=z
  .simp[rW,st0,zal,d0,d1,d2,c0,c1,c2,q1,q2,q3,hz,i0,i1,i2];omega
  .simp[rW,st0,zal,d0,d1,d2,c0,c1,c2,q1,q2,q3,hz,i0,i1,i2]
 obtain⟨_,⟨b,rfl⟩,ha⟩ :=main;exact⟨b,ha⟩
def psF(l:List (List F)):F:=slc 3 l
def J119(l:List (List F))(n:Nat)(s:St):Prop:=∃p0 p1 p2,FrP (2 ^ (n+1) - 1) [p0,p1,p2]/\(s.tm.get 0=some (.f (psF l))/\s.tm.get 2=some (.ptr 0 3 0 0)/\s.tm.get 3=some (.ptr 1 3 0 0)/\s.tm.get 4=some (.f (.i .i64 n))/\s.h.get 0=some (.arr 3 0 [[.f (.b false),.f .nils,.f .nils]])/\s.h.get 1=some (.arr 3 0 [[.f p0,.f p1,.f p2]]))/\2<=s.c
def zRx(l:List (List F))(hl:l.length<=3)(h:∀p∈l,FrP 1 p):∃r,FrP 15 r/\Ans pr 119 [psF l] (.ag r):=by
 have main:∃w,(∃r,w= .ag r/\FrP 15 r)/\Ans pr 119 [psF l] w:=by
  refine zdR fn119 ?_;have hd:(psF l).d= .f (psF l):=zeI ..;have hlen:zbj (.f (psF l))=some l.length:=zdp ..;have q0:=fun k=>zad (k:=k) fi0
  simp only[zBq,rU];simp[rW,st0,zal,hd,q0];refine zex l.length (J119 l) (fun e s=>e= .exit 0/\J119 l l.length s) ?_ ?_ _ ⟨_,_,_,zlC,⟨?_,?_,?_,?_,?_,?_⟩,?_⟩ ?_
  .rintro n s hn ⟨p0,p1,p2,hp,⟨h0,h2,h3,h4,g0,g1⟩,hc⟩;have hw:=zaB n (by omega);have hpow:(2:Nat) ^ (n+1)<=8:=by
    have:n+1<=3:=by omega
    exact Z113 (n:=2) (by omega) this
   have hp1:2<=(2:Nat) ^ (n+1):=by
    have:=Z113 (n:=2) (i:=1) (by omega) (by omega:1<=n+1);omega
   have hq:=h _ (Z1 hn);obtain⟨r,hr,ar⟩ :=zwa hp (hq.up (by omega)) (by omega) (by omega);have e2:2*(2 ^ (n+1) - 1)+1=2 ^ (n+1+1) - 1:=by rw[Z195 2 (n+1)];omega
   rw[e2]at hr;have hia:iaB 3 (.f (psF l)) n=some (.fptr l[n]):=by rw[psF,zd6];simp[hn]
   obtain⟨x0,x1,x2,hx,d0,d1,d2,-,-,-⟩ :=hq.cells;obtain⟨y0,y1,y2,rfl,i0,i1,i2,j0,j1,j2⟩ :=hr.cells;rw[hx]at hia ar;have qa:=fun k=>zad (k:=k) ar
   have c0:0<s.c:=by omega
   have c1:1<s.c:=by omega
   simp[rW,h0,h2,h3,h4,g0,g1,hn,hlen];refine zaq ?_;simp[rW,h0,h2,h3,h4,g0,g1,hia,qa,i0,i1,i2,j0,j1,j2,hw,c0,c1];refine⟨y0,y1,y2,hr,⟨?_,?_,?_,?_,?_,?_⟩,?_⟩
   all_goals simp[rW,h0,h2,h3,h4,g0,g1,hw,hc]
  .rintro s ⟨p0,p1,p2,hp,⟨h0,h2,h3,h4,g0,g1⟩,hc⟩;simp[rW,h0,h4,hlen];exact⟨p0,p1,p2,hp,⟨by simp[rW,h0],by simp[rW,h2],by simp[rW,h3],by simp[rW,h4],by simp[rW,g0],by simp[rW,g1]⟩,by simp[rW,hc]⟩
  .simp[rW]
  .simp[rW]
  .simp[rW]
  .simp[rW]
  .simp[rW]
  .simp[rW]
  .simp[rW]
  .rintro e s ⟨rfl,p0,p1,p2,hp,⟨h0,h2,h3,h4,g0,g1⟩,hc⟩;have hpow:(2:Nat) ^ (l.length+1)<=16:=Z113 (n:=2) (by omega) (by omega:l.length+1<=4);have hp:=hp.up (m:=15) (by omega);have c0:0<s.c:=by omega
   simp[rW,h2,h3,g0,g1,c0];exact hp
 obtain⟨w,⟨r,rfl,hr⟩,ha⟩ :=main;exact⟨r,hr,ha⟩
end Go.Proofs.YtkcnnkncapiohaaGreatDoor
end
