/- Sums of probabilities, Validate. -/
import Derived.Test.YtlmnmaginhebdaaGreatDoorPa
import Derived.KernelRfl
import Derived.IntWalk
import Derived.Test.YtlmnmaginhebdaaGreatDoorHa
import Derived.Test.YtlmnmaginhebdaaGreatDoorPr
import Derived.Test.YtlmnmaginhebdaaGreatDoorVe
set_option linter.all false
set_option maxRecDepth 100000
set_option maxHeartbeats 4000000
noncomputable section
section
namespace Go.Proofs.YtlmnmaginhebdaaGreatDoor
open Go Go.Vse Go.Vse.Sm
def fn68:pr.fn 68=some g68:=by kernel_rfl
def fn32:pr.fn 32=some g32:=by kernel_rfl
def fn34:pr.fn 34=some g34:=by kernel_rfl
structure znJ(SS:Nat->List F->Prop)(PP:List F->Prop):Prop where
 z:∃p,SS 0 p/\Ans pr 14 [.i .i64 0] (.ag p)
 pc:∀k p,SS k p->Pc p
 pp:∀p,PP p->Pc p
 add:∀k s p,k<3->SS k s->PP p->∃r,SS (k+1) r/\Ans pr 136 [.ag s,.ag p] (.ag r)
 prob:∀k s,SS k s->∃b,Ans pr 67 [.ag s] (.b b)
 norm:∀p,PP p->Ans pr 71 [.ag p] (.ag p)
def ixF(b:List Nat):F:= .sl 1 (b.map fun i=>[.i .i64 (i:Nat)])
def I73(SS:Nat->List F->Prop)(r:Rl)(b:List Nat)(k:Nat)(s:St):Prop:=
 ∃n:Nat,n<=b.length/\k=b.length - n/\s.tm.get 1=some (.f (ixF b))/\s.tm.get 2=some (.ptr 0 4 0 0)/\s.tm.get 4=some (.ptr 1 3 0 0)/\s.tm.get 5=some (.ptr 2 3 0 0)/\s.tm.get 6=some (.f (.i .i64 n))/\
  s.h.get 0=some (.arr 4 0 [[.f (.s r.nm),.f (.b r.ce),.f r.co,.f (slc 4 (r.tu.map tuF))]])/\s.h.get 1=some (.arr 3 0 [[.f (.b false),.f .nils,.f .nils]])/\3<=s.c/\
  ∃p0 p1 p2:F,SS n [p0,p1,p2]/\s.h.get 2=some (.arr 3 0 [[.f p0,.f p1,.f p2]])
def R73(SS:Nat->List F->Prop)(b:List Nat)(x:Ex)(s:St):Prop:=
 x= .exit 0/\s.tm.get 4=some (.ptr 1 3 0 0)/\s.tm.get 5=some (.ptr 2 3 0 0)/\s.h.get 1=some (.arr 3 0 [[.f (.b false),.f .nils,.f .nils]])/\3<=s.c/\∃p0 p1 p2:F,SS b.length [p0,p1,p2]/\s.h.get 2=some (.arr 3 0 [[.f p0,.f p1,.f p2]])
theorem ans68{SS:Nat->List F->Prop}{PP:List F->Prop}(hS:znJ SS PP)(r:Rl)(hco:r.co.d= .f r.co)(hce:(D.f r.co).cells=some [.f r.co])(hT:∀t∈r.tu,PP t.2)(b:List Nat)(hb:b.length<=3)(hbi:∀i∈b,i<r.tu.length):
  ∃p,SS b.length p/\Ans pr 68 [.ag (rlF r),ixF b] (.ag p):=by
 have main:∃y,(∃p,y= .ag p/\SS b.length p)/\Ans pr 68 [.ag (rlF r),ixF b] y:=by
  refine zuq fn68 ?_;obtain⟨z,hz0,hz⟩ :=hS.z;obtain⟨z0,z1,z2,rfl,hd0,hd1,hd2⟩ :=hS.pc _ _ hz0;have q16:=fun k=>zal (k:=k) hz
  simp only[g68,rU];simp -implicitDefEqProofs [rR,st0,zaF,rlF,ixF,hco,q16,hd0,hd1,hd2];refine zfm (I73 SS r b) (R73 SS b) ?_ b.length _ ⟨0,Z61 _,rfl,?_,?_,?_,?_,?_,?_,?_,?_,z0,z1,z2,hz0,?_⟩ ?_
  any_goals (simp -implicitDefEqProofs [rR,zaF,ixF];done)
  .rintro k s ⟨n,hn,rfl,h1,h2,h4,h5,h6,g0,g1,hc,p0,p1,p2,hp,g2⟩;have hw:=zcM n (by omega);have c0:0<s.c:=by omega
   have c1:1<s.c:=by omega
   have c2:2<s.c:=by omega
   by_cases hlt:n<b.length
   .have hix:=hbi _ (Z1 hlt);have hpt:=hT _ (Z1 hix);obtain⟨x0,x1,x2,hx,_,_,_⟩ :=hS.pp _ hpt;have htu:tuF (r.tu[b[n]])=[valsF (r.tu[b[n]]).1,x0,x1,x2]:=by unfold tuF;rw[hx]
    obtain⟨w,hw1,hw2⟩ :=hS.add n _ _ (by omega) hp hpt;obtain⟨w0,w1,w2,rfl,he0,he1,he2⟩ :=hS.pc _ _ hw1;rw[hx]at hw2;have q113:=fun k=>zal (k:=k) hw2
    simp only[ixF]at h1;simp -implicitDefEqProofs [rR,h1,h2,h4,h5,h6,g0,g1,g2,hlt];refine zaV ?_;simp -implicitDefEqProofs [rR,h1,h2,h4,h5,h6,g0,g1,g2,hlt,hix,htu,q113,he0,he1,he2,c0,c1,c2,hw];rw[zc0];refine⟨b.length - (n+1),by omega,n+1,by omega,rfl,?_,?_,?_,?_,?_,?_,?_,?_,w0,w1,w2,hw1,?_⟩
    all_goals simp -implicitDefEqProofs [rR,h1,h2,h4,h5,h6,g0,g1,g2,ixF,c0,c1,c2,hc]
   .have hnl:n=b.length:=by omega
    subst hnl;simp only[ixF]at h1;simp -implicitDefEqProofs [rR,h1,h6];exact⟨rfl,by simp -implicitDefEqProofs [rR,h4],by simp -implicitDefEqProofs [rR,h5],by simp -implicitDefEqProofs [rR,g1],by simp -implicitDefEqProofs [rR,hc],p0,p1,p2,hp,by simp -implicitDefEqProofs [rR,g2]⟩
  .rintro x s ⟨rfl,h4,h5,g1,hc,p0,p1,p2,hp,g2⟩;have c1:1<s.c:=by omega
   simp -implicitDefEqProofs [rR,h4,h5,g1,g2,c1];exact hp
 obtain⟨y,⟨p,rfl,hp⟩,ha⟩ :=main;exact⟨p,hp,ha⟩
def zjE(B:List (List Nat)):F:=slc 1 (B.map fun b=>[ixF b])
structure zgE(SS:Nat->List F->Prop)(PP:List F->Prop)(r:Rl):Prop where
 co:r.co.d= .f r.co
 cc:(D.f r.co).cells=some [.f r.co]
 v:Ans pr 65 [.ag [.s r.nm,.b r.ce,r.co]] (.b true)
 n:r.tu.length<=3
 p:∀t∈r.tu,PP t.2
 c:∀t∈r.tu,∃e,Ans pr 33 [.ag [.s r.nm,.b r.ce,r.co],.ag (tuF t)] (.i .i64 e)
 l:∀t∈r.tu,t.1.length<10
 g:∃B:List (List Nat),Ans pr 66 [.ag (rlF r)] (zjE B)/\B.length<=3/\∀b∈B,b.length<=3/\∀i∈b,i<r.tu.length
abbrev V2(r:Rl)(s:St):Prop:=s.tm.get 1=some (.ptr 0 4 0 0)/\s.h.get 0=some (.arr 4 0 [[.f (.s r.nm),.f (.b r.ce),.f r.co,.f (slc 4 (r.tu.map tuF))]])/\1<=s.c
def I34(r:Rl)(k:Nat)(s:St):Prop:=∃n:Nat,n<=r.tu.length/\k=r.tu.length - n/\V2 r s/\s.tm.get 3=some (.f (.i .i64 n))
def R34(r:Rl)(x:Ex)(s:St):Prop:=(x= .exit 0/\V2 r s)\/(x= .ret/\∃e,s.tm.get 2=some (.f (.i .i64 e)))
def J34(r:Rl)(B:List (List Nat))(k:Nat)(s:St):Prop:=∃n:Nat,n<=B.length/\k=B.length - n/\V2 r s/\s.tm.get 6=some (.f (zjE B))/\s.tm.get 7=some (.f (.i .i64 n))
def S34(r:Rl)(B:List (List Nat))(x:Ex)(s:St):Prop:=x= .exit 3/\V2 r s/\s.tm.get 6=some (.f (zjE B))
def K34(r:Rl)(B:List (List Nat))(k:Nat)(s:St):Prop:=∃n:Nat,n<=B.length/\k=B.length - n/\V2 r s/\s.tm.get 6=some (.f (zjE B))/\s.tm.get 8=some (.f (.i .i64 n))
def T34(x:Ex)(s:St):Prop:=x= .exit 5\/(x= .ret/\∃e,s.tm.get 2=some (.f (.i .i64 e)))
def zJD(b:List Nat):(ixF b).d= .f (ixF b):=rfl
def zaao(b:List Nat):zej (.f (ixF b))=some b.length:=by simp[ixF,zej]
def blk_d(B:List (List Nat)):(zjE B).d= .f (zjE B):=zfU ..
def znN(B:List (List Nat)):zej (.f (zjE B))=some B.length:=by simp[zjE,zfg]
def zx9(B:List (List Nat))(n:Nat):iaB 1 (.f (zjE B)) n=(B[n]?).map fun b=>D.fptr [ixF b]:=by simp[zjE,zgO,Z67]
def IsInt(y:F):Prop:=∃e,y= .i .i64 e
def zkK{SS:Nat->List F->Prop}{PP:List F->Prop}(hS:znJ SS PP)(r:Rl)(hr:zgE SS PP r):∃e,Ans pr 32 [.ag (rlF r)] (.i .i64 e):=by
 have main:∃y,IsInt y/\Ans pr 32 [.ag (rlF r)] y:=by
  refine zuq fn32 ?_;obtain⟨B,hB,hBn,hBb⟩ :=hr.g;have hnT:=hr.n;have hco:=hr.co;have q70:=fun k=>zal (k:=k) hr.v
  simp only[rlF]at hB;have q71:=fun k=>zal (k:=k) hB
  have h64:¬((64:Int)< (r.tu.length:Int)):=by omega
  simp only[g32,rU];simp -implicitDefEqProofs [rR,st0,zaF,rlF,hco,q70,h64];refine zfm (I34 r) (R34 r) ?_ r.tu.length _ ⟨0,Z61 _,rfl,⟨?_,?_,?_⟩,?_⟩ ?_
  any_goals (simp -implicitDefEqProofs [rR,zaF];done)
  .rintro k s ⟨n,hn,rfl,⟨h1,g0,hc⟩,h3⟩;have hw:=zcM n (by omega);have c0:0<s.c:=by omega
   by_cases hlt:n<r.tu.length
   .obtain⟨e,he⟩ :=hr.c _ (Z1 hlt);obtain⟨x0,x1,x2,hx,hd0,hd1,hd2⟩ :=hS.pp _ (hr.p _ (Z1 hlt));have htu:tuF (r.tu[n])=[valsF (r.tu[n]).1,x0,x1,x2]:=by unfold tuF;rw[hx]
    rw[htu]at he;have q44:=fun k=>zal (k:=k) he
    by_cases he0:e=0
    .subst he0;cases n with
     |zero=>
      have hw01:IntKind.i64.wrap 1=1:=by decide
      simp -implicitDefEqProofs [rR,h1,g0,h3,hlt];refine zaV ?_;simp -implicitDefEqProofs [rR,h1,g0,h3,hlt,htu,hco,zaL,hd0,hd1,hd2,q44,hw01];rw[zc0];refine⟨r.tu.length - 1,by omega,1,by omega,rfl,⟨?_,?_,?_⟩,?_⟩
      all_goals simp -implicitDefEqProofs [rR,h1,g0,hc]
     |succ m=>
      have hwm:IntKind.i64.wrap (m:Int)=(m:Int):=wrap_i64 _ (by omega) (by omega);have hwm2:IntKind.i64.wrap ((m:Int)+1+1)=((m+2:Nat):Int):=wrap_i64 _ (by omega) (by omega);have hltI:(m:Int)+1<r.tu.length:=by omega
      have hltm:m<r.tu.length:=by omega
      have hne0:¬((m:Int)+1=0):=by omega
      have hp0:(0:Int)<=(m:Int)+1:=by omega
      have h25:=zoa (r.tu[m]).1 (r.tu[m+1]).1 (by have:=hr.l _ (Z1 hltm);omega);obtain⟨y0,y1,y2,hy,_,_,_⟩ :=hS.pp _ (hr.p _ (Z1 hltm));have htum:tuF (r.tu[m])=[valsF (r.tu[m]).1,y0,y1,y2]:=by unfold tuF;rw[hy]
      have q46:=fun k=>zal (k:=k) h25
      obtain⟨z,hz⟩ :∃z,z=cmpL (r.tu[m]).1 (r.tu[m+1]).1:=⟨_,rfl⟩
      rw[<-hz]at q46
      by_cases k0:z=0
      .simp -implicitDefEqProofs [rR,h1,g0,h3,hltI];refine zaV ?_;simp -implicitDefEqProofs [rR,h1,g0,h3,hlt,hltI,hltm,hp0,htu,htum,hco,zaL,hd0,hd1,hd2,q44,hne0];refine zaV ?_;simp -implicitDefEqProofs [rR,h1,g0,h3,hlt,hltI,hltm,hp0,htu,htum,hco,zaL,hd0,hd1,hd2,hwm,q46,k0];exact .inr ⟨rfl,8,by simp -implicitDefEqProofs [rR,h1]⟩
      .by_cases k1:0<z
       .simp -implicitDefEqProofs [rR,h1,g0,h3,hltI];refine zaV ?_;simp -implicitDefEqProofs [rR,h1,g0,h3,hlt,hltI,hltm,hp0,htu,htum,hco,zaL,hd0,hd1,hd2,q44,hne0];refine zaV ?_;simp -implicitDefEqProofs [rR,h1,g0,h3,hlt,hltI,hltm,hp0,htu,htum,hco,zaL,hd0,hd1,hd2,hwm,q46,k0,k1];exact .inr ⟨rfl,1,by simp -implicitDefEqProofs [rR,h1]⟩
       .simp -implicitDefEqProofs [rR,h1,g0,h3,hltI];refine zaV ?_;simp -implicitDefEqProofs [rR,h1,g0,h3,hlt,hltI,hltm,hp0,htu,htum,hco,zaL,hd0,hd1,hd2,q44,hne0];refine zaV ?_;simp -implicitDefEqProofs [rR,h1,g0,h3,hlt,hltI,hltm,hp0,htu,htum,hco,zaL,hd0,hd1,hd2,hwm,q46,k0,k1,hwm2];rw[zc0];refine⟨r.tu.length - (m+2),by omega,m+2,by omega,rfl,⟨?_,?_,?_⟩,?_⟩
        all_goals simp -implicitDefEqProofs [rR,h1,g0,hc]
        all_goals omega
    .simp -implicitDefEqProofs [rR,h1,g0,h3,hlt];refine zaV ?_;simp -implicitDefEqProofs [rR,h1,g0,h3,hlt,htu,hco,zaL,hd0,hd1,hd2,q44,he0];exact .inr ⟨rfl,e,by simp -implicitDefEqProofs [rR,h1]⟩
   .simp -implicitDefEqProofs [rR,h1,g0,h3,hlt];exact .inl ⟨rfl,by simp -implicitDefEqProofs [rR,h1],by simp -implicitDefEqProofs [rR,g0],by simp -implicitDefEqProofs [rR,hc]⟩
  .rintro x s (⟨rfl,h1,g0,hc⟩ |⟨rfl,e,h2⟩)
   .have c0:0<s.c:=by omega
    simp -implicitDefEqProofs [rR,h1,g0,hco,q71,blk_d];refine zfm (J34 r B) (S34 r B) ?_ B.length _ ⟨0,Z61 _,rfl,⟨?_,?_,?_⟩,?_,?_⟩ ?_
    any_goals (simp -implicitDefEqProofs [rR,h1,g0,hc];done)
    .rintro k s ⟨n,hn,rfl,⟨h1,g0,hc⟩,h6,h7⟩;have hw:=zcM n (by omega)
     by_cases hlt:n<B.length
     .have hbl:=(hBb _ (Z1 hlt)).1;have h16:¬((16:Int)< ((B[n]).length:Int)):=by omega
      simp -implicitDefEqProofs [rR,h1,g0,h6,h7,hlt,znN,zx9,zaao,zJD,h16,hw];rw[zc0];refine⟨B.length - (n+1),by omega,n+1,by omega,rfl,⟨?_,?_,?_⟩,?_,?_⟩
      all_goals simp -implicitDefEqProofs [rR,h1,g0,hc,h6]
     .simp -implicitDefEqProofs [rR,h1,g0,h6,h7,hlt,znN];exact⟨rfl,⟨by simp -implicitDefEqProofs [rR,h1],by simp -implicitDefEqProofs [rR,g0],by simp -implicitDefEqProofs [rR,hc]⟩,by simp -implicitDefEqProofs [rR,h6]⟩
    .rintro x s ⟨rfl,⟨h1,g0,hc⟩,h6⟩;simp -implicitDefEqProofs [rR,h1,g0,h6];refine zfm (K34 r B) T34 ?_ B.length _ ⟨0,Z61 _,rfl,⟨?_,?_,?_⟩,?_,?_⟩ ?_
     any_goals (simp -implicitDefEqProofs [rR,h1,g0,hc,h6];done)
     .rintro k s ⟨n,hn,rfl,⟨h1,g0,hc⟩,h6,h8⟩;have hw:=zcM n (by omega);have c0:0<s.c:=by omega
      by_cases hlt:n<B.length
      .obtain⟨hbl,hbi⟩ :=hBb _ (Z1 hlt);obtain⟨p,hp,h73⟩ :=ans68 hS r hr.co hr.cc hr.p (B[n]) hbl hbi;obtain⟨b,h72⟩ :=hS.prob _ _ hp;obtain⟨w0,w1,w2,rfl,he0,he1,he2⟩ :=hS.pc _ _ hp;simp only[rlF]at h73;have q73:=fun k=>zal (k:=k) h73
       have q72:=fun k=>zal (k:=k) h72
       cases b with
       |true=>
        simp -implicitDefEqProofs [rR,h1,g0,h6,h8,hlt,znN];refine zaV ?_;simp -implicitDefEqProofs [rR,h1,g0,h6,h8,hlt,zx9,zJD,hco,q73,q72,he0,he1,he2,hw,c0];rw[zc0];refine⟨B.length - (n+1),by omega,n+1,by omega,rfl,⟨?_,?_,?_⟩,?_,?_⟩
        all_goals simp -implicitDefEqProofs [rR,h1,g0,hc,h6]
       |false=>
        simp -implicitDefEqProofs [rR,h1,g0,h6,h8,hlt,znN];refine zaV ?_;simp -implicitDefEqProofs [rR,h1,g0,h6,h8,hlt,zx9,zJD,hco,q73,q72,he0,he1,he2,hw,c0];exact .inr ⟨rfl,19,by simp -implicitDefEqProofs [rR,h1]⟩
      .simp -implicitDefEqProofs [rR,h1,g0,h6,h8,hlt,znN];exact .inl rfl
     .rintro x s (rfl|⟨rfl,e,h2⟩)
      .simp -implicitDefEqProofs [rR,h1];exact⟨_,rfl⟩
      .simp -implicitDefEqProofs [rR,h2];exact⟨_,rfl⟩
   .simp -implicitDefEqProofs [rR,h2];exact⟨e,rfl⟩
 obtain⟨y,⟨e,rfl⟩,ha⟩ :=main;exact⟨e,ha⟩
def fn35:pr.fn 35=some g35:=by kernel_rfl
def I36(r:Rl)(vs:List Int)(k:Nat)(s:St):Prop:=∃n:Nat,n<=r.tu.length/\k=r.tu.length - n/\s.tm.get 1=some (.f (valsF vs))/\s.tm.get 2=some (.ptr 0 4 0 0)/\s.h.get 0=some (.arr 4 0 [[.f (.s r.nm),.f (.b r.ce),.f r.co,.f (slc 4 (r.tu.map tuF))]])/\
 s.tm.get 6=some (.f (.i .i64 n))
def R36(x:Ex)(s:St):Prop:=x= .exit 0\/(x= .ret/\∃i:Nat,s.tm.get 4=some (.f (.i .i64 i))/\s.tm.get 5=some (.f (.b true)))
def zX5(y:F):Prop:=∃i b,y= .tu [.i .i64 i,.b b]
def zCK{SS:Nat->List F->Prop}{PP:List F->Prop}(hS:znJ SS PP)(r:Rl)(hr:zgE SS PP r)(vs:List Int):∃i b,Ans pr 34 [.ag (rlF r),valsF vs] (.tu [.i .i64 i,.b b]):=by
 have main:∃y,zX5 y/\Ans pr 34 [.ag (rlF r),valsF vs] y:=by
  refine zuq fn34 ?_;have hnT:=hr.n;have hco:=hr.co;simp only[g34,rU];simp -implicitDefEqProofs [rR,st0,zaF,rlF,hco,zaL];refine zfm (I36 r vs) R36 ?_ r.tu.length _ ⟨0,Z61 _,rfl,?_,?_,?_,?_⟩ ?_
  any_goals (simp -implicitDefEqProofs [rR,zaF];done)
  .rintro k s ⟨n,hn,rfl,h1,h2,g0,h6⟩;have hw:=zcM n (by omega)
   by_cases hlt:n<r.tu.length
   .obtain⟨x0,x1,x2,hx,hd0,hd1,hd2⟩ :=hS.pp _ (hr.p _ (Z1 hlt));have htu:tuF (r.tu[n])=[valsF (r.tu[n]).1,x0,x1,x2]:=by unfold tuF;rw[hx]
    have h25:=zoa (r.tu[n]).1 vs (by have:=hr.l _ (Z1 hlt);omega);have q25:=fun k=>zal (k:=k) h25
    by_cases k0:cmpL (r.tu[n]).1 vs=0
    .rw[k0]at q25;simp -implicitDefEqProofs [rR,h1,h2,g0,h6,hlt,htu,q25];exact .inr ⟨rfl,n,by simp -implicitDefEqProofs [rR,h1],by simp -implicitDefEqProofs [rR,h1]⟩
    .simp -implicitDefEqProofs [rR,h1,h2,g0,h6,hlt,htu,q25,k0,hw];rw[zc0];refine⟨r.tu.length - (n+1),by omega,n+1,by omega,rfl,?_,?_,?_,?_⟩
     all_goals simp -implicitDefEqProofs [rR,h1,h2,g0]
   .simp -implicitDefEqProofs [rR,h1,h2,g0,h6,hlt];exact .inl rfl
  .rintro x s (rfl|⟨rfl,i,h4,h5⟩)
   .simp -implicitDefEqProofs [rR,st0];exact⟨_,_,rfl⟩
   .simp -implicitDefEqProofs [rR,h4,h5];exact⟨_,_,rfl⟩
 obtain⟨y,⟨i,b,rfl⟩,ha⟩ :=main;exact⟨i,b,ha⟩
def zqw{SS:Nat->List F->Prop}{PP:List F->Prop}(hS:znJ SS PP)(r:Rl)(hr:zgE SS PP r):Ans pr 35 [.ag (rlF r)] (.ag (rlF r)):=by
 refine zex fn35 ?_;have hnT:=hr.n;have hco:=hr.co;have hcc:=hr.cc;have hp:=hr.p;have hw1:IntKind.i64.wrap 1=1:=by decide
 have hw2:IntKind.i64.wrap 2=2:=by decide
 have hw3:IntKind.i64.wrap 3=3:=by decide
 simp only[g35,rU];unfold rlF;generalize r.tu=TT at hnT hp
 match TT,hnT with
 |[],_=>
  simp -implicitDefEqProofs [rR,st0,zaF,hco,hcc,Z85,zcE];refine round ?_;simp -implicitDefEqProofs [rR,hco,hcc]
 |[t0],_=>
  have hp0:=hp t0 (by simp);obtain⟨x00,x01,x02,hx0,hd00,hd01,hd02⟩ :=hS.pp _ hp0;have hn0:=hS.norm _ hp0;rw[hx0]at hn0;have q0:=fun k=>zal (k:=k) hn0
  have htu0:tuF t0=[valsF t0.1,x00,x01,x02]:=by unfold tuF;rw[hx0]
  have hcv0:(D.f (valsF t0.1)).cells=some [.f (valsF t0.1)]:=zfC ..;simp -implicitDefEqProofs [rR,st0,zaF,hco,hcc,Z10,Z85,zcr,htu0];refine round ?_;simp -implicitDefEqProofs [rR,hco,hcc,zaL,hw1,hw2,hw3,zaM,leF,hd00,hd01,hd02,q0,hcv0];refine zaV ?_;simp -implicitDefEqProofs [rR,hco,hcc,zaL,hw1,hw2,hw3,zaM,leF,hd00,hd01,hd02,q0,hcv0];refine round ?_;simp -implicitDefEqProofs [rR,hco,hcc,zaL,hw1,hw2,hw3,zaM,leF,hd00,hd01,hd02,q0,hcv0]
 |[t0,t1],_=>
  have hp0:=hp t0 (by simp);obtain⟨x00,x01,x02,hx0,hd00,hd01,hd02⟩ :=hS.pp _ hp0;have hn0:=hS.norm _ hp0;rw[hx0]at hn0;have q0:=fun k=>zal (k:=k) hn0
  have htu0:tuF t0=[valsF t0.1,x00,x01,x02]:=by unfold tuF;rw[hx0]
  have hcv0:(D.f (valsF t0.1)).cells=some [.f (valsF t0.1)]:=zfC ..;have hp1:=hp t1 (by simp);obtain⟨x10,x11,x12,hx1,hd10,hd11,hd12⟩ :=hS.pp _ hp1;have hn1:=hS.norm _ hp1;rw[hx1]at hn1;have q1:=fun k=>zal (k:=k) hn1
  have htu1:tuF t1=[valsF t1.1,x10,x11,x12]:=by unfold tuF;rw[hx1]
  have hcv1:(D.f (valsF t1.1)).cells=some [.f (valsF t1.1)]:=zfC ..;simp -implicitDefEqProofs [rR,st0,zaF,hco,hcc,Z10,Z85,zcr,htu0,htu1];refine round ?_;simp -implicitDefEqProofs [rR,hco,hcc,zaL,hw1,hw2,hw3,zaM,leF,hd00,hd01,hd02,q0,hcv0,hd10,hd11,hd12,q1,hcv1];refine zaV ?_;simp -implicitDefEqProofs [rR,hco,hcc,zaL,hw1,hw2,hw3,zaM,leF,hd00,hd01,hd02,q0,hcv0,hd10,hd11,hd12,q1,hcv1];refine round ?_;simp -implicitDefEqProofs [rR,hco,hcc,zaL,hw1,hw2,hw3,zaM,leF,hd00,hd01,hd02,q0,hcv0,hd10,hd11,hd12,q1,hcv1];refine zaV ?_;simp -implicitDefEqProofs [rR,hco,hcc,zaL,hw1,hw2,hw3,zaM,leF,hd00,hd01,hd02,q0,hcv0,hd10,hd11,hd12,q1,hcv1];refine round ?_;simp -implicitDefEqProofs [rR,hco,hcc,zaL,hw1,hw2,hw3,zaM,leF,hd00,hd01,hd02,q0,hcv0,hd10,hd11,hd12,q1,hcv1]
 |[t0,t1,t2],_=>
  have hp0:=hp t0 (by simp);obtain⟨x00,x01,x02,hx0,hd00,hd01,hd02⟩ :=hS.pp _ hp0;have hn0:=hS.norm _ hp0;rw[hx0]at hn0;have q0:=fun k=>zal (k:=k) hn0
  have htu0:tuF t0=[valsF t0.1,x00,x01,x02]:=by unfold tuF;rw[hx0]
  have hcv0:(D.f (valsF t0.1)).cells=some [.f (valsF t0.1)]:=zfC ..;have hp1:=hp t1 (by simp);obtain⟨x10,x11,x12,hx1,hd10,hd11,hd12⟩ :=hS.pp _ hp1;have hn1:=hS.norm _ hp1;rw[hx1]at hn1;have q1:=fun k=>zal (k:=k) hn1
  have htu1:tuF t1=[valsF t1.1,x10,x11,x12]:=by unfold tuF;rw[hx1]
  have hcv1:(D.f (valsF t1.1)).cells=some [.f (valsF t1.1)]:=zfC ..;have hp2:=hp t2 (by simp);obtain⟨x20,x21,x22,hx2,hd20,hd21,hd22⟩ :=hS.pp _ hp2;have hn2:=hS.norm _ hp2;rw[hx2]at hn2;have q2:=fun k=>zal (k:=k) hn2
  have htu2:tuF t2=[valsF t2.1,x20,x21,x22]:=by unfold tuF;rw[hx2]
  have hcv2:(D.f (valsF t2.1)).cells=some [.f (valsF t2.1)]:=zfC ..;simp -implicitDefEqProofs [rR,st0,zaF,hco,hcc,Z10,Z85,zcr,htu0,htu1,htu2];refine round ?_;simp -implicitDefEqProofs [rR,hco,hcc,zaL,hw1,hw2,hw3,zaM,leF,hd00,hd01,hd02,q0,hcv0,hd10,hd11,hd12,q1,hcv1,hd20,hd21,hd22,q2,hcv2];refine zaV ?_;simp -implicitDefEqProofs [rR,hco,hcc,zaL,hw1,hw2,hw3,zaM,leF,hd00,hd01,hd02,q0,hcv0,hd10,hd11,hd12,q1,hcv1,hd20,hd21,hd22,q2,hcv2];refine round ?_;simp -implicitDefEqProofs [rR,hco,hcc,zaL,hw1,hw2,hw3,zaM,leF,hd00,hd01,hd02,q0,hcv0,hd10,hd11,hd12,q1,hcv1,hd20,hd21,hd22,q2,hcv2];refine zaV ?_;simp -implicitDefEqProofs [rR,hco,hcc,zaL,hw1,hw2,hw3,zaM,leF,hd00,hd01,hd02,q0,hcv0,hd10,hd11,hd12,q1,hcv1,hd20,hd21,hd22,q2,hcv2];refine round ?_;simp -implicitDefEqProofs [rR,hco,hcc,zaL,hw1,hw2,hw3,zaM,leF,hd00,hd01,hd02,q0,hcv0,hd10,hd11,hd12,q1,hcv1,hd20,hd21,hd22,q2,hcv2];refine zaV ?_;simp -implicitDefEqProofs [rR,hco,hcc,zaL,hw1,hw2,hw3,zaM,leF,hd00,hd01,hd02,q0,hcv0,hd10,hd11,hd12,q1,hcv1,hd20,hd21,hd22,q2,hcv2];refine round ?_;simp -implicitDefEqProofs [rR,hco,hcc,zaL,hw1,hw2,hw3,zaM,leF,hd00,hd01,hd02,q0,hcv0,hd10,hd11,hd12,q1,hcv1,hd20,hd21,hd22,q2,hcv2]
 |_::_::_::_::_,h=>exact absurd h (by simp)
def fn16:pr.fn 16=some g16:=by kernel_rfl
def zRl:List F:=[.s [],.b false,.nils,.nils]
def IsIns(nm:Str)(ce:Bool)(co:F)(tu:List (List Int×List F))(t:List Int×List F)(y:F):Prop:=
 (∃e:Int,e≠0/\y= .tu [.ag zRl,.i .i64 e])\/∃n:Nat,n<=tu.length/\y= .tu [.ag (rlF ⟨nm,ce,co,tu.take n++t::tu.drop n⟩),.i .i64 0]
theorem zwo{SS:Nat->List F->Prop}{PP:List F->Prop}(hS:znJ SS PP)(nm:Str)(ce:Bool)(co:F)(tu:List (List Int×List F))(hr:zgE SS PP ⟨nm,ce,co,tu⟩)(hn2:tu.length<=2)(t:List Int×List F)(ht:PP t.2)
  (hct:∃e,Ans pr 33 [.ag [.s nm,.b ce,co],.ag (tuF t)] (.i .i64 e))
  (hout:∀n,n<=tu.length->zgE SS PP ⟨nm,ce,co,tu.take n++t::tu.drop n⟩):∃y,IsIns nm ce co tu t y/\Ans pr 16 [.ag (rlF ⟨nm,ce,co,tu⟩),.ag (tuF t)] y:=by
 refine zuq fn16 ?_;have hco:=hr.co;have hcc:=hr.cc;have hw1:IntKind.i64.wrap 1=1:=by decide
 have hw2:IntKind.i64.wrap 2=2:=by decide
 have hw3:IntKind.i64.wrap 3=3:=by decide
 obtain⟨x0,x1,x2,hx,hd0,hd1,hd2⟩ :=hS.pp _ ht;have htu:tuF t=[valsF t.1,x0,x1,x2]:=by unfold tuF;rw[hx]
 have hcv:(D.f (valsF t.1)).cells=some [.f (valsF t.1)]:=zfC ..;obtain⟨e2,h35⟩ :=hct;rw[htu]at h35;have q35:=fun k=>zal (k:=k) h35
 simp only[g16,rU]
 match tu,hn2 with
 |[],_=>
  obtain⟨e1,h34⟩ :=zkK hS _ hr;obtain⟨i6,b6,h36⟩ :=zCK hS _ hr t.1;have ho0:zgE SS PP ⟨nm,ce,co,[t]⟩ :=by simpa using hout 0 (by simp)
  obtain⟨f0,g0⟩ :=zkK hS _ ho0;have c0:=zqw hS _ ho0;simp only[rlF,Z10,Z85,zcr,zcE,htu]at h34 h36 g0 c0;have q34:=fun k=>zal (k:=k) h34
  have q36:=fun k=>zal (k:=k) h36
  have qg0:=fun k=>zal (k:=k) g0
  have qc0:=fun k=>zal (k:=k) c0
  by_cases he1:e1=0
  rotate_left
  .simp -implicitDefEqProofs [rR,st0,zaF,rlF,Z10,Z85,zcr,zcE,htu,q34,he1,hco,hcc,zaL,hw1,hw2,hw3,zaM,leF,hd0,hd1,hd2,hcv];exact .inl ⟨_,he1,rfl⟩
  subst he1
  by_cases he2:e2=0
  rotate_left
  .simp -implicitDefEqProofs [rR,st0,zaF,rlF,Z10,Z85,zcr,zcE,htu,q34,q35,he2,hco,hcc,zaL,hw1,hw2,hw3,zaM,leF,hd0,hd1,hd2,hcv];exact .inl ⟨_,he2,rfl⟩
  subst he2;cases b6 with
  |true=>
   simp -implicitDefEqProofs [rR,st0,zaF,rlF,Z10,Z85,zcr,zcE,htu,q34,q35,q36,hco,hcc,zaL,hw1,hw2,hw3,zaM,leF,hd0,hd1,hd2,hcv];exact .inl ⟨_,by decide,rfl⟩
  |false=>
   simp -implicitDefEqProofs [rR,st0,zaF,rlF,Z10,Z85,zcr,zcE,htu,q34,q35,q36,hco,hcc,zaL,hw1,hw2,hw3,zaM,leF,hd0,hd1,hd2,hcv];refine round ?_;simp -implicitDefEqProofs [rR,hco,hcc,zaL,hw1,hw2,hw3,zaM,leF,hd0,hd1,hd2,hcv];refine zaV ?_;simp -implicitDefEqProofs [rR,hco,hcc,zaL,hw1,hw2,hw3,zaM,leF,hd0,hd1,hd2,hcv];refine zaV ?_
   by_cases hf:f0=0
   .subst hf;simp -implicitDefEqProofs [rR,hco,hcc,zaL,hw1,hw2,hw3,zaM,leF,hd0,hd1,hd2,hcv,qg0,qc0];exact .inr ⟨0,by simp,by simp[rlF,Z10,Z85,zcr,zcE,htu]⟩
   .simp -implicitDefEqProofs [rR,hco,hcc,zaL,hw1,hw2,hw3,zaM,leF,hd0,hd1,hd2,hcv,qg0,hf];exact .inl ⟨_,hf,rfl⟩
 |[a0],_=>
  obtain⟨e1,h34⟩ :=zkK hS _ hr;obtain⟨i6,b6,h36⟩ :=zCK hS _ hr t.1;obtain⟨x00,x01,x02,hx0,hd00,hd01,hd02⟩ :=hS.pp _ (hr.p a0 (by simp));have htu0:tuF a0=[valsF a0.1,x00,x01,x02]:=by unfold tuF;rw[hx0]
  have hcv0:(D.f (valsF a0.1)).cells=some [.f (valsF a0.1)]:=zfC ..;have h25_0:=zoa a0.1 t.1 (by have:=hr.l a0 (by simp);omega);have q25Q0:=fun k=>zal (k:=k) h25_0
  have ho0:zgE SS PP ⟨nm,ce,co,[t,a0]⟩ :=by simpa using hout 0 (by simp)
  obtain⟨f0,g0⟩ :=zkK hS _ ho0;have c0:=zqw hS _ ho0;have ho1:zgE SS PP ⟨nm,ce,co,[a0,t]⟩ :=by simpa using hout 1 (by simp)
  obtain⟨f1,g1⟩ :=zkK hS _ ho1;have c1:=zqw hS _ ho1;simp only[rlF,Z10,Z85,zcr,zcE,htu,htu0]at h34 h36 g0 c0 g1 c1;have q34:=fun k=>zal (k:=k) h34
  have q36:=fun k=>zal (k:=k) h36
  have qg0:=fun k=>zal (k:=k) g0
  have qc0:=fun k=>zal (k:=k) c0
  have qg1:=fun k=>zal (k:=k) g1
  have qc1:=fun k=>zal (k:=k) c1
  by_cases he1:e1=0
  rotate_left
  .simp -implicitDefEqProofs [rR,st0,zaF,rlF,Z10,Z85,zcr,zcE,htu,htu0,q34,he1,hco,hcc,zaL,hw1,hw2,hw3,zaM,leF,hd0,hd1,hd2,hcv,hd00,hd01,hd02,hcv0];exact .inl ⟨_,he1,rfl⟩
  subst he1
  by_cases he2:e2=0
  rotate_left
  .simp -implicitDefEqProofs [rR,st0,zaF,rlF,Z10,Z85,zcr,zcE,htu,htu0,q34,q35,he2,hco,hcc,zaL,hw1,hw2,hw3,zaM,leF,hd0,hd1,hd2,hcv,hd00,hd01,hd02,hcv0];exact .inl ⟨_,he2,rfl⟩
  subst he2;cases b6 with
  |true=>
   simp -implicitDefEqProofs [rR,st0,zaF,rlF,Z10,Z85,zcr,zcE,htu,htu0,q34,q35,q36,hco,hcc,zaL,hw1,hw2,hw3,zaM,leF,hd0,hd1,hd2,hcv,hd00,hd01,hd02,hcv0];exact .inl ⟨_,by decide,rfl⟩
  |false=>
   simp -implicitDefEqProofs [rR,st0,zaF,rlF,Z10,Z85,zcr,zcE,htu,htu0,q34,q35,q36,hco,hcc,zaL,hw1,hw2,hw3,zaM,leF,hd0,hd1,hd2,hcv,hd00,hd01,hd02,hcv0];refine round ?_;simp -implicitDefEqProofs [rR,hco,hcc,zaL,hw1,hw2,hw3,zaM,leF,hd0,hd1,hd2,hcv,hd00,hd01,hd02,hcv0];refine zaV ?_
   by_cases k0:cmpL a0.1 t.1<0
   .simp -implicitDefEqProofs [rR,hco,hcc,zaL,hw1,hw2,hw3,zaM,leF,hd0,hd1,hd2,hcv,hd00,hd01,hd02,hcv0,q25Q0,k0];refine round ?_;simp -implicitDefEqProofs [rR,hco,hcc,zaL,hw1,hw2,hw3,zaM,leF,hd0,hd1,hd2,hcv,hd00,hd01,hd02,hcv0];refine zaV ?_;simp -implicitDefEqProofs [rR,hco,hcc,zaL,hw1,hw2,hw3,zaM,leF,hd0,hd1,hd2,hcv,hd00,hd01,hd02,hcv0];refine zaV ?_
    by_cases hf:f1=0
    .subst hf;simp -implicitDefEqProofs [rR,hco,hcc,zaL,hw1,hw2,hw3,zaM,leF,hd0,hd1,hd2,hcv,hd00,hd01,hd02,hcv0,qg1,qc1];exact .inr ⟨1,by simp,by simp[rlF,Z10,Z85,zcr,zcE,htu,htu0]⟩
    .simp -implicitDefEqProofs [rR,hco,hcc,zaL,hw1,hw2,hw3,zaM,leF,hd0,hd1,hd2,hcv,hd00,hd01,hd02,hcv0,qg1,hf];exact .inl ⟨_,hf,rfl⟩
   .simp -implicitDefEqProofs [rR,hco,hcc,zaL,hw1,hw2,hw3,zaM,leF,hd0,hd1,hd2,hcv,hd00,hd01,hd02,hcv0,q25Q0,k0];refine zaV ?_
    by_cases hf:f0=0
    .subst hf;simp -implicitDefEqProofs [rR,hco,hcc,zaL,hw1,hw2,hw3,zaM,leF,hd0,hd1,hd2,hcv,hd00,hd01,hd02,hcv0,qg0,qc0];exact .inr ⟨0,by simp,by simp[rlF,Z10,Z85,zcr,zcE,htu,htu0]⟩
    .simp -implicitDefEqProofs [rR,hco,hcc,zaL,hw1,hw2,hw3,zaM,leF,hd0,hd1,hd2,hcv,hd00,hd01,hd02,hcv0,qg0,hf];exact .inl ⟨_,hf,rfl⟩
 |[a0,a1],_=>
  obtain⟨e1,h34⟩ :=zkK hS _ hr;obtain⟨i6,b6,h36⟩ :=zCK hS _ hr t.1;obtain⟨x00,x01,x02,hx0,hd00,hd01,hd02⟩ :=hS.pp _ (hr.p a0 (by simp));have htu0:tuF a0=[valsF a0.1,x00,x01,x02]:=by unfold tuF;rw[hx0]
  have hcv0:(D.f (valsF a0.1)).cells=some [.f (valsF a0.1)]:=zfC ..;have h25_0:=zoa a0.1 t.1 (by have:=hr.l a0 (by simp);omega);have q25Q0:=fun k=>zal (k:=k) h25_0
  obtain⟨x10,x11,x12,hx1,hd10,hd11,hd12⟩ :=hS.pp _ (hr.p a1 (by simp));have htu1:tuF a1=[valsF a1.1,x10,x11,x12]:=by unfold tuF;rw[hx1]
  have hcv1:(D.f (valsF a1.1)).cells=some [.f (valsF a1.1)]:=zfC ..;have h25_1:=zoa a1.1 t.1 (by have:=hr.l a1 (by simp);omega);have q25Q1:=fun k=>zal (k:=k) h25_1
  have ho0:zgE SS PP ⟨nm,ce,co,[t,a0,a1]⟩ :=by simpa using hout 0 (by simp)
  obtain⟨f0,g0⟩ :=zkK hS _ ho0;have c0:=zqw hS _ ho0;have ho1:zgE SS PP ⟨nm,ce,co,[a0,t,a1]⟩ :=by simpa using hout 1 (by simp)
  obtain⟨f1,g1⟩ :=zkK hS _ ho1;have c1:=zqw hS _ ho1;have ho2:zgE SS PP ⟨nm,ce,co,[a0,a1,t]⟩ :=by simpa using hout 2 (by simp)
  obtain⟨f2,g2⟩ :=zkK hS _ ho2;have c2:=zqw hS _ ho2;simp only[rlF,Z10,Z85,zcr,zcE,htu,htu0,htu1]at h34 h36 g0 c0 g1 c1 g2 c2;have q34:=fun k=>zal (k:=k) h34
  have q36:=fun k=>zal (k:=k) h36
  have qg0:=fun k=>zal (k:=k) g0
  have qc0:=fun k=>zal (k:=k) c0
  have qg1:=fun k=>zal (k:=k) g1
  have qc1:=fun k=>zal (k:=k) c1
  have qg2:=fun k=>zal (k:=k) g2
  have qc2:=fun k=>zal (k:=k) c2
  by_cases he1:e1=0
  rotate_left
  .simp -implicitDefEqProofs [rR,st0,zaF,rlF,Z10,Z85,zcr,zcE,htu,htu0,htu1,q34,he1,hco,hcc,zaL,hw1,hw2,hw3,zaM,leF,hd0,hd1,hd2,hcv,hd00,hd01,hd02,hcv0,hd10,hd11,hd12,hcv1];exact .inl ⟨_,he1,rfl⟩
  subst he1
  by_cases he2:e2=0
  rotate_left
  .simp -implicitDefEqProofs [rR,st0,zaF,rlF,Z10,Z85,zcr,zcE,htu,htu0,htu1,q34,q35,he2,hco,hcc,zaL,hw1,hw2,hw3,zaM,leF,hd0,hd1,hd2,hcv,hd00,hd01,hd02,hcv0,hd10,hd11,hd12,hcv1];exact .inl ⟨_,he2,rfl⟩
  subst he2;cases b6 with
  |true=>
   simp -implicitDefEqProofs [rR,st0,zaF,rlF,Z10,Z85,zcr,zcE,htu,htu0,htu1,q34,q35,q36,hco,hcc,zaL,hw1,hw2,hw3,zaM,leF,hd0,hd1,hd2,hcv,hd00,hd01,hd02,hcv0,hd10,hd11,hd12,hcv1];exact .inl ⟨_,by decide,rfl⟩
  |false=>
   simp -implicitDefEqProofs [rR,st0,zaF,rlF,Z10,Z85,zcr,zcE,htu,htu0,htu1,q34,q35,q36,hco,hcc,zaL,hw1,hw2,hw3,zaM,leF,hd0,hd1,hd2,hcv,hd00,hd01,hd02,hcv0,hd10,hd11,hd12,hcv1];refine round ?_;simp -implicitDefEqProofs [rR,hco,hcc,zaL,hw1,hw2,hw3,zaM,leF,hd0,hd1,hd2,hcv,hd00,hd01,hd02,hcv0,hd10,hd11,hd12,hcv1];refine zaV ?_
   by_cases k0:cmpL a0.1 t.1<0
   .simp -implicitDefEqProofs [rR,hco,hcc,zaL,hw1,hw2,hw3,zaM,leF,hd0,hd1,hd2,hcv,hd00,hd01,hd02,hcv0,hd10,hd11,hd12,hcv1,q25Q0,k0];refine round ?_;simp -implicitDefEqProofs [rR,hco,hcc,zaL,hw1,hw2,hw3,zaM,leF,hd0,hd1,hd2,hcv,hd00,hd01,hd02,hcv0,hd10,hd11,hd12,hcv1];refine zaV ?_
    by_cases k1:cmpL a1.1 t.1<0
    .simp -implicitDefEqProofs [rR,hco,hcc,zaL,hw1,hw2,hw3,zaM,leF,hd0,hd1,hd2,hcv,hd00,hd01,hd02,hcv0,hd10,hd11,hd12,hcv1,q25Q1,k1];refine round ?_;simp -implicitDefEqProofs [rR,hco,hcc,zaL,hw1,hw2,hw3,zaM,leF,hd0,hd1,hd2,hcv,hd00,hd01,hd02,hcv0,hd10,hd11,hd12,hcv1];refine zaV ?_;simp -implicitDefEqProofs [rR,hco,hcc,zaL,hw1,hw2,hw3,zaM,leF,hd0,hd1,hd2,hcv,hd00,hd01,hd02,hcv0,hd10,hd11,hd12,hcv1];refine zaV ?_
     by_cases hf:f2=0
     .subst hf;simp -implicitDefEqProofs [rR,hco,hcc,zaL,hw1,hw2,hw3,zaM,leF,hd0,hd1,hd2,hcv,hd00,hd01,hd02,hcv0,hd10,hd11,hd12,hcv1,qg2,qc2];exact .inr ⟨2,by simp,by simp[rlF,Z10,Z85,zcr,zcE,htu,htu0,htu1]⟩
     .simp -implicitDefEqProofs [rR,hco,hcc,zaL,hw1,hw2,hw3,zaM,leF,hd0,hd1,hd2,hcv,hd00,hd01,hd02,hcv0,hd10,hd11,hd12,hcv1,qg2,hf];exact .inl ⟨_,hf,rfl⟩
    .simp -implicitDefEqProofs [rR,hco,hcc,zaL,hw1,hw2,hw3,zaM,leF,hd0,hd1,hd2,hcv,hd00,hd01,hd02,hcv0,hd10,hd11,hd12,hcv1,q25Q1,k1];refine zaV ?_
     by_cases hf:f1=0
     .subst hf;simp -implicitDefEqProofs [rR,hco,hcc,zaL,hw1,hw2,hw3,zaM,leF,hd0,hd1,hd2,hcv,hd00,hd01,hd02,hcv0,hd10,hd11,hd12,hcv1,qg1,qc1];exact .inr ⟨1,by simp,by simp[rlF,Z10,Z85,zcr,zcE,htu,htu0,htu1]⟩
     .simp -implicitDefEqProofs [rR,hco,hcc,zaL,hw1,hw2,hw3,zaM,leF,hd0,hd1,hd2,hcv,hd00,hd01,hd02,hcv0,hd10,hd11,hd12,hcv1,qg1,hf];exact .inl ⟨_,hf,rfl⟩
   .simp -implicitDefEqProofs [rR,hco,hcc,zaL,hw1,hw2,hw3,zaM,leF,hd0,hd1,hd2,hcv,hd00,hd01,hd02,hcv0,hd10,hd11,hd12,hcv1,q25Q0,k0];refine zaV ?_
    by_cases hf:f0=0
    .subst hf;simp -implicitDefEqProofs [rR,hco,hcc,zaL,hw1,hw2,hw3,zaM,leF,hd0,hd1,hd2,hcv,hd00,hd01,hd02,hcv0,hd10,hd11,hd12,hcv1,qg0,qc0];exact .inr ⟨0,by simp,by simp[rlF,Z10,Z85,zcr,zcE,htu,htu0,htu1]⟩
    .simp -implicitDefEqProofs [rR,hco,hcc,zaL,hw1,hw2,hw3,zaM,leF,hd0,hd1,hd2,hcv,hd00,hd01,hd02,hcv0,hd10,hd11,hd12,hcv1,qg0,hf];exact .inl ⟨_,hf,rfl⟩
 |_::_::_::_,h=>exact absurd h (by simp)
end Go.Proofs.YtlmnmaginhebdaaGreatDoor
end
section
namespace Go.Proofs.YtlmnmaginhebdaaGreatDoor
open Go Go.Vse
def u0:List F:=[.b false,.nils,.sl 1 [[.i .u32 1]]]
def u1:List F:=[.b false,.sl 1 [[.i .u32 1]],.sl 1 [[.i .u32 2]]]
def u2:List F:=[.b false,.sl 1 [[.i .u32 1]],.sl 1 [[.i .u32 3]]]
def u3:List F:=[.b false,.sl 1 [[.i .u32 2]],.sl 1 [[.i .u32 3]]]
def u4:List F:=[.b false,.sl 1 [[.i .u32 1]],.sl 1 [[.i .u32 4]]]
def u5:List F:=[.b false,.sl 1 [[.i .u32 1]],.sl 1 [[.i .u32 1]]]
def u6:List F:=[.b false,.sl 1 [[.i .u32 3]],.sl 1 [[.i .u32 5]]]
def u7:List F:=[.b false,.sl 1 [[.i .u32 1]],.sl 1 [[.i .u32 7]]]
def u8:List F:=[.b false,.sl 1 [[.i .u32 5]],.sl 1 [[.i .u32 6]]]
def u9:List F:=[.b false,.sl 1 [[.i .u32 7]],.sl 1 [[.i .u32 6]]]
def u10:List F:=[.b false,.sl 1 [[.i .u32 3]],.sl 1 [[.i .u32 4]]]
def u11:List F:=[.b false,.sl 1 [[.i .u32 3]],.sl 1 [[.i .u32 2]]]
def u12:List F:=[.b false,.sl 1 [[.i .u32 11]],.sl 1 [[.i .u32 10]]]
def u13:List F:=[.b false,.sl 1 [[.i .u32 9]],.sl 1 [[.i .u32 14]]]
def u14:List F:=[.b false,.sl 1 [[.i .u32 7]],.sl 1 [[.i .u32 12]]]
def u15:List F:=[.b false,.sl 1 [[.i .u32 4]],.sl 1 [[.i .u32 3]]]
def u16:List F:=[.b false,.sl 1 [[.i .u32 14]],.sl 1 [[.i .u32 15]]]
def u17:List F:=[.b false,.sl 1 [[.i .u32 10]],.sl 1 [[.i .u32 21]]]
def u18:List F:=[.b false,.sl 1 [[.i .u32 11]],.sl 1 [[.i .u32 12]]]
def u19:List F:=[.b false,.sl 1 [[.i .u32 5]],.sl 1 [[.i .u32 3]]]
def u20:List F:=[.b false,.sl 1 [[.i .u32 19]],.sl 1 [[.i .u32 15]]]
def u21:List F:=[.b false,.sl 1 [[.i .u32 17]],.sl 1 [[.i .u32 21]]]
def u22:List F:=[.b false,.sl 1 [[.i .u32 5]],.sl 1 [[.i .u32 4]]]
def u23:List F:=[.b false,.sl 1 [[.i .u32 17]],.sl 1 [[.i .u32 20]]]
def u24:List F:=[.b false,.sl 1 [[.i .u32 11]],.sl 1 [[.i .u32 28]]]
def u25:List F:=[.b false,.sl 1 [[.i .u32 2]],.sl 1 [[.i .u32 1]]]
def u26:List F:=[.b false,.sl 1 [[.i .u32 8]],.sl 1 [[.i .u32 5]]]
def u27:List F:=[.b false,.sl 1 [[.i .u32 8]],.sl 1 [[.i .u32 7]]]
def u28:List F:=[.b false,.sl 1 [[.i .u32 6]],.sl 1 [[.i .u32 5]]]
def u29:List F:=[.b false,.sl 1 [[.i .u32 26]],.sl 1 [[.i .u32 35]]]
def u30:List F:=[.b false,.sl 1 [[.i .u32 2]],.sl 1 [[.i .u32 7]]]
def u31:List F:=[.b false,.sl 1 [[.i .u32 13]],.sl 1 [[.i .u32 12]]]
def u32:List F:=[.b false,.sl 1 [[.i .u32 11]],.sl 1 [[.i .u32 6]]]
def u33:List F:=[.b false,.sl 1 [[.i .u32 43]],.sl 1 [[.i .u32 30]]]
def u34:List F:=[.b false,.sl 1 [[.i .u32 41]],.sl 1 [[.i .u32 42]]]
def u35:List F:=[.b false,.sl 1 [[.i .u32 17]],.sl 1 [[.i .u32 12]]]
def u36:List F:=[.b false,.sl 1 [[.i .u32 13]],.sl 1 [[.i .u32 6]]]
def u37:List F:=[.b false,.sl 1 [[.i .u32 53]],.sl 1 [[.i .u32 30]]]
def u38:List F:=[.b false,.sl 1 [[.i .u32 55]],.sl 1 [[.i .u32 42]]]
def u39:List F:=[.b false,.sl 1 [[.i .u32 7]],.sl 1 [[.i .u32 4]]]
def u40:List F:=[.b false,.sl 1 [[.i .u32 27]],.sl 1 [[.i .u32 20]]]
def u41:List F:=[.b false,.sl 1 [[.i .u32 25]],.sl 1 [[.i .u32 28]]]
def u42:List F:=[.b false,.sl 1 [[.i .u32 5]],.sl 1 [[.i .u32 2]]]
def u43:List F:=[.b false,.sl 1 [[.i .u32 21]],.sl 1 [[.i .u32 10]]]
def u44:List F:=[.b false,.sl 1 [[.i .u32 23]],.sl 1 [[.i .u32 14]]]
def u45:List F:=[.b false,.sl 1 [[.i .u32 17]],.sl 1 [[.i .u32 10]]]
def u46:List F:=[.b false,.sl 1 [[.i .u32 87]],.sl 1 [[.i .u32 70]]]
def u47:List F:=[.b false,.sl 1 [[.i .u32 11]],.sl 1 [[.i .u32 14]]]
def u48:List F:=[.b false,.sl 1 [[.i .u32 19]],.sl 1 [[.i .u32 12]]]
def u49:List F:=[.b false,.sl 1 [[.i .u32 71]],.sl 1 [[.i .u32 60]]]
def u50:List F:=[.b false,.sl 1 [[.i .u32 61]],.sl 1 [[.i .u32 84]]]
def u51:List F:=[.b false,.sl 1 [[.i .u32 7]],.sl 1 [[.i .u32 3]]]
def u52:List F:=[.b false,.sl 1 [[.i .u32 29]],.sl 1 [[.i .u32 15]]]
def u53:List F:=[.b false,.sl 1 [[.i .u32 31]],.sl 1 [[.i .u32 21]]]
def u54:List F:=[.b false,.sl 1 [[.i .u32 23]],.sl 1 [[.i .u32 15]]]
def u55:List F:=[.b false,.sl 1 [[.i .u32 113]],.sl 1 [[.i .u32 105]]]
def u56:List F:=[.b false,.sl 1 [[.i .u32 13]],.sl 1 [[.i .u32 21]]]
def u57:List F:=[.b false,.sl 1 [[.i .u32 23]],.sl 1 [[.i .u32 12]]]
def u58:List F:=[.b false,.sl 1 [[.i .u32 91]],.sl 1 [[.i .u32 60]]]
def u59:List F:=[.b false,.sl 1 [[.i .u32 89]],.sl 1 [[.i .u32 84]]]
def u60:List F:=[.b false,.sl 1 [[.i .u32 8]],.sl 1 [[.i .u32 3]]]
def u61:List F:=[.b false,.sl 1 [[.i .u32 34]],.sl 1 [[.i .u32 15]]]
def u62:List F:=[.b false,.sl 1 [[.i .u32 38]],.sl 1 [[.i .u32 21]]]
def u63:List F:=[.b false,.sl 1 [[.i .u32 28]],.sl 1 [[.i .u32 15]]]
def u64:List F:=[.b false,.sl 1 [[.i .u32 148]],.sl 1 [[.i .u32 105]]]
def u65:List F:=[.b false,.sl 1 [[.i .u32 20]],.sl 1 [[.i .u32 21]]]
def u66:List F:=[.b false,.sl 1 [[.i .u32 9]],.sl 1 [[.i .u32 4]]]
def u67:List F:=[.b false,.sl 1 [[.i .u32 37]],.sl 1 [[.i .u32 20]]]
def u68:List F:=[.b false,.sl 1 [[.i .u32 39]],.sl 1 [[.i .u32 28]]]
def u69:List F:=[.b false,.sl 1 [[.i .u32 29]],.sl 1 [[.i .u32 20]]]
def u70:List F:=[.b false,.sl 1 [[.i .u32 139]],.sl 1 [[.i .u32 140]]]
def u71:List F:=[.b false,.sl 1 [[.i .u32 15]],.sl 1 [[.i .u32 28]]]
def u72:List F:=[.b false,.sl 1 [[.i .u32 3]],.sl 1 [[.i .u32 1]]]
def u73:List F:=[.b false,.sl 1 [[.i .u32 13]],.sl 1 [[.i .u32 5]]]
def u74:List F:=[.b false,.sl 1 [[.i .u32 15]],.sl 1 [[.i .u32 7]]]
def u75:List F:=[.b false,.sl 1 [[.i .u32 11]],.sl 1 [[.i .u32 5]]]
def u76:List F:=[.b false,.sl 1 [[.i .u32 61]],.sl 1 [[.i .u32 35]]]
def u77:List F:=[.b false,.sl 1 [[.i .u32 9]],.sl 1 [[.i .u32 7]]]
def u78:List F:=[.b false,.sl 1 [[.i .u32 9]],.sl 1 [[.i .u32 5]]]
def u79:List F:=[.b false,.sl 1 [[.i .u32 47]],.sl 1 [[.i .u32 35]]]
def u80:List F:=[.b false,.sl 1 [[.i .u32 31]],.sl 1 [[.i .u32 35]]]
def u81:List F:=[.b false,.sl 1 [[.i .u32 3]],.sl 1 [[.i .u32 7]]]
def PPl:List (List F):=[u1,u2,u3,u4,u5,u0,u6,u7]
def Sl0:List (List F):=[u0]
def Sl1:List (List F):=[u1,u2,u3,u4,u5,u0,u6,u7]
def Sl2:List (List F):=[u5,u8,u9,u10,u11,u1,u12,u13,u3,u14,u15,u2,u16,u17,u18,u19,u20,u21,u22,u4,u23,u24,u25,u26,u27,u0,u6,u7,u28,u29,u30]
def Sl3:List (List F):=[u11,u15,u19,u22,u25,u5,u26,u27,u9,u31,u32,u8,u33,u34,u35,u36,u37,u38,u39,u10,u40,u41,u42,u43,u44,u1,u12,u13,u45,u46,u47,u18,u3,u20,u21,u48,u14,u49,u50,u51,u52,u53,u2,u16,u17,u54,u55,u56,u57,u58,u59,u60,u61,u62,u63,u64,u65,u66,u67,u68,u4,u23,u24,u69,u70,u71,u72,u73,u74,u75,u76,u77,u0,u6,u7,u28,u29,u30,u78,u79,u80,u81]
end Go.Proofs.YtlmnmaginhebdaaGreatDoor
end
