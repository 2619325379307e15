/- Find, Canonical. -/
import Derived.Test.YtkcnnkncapiohaaGreatDoorPd
import Derived.KernelRfl
import Derived.IntWalk
import Derived.Test.YtkcnnkncapiohaaGreatDoorPc
set_option linter.all false
set_option maxRecDepth 100000
set_option maxHeartbeats 4000000
section
namespace Go.Proofs.YtkcnnkncapiohaaGreatDoor
open Go Go.Vse Go.Vse.Sm
def fn97:pr.fn 97=some g97:=by kernel_rfl
def I36(r:Rl)(vs:List Int)(k:Nat)(s:St):Prop:=∃n:Nat,n<=r.tu.length/\k=r.tu.length - n/\s.tm.get 1=some (.f (valsF vs))/\s.tm.get 2=some (.ptr 0 4 0 0)/\s.h.get 0=some (.arr 4 0 [[.f (.s r.nm),.f (.b r.ce),.f r.co,.f (slc 4 (r.tu.map tuF))]])/\
 s.tm.get 6=some (.f (.i .i64 n))
def R36(x:Ex)(s:St):Prop:=x= .exit 0\/(x= .ret/\∃i:Nat,s.tm.get 4=some (.f (.i .i64 i))/\s.tm.get 5=some (.f (.b true)))
def zP2(y:F):Prop:=∃i b,y= .tu [.i .i64 i,.b b]
def zAG{SS:Nat->List F->Prop}{PP:List F->Prop}(hS:zkP SS PP)(r:Rl)(hr:zd7 SS PP r)(vs:List Int):∃i b,Ans pr 95 [.ag (rlF r),valsF vs] (.tu [.i .i64 i,.b b]):=by
 have main:∃y,zP2 y/\Ans pr 95 [.ag (rlF r),valsF vs] y:=by
  refine zdR fn95 ?_;have hnT:=hr.n;have hco:=hr.co;simp only[g95,rU];simp -implicitDefEqProofs [rR,st0,zal,rlF,hco,zav];refine zbS (I36 r vs) R36 ?_ r.tu.length _ ⟨0,Z61 _,rfl,?_,?_,?_,?_⟩ ?_
  any_goals (simp -implicitDefEqProofs [rR,zal];done)
  .rintro k s ⟨n,hn,rfl,h1,h2,g0,h6⟩;have hw:=zaB n (by omega)
   by_cases hlt:n<r.tu.length
   .obtain⟨x0,x1,x2,hx,hd0,hd1,hd2⟩ :=hS.pp _ (hr.p _ (Z1 hlt));have htu:tuF (r.tu[n])=[valsF (r.tu[n]).1,x0,x1,x2]:=by unfold tuF;rw[hx]
    have h25:=zpR (r.tu[n]).1 vs (by have:=hr.l _ (Z1 hlt);omega);have q25:=fun k=>zad (k:=k) h25
    by_cases k0:cmpL (r.tu[n]).1 vs=0
    .rw[k0]at q25;simp -implicitDefEqProofs [rR,h1,h2,g0,h6,hlt,htu,q25];exact .inr ⟨rfl,n,by simp -implicitDefEqProofs [rR,h1],by simp -implicitDefEqProofs [rR,h1]⟩
    .simp -implicitDefEqProofs [rR,h1,h2,g0,h6,hlt,htu,q25,k0,hw];rw[za1];refine⟨r.tu.length - (n+1),by omega,n+1,by omega,rfl,?_,?_,?_,?_⟩
     all_goals simp -implicitDefEqProofs [rR,h1,h2,g0]
   .simp -implicitDefEqProofs [rR,h1,h2,g0,h6,hlt];exact .inl rfl
  .rintro x s (rfl|⟨rfl,i,h4,h5⟩)
   .simp -implicitDefEqProofs [rR,st0];exact⟨_,_,rfl⟩
   .simp -implicitDefEqProofs [rR,h4,h5];exact⟨_,_,rfl⟩
 obtain⟨y,⟨i,b,rfl⟩,ha⟩ :=main;exact⟨i,b,ha⟩
def znU{SS:Nat->List F->Prop}{PP:List F->Prop}(hS:zkP SS PP)(r:Rl)(hr:zd7 SS PP r):Ans pr 97 [.ag (rlF r)] (.ag (rlF r)):=by
 refine zbN fn97 ?_;have hnT:=hr.n;have hco:=hr.co;have hcc:=hr.cc;have hp:=hr.p;have hw1:IntKind.i64.wrap 1=1:=by decide
 have hw2:IntKind.i64.wrap 2=2:=by decide
 have hw3:IntKind.i64.wrap 3=3:=by decide
 simp only[g97,rU];unfold rlF;generalize r.tu=TT at hnT hp
 match TT,hnT with
 |[],_=>
  simp -implicitDefEqProofs [rR,st0,zal,hco,hcc,Z85,zbX];refine round ?_;simp -implicitDefEqProofs [rR,hco,hcc]
 |[t0],_=>
  have hp0:=hp t0 (by simp);obtain⟨x00,x01,x02,hx0,hd00,hd01,hd02⟩ :=hS.pp _ hp0;have hn0:=hS.norm _ hp0;rw[hx0]at hn0;have q0:=fun k=>zad (k:=k) hn0
  have htu0:tuF t0=[valsF t0.1,x00,x01,x02]:=by unfold tuF;rw[hx0]
  have hcv0:(D.f (valsF t0.1)).cells=some [.f (valsF t0.1)]:=zdk ..;simp -implicitDefEqProofs [rR,st0,zal,hco,hcc,Z10,Z85,zbD,htu0];refine round ?_;simp -implicitDefEqProofs [rR,hco,hcc,zav,hw1,hw2,hw3,zaH,leF,hd00,hd01,hd02,q0,hcv0];refine zaq ?_;simp -implicitDefEqProofs [rR,hco,hcc,zav,hw1,hw2,hw3,zaH,leF,hd00,hd01,hd02,q0,hcv0];refine round ?_;simp -implicitDefEqProofs [rR,hco,hcc,zav,hw1,hw2,hw3,zaH,leF,hd00,hd01,hd02,q0,hcv0]
 |[t0,t1],_=>
  have hp0:=hp t0 (by simp);obtain⟨x00,x01,x02,hx0,hd00,hd01,hd02⟩ :=hS.pp _ hp0;have hn0:=hS.norm _ hp0;rw[hx0]at hn0;have q0:=fun k=>zad (k:=k) hn0
  have htu0:tuF t0=[valsF t0.1,x00,x01,x02]:=by unfold tuF;rw[hx0]
  have hcv0:(D.f (valsF t0.1)).cells=some [.f (valsF t0.1)]:=zdk ..;have hp1:=hp t1 (by simp);obtain⟨x10,x11,x12,hx1,hd10,hd11,hd12⟩ :=hS.pp _ hp1;have hn1:=hS.norm _ hp1;rw[hx1]at hn1;have q1:=fun k=>zad (k:=k) hn1
  have htu1:tuF t1=[valsF t1.1,x10,x11,x12]:=by unfold tuF;rw[hx1]
  have hcv1:(D.f (valsF t1.1)).cells=some [.f (valsF t1.1)]:=zdk ..;simp -implicitDefEqProofs [rR,st0,zal,hco,hcc,Z10,Z85,zbD,htu0,htu1];refine round ?_;simp -implicitDefEqProofs [rR,hco,hcc,zav,hw1,hw2,hw3,zaH,leF,hd00,hd01,hd02,q0,hcv0,hd10,hd11,hd12,q1,hcv1];refine zaq ?_;simp -implicitDefEqProofs [rR,hco,hcc,zav,hw1,hw2,hw3,zaH,leF,hd00,hd01,hd02,q0,hcv0,hd10,hd11,hd12,q1,hcv1];refine round ?_;simp -implicitDefEqProofs [rR,hco,hcc,zav,hw1,hw2,hw3,zaH,leF,hd00,hd01,hd02,q0,hcv0,hd10,hd11,hd12,q1,hcv1];refine zaq ?_;simp -implicitDefEqProofs [rR,hco,hcc,zav,hw1,hw2,hw3,zaH,leF,hd00,hd01,hd02,q0,hcv0,hd10,hd11,hd12,q1,hcv1];refine round ?_;simp -implicitDefEqProofs [rR,hco,hcc,zav,hw1,hw2,hw3,zaH,leF,hd00,hd01,hd02,q0,hcv0,hd10,hd11,hd12,q1,hcv1]
 |[t0,t1,t2],_=>
  have hp0:=hp t0 (by simp);obtain⟨x00,x01,x02,hx0,hd00,hd01,hd02⟩ :=hS.pp _ hp0;have hn0:=hS.norm _ hp0;rw[hx0]at hn0;have q0:=fun k=>zad (k:=k) hn0
  have htu0:tuF t0=[valsF t0.1,x00,x01,x02]:=by unfold tuF;rw[hx0]
  have hcv0:(D.f (valsF t0.1)).cells=some [.f (valsF t0.1)]:=zdk ..;have hp1:=hp t1 (by simp);obtain⟨x10,x11,x12,hx1,hd10,hd11,hd12⟩ :=hS.pp _ hp1;have hn1:=hS.norm _ hp1;rw[hx1]at hn1;have q1:=fun k=>zad (k:=k) hn1
  have htu1:tuF t1=[valsF t1.1,x10,x11,x12]:=by unfold tuF;rw[hx1]
  have hcv1:(D.f (valsF t1.1)).cells=some [.f (valsF t1.1)]:=zdk ..;have hp2:=hp t2 (by simp);obtain⟨x20,x21,x22,hx2,hd20,hd21,hd22⟩ :=hS.pp _ hp2;have hn2:=hS.norm _ hp2;rw[hx2]at hn2;have q2:=fun k=>zad (k:=k) hn2
  have htu2:tuF t2=[valsF t2.1,x20,x21,x22]:=by unfold tuF;rw[hx2]
  have hcv2:(D.f (valsF t2.1)).cells=some [.f (valsF t2.1)]:=zdk ..;simp -implicitDefEqProofs [rR,st0,zal,hco,hcc,Z10,Z85,zbD,htu0,htu1,htu2];refine round ?_;simp -implicitDefEqProofs [rR,hco,hcc,zav,hw1,hw2,hw3,zaH,leF,hd00,hd01,hd02,q0,hcv0,hd10,hd11,hd12,q1,hcv1,hd20,hd21,hd22,q2,hcv2];refine zaq ?_;simp -implicitDefEqProofs [rR,hco,hcc,zav,hw1,hw2,hw3,zaH,leF,hd00,hd01,hd02,q0,hcv0,hd10,hd11,hd12,q1,hcv1,hd20,hd21,hd22,q2,hcv2];refine round ?_;simp -implicitDefEqProofs [rR,hco,hcc,zav,hw1,hw2,hw3,zaH,leF,hd00,hd01,hd02,q0,hcv0,hd10,hd11,hd12,q1,hcv1,hd20,hd21,hd22,q2,hcv2];refine zaq ?_;simp -implicitDefEqProofs [rR,hco,hcc,zav,hw1,hw2,hw3,zaH,leF,hd00,hd01,hd02,q0,hcv0,hd10,hd11,hd12,q1,hcv1,hd20,hd21,hd22,q2,hcv2];refine round ?_;simp -implicitDefEqProofs [rR,hco,hcc,zav,hw1,hw2,hw3,zaH,leF,hd00,hd01,hd02,q0,hcv0,hd10,hd11,hd12,q1,hcv1,hd20,hd21,hd22,q2,hcv2];refine zaq ?_;simp -implicitDefEqProofs [rR,hco,hcc,zav,hw1,hw2,hw3,zaH,leF,hd00,hd01,hd02,q0,hcv0,hd10,hd11,hd12,q1,hcv1,hd20,hd21,hd22,q2,hcv2];refine round ?_;simp -implicitDefEqProofs [rR,hco,hcc,zav,hw1,hw2,hw3,zaH,leF,hd00,hd01,hd02,q0,hcv0,hd10,hd11,hd12,q1,hcv1,hd20,hd21,hd22,q2,hcv2]
 |_::_::_::_::_,h=>exact absurd h (by simp)
def fn54:pr.fn 54=some g54:=by kernel_rfl
def zRl:List F:=[.s [],.b false,.nils,.nils]
def IsIns(nm:Str)(ce:Bool)(co:F)(tu:List (List Int×List F))(t:List Int×List F)(y:F):Prop:=
 (∃e:Int,e≠0/\y= .tu [.ag zRl,.i .i64 e])\/∃n:Nat,n<=tu.length/\y= .tu [.ag (rlF ⟨nm,ce,co,tu.take n++t::tu.drop n⟩),.i .i64 0]
theorem zvb{SS:Nat->List F->Prop}{PP:List F->Prop}(hS:zkP SS PP)(nm:Str)(ce:Bool)(co:F)(tu:List (List Int×List F))(hr:zd7 SS PP ⟨nm,ce,co,tu⟩)(hn2:tu.length<=2)(t:List Int×List F)(ht:PP t.2)
  (hct:∃e,Ans pr 94 [.ag [.s nm,.b ce,co],.ag (tuF t)] (.i .i64 e))
  (hout:∀n,n<=tu.length->zd7 SS PP ⟨nm,ce,co,tu.take n++t::tu.drop n⟩):∃y,IsIns nm ce co tu t y/\Ans pr 54 [.ag (rlF ⟨nm,ce,co,tu⟩),.ag (tuF t)] y:=by
 refine zdR fn54 ?_;have hco:=hr.co;have hcc:=hr.cc;have hw1:IntKind.i64.wrap 1=1:=by decide
 have hw2:IntKind.i64.wrap 2=2:=by decide
 have hw3:IntKind.i64.wrap 3=3:=by decide
 obtain⟨x0,x1,x2,hx,hd0,hd1,hd2⟩ :=hS.pp _ ht;have htu:tuF t=[valsF t.1,x0,x1,x2]:=by unfold tuF;rw[hx]
 have hcv:(D.f (valsF t.1)).cells=some [.f (valsF t.1)]:=zdk ..;obtain⟨e2,h35⟩ :=hct;rw[htu]at h35;have q35:=fun k=>zad (k:=k) h35
 simp only[g54,rU]
 match tu,hn2 with
 |[],_=>
  obtain⟨e1,h34⟩ :=zhD hS _ hr;obtain⟨i6,b6,h36⟩ :=zAG hS _ hr t.1;have ho0:zd7 SS PP ⟨nm,ce,co,[t]⟩ :=by simpa using hout 0 (by simp)
  obtain⟨f0,g0⟩ :=zhD hS _ ho0;have c0:=znU hS _ ho0;simp only[rlF,Z10,Z85,zbD,zbX,htu]at h34 h36 g0 c0;have q34:=fun k=>zad (k:=k) h34
  have q36:=fun k=>zad (k:=k) h36
  have qg0:=fun k=>zad (k:=k) g0
  have qc0:=fun k=>zad (k:=k) c0
  by_cases he1:e1=0
  rotate_left
  .simp -implicitDefEqProofs [rR,st0,zal,rlF,Z10,Z85,zbD,zbX,htu,q34,he1,hco,hcc,zav,hw1,hw2,hw3,zaH,leF,hd0,hd1,hd2,hcv];exact .inl ⟨_,he1,rfl⟩
  subst he1
  by_cases he2:e2=0
  rotate_left
  .simp -implicitDefEqProofs [rR,st0,zal,rlF,Z10,Z85,zbD,zbX,htu,q34,q35,he2,hco,hcc,zav,hw1,hw2,hw3,zaH,leF,hd0,hd1,hd2,hcv];exact .inl ⟨_,he2,rfl⟩
  subst he2;cases b6 with
  |true=>
   simp -implicitDefEqProofs [rR,st0,zal,rlF,Z10,Z85,zbD,zbX,htu,q34,q35,q36,hco,hcc,zav,hw1,hw2,hw3,zaH,leF,hd0,hd1,hd2,hcv];exact .inl ⟨_,by decide,rfl⟩
  |false=>
   simp -implicitDefEqProofs [rR,st0,zal,rlF,Z10,Z85,zbD,zbX,htu,q34,q35,q36,hco,hcc,zav,hw1,hw2,hw3,zaH,leF,hd0,hd1,hd2,hcv];refine round ?_;simp -implicitDefEqProofs [rR,hco,hcc,zav,hw1,hw2,hw3,zaH,leF,hd0,hd1,hd2,hcv];refine zaq ?_;simp -implicitDefEqProofs [rR,hco,hcc,zav,hw1,hw2,hw3,zaH,leF,hd0,hd1,hd2,hcv];refine zaq ?_
   by_cases hf:f0=0
   .subst hf;simp -implicitDefEqProofs [rR,hco,hcc,zav,hw1,hw2,hw3,zaH,leF,hd0,hd1,hd2,hcv,qg0,qc0];exact .inr ⟨0,by simp,by simp[rlF,Z10,Z85,zbD,zbX,htu]⟩
   .simp -implicitDefEqProofs [rR,hco,hcc,zav,hw1,hw2,hw3,zaH,leF,hd0,hd1,hd2,hcv,qg0,hf];exact .inl ⟨_,hf,rfl⟩
 |[a0],_=>
  obtain⟨e1,h34⟩ :=zhD hS _ hr;obtain⟨i6,b6,h36⟩ :=zAG hS _ hr t.1;obtain⟨x00,x01,x02,hx0,hd00,hd01,hd02⟩ :=hS.pp _ (hr.p a0 (by simp));have htu0:tuF a0=[valsF a0.1,x00,x01,x02]:=by unfold tuF;rw[hx0]
  have hcv0:(D.f (valsF a0.1)).cells=some [.f (valsF a0.1)]:=zdk ..;have h25_0:=zpR a0.1 t.1 (by have:=hr.l a0 (by simp);omega);have q25Q0:=fun k=>zad (k:=k) h25_0
  have ho0:zd7 SS PP ⟨nm,ce,co,[t,a0]⟩ :=by simpa using hout 0 (by simp)
  obtain⟨f0,g0⟩ :=zhD hS _ ho0;have c0:=znU hS _ ho0;have ho1:zd7 SS PP ⟨nm,ce,co,[a0,t]⟩ :=by simpa using hout 1 (by simp)
  obtain⟨f1,g1⟩ :=zhD hS _ ho1;have c1:=znU hS _ ho1;simp only[rlF,Z10,Z85,zbD,zbX,htu,htu0]at h34 h36 g0 c0 g1 c1;have q34:=fun k=>zad (k:=k) h34
  have q36:=fun k=>zad (k:=k) h36
  have qg0:=fun k=>zad (k:=k) g0
  have qc0:=fun k=>zad (k:=k) c0
  have qg1:=fun k=>zad (k:=k) g1
  have qc1:=fun k=>zad (k:=k) c1
  by_cases he1:e1=0
  rotate_left
  .simp -implicitDefEqProofs [rR,st0,zal,rlF,Z10,Z85,zbD,zbX,htu,htu0,q34,he1,hco,hcc,zav,hw1,hw2,hw3,zaH,leF,hd0,hd1,hd2,hcv,hd00,hd01,hd02,hcv0];exact .inl ⟨_,he1,rfl⟩
  subst he1
  by_cases he2:e2=0
  rotate_left
  .simp -implicitDefEqProofs [rR,st0,zal,rlF,Z10,Z85,zbD,zbX,htu,htu0,q34,q35,he2,hco,hcc,zav,hw1,hw2,hw3,zaH,leF,hd0,hd1,hd2,hcv,hd00,hd01,hd02,hcv0];exact .inl ⟨_,he2,rfl⟩
  subst he2;cases b6 with
  |true=>
   simp -implicitDefEqProofs [rR,st0,zal,rlF,Z10,Z85,zbD,zbX,htu,htu0,q34,q35,q36,hco,hcc,zav,hw1,hw2,hw3,zaH,leF,hd0,hd1,hd2,hcv,hd00,hd01,hd02,hcv0];exact .inl ⟨_,by decide,rfl⟩
  |false=>
   simp -implicitDefEqProofs [rR,st0,zal,rlF,Z10,Z85,zbD,zbX,htu,htu0,q34,q35,q36,hco,hcc,zav,hw1,hw2,hw3,zaH,leF,hd0,hd1,hd2,hcv,hd00,hd01,hd02,hcv0];refine round ?_;simp -implicitDefEqProofs [rR,hco,hcc,zav,hw1,hw2,hw3,zaH,leF,hd0,hd1,hd2,hcv,hd00,hd01,hd02,hcv0];refine zaq ?_
   by_cases k0:cmpL a0.1 t.1<0
   .simp -implicitDefEqProofs [rR,hco,hcc,zav,hw1,hw2,hw3,zaH,leF,hd0,hd1,hd2,hcv,hd00,hd01,hd02,hcv0,q25Q0,k0];refine round ?_;simp -implicitDefEqProofs [rR,hco,hcc,zav,hw1,hw2,hw3,zaH,leF,hd0,hd1,hd2,hcv,hd00,hd01,hd02,hcv0];refine zaq ?_;simp -implicitDefEqProofs [rR,hco,hcc,zav,hw1,hw2,hw3,zaH,leF,hd0,hd1,hd2,hcv,hd00,hd01,hd02,hcv0];refine zaq ?_
    by_cases hf:f1=0
    .subst hf;simp -implicitDefEqProofs [rR,hco,hcc,zav,hw1,hw2,hw3,zaH,leF,hd0,hd1,hd2,hcv,hd00,hd01,hd02,hcv0,qg1,qc1];exact .inr ⟨1,by simp,by simp[rlF,Z10,Z85,zbD,zbX,htu,htu0]⟩
    .simp -implicitDefEqProofs [rR,hco,hcc,zav,hw1,hw2,hw3,zaH,leF,hd0,hd1,hd2,hcv,hd00,hd01,hd02,hcv0,qg1,hf];exact .inl ⟨_,hf,rfl⟩
   .simp -implicitDefEqProofs [rR,hco,hcc,zav,hw1,hw2,hw3,zaH,leF,hd0,hd1,hd2,hcv,hd00,hd01,hd02,hcv0,q25Q0,k0];refine zaq ?_
    by_cases hf:f0=0
    .subst hf;simp -implicitDefEqProofs [rR,hco,hcc,zav,hw1,hw2,hw3,zaH,leF,hd0,hd1,hd2,hcv,hd00,hd01,hd02,hcv0,qg0,qc0];exact .inr ⟨0,by simp,by simp[rlF,Z10,Z85,zbD,zbX,htu,htu0]⟩
    .simp -implicitDefEqProofs [rR,hco,hcc,zav,hw1,hw2,hw3,zaH,leF,hd0,hd1,hd2,hcv,hd00,hd01,hd02,hcv0,qg0,hf];exact .inl ⟨_,hf,rfl⟩
 |[a0,a1],_=>
  obtain⟨e1,h34⟩ :=zhD hS _ hr;obtain⟨i6,b6,h36⟩ :=zAG hS _ hr t.1;obtain⟨x00,x01,x02,hx0,hd00,hd01,hd02⟩ :=hS.pp _ (hr.p a0 (by simp));have htu0:tuF a0=[valsF a0.1,x00,x01,x02]:=by unfold tuF;rw[hx0]
  have hcv0:(D.f (valsF a0.1)).cells=some [.f (valsF a0.1)]:=zdk ..;have h25_0:=zpR a0.1 t.1 (by have:=hr.l a0 (by simp);omega);have q25Q0:=fun k=>zad (k:=k) h25_0
  obtain⟨x10,x11,x12,hx1,hd10,hd11,hd12⟩ :=hS.pp _ (hr.p a1 (by simp));have htu1:tuF a1=[valsF a1.1,x10,x11,x12]:=by unfold tuF;rw[hx1]
  have hcv1:(D.f (valsF a1.1)).cells=some [.f (valsF a1.1)]:=zdk ..;have h25_1:=zpR a1.1 t.1 (by have:=hr.l a1 (by simp);omega);have q25Q1:=fun k=>zad (k:=k) h25_1
  have ho0:zd7 SS PP ⟨nm,ce,co,[t,a0,a1]⟩ :=by simpa using hout 0 (by simp)
  obtain⟨f0,g0⟩ :=zhD hS _ ho0;have c0:=znU hS _ ho0;have ho1:zd7 SS PP ⟨nm,ce,co,[a0,t,a1]⟩ :=by simpa using hout 1 (by simp)
  obtain⟨f1,g1⟩ :=zhD hS _ ho1;have c1:=znU hS _ ho1;have ho2:zd7 SS PP ⟨nm,ce,co,[a0,a1,t]⟩ :=by simpa using hout 2 (by simp)
  obtain⟨f2,g2⟩ :=zhD hS _ ho2;have c2:=znU hS _ ho2;simp only[rlF,Z10,Z85,zbD,zbX,htu,htu0,htu1]at h34 h36 g0 c0 g1 c1 g2 c2;have q34:=fun k=>zad (k:=k) h34
  have q36:=fun k=>zad (k:=k) h36
  have qg0:=fun k=>zad (k:=k) g0
  have qc0:=fun k=>zad (k:=k) c0
  have qg1:=fun k=>zad (k:=k) g1
  have qc1:=fun k=>zad (k:=k) c1
  have qg2:=fun k=>zad (k:=k) g2
  have qc2:=fun k=>zad (k:=k) c2
  by_cases he1:e1=0
  rotate_left
  .simp -implicitDefEqProofs [rR,st0,zal,rlF,Z10,Z85,zbD,zbX,htu,htu0,htu1,q34,he1,hco,hcc,zav,hw1,hw2,hw3,zaH,leF,hd0,hd1,hd2,hcv,hd00,hd01,hd02,hcv0,hd10,hd11,hd12,hcv1];exact .inl ⟨_,he1,rfl⟩
  subst he1
  by_cases he2:e2=0
  rotate_left
  .simp -implicitDefEqProofs [rR,st0,zal,rlF,Z10,Z85,zbD,zbX,htu,htu0,htu1,q34,q35,he2,hco,hcc,zav,hw1,hw2,hw3,zaH,leF,hd0,hd1,hd2,hcv,hd00,hd01,hd02,hcv0,hd10,hd11,hd12,hcv1];exact .inl ⟨_,he2,rfl⟩
  subst he2;cases b6 with
  |true=>
   simp -implicitDefEqProofs [rR,st0,zal,rlF,Z10,Z85,zbD,zbX,htu,htu0,htu1,q34,q35,q36,hco,hcc,zav,hw1,hw2,hw3,zaH,leF,hd0,hd1,hd2,hcv,hd00,hd01,hd02,hcv0,hd10,hd11,hd12,hcv1];exact .inl ⟨_,by decide,rfl⟩
  |false=>
   simp -implicitDefEqProofs [rR,st0,zal,rlF,Z10,Z85,zbD,zbX,htu,htu0,htu1,q34,q35,q36,hco,hcc,zav,hw1,hw2,hw3,zaH,leF,hd0,hd1,hd2,hcv,hd00,hd01,hd02,hcv0,hd10,hd11,hd12,hcv1];refine round ?_;simp -implicitDefEqProofs [rR,hco,hcc,zav,hw1,hw2,hw3,zaH,leF,hd0,hd1,hd2,hcv,hd00,hd01,hd02,hcv0,hd10,hd11,hd12,hcv1];refine zaq ?_
   by_cases k0:cmpL a0.1 t.1<0
   .simp -implicitDefEqProofs [rR,hco,hcc,zav,hw1,hw2,hw3,zaH,leF,hd0,hd1,hd2,hcv,hd00,hd01,hd02,hcv0,hd10,hd11,hd12,hcv1,q25Q0,k0];refine round ?_;simp -implicitDefEqProofs [rR,hco,hcc,zav,hw1,hw2,hw3,zaH,leF,hd0,hd1,hd2,hcv,hd00,hd01,hd02,hcv0,hd10,hd11,hd12,hcv1];refine zaq ?_
    by_cases k1:cmpL a1.1 t.1<0
    .simp -implicitDefEqProofs [rR,hco,hcc,zav,hw1,hw2,hw3,zaH,leF,hd0,hd1,hd2,hcv,hd00,hd01,hd02,hcv0,hd10,hd11,hd12,hcv1,q25Q1,k1];refine round ?_;simp -implicitDefEqProofs [rR,hco,hcc,zav,hw1,hw2,hw3,zaH,leF,hd0,hd1,hd2,hcv,hd00,hd01,hd02,hcv0,hd10,hd11,hd12,hcv1];refine zaq ?_;simp -implicitDefEqProofs [rR,hco,hcc,zav,hw1,hw2,hw3,zaH,leF,hd0,hd1,hd2,hcv,hd00,hd01,hd02,hcv0,hd10,hd11,hd12,hcv1];refine zaq ?_
     by_cases hf:f2=0
     .subst hf;simp -implicitDefEqProofs [rR,hco,hcc,zav,hw1,hw2,hw3,zaH,leF,hd0,hd1,hd2,hcv,hd00,hd01,hd02,hcv0,hd10,hd11,hd12,hcv1,qg2,qc2];exact .inr ⟨2,by simp,by simp[rlF,Z10,Z85,zbD,zbX,htu,htu0,htu1]⟩
     .simp -implicitDefEqProofs [rR,hco,hcc,zav,hw1,hw2,hw3,zaH,leF,hd0,hd1,hd2,hcv,hd00,hd01,hd02,hcv0,hd10,hd11,hd12,hcv1,qg2,hf];exact .inl ⟨_,hf,rfl⟩
    .simp -implicitDefEqProofs [rR,hco,hcc,zav,hw1,hw2,hw3,zaH,leF,hd0,hd1,hd2,hcv,hd00,hd01,hd02,hcv0,hd10,hd11,hd12,hcv1,q25Q1,k1];refine zaq ?_
     by_cases hf:f1=0
     .subst hf;simp -implicitDefEqProofs [rR,hco,hcc,zav,hw1,hw2,hw3,zaH,leF,hd0,hd1,hd2,hcv,hd00,hd01,hd02,hcv0,hd10,hd11,hd12,hcv1,qg1,qc1];exact .inr ⟨1,by simp,by simp[rlF,Z10,Z85,zbD,zbX,htu,htu0,htu1]⟩
     .simp -implicitDefEqProofs [rR,hco,hcc,zav,hw1,hw2,hw3,zaH,leF,hd0,hd1,hd2,hcv,hd00,hd01,hd02,hcv0,hd10,hd11,hd12,hcv1,qg1,hf];exact .inl ⟨_,hf,rfl⟩
   .simp -implicitDefEqProofs [rR,hco,hcc,zav,hw1,hw2,hw3,zaH,leF,hd0,hd1,hd2,hcv,hd00,hd01,hd02,hcv0,hd10,hd11,hd12,hcv1,q25Q0,k0];refine zaq ?_
    by_cases hf:f0=0
    .subst hf;simp -implicitDefEqProofs [rR,hco,hcc,zav,hw1,hw2,hw3,zaH,leF,hd0,hd1,hd2,hcv,hd00,hd01,hd02,hcv0,hd10,hd11,hd12,hcv1,qg0,qc0];exact .inr ⟨0,by simp,by simp[rlF,Z10,Z85,zbD,zbX,htu,htu0,htu1]⟩
    .simp -implicitDefEqProofs [rR,hco,hcc,zav,hw1,hw2,hw3,zaH,leF,hd0,hd1,hd2,hcv,hd00,hd01,hd02,hcv0,hd10,hd11,hd12,hcv1,qg0,hf];exact .inl ⟨_,hf,rfl⟩
 |_::_::_::_,h=>exact absurd h (by simp)
def fn33:pr.fn 33=some g33:=by kernel_rfl
def fn74:pr.fn 74=some g74:=by kernel_rfl
def fn113:pr.fn 113=some zBi:=by kernel_rfl
def fn162:pr.fn 162=some zBx:=by kernel_rfl
def zFZ(f:Go.Vse.A->Option D)(x a b:Go.Vse.A):O.res f (.sls x (some a) (some b))=(f x).bind fun x=>(f a).bind fun a=>(f b).bind fun b=>some (.sls x (some a) (some b)):=by
 simp only[O.res,zcW];cases f x<;>cases f a<;>cases f b<;>rfl
def zL1{pr:Pr}{s:St}{Q:St->Prop}{dst:Option Nat}{l:List Go.Vse.Op}{x a b:Go.Vse.A}:wpO pr (⟨dst,none,.sls x (some a) (some b)⟩ ::l) s Q↔oB (((O.sls x (some a) (some b)).res (zae s.tm)).bind (opv s.h.get s.c)) fun r=>zaC r.c r.wr=true/\wpO pr l (s.aft dst r.d r.wr r.c) Q:=zey rfl
def zME(h:Nat->Option Ob)(c:Nat){l:Str}{a b:Nat}(ha:a<=b)(hb:b<=l.length):opv h c (.sls (.f (.s l)) (some (.f (.i .i64 (a:Int)))) (some (.f (.i .i64 (b:Int)))))=some {d:= .f (.s ((l.drop a).take (b - a))),c:=c}:=by
 simp[opv,za9,zbR,ha,hb,okF]
def dg1:Str:=[48,49,50,51,52,53,54,55,56,57,97,98,99,100,101,102,103,104,105,106,107,108,109,110,111,112,113,114,115,116,117,118,119,120,121,122]
def dg2:Str:=(List.range 100).flatMap fun n=>[UInt8.ofNat (48+n/10),UInt8.ofNat (48+n%10)]
def dgt(n:Nat):Str:=if n<10 then(dg1.drop n).take 1 else(dg2.drop (2*n)).take 2
def zNG:∀n<100,∀m<100,dgt n=dgt m->n=m:=by
 have h:∀n<100,(dgt n).foldl (fun x d=>10*x+(d.toNat - 48)) 0=n:=by decide
 intro n hn m hm e;rw[<-h n hn,<-h m hm,e]
def ro162(n:Nat)(hn:n<100){h:T Ob}{c:Nat}:RO pr 162 [.f (.i .i64 n)] h c (.f (.s (dgt n))):=by
 refine zC4 zfM fn162 rfl ?_;simp only[zBx,rU];have hw1:=zaB n (by omega);have e1:IntKind.i64.wrap ((n:Int)*2)=((2*n:Nat):Int):=by rw[wrap_i64 _ (by omega) (by omega)];omega
 have e2:IntKind.i64.wrap (((2*n:Nat):Int)+2)=((2*n+2:Nat):Int):=by rw[wrap_i64 _ (by omega) (by omega)];omega
 have bm:zaN .mul (.i .i64 (n:Int)) (.i .i64 2)=some (.i .i64 (IntKind.i64.wrap ((n:Int)*2))):=rfl;unfold dgt
 by_cases h1:n<10
 .have h1':(n:Int)<10:=by omega
  have v:=fun h c=>zME h c (l:=dg1) (a:=n) (b:=n+1) (by omega) (by rw[show dg1.length=36 from rfl];omega)
  rw[show n+1 - n=1 by omega]at v;unfold dg1 at v|-;dsimp only at v|-
  push_cast at v e1 e2
  simp[rW,st0,zal,h1,h1',hw1,zL1,zFZ,v,zp6]
 .have h1':¬((n:Int)<10):=by omega
  have v:=fun h c=>zME h c (l:=dg2) (a:=2*n) (b:=2*n+2) (by omega) (by rw[show dg2.length=200 by decide];omega)
  rw[show 2*n+2 - 2*n=2 by omega]at v;have hd:dg2=[48,48,48,49,48,50,48,51,48,52,48,53,48,54,48,55,48,56,48,57,49,48,49,49,49,50,49,51,49,52,49,53,49,54,49,55,49,56,49,57,50,48,50,49,50,50,50,51,50,52,50,53,50,54,50,55,50,56,50,57,51,48,51,49,51,50,51,51,51,52,51,53,51,54,51,55,51,56,51,57,52,48,52,49,52,50,52,51,52,52,52,53,52,54,52,55,52,56,52,57,53,48,53,49,53,50,53,51,53,52,53,53,53,54,53,55,53,56,53,57,54,48,54,49,54,50,54,51,54,52,54,53,54,54,54,55,54,56,54,57,55,48,55,49,55,50,55,51,55,52,55,53,55,54,55,55,55,56,55,57,56,48,56,49,56,50,56,51,56,52,56,53,56,54,56,55,56,56,56,57,57,48,57,49,57,50,57,51,57,52,57,53,57,54,57,55,57,56,57,57]:=by decide
  rw[hd]at v|-;dsimp only at v|-
  push_cast at v e1 e2
  simp[rW,st0,zal,h1,h1',bm,e1,e2,zL1,zFZ,v,zp6]
def ro113(n:Nat)(hn:n<100){h:T Ob}{c:Nat}:RO pr 113 [.f (.i .i64 n),.f (.i .i64 10)] h c (.f (.s (dgt n))):=by
 refine zC4 zfM fn113 rfl ?_;simp only[zBi,rU];have h1:(0:Int)<=n:=by omega
 have h2:(n:Int)<100:=by omega
 simp[rW,st0,zal,h1,h2];refine zDt (d:= .f (.s (dgt n))) (ro162 n hn) (Z2 _) ?_;intro mx;simp[rW,zp6]
def ro74(n:Nat)(hn:n<100){h:T Ob}{c:Nat}:RO pr 74 [.f (.i .i64 n)] h c (.f (.s (dgt n))):=by
 refine zC4 zfM fn74 rfl ?_;simp only[g74,rU];simp[rW,st0,zal];refine zDt (d:= .f (.s (dgt n))) (ro113 n hn) (Z2 _) ?_;intro mx;simp[rW,zp6]
def zJr(n:Nat)(hn:n<100):Ans pr 33 [.i .i64 n] (.s (dgt n)):=by
 refine zbN fn33 ?_;simp only[g33,rU];simp[rW,st0,zal];refine zDt (d:= .f (.s (dgt n))) (ro74 n hn) (Z2 _) ?_;intro mx;simp[rW]
def fn15:pr.fn 15=some g15:=by kernel_rfl
structure CqG(c:CQ):Prop extends CqSm c where
 tn:∀a∈c.as,a.ts≠[]
def fD(l:List (List F)):List (List D):=l.map fun a=>a.map D.f
theorem zEA{n es byt:Nat}{z:List F}(hf:pr.fn n=some (gCl es byt z))(hb:byt<=1000){X:F}{rows:List (List F)}(hX:X= .sl es rows\/X= .nils/\rows=[])(hl:rows.length<=1000000){h:T Ob}{c:Nat}:
  Eff pr n [.f X] h c fun d h' c'=>Frm h h' c/\((X= .nils/\rows=[]/\d= .f .nils)\/(X= .sl es rows/\∃id ex,d= .sl id 0 rows.length es rows.length ex/\(rows≠[]->ex=false)/\h'.get id=some (.arr es 0 (fD rows))/\c<=id/\id<c')):=by
 refine zfZ zfM hf ?_;unfold gCl;simp only[rU];rcases hX with rfl|⟨rfl,rfl⟩
 .have hm:rows.length*byt<=1000000*1000:=Z144 hl hb;have m1:(rows.length<=zax)=True:=zaH (by omega);have m2:(rows.length*byt<=zax)=True:=zaH (by omega)
  by_cases h0:rows=[]
  .subst h0;simp[rW,st0,zal,zGv,zd0];refine⟨fun x hx=> ?_,rfl⟩;have:¬x=c:=by omega
   simp[TG,this]
  .simp[rW,st0,zal,zGv,h0,m1,m2,zd0];refine⟨fun x hx=> ?_,rfl⟩;have h1:¬x=c:=by omega
   have h2:¬x=c+1:=by omega
   simp[TG,h1,h2]
 .simp[rW,st0,zal,zTA,zd0];exact fun _ _=>rfl
def CsD(h:T Ob)(lo c:Nat)(d:D)(q:CQ):Prop:=(d= .f .nils/\q.cs=[]/\q.ne=false)\/∃Y tail ex,d= .sl Y 0 q.cs.length 9 (q.cs.length+tail.length) ex/\h.get Y=some (.arr 9 0 (q.cs.map cmD++tail))/\(q.cs=[]->q.ne=true)/\(q.cs≠[]->ex=false)/\lo<=Y/\Y<c/\(∀x∈tail,x.length=9)/\q.cs.length+tail.length<=10000
def zSb(l:List Trm)(hl:l.length<=1000000)(hn:l≠[]){h:T Ob}{c:Nat}:Eff pr 36 [.f (zjO l)] h c fun d h' c'=>Frm h h' c/\∃x,d= .sl x 0 l.length 4 l.length false/\h'.get x=some (.arr 4 0 (zc0 l))/\c<=x/\x<c':=by
 have hne:l.map (fun t=>tmF t)≠[]:=by simpa using hn
 obtain⟨q,h1,⟨h2,h3⟩,h4,h5⟩ :=zEA (z:=[.s [],.i .i64 0,.i .i64 0,.s []]) (byt:=48) fn36 (by omega) (zup 4 (l.map tmF)) (by simpa using hl) (h:=h) (c:=c);refine⟨q,h1,⟨h2,?_⟩,h4,h5⟩;rcases h3 with⟨-,e,-⟩ |⟨-,id,ex,e1,e2,e3,e4,e5⟩
 .exact absurd e hne
 .rw[e2 hne]at e1;rw[Z18]at e1;exact⟨id,e1,e3,e4,e5⟩
def CsE(h:T Ob)(lo c:Nat)(d:D)(q:CQ):Prop:=(d= .f .nils/\q.cs=[]/\q.ne=false)\/∃Y ex,d= .sl Y 0 q.cs.length 9 q.cs.length ex/\h.get Y=some (.arr 9 0 (q.cs.map cmD))/\(q.cs=[]->q.ne=true)/\(q.cs≠[]->ex=false)/\lo<=Y/\Y<c/\q.cs.length<=10000
def zgy{h:T Ob}{lo c:Nat}{d:D}{q:CQ}(H:CsE h lo c d q):CsD h lo c d q:=by
 rcases H with H|⟨Y,ex,h1,h2,h3,h4,h5,h6,h7⟩
 .exact .inl H
 .exact .inr ⟨Y,[],ex,by simpa using h1,by simpa using h2,h3,h4,h5,h6,by simp,h7⟩
def ziu{h h':T Ob}{lo lo' c c':Nat}{d:D}{q:CQ}(H:CsE h lo c d q)(hh:∀x,lo<=x->x<c->h'.get x=h.get x)(hl:lo'<=lo)(hc:c<=c'):CsE h' lo' c' d q:=by
 rcases H with H|⟨Y,ex,rfl,hY,h3,h4,h1,h2,h5⟩
 .exact .inl H
 .exact .inr ⟨Y,ex,rfl,by rw[hh Y h1 h2];exact hY,h3,h4,by omega,by omega,h5⟩
def zR9(q:CQ)(hl:q.cs.length<=10000){h:T Ob}{c:Nat}:Eff pr 35 [.f (zdq q)] h c fun d h' c'=>Frm h h' c/\CsE h' c c' d q:=by
 obtain⟨r,h1,⟨h2,h3⟩,h4,h5⟩ :=zEA (rows:=q.cs.map cmF) (X:=zdq q) (z:=[.i .i64 0,.s [],.i .i64 0,.i .i64 0,.s [],.s [],.i .i64 0,.i .i64 0,.s []]) (byt:=104) fn35 (by omega) (by
  unfold zdq csF;split
  .rename_i hh;rw[hh.2];exact .inl rfl
  .exact zup 9 _) (by simp;omega) (h:=h) (c:=c)
 refine⟨r,h1,⟨h2,?_⟩,h4,h5⟩;have hfd:fD (q.cs.map cmF)=q.cs.map cmD:=by
  unfold fD;rw[Z33];exact Z68 fun k _=>zJX k
 rcases h3 with⟨e1,e2,e3⟩ |⟨e0,id,ex,e1,e2,e3,e4,e5⟩
 .have hc:q.cs=[]:=by simpa using e2
  refine .inl ⟨e3,hc,?_⟩;unfold zdq csF at e1;rw[hc]at e1;cases hne:q.ne with
  |false=>rfl
  |true=>rw[hne]at e1;simp at e1
 .refine .inr ⟨id,ex,?_,?_,fun hc=> ?_,fun hc=>e2 (by simpa using hc),e4,e5,by simpa using hl⟩
  .rw[e1];simp
  .rw[e3,hfd]
  .unfold zdq csF at e0;rw[hc]at e0;cases hne:q.ne with
   |true=>rfl
   |false=>rw[hne]at e0;simp[slc]at e0
def atR(a:Atm)(x:Nat):List D:=[.f (.s a.r),.f (.b a.neg),.sl x 0 a.ts.length 4 a.ts.length false]
structure AsD(h:T Ob)(lo c:Nat)(d:D)(l:List Atm)(xs:List Nat):Prop where
 ln:xs.length=l.length
 nd:xs.Nodup
 rg:∀x∈xs,lo<=x/\x<c
 rw:∀k (hk:k<l.length) (hx:k<xs.length),h.get xs[k]=some (.arr 4 0 (zc0 l[k].ts))
 gr:Gro h lo c 3 d (List.zipWith atR l xs)
 oi:∀B,d.oid=some B->B∉xs
def AsD.up{h h':T Ob}{lo lo' c c':Nat}{d:D}{l:List Atm}{xs:List Nat}(H:AsD h lo c d l xs)(hh:∀x,lo<=x->x<c->h'.get x=h.get x)(hl:lo'<=lo)(hc:c<=c'):AsD h' lo' c' d l xs:=by
 refine⟨H.ln,H.nd,fun x hx=>by have:=H.rg x hx;omega,fun k hk hx=> ?_,?_,H.oi⟩
 .have:=H.rg _ (Z1 hx);rw[hh _ this.1 this.2];exact H.rw k hk hx
 .rcases H.gr with h1|⟨id,ro,h1,h2,h3,h4,h5,h6⟩
  .exact .inl h1
  .exact .inr ⟨id,ro,h1,h2,by rw[hh id h5 h6];exact h3,h4,by omega,by omega⟩
def MQ(h:T Ob)(lo c:Nat)(dA dC:D)(q:CQ):Prop:=∃xs,AsD h lo c dA q.as xs/\CsD h lo c dC q/\∀Y,dC.oid=some Y->Y∉xs/\dA.oid≠some Y
def XK1(h0:T Ob)(q:CQ)(c0 n:Nat)(s:St):Prop:=∃(P:Nat) (B dC:D) (xs:List Nat),(s.tm.get 2=some (.ptr (c0+1) 2 0 0)/\s.tm.get 3=some (.ptr P 2 0 0)/\s.tm.get 11=some (.f (zdU q))/\s.tm.get 12=some (.f (.i .i64 q.as.length))/\s.tm.get 13=some (.f (.i .i64 n)))/\s.h.get (c0+1)=some (.arr 2 0 [[.f .nils,.f .nils]])/\s.h.get P=some (.arr 2 0 [[B,dC]])/\CsE s.h (c0+2) P dC (cop q)/\AsD s.h (P+1) s.c B (q.as.take n) xs/\P<s.c/\c0+2<=P/\Frm h0 s.h c0
def zis{h:T Ob}{lo c:Nat}{d:D}{q:CQ}(H:CsD h lo c d q):d.cells=some [d]:=by
 rcases H with⟨rfl,-⟩ |⟨Y,tail,ex,rfl,-⟩ <;>rfl
def zy1{h:T Ob}{lo c:Nat}{d:D}{q:CQ}(H:CsD h lo c d q){x:Nat}(hx:d.oid=some x):lo<=x/\x<c:=by
 rcases H with⟨rfl,-⟩ |⟨Y,tail,ex,rfl,-,-,-,h1,h2,-⟩
 .simp[D.oid]at hx
 .simp[D.oid]at hx;omega
def MQ.nil{h:T Ob}{lo c:Nat}{q:CQ}(h1:q.as=[])(h2:q.cs=[])(h3:q.ne=false):MQ h lo c (.f .nils) (.f .nils) q:=
 ⟨[],⟨by simp[h1],by simp,by simp,fun k hk=>by simp[h1]at hk,.inl ⟨rfl,by simp⟩,by simp[D.oid]⟩,.inl ⟨rfl,h2,h3⟩,by simp[D.oid]⟩
def zyy{h:T Ob}{lo c:Nat}{d:D}{l:List Atm}{xs:List Nat}(H:AsD h lo c d l xs)(hd:d.isF=true):d= .f .nils/\l=[]:=by
 rcases H.gr with⟨h1,h2⟩ |⟨id,ro,h1,-⟩
 .refine⟨h1,Z17.1 ?_⟩;have e:(List.zipWith atR l xs).length=0:=by rw[h2];rfl
  rw[Z84,H.ln,Z121]at e;exact e
 .rw[h1]at hd;cases hd
def zn1{h:T Ob}{lo c:Nat}{d:D}{q:CQ}(H:CsD h lo c d q)(hd:d.isF=true):d= .f .nils/\q.cs=[]/\q.ne=false:=by
 rcases H with⟨h1,h2,h3⟩ |⟨Y,tail,ex,h1,-⟩
 .exact⟨h1,h2,h3⟩
 .rw[h1]at hd;cases hd
def zR1(q:CQ)(hq:CqG q){h:T Ob}{c0:Nat}:Eff pr 15 [.ag [.f (zdU q),.f (zdq q)]] h c0 fun d h' c'=>Frm h h' c0/\∃dA dC,d= .ag [dA,dC]/\MQ h' c0 c' dA dC (cop q)/\CsE h' c0 c' dC (cop q):=by
 refine zfZ zfM fn15 ?_;simp only[g15,rU];simp[rW,st0,zal,zdL,zea];refine zez rfl rfl (zR9 q (by have:=hq.sc;omega)) ?_;rintro dC h' c' lw mx ⟨hf,hO⟩ hcc;simp only[rG]at hf hO hcc;have e0:=hf c0 (by omega);have e1:=hf (c0+1) (by omega);have n01:¬(c0=c0+1):=by omega
 simp[TG,n01]at e0 e1;have hcd:=zis (zgy hO);have n0:¬(c0=c'):=by omega
 have n1:¬(c0+1=c'):=by omega
 have hfr:Frm h h' c0:=fun x hx=>by
  rw[hf x (by omega)];have a1:¬x=c0:=by omega
  have a2:¬x=c0+1:=by omega
  simp[TG,a1,a2]
 simp[rW,e0,e1,hcd,n0,n1,zdr];refine zex q.as.length (XK1 h q c0) (fun x s=>x= .exit 0/\XK1 h q c0 q.as.length s) ?_ ?_ _ ?_ ?_
 .rintro n s hn ⟨P,B,dC,xs,⟨h2,h3,h11,h12,h13⟩,gz,gP,hC,hA,hPc,hP2,hF⟩;have hw:=zaB n (by have:=hq.sa;omega);have hx:q.as[n]? =some q.as[n]:=Z0 hn;have hst:=hq.st _ (Z1 hn);have htn:=hq.tn _ (Z1 hn);have htk:=Z6 hn;generalize hAn:q.as[n]=A at hx hst htk htn;simp[rW,h2,h3,h11,h12,h13,gz,gP,hn,zfi,hx,hAn,atE,zh2];refine zez rfl rfl (zSb A.ts (by omega) htn) ?_;rintro d H2 c2 lw2 mx2 ⟨hf2,X,rfl,gX,hX1,hX2⟩ hcc2;simp only[rG]at hf2 hcc2 hX1 hX2;have eP:=hf2 P (by omega);have eQ:=hf2 s.c (by omega);have e1:=hf2 (c0+1) (by omega);have nP:¬(P=s.c):=by omega
  have nP':¬(s.c=P):=by omega
  have n1:¬(c0+1=s.c):=by omega
  have np1:¬(c0+1=P):=by omega
  simp[TG,nP,n1,gP,gz]at eP eQ e1;have hlow:∀j,j<s.c->H2.get j=s.h.get j:=fun j hj=>by
   have:=hf2 j (by omega);have nj:¬j=s.c:=by omega
   simpa [TG,nj]using this
  have hrl:(List.zipWith atR (q.as.take n) xs).length<=12:=by
   have:=hq.sa;simp;omega
  have nP2:¬(P=c2):=by omega
  have n1c:¬(c0+1=c2):=by omega
  simp[rW,h2,h3,h11,h12,h13,eP,eQ,e1,nP,nP',nP2,n1c,zh2,zvw];refine⟨by omega,?_⟩;have hB2:∀x,B.oid=some x->P+1<=x/\x<s.c:=fun x hx=>zbf hA.gr hx
  refine zb6 (zbB (c':=c2+1) hA.gr (by omega) fun x h1 h2=> ?_) (by omega) (by simp only[Z23,Z170];omega) (by omega) ?_
  .have nx:¬(x=s.c):=by omega
   have nx2:¬(x=c2):=by omega
   simp[TG,nx,nx2];exact hlow x h2
  intro r hr1 hr2 hr3 hr4 hr5;have hPr:=hr4 P (by omega) (zcC hA.gr (by omega));have h1r:=hr4 (c0+1) (by omega) (zcC hA.gr (by omega));simp[TG,nP,n1,nP2,n1c,eP,e1]at hPr h1r;have hr6:∀x,x<c2->x≠s.c->B.oid≠some x->(wrT _ r.wr).get x=H2.get x:=fun x h1 h2 h3=>by
   have nx2:¬(x=c2):=by omega
   rw[hr4 x (by omega) h3];simp[TG,h2,nx2]
  refine⟨hr1,?_⟩;simp[rW,hPr,zbW hr2,nP2,n1c];refine⟨by omega,?_⟩;have hlnx:(q.as.take n).length=xs.length:=hA.ln.symm;have hnl:xs.length=n:=by rw[hA.ln];simp;omega
  refine⟨P,r.d,dC,xs++[X],?_,?_,?_,?_,?_,?_,hP2,?_⟩
  .simp[rW,h2,h3,h11,h12,h13,hw]
  .simp[rW,h1r,np1]
  .simp[rW,hPr]
  .refine ziu hC (fun x h1 h2=> ?_) (Z2 _) (Z2 _);have nx:¬(x=P):=by omega
   simp[rW,nx];rw[hr6 x (by omega) (by omega) (zcC hA.gr (by omega)),hlow x (by omega)]
  .rw[htk];refine⟨by simp;omega,?_,fun x hx=> ?_,fun k hk hkx=> ?_,?_,fun Bx hBx hm=> ?_⟩
   .refine Z90.2 ⟨hA.nd,by simp,fun x hx y hy=> ?_⟩;have h1:=hA.rg x hx;have h2:y=X:=by simpa using hy
    omega
   .simp[rW];rcases Z4.1 hx with hx|hx
    .have:=hA.rg x hx;omega
    .have:x=X:=by simpa using hx
     omega
   .by_cases hkn:k<n
    .have hk1:k< (q.as.take n).length:=by simp;omega
     have hk2:k<xs.length:=by omega
     have h1:=hA.rg _ (Z1 hk2);have h2:=hA.rw k hk1 hk2;rw[Z59 hk1,Z59 hk2];have nx:¬(xs[k]=P):=by omega
     simp[rW,nx];rw[hr6 _ (by omega) (by omega) (fun e=>hA.oi _ e (Z1 hk2)),hlow _ (by omega)];simpa [Z157]using h2
    .have hk3:k=n:=by simp at hk;omega
     subst hk3;have g1:(q.as.take k++[A])[k]=A:=by rw[Z58 (by simp;omega)];simp
     have g2:(xs++[X])[k]=X:=by rw[Z58 (by omega)];simp
     rw[g1,g2];have nx:¬(X=P):=by omega
     simp[rW,nx];rw[hr6 _ (by omega) (by omega) (fun e=>by have:=hB2 _ e;omega)];exact gX
   .have e:List.zipWith atR (q.as.take n++[A]) (xs++[X])=List.zipWith atR (q.as.take n) xs++[[.f (.s A.r),.f (.b A.neg),.sl X 0 A.ts.length 4 A.ts.length false]]:=by
     rw[List.zipWith_append hlnx];rfl
    rw[e];refine zbB hr2 (by simp[rW]) fun x h1 h2=> ?_
    have nx:¬(x=P):=by omega
    simp[rW,nx]
   .rcases hr5 Bx hBx with h1|h1
    .rcases Z4.1 hm with hm|hm
     .have:=hA.rg Bx hm;omega
     .have:Bx=X:=by simpa using hm
      omega
    .rcases Z4.1 hm with hm|hm
     .exact hA.oi Bx h1 hm
     .have:=hB2 Bx h1;have:Bx=X:=by simpa using hm
      omega
  .simp[rW];omega
  .intro x hx;have nx:¬(x=P):=by omega
   simp[rW,nx];rw[hr6 x (by omega) (by omega) (zcC hA.gr (by omega)),hlow x (by omega)];exact hF x hx
 .rintro s ⟨P,B,dC,xs,⟨h2,h3,h11,h12,h13⟩,gz,gP,hC,hA,hPc,hP2,hF⟩;simp[rW,h2,h3,h11,h12,h13];refine⟨P,B,dC,xs,?_,gz,gP,hC,hA,hPc,hP2,hF⟩;simp[rW,h2,h3,h11,h12,h13]
 .refine⟨c',.f .nils,dC,[],?_,?_,?_,?_,?_,?_,by omega,?_⟩
  .simp[rW]
  .simp[rW,e1,n1]
  .simp[rW]
  .refine ziu hO (fun x h1 h2=> ?_) (by omega) (Z2 _);have nx:¬(x=c'):=by omega
   simp[rW,nx]
  .exact⟨by simp,by simp,by simp,by simp,.inl ⟨rfl,by simp⟩,by simp[D.oid]⟩
  .simp[rW]
  .intro x hx;have nx:¬(x=c'):=by omega
   simp[rW,nx];exact hfr x hx
 .rintro x s ⟨rfl,P,B,dC,xs,⟨h2,h3,h11,h12,h13⟩,gz,gP,hC,hA,hPc,hP2,hF⟩;rw[Z7]at hA;have nP1:¬(P=c0+1):=by omega
  simp[rW,h2,h3,h11,h12,h13,gz,gP,nP1,zbW hA.gr,zis (zgy hC),zd0];have hupd:∀x,x≠c0+1->(s.h.set (c0+1) (.arr 2 0 [[B,dC]])).get x=s.h.get x:=fun x hx=>by simp[TG,hx]
  refine⟨by omega,⟨fun x hx=> ?_,B,dC,⟨rfl,rfl⟩,⟨xs,?_,?_,fun Y hY=> ?_⟩,?_⟩,fun _ hb hc'=>⟨fun _ _=>rfl,_,_,⟨(zyy hA hb).1,(zn1 (zgy hC) hc').1⟩,⟨MQ.nil (zyy hA hb).2 (zn1 (zgy hC) hc').2.1 (zn1 (zgy hC) hc').2.2,.inl ⟨rfl,(zn1 (zgy hC) hc').2⟩⟩⟩⟩
  .rw[hupd x (by omega)];exact hF x hx
  .exact hA.up (fun x h1 h2=>hupd x (by omega)) (by omega) (Z2 _)
  .exact zgy (ziu hC (fun x h1 h2=>hupd x (by omega)) (by omega) (by omega))
  .have h1:=zy1 (zgy hC) hY;exact⟨fun hm=>by have:=hA.rg Y hm;omega,fun e=>by have:=zbf hA.gr e;omega⟩
  .exact ziu hC (fun x h1 h2=>hupd x (by omega)) (by omega) (by omega)
def zcz(U:List Str)(x:Str):List Str:=if x∈U then U else U++[x]
def zoM(U:List Str)(x:Str):(zcz U x).length<=U.length+1:=by
 unfold zcz;split
 .omega
 .simp
theorem zgR:∀(L U:List Str),(L.foldl zcz U).length<=U.length+L.length
 |[],U=>by simp
 |x::L,U=>by
  have h1:=zoM U x;have h2:=zgR L (zcz U x);simp only[Z42,Z23];omega
theorem zoW(x:Str):∀(l:List Str) (i:Nat),x∈l->∃j,zbQ 1 (.s x) (bmE l) i=some (some (i+j,.f (.b true)))/\l[j]? =some x
 |[],_,h=>absurd h (by simp)
 |y::l,i,h=>by
  by_cases hy:x=y
  .subst hy;exact⟨0,by simp[bmE,zbQ,zhT],rfl⟩
  .obtain⟨j,hj,h2⟩ :=zoW x l (i+1) (by simpa [hy]using h);have e:zbQ 1 (.s x) (bmE (y::l)) i=zbQ 1 (.s x) (bmE l) (i+1):=by
    have hb:(x==y)=false:=by simpa using hy
    simp only[bmE,Z10,zbQ,zhT,hb]
   exact⟨j+1,by rw[e,hj,show i+1+j=i+(j+1) by omega],h2⟩
def upB{U:List Str}{x:Str}{id c:Nat}:∃rs,upM id 1 (.s x) (.f (.b true)) c (bmE U) (zbQ 1 (.s x) (bmE U) 0)=some rs/\rs={d:= .f .un,rd:=[id],wr:=[(id,some (.map (bmE (zcz U x))))],c:=c}:=by
 unfold zcz
 by_cases hx:x∈U
 .obtain⟨j,hj,h2⟩ :=zoW x U 0 hx;rw[hj,Z51 hx,zIB];refine⟨_,rfl,?_⟩;have:(bmE U).set (0+j) (.s x,.f (.b true))=bmE U:=by
   rw[Z25];have hl:j< (bmE U).length:=by
    unfold bmE;rw[Z18];exact (Z8.1 h2).1
   have h3:(bmE U)[j]? =some (.s x,.f (.b true)):=by simp[bmE,h2]
   have h4:=Z95 hl;rw[Z0 hl]at h3;rw[Z53 h3]at h4;exact h4
  rw[this]
 .rw[zmY x U 0 hx,Z49 hx,zIA];exact⟨_,rfl,by simp[bmE]⟩
def zDl{U:List Str}{x:Str}{id c:Nat}:upM id 1 (.s x) (.f (.b true)) c (bmE U) (zbQ 1 (.s x) (bmE U) 0)=some {d:= .f .un,rd:=[id],wr:=[(id,some (.map (bmE (zcz U x))))],c:=c}:=by
 obtain⟨rs,h1,h2⟩ :=upB (U:=U) (x:=x) (id:=id) (c:=c);rw[h1,h2]
def lkB{U:List Str}{x:Str}{id c:Nat}:lkM id (.b false) false c (zbQ 1 (.s x) (bmE U) 0)=some {d:= .f (.b (decide (x∈U))),rd:=[id],c:=c}:=by
 by_cases hx:x∈U
 .obtain⟨j,hj,h2⟩ :=zoW x U 0 hx;rw[hj,zCo,decide_eq_true hx];rfl
 .rw[zmY x U 0 hx,zCn,decide_eq_false hx];rfl
abbrev Nms:=List (Str×Str)
def mpS(N:Nms):List (F×D):=N.map fun p=>(.s p.1,.f (.s p.2))
def lkS(x:Str):Nms->Option Str
 |[]=>none
 |p::N=>if x=p.1 then some p.2 else lkS x N
def upS(x w:Str):Nms->Nms
 |[]=>[(x,w)]
 |p::N=>if x=p.1 then(x,w)::N else p::upS x w N
theorem zvl(x:Str):∀(N:Nms) (i:Nat),(∃j y,zbQ 1 (.s x) (mpS N) i=some (some (i+j,.f (.s y)))/\lkS x N=some y/\∀w,(mpS N).set j (.s x,.f (.s w))=mpS (upS x w N))\/(zbQ 1 (.s x) (mpS N) i=some none/\lkS x N=none/\∀w,mpS N++[(.s x,.f (.s w))]=mpS (upS x w N))
 |[],_=> .inr ⟨rfl,rfl,fun _=>rfl⟩
 |(a,b)::N,i=>by
  by_cases hy:x=a
  .subst hy;exact .inl ⟨0,b,by simp[mpS,zbQ,zhT],by simp[lkS],fun w=>by simp[mpS,upS]⟩
  .have hb:(x==a)=false:=by simpa using hy
   have e:zbQ 1 (.s x) (mpS ((a,b)::N)) i=zbQ 1 (.s x) (mpS N) (i+1):=by
    simp only[mpS,Z10,zbQ,zhT,hb]
   rw[e];rcases zvl x N (i+1)with⟨j,y,h1,h2,h3⟩ |⟨h1,h2,h3⟩
   .refine .inl ⟨j+1,y,by rw[h1,show i+1+j=i+(j+1) by omega],by simp[lkS,hy,h2],fun w=> ?_⟩;have:=h3 w;simp only[mpS,upS,hy,Z63,Z10,Z189]at this|-;rw[this]
   .refine .inr ⟨h1,by simp[lkS,hy,h2],fun w=> ?_⟩;have:=h3 w;simp only[mpS,upS,hy,Z63,Z10,Z29]at this|-;rw[this]
def upS'{N:Nms}{x w:Str}{id c:Nat}:upM id 1 (.s x) (.f (.s w)) c (mpS N) (zbQ 1 (.s x) (mpS N) 0)=some {d:= .f .un,rd:=[id],wr:=[(id,some (.map (mpS (upS x w N))))],c:=c}:=by
 rcases zvl x N 0 with⟨j,y,h1,h2,h3⟩ |⟨h1,h2,h3⟩
 .rw[h1,zIB,Z25,h3]
 .rw[h1,zIA,h3]
def zjw{N:Nms}{x:Str}{id c:Nat}:lkM id (.s []) true c (zbQ 1 (.s x) (mpS N) 0)=some {d:= .tu [.f (.s ((lkS x N).getD [])),.f (.b (lkS x N).isSome)],rd:=[id],c:=c}:=by
 rcases zvl x N 0 with⟨j,y,h1,h2,h3⟩ |⟨h1,h2,h3⟩
 .rw[h1,zCo,h2];rfl
 .rw[h1,zCn,h2];rfl
def lkS''{N:Nms}{x:Str}{id c:Nat}:lkM id (.s []) false c (zbQ 1 (.s x) (mpS N) 0)=some {d:= .f (.s ((lkS x N).getD [])),rd:=[id],c:=c}:=by
 rcases zvl x N 0 with⟨j,y,h1,h2,h3⟩ |⟨h1,h2,h3⟩
 .rw[h1,zCo,h2];rfl
 .rw[h1,zCn,h2];rfl
theorem ziB(x w:Str):∀N:Nms,lkS x (upS x w N)=some w
 |[]=>by simp[upS,lkS]
 |p::N=>by
  unfold upS
  by_cases h:x=p.1
  .rw[Z51 h];simp[lkS]
  .rw[Z49 h];simp[lkS,h,ziB x w N]
theorem zgt{x y:Str}(hxy:y≠x)(w:Str):∀N:Nms,lkS y (upS x w N)=lkS y N
 |[]=>by simp[upS,lkS,hxy]
 |p::N=>by
  unfold upS
  by_cases h:x=p.1
  .rw[Z51 h];simp[lkS,<-h,hxy]
  .rw[Z49 h];simp[lkS,zgt hxy w N]
def nmx(x:Str)(n:Nat):Str:=x++[95]++dgt n
def zOu{x:Str}{n m:Nat}(hn:n<100)(hm:m<100)(h:nmx x n=nmx x m):n=m:=
 zNG n hn m hm (List.append_cancel_left h)
def zSB(x:Str)(n:Nat):nmx x n≠[]:=by simp[nmx]
theorem zqN:∀{l m:List Str},l.Nodup->(∀a∈l,a∈m)->l.length<=m.length
 |[],m,_,_=>by simp
 |a::l,m,hn,hs=>by
  have ha:=hs a (by simp);have hn2:=Z74.1 hn;have:=zqN (l:=l) (m:=m.erase a) hn2.2 fun b hb=>by
   have hne:b≠a:=fun e=>hn2.1 (e▸hb)
   exact (List.mem_erase_of_ne hne).2 (hs b (by simp[hb]))
  rw[List.length_erase_of_mem ha]at this;have:0<m.length:=List.length_pos_of_mem ha;simp only[Z23];omega
def zKs{U:List Str}{x:Str}{n:Nat}(hU:U.length<98)(h:∀m,1<=m->m<n->nmx x m∈U):n<100:=by
 refine Z163 fun hn=> ?_
 have h1:((List.range' 1 98).map (nmx x)).Nodup:=by
  refine List.Pairwise.map _ (fun a b hab=> ?_) (List.Pairwise.and_mem.1 (List.nodup_range' (s:=1) (n:=98)));intro e;have ha:=Z106.1 hab.1;have hb:=Z106.1 hab.2.1;exact hab.2.2 (zOu (by omega) (by omega) e)
 have h2:=zqN h1 (m:=U) fun a ha=>by
  obtain⟨m,hm,rfl⟩ :=Z12.1 ha;have:=Z106.1 hm;exact h m this.1 (by omega)
 simp at h2;omega
def frs(U:List Str)(x:Str):Nat:=((List.range' 1 99).find? fun n=>decide (nmx x n∉U)).getD 0
def zSk{U:List Str}{x:Str}{n:Nat}(h0:1<=n)(hn:n<100)(h:nmx x n∉U)(h2:∀m,1<=m->m<n->nmx x m∈U):frs U x=n:=by
 unfold frs;have:(List.range' 1 99).find? (fun n=>decide (nmx x n∉U))=some n:=by
  rw[List.find?_range'_eq_some];refine⟨by simpa using h,Z106.2 ⟨h0,by omega⟩,fun j h1 h3=>by simpa using h2 j h1 h3⟩
 rw[this];rfl
def apS(st:List Str×Nms)(x:Str):List Str×Nms:=if(lkS x st.2).isSome=true then(zcz st.1 (nmx x (frs st.1 x)),upS x (nmx x (frs st.1 x)) st.2)else st
def kyS(A hd:List Str)(N:Nms)(x:Str):Nms:=if x∈A/\hd.any (· ==x)=false then upS x [] N else N
def apN(A B hd:List Str):Nms:=(B.foldl apS (hd.foldl zcz (B.foldl zcz (A.foldl zcz [])),B.foldl (kyS (A.foldl zcz []) hd) [])).2
end Go.Proofs.YtkcnnkncapiohaaGreatDoor
end
