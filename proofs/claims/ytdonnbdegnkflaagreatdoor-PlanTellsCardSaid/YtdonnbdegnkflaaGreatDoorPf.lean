/- Find, Canonical. -/
import Derived.Test.YtdonnbdegnkflaaGreatDoorPe
import Derived.KernelRfl
import Derived.IntWalk
import Derived.Test.YtdonnbdegnkflaaGreatDoorHa
import Derived.Test.YtdonnbdegnkflaaGreatDoorPr
import Derived.Test.YtdonnbdegnkflaaGreatDoorVe
set_option linter.all false
set_option maxRecDepth 100000
set_option maxHeartbeats 4000000
noncomputable section
section
namespace Go.Proofs.YtdonnbdegnkflaaGreatDoor
open Go Go.Vse Go.Vse.Sm
def fn47:pr.fn 47=some g47:=by kernel_rfl
def I36(r:Rl)(vs:List Int)(k:Nat)(s:St):Prop:=∃n:Nat,n<=r.tu.length/\k=r.tu.length - n/\s.tm.get 1=some (.f (valsF vs))/\s.tm.get 2=some (.ptr 0 4 0 0)/\s.h.get 0=some (.arr 4 0 [[.f (.s r.nm),.f (.b r.ce),.f r.co,.f (slc 4 (r.tu.map tuF))]])/\
 s.tm.get 6=some (.f (.i .i64 n))
def R36(x:Ex)(s:St):Prop:=x= .exit 0\/(x= .ret/\∃i:Nat,s.tm.get 4=some (.f (.i .i64 i))/\s.tm.get 5=some (.f (.b true)))
def z1e(y:F):Prop:=∃i b,y= .tu [.i .i64 i,.b b]
def zE2{SS:Nat->List F->Prop}{PP:List F->Prop}(hS:znS SS PP)(r:Rl)(hr:zg4 SS PP r)(vs:List Int):∃i b,Ans pr 45 [.ag (rlF r),valsF vs] (.tu [.i .i64 i,.b b]):=by
 have main:∃y,z1e y/\Ans pr 45 [.ag (rlF r),valsF vs] y:=by
  refine zvX fn45 ?_;have hnT:=hr.n;have hco:=hr.co;simp only[g45,rU];simp -implicitDefEqProofs [rR,st0,zao,rlF,hco,zaO];refine zfU (I36 r vs) R36 ?_ r.tu.length _ ⟨0,Z61 _,rfl,?_,?_,?_,?_⟩ ?_
  any_goals (simp -implicitDefEqProofs [rR,zao];done)
  .rintro k s ⟨n,hn,rfl,h1,h2,g0,h6⟩;have hw:=za5 n (by omega)
   by_cases hlt:n<r.tu.length
   .obtain⟨x0,x1,x2,hx,hd0,hd1,hd2⟩ :=hS.pp _ (hr.p _ (Z1 hlt));have htu:tuF (r.tu[n])=[valsF (r.tu[n]).1,x0,x1,x2]:=by unfold tuF;rw[hx]
    have h25:=zrG (r.tu[n]).1 vs (by have:=hr.l _ (Z1 hlt);omega);have q25:=fun k=>zah (k:=k) h25
    by_cases k0:cmpL (r.tu[n]).1 vs=0
    .rw[k0]at q25;simp -implicitDefEqProofs [rR,h1,h2,g0,h6,hlt,htu,q25];exact .inr ⟨rfl,n,by simp -implicitDefEqProofs [rR,h1],by simp -implicitDefEqProofs [rR,h1]⟩
    .simp -implicitDefEqProofs [rR,h1,h2,g0,h6,hlt,htu,q25,k0,hw];rw[zev];refine⟨r.tu.length - (n+1),by omega,n+1,by omega,rfl,?_,?_,?_,?_⟩
     all_goals simp -implicitDefEqProofs [rR,h1,h2,g0]
   .simp -implicitDefEqProofs [rR,h1,h2,g0,h6,hlt];exact .inl rfl
  .rintro x s (rfl|⟨rfl,i,h4,h5⟩)
   .simp -implicitDefEqProofs [rR,st0];exact⟨_,_,rfl⟩
   .simp -implicitDefEqProofs [rR,h4,h5];exact⟨_,_,rfl⟩
 obtain⟨y,⟨i,b,rfl⟩,ha⟩ :=main;exact⟨i,b,ha⟩
def zrJ{SS:Nat->List F->Prop}{PP:List F->Prop}(hS:znS SS PP)(r:Rl)(hr:zg4 SS PP r):Ans pr 47 [.ag (rlF r)] (.ag (rlF r)):=by
 refine zdu fn47 ?_;have hnT:=hr.n;have hco:=hr.co;have hcc:=hr.cc;have hp:=hr.p;have hw1:IntKind.i64.wrap 1=1:=by decide
 have hw2:IntKind.i64.wrap 2=2:=by decide
 have hw3:IntKind.i64.wrap 3=3:=by decide
 simp only[g47,rU];unfold rlF;generalize r.tu=TT at hnT hp
 match TT,hnT with
 |[],_=>
  simp -implicitDefEqProofs [rR,st0,zao,hco,hcc,Z85,zcI];refine round ?_;simp -implicitDefEqProofs [rR,hco,hcc]
 |[t0],_=>
  have hp0:=hp t0 (by simp);obtain⟨x00,x01,x02,hx0,hd00,hd01,hd02⟩ :=hS.pp _ hp0;have hn0:=hS.norm _ hp0;rw[hx0]at hn0;have q0:=fun k=>zah (k:=k) hn0
  have htu0:tuF t0=[valsF t0.1,x00,x01,x02]:=by unfold tuF;rw[hx0]
  have hcv0:(D.f (valsF t0.1)).cells=some [.f (valsF t0.1)]:=zfz ..;simp -implicitDefEqProofs [rR,st0,zao,hco,hcc,Z10,Z85,zcy,htu0];refine round ?_;simp -implicitDefEqProofs [rR,hco,hcc,zaO,hw1,hw2,hw3,zaU,leF,hd00,hd01,hd02,q0,hcv0];refine zaC ?_;simp -implicitDefEqProofs [rR,hco,hcc,zaO,hw1,hw2,hw3,zaU,leF,hd00,hd01,hd02,q0,hcv0];refine round ?_;simp -implicitDefEqProofs [rR,hco,hcc,zaO,hw1,hw2,hw3,zaU,leF,hd00,hd01,hd02,q0,hcv0]
 |[t0,t1],_=>
  have hp0:=hp t0 (by simp);obtain⟨x00,x01,x02,hx0,hd00,hd01,hd02⟩ :=hS.pp _ hp0;have hn0:=hS.norm _ hp0;rw[hx0]at hn0;have q0:=fun k=>zah (k:=k) hn0
  have htu0:tuF t0=[valsF t0.1,x00,x01,x02]:=by unfold tuF;rw[hx0]
  have hcv0:(D.f (valsF t0.1)).cells=some [.f (valsF t0.1)]:=zfz ..;have hp1:=hp t1 (by simp);obtain⟨x10,x11,x12,hx1,hd10,hd11,hd12⟩ :=hS.pp _ hp1;have hn1:=hS.norm _ hp1;rw[hx1]at hn1;have q1:=fun k=>zah (k:=k) hn1
  have htu1:tuF t1=[valsF t1.1,x10,x11,x12]:=by unfold tuF;rw[hx1]
  have hcv1:(D.f (valsF t1.1)).cells=some [.f (valsF t1.1)]:=zfz ..;simp -implicitDefEqProofs [rR,st0,zao,hco,hcc,Z10,Z85,zcy,htu0,htu1];refine round ?_;simp -implicitDefEqProofs [rR,hco,hcc,zaO,hw1,hw2,hw3,zaU,leF,hd00,hd01,hd02,q0,hcv0,hd10,hd11,hd12,q1,hcv1];refine zaC ?_;simp -implicitDefEqProofs [rR,hco,hcc,zaO,hw1,hw2,hw3,zaU,leF,hd00,hd01,hd02,q0,hcv0,hd10,hd11,hd12,q1,hcv1];refine round ?_;simp -implicitDefEqProofs [rR,hco,hcc,zaO,hw1,hw2,hw3,zaU,leF,hd00,hd01,hd02,q0,hcv0,hd10,hd11,hd12,q1,hcv1];refine zaC ?_;simp -implicitDefEqProofs [rR,hco,hcc,zaO,hw1,hw2,hw3,zaU,leF,hd00,hd01,hd02,q0,hcv0,hd10,hd11,hd12,q1,hcv1];refine round ?_;simp -implicitDefEqProofs [rR,hco,hcc,zaO,hw1,hw2,hw3,zaU,leF,hd00,hd01,hd02,q0,hcv0,hd10,hd11,hd12,q1,hcv1]
 |[t0,t1,t2],_=>
  have hp0:=hp t0 (by simp);obtain⟨x00,x01,x02,hx0,hd00,hd01,hd02⟩ :=hS.pp _ hp0;have hn0:=hS.norm _ hp0;rw[hx0]at hn0;have q0:=fun k=>zah (k:=k) hn0
  have htu0:tuF t0=[valsF t0.1,x00,x01,x02]:=by unfold tuF;rw[hx0]
  have hcv0:(D.f (valsF t0.1)).cells=some [.f (valsF t0.1)]:=zfz ..;have hp1:=hp t1 (by simp);obtain⟨x10,x11,x12,hx1,hd10,hd11,hd12⟩ :=hS.pp _ hp1;have hn1:=hS.norm _ hp1;rw[hx1]at hn1;have q1:=fun k=>zah (k:=k) hn1
  have htu1:tuF t1=[valsF t1.1,x10,x11,x12]:=by unfold tuF;rw[hx1]
  have hcv1:(D.f (valsF t1.1)).cells=some [.f (valsF t1.1)]:=zfz ..;have hp2:=hp t2 (by simp);obtain⟨x20,x21,x22,hx2,hd20,hd21,hd22⟩ :=hS.pp _ hp2;have hn2:=hS.norm _ hp2;rw[hx2]at hn2;have q2:=fun k=>zah (k:=k) hn2
  have htu2:tuF t2=[valsF t2.1,x20,x21,x22]:=by unfold tuF;rw[hx2]
  have hcv2:(D.f (valsF t2.1)).cells=some [.f (valsF t2.1)]:=zfz ..;simp -implicitDefEqProofs [rR,st0,zao,hco,hcc,Z10,Z85,zcy,htu0,htu1,htu2];refine round ?_;simp -implicitDefEqProofs [rR,hco,hcc,zaO,hw1,hw2,hw3,zaU,leF,hd00,hd01,hd02,q0,hcv0,hd10,hd11,hd12,q1,hcv1,hd20,hd21,hd22,q2,hcv2];refine zaC ?_;simp -implicitDefEqProofs [rR,hco,hcc,zaO,hw1,hw2,hw3,zaU,leF,hd00,hd01,hd02,q0,hcv0,hd10,hd11,hd12,q1,hcv1,hd20,hd21,hd22,q2,hcv2];refine round ?_;simp -implicitDefEqProofs [rR,hco,hcc,zaO,hw1,hw2,hw3,zaU,leF,hd00,hd01,hd02,q0,hcv0,hd10,hd11,hd12,q1,hcv1,hd20,hd21,hd22,q2,hcv2];refine zaC ?_;simp -implicitDefEqProofs [rR,hco,hcc,zaO,hw1,hw2,hw3,zaU,leF,hd00,hd01,hd02,q0,hcv0,hd10,hd11,hd12,q1,hcv1,hd20,hd21,hd22,q2,hcv2];refine round ?_;simp -implicitDefEqProofs [rR,hco,hcc,zaO,hw1,hw2,hw3,zaU,leF,hd00,hd01,hd02,q0,hcv0,hd10,hd11,hd12,q1,hcv1,hd20,hd21,hd22,q2,hcv2];refine zaC ?_;simp -implicitDefEqProofs [rR,hco,hcc,zaO,hw1,hw2,hw3,zaU,leF,hd00,hd01,hd02,q0,hcv0,hd10,hd11,hd12,q1,hcv1,hd20,hd21,hd22,q2,hcv2];refine round ?_;simp -implicitDefEqProofs [rR,hco,hcc,zaO,hw1,hw2,hw3,zaU,leF,hd00,hd01,hd02,q0,hcv0,hd10,hd11,hd12,q1,hcv1,hd20,hd21,hd22,q2,hcv2]
 |_::_::_::_::_,h=>exact absurd h (by simp)
def fn18:pr.fn 18=some g18:=by kernel_rfl
def zRl:List F:=[.s [],.b false,.nils,.nils]
def IsIns(nm:Str)(ce:Bool)(co:F)(tu:List (List Int×List F))(t:List Int×List F)(y:F):Prop:=
 (∃e:Int,e≠0/\y= .tu [.ag zRl,.i .i64 e])\/∃n:Nat,n<=tu.length/\y= .tu [.ag (rlF ⟨nm,ce,co,tu.take n++t::tu.drop n⟩),.i .i64 0]
theorem zx3{SS:Nat->List F->Prop}{PP:List F->Prop}(hS:znS SS PP)(nm:Str)(ce:Bool)(co:F)(tu:List (List Int×List F))(hr:zg4 SS PP ⟨nm,ce,co,tu⟩)(hn2:tu.length<=2)(t:List Int×List F)(ht:PP t.2)
  (hct:∃e,Ans pr 44 [.ag [.s nm,.b ce,co],.ag (tuF t)] (.i .i64 e))
  (hout:∀n,n<=tu.length->zg4 SS PP ⟨nm,ce,co,tu.take n++t::tu.drop n⟩):∃y,IsIns nm ce co tu t y/\Ans pr 18 [.ag (rlF ⟨nm,ce,co,tu⟩),.ag (tuF t)] y:=by
 refine zvX fn18 ?_;have hco:=hr.co;have hcc:=hr.cc;have hw1:IntKind.i64.wrap 1=1:=by decide
 have hw2:IntKind.i64.wrap 2=2:=by decide
 have hw3:IntKind.i64.wrap 3=3:=by decide
 obtain⟨x0,x1,x2,hx,hd0,hd1,hd2⟩ :=hS.pp _ ht;have htu:tuF t=[valsF t.1,x0,x1,x2]:=by unfold tuF;rw[hx]
 have hcv:(D.f (valsF t.1)).cells=some [.f (valsF t.1)]:=zfz ..;obtain⟨e2,h35⟩ :=hct;rw[htu]at h35;have q35:=fun k=>zah (k:=k) h35
 simp only[g18,rU]
 match tu,hn2 with
 |[],_=>
  obtain⟨e1,h34⟩ :=zlo hS _ hr;obtain⟨i6,b6,h36⟩ :=zE2 hS _ hr t.1;have ho0:zg4 SS PP ⟨nm,ce,co,[t]⟩ :=by simpa using hout 0 (by simp)
  obtain⟨f0,g0⟩ :=zlo hS _ ho0;have c0:=zrJ hS _ ho0;simp only[rlF,Z10,Z85,zcy,zcI,htu]at h34 h36 g0 c0;have q34:=fun k=>zah (k:=k) h34
  have q36:=fun k=>zah (k:=k) h36
  have qg0:=fun k=>zah (k:=k) g0
  have qc0:=fun k=>zah (k:=k) c0
  by_cases he1:e1=0
  rotate_left
  .simp -implicitDefEqProofs [rR,st0,zao,rlF,Z10,Z85,zcy,zcI,htu,q34,he1,hco,hcc,zaO,hw1,hw2,hw3,zaU,leF,hd0,hd1,hd2,hcv];exact .inl ⟨_,he1,rfl⟩
  subst he1
  by_cases he2:e2=0
  rotate_left
  .simp -implicitDefEqProofs [rR,st0,zao,rlF,Z10,Z85,zcy,zcI,htu,q34,q35,he2,hco,hcc,zaO,hw1,hw2,hw3,zaU,leF,hd0,hd1,hd2,hcv];exact .inl ⟨_,he2,rfl⟩
  subst he2;cases b6 with
  |true=>
   simp -implicitDefEqProofs [rR,st0,zao,rlF,Z10,Z85,zcy,zcI,htu,q34,q35,q36,hco,hcc,zaO,hw1,hw2,hw3,zaU,leF,hd0,hd1,hd2,hcv];exact .inl ⟨_,by decide,rfl⟩
  |false=>
   simp -implicitDefEqProofs [rR,st0,zao,rlF,Z10,Z85,zcy,zcI,htu,q34,q35,q36,hco,hcc,zaO,hw1,hw2,hw3,zaU,leF,hd0,hd1,hd2,hcv];refine round ?_;simp -implicitDefEqProofs [rR,hco,hcc,zaO,hw1,hw2,hw3,zaU,leF,hd0,hd1,hd2,hcv];refine zaC ?_;simp -implicitDefEqProofs [rR,hco,hcc,zaO,hw1,hw2,hw3,zaU,leF,hd0,hd1,hd2,hcv];refine zaC ?_
   by_cases hf:f0=0
   .subst hf;simp -implicitDefEqProofs [rR,hco,hcc,zaO,hw1,hw2,hw3,zaU,leF,hd0,hd1,hd2,hcv,qg0,qc0];exact .inr ⟨0,by simp,by simp[rlF,Z10,Z85,zcy,zcI,htu]⟩
   .simp -implicitDefEqProofs [rR,hco,hcc,zaO,hw1,hw2,hw3,zaU,leF,hd0,hd1,hd2,hcv,qg0,hf];exact .inl ⟨_,hf,rfl⟩
 |[a0],_=>
  obtain⟨e1,h34⟩ :=zlo hS _ hr;obtain⟨i6,b6,h36⟩ :=zE2 hS _ hr t.1;obtain⟨x00,x01,x02,hx0,hd00,hd01,hd02⟩ :=hS.pp _ (hr.p a0 (by simp));have htu0:tuF a0=[valsF a0.1,x00,x01,x02]:=by unfold tuF;rw[hx0]
  have hcv0:(D.f (valsF a0.1)).cells=some [.f (valsF a0.1)]:=zfz ..;have h25_0:=zrG a0.1 t.1 (by have:=hr.l a0 (by simp);omega);have q25Q0:=fun k=>zah (k:=k) h25_0
  have ho0:zg4 SS PP ⟨nm,ce,co,[t,a0]⟩ :=by simpa using hout 0 (by simp)
  obtain⟨f0,g0⟩ :=zlo hS _ ho0;have c0:=zrJ hS _ ho0;have ho1:zg4 SS PP ⟨nm,ce,co,[a0,t]⟩ :=by simpa using hout 1 (by simp)
  obtain⟨f1,g1⟩ :=zlo hS _ ho1;have c1:=zrJ hS _ ho1;simp only[rlF,Z10,Z85,zcy,zcI,htu,htu0]at h34 h36 g0 c0 g1 c1;have q34:=fun k=>zah (k:=k) h34
  have q36:=fun k=>zah (k:=k) h36
  have qg0:=fun k=>zah (k:=k) g0
  have qc0:=fun k=>zah (k:=k) c0
  have qg1:=fun k=>zah (k:=k) g1
  have qc1:=fun k=>zah (k:=k) c1
  by_cases he1:e1=0
  rotate_left
  .simp -implicitDefEqProofs [rR,st0,zao,rlF,Z10,Z85,zcy,zcI,htu,htu0,q34,he1,hco,hcc,zaO,hw1,hw2,hw3,zaU,leF,hd0,hd1,hd2,hcv,hd00,hd01,hd02,hcv0];exact .inl ⟨_,he1,rfl⟩
  subst he1
  by_cases he2:e2=0
  rotate_left
  .simp -implicitDefEqProofs [rR,st0,zao,rlF,Z10,Z85,zcy,zcI,htu,htu0,q34,q35,he2,hco,hcc,zaO,hw1,hw2,hw3,zaU,leF,hd0,hd1,hd2,hcv,hd00,hd01,hd02,hcv0];exact .inl ⟨_,he2,rfl⟩
  subst he2;cases b6 with
  |true=>
   simp -implicitDefEqProofs [rR,st0,zao,rlF,Z10,Z85,zcy,zcI,htu,htu0,q34,q35,q36,hco,hcc,zaO,hw1,hw2,hw3,zaU,leF,hd0,hd1,hd2,hcv,hd00,hd01,hd02,hcv0];exact .inl ⟨_,by decide,rfl⟩
  |false=>
   simp -implicitDefEqProofs [rR,st0,zao,rlF,Z10,Z85,zcy,zcI,htu,htu0,q34,q35,q36,hco,hcc,zaO,hw1,hw2,hw3,zaU,leF,hd0,hd1,hd2,hcv,hd00,hd01,hd02,hcv0];refine round ?_;simp -implicitDefEqProofs [rR,hco,hcc,zaO,hw1,hw2,hw3,zaU,leF,hd0,hd1,hd2,hcv,hd00,hd01,hd02,hcv0];refine zaC ?_
   by_cases k0:cmpL a0.1 t.1<0
   .simp -implicitDefEqProofs [rR,hco,hcc,zaO,hw1,hw2,hw3,zaU,leF,hd0,hd1,hd2,hcv,hd00,hd01,hd02,hcv0,q25Q0,k0];refine round ?_;simp -implicitDefEqProofs [rR,hco,hcc,zaO,hw1,hw2,hw3,zaU,leF,hd0,hd1,hd2,hcv,hd00,hd01,hd02,hcv0];refine zaC ?_;simp -implicitDefEqProofs [rR,hco,hcc,zaO,hw1,hw2,hw3,zaU,leF,hd0,hd1,hd2,hcv,hd00,hd01,hd02,hcv0];refine zaC ?_
    by_cases hf:f1=0
    .subst hf;simp -implicitDefEqProofs [rR,hco,hcc,zaO,hw1,hw2,hw3,zaU,leF,hd0,hd1,hd2,hcv,hd00,hd01,hd02,hcv0,qg1,qc1];exact .inr ⟨1,by simp,by simp[rlF,Z10,Z85,zcy,zcI,htu,htu0]⟩
    .simp -implicitDefEqProofs [rR,hco,hcc,zaO,hw1,hw2,hw3,zaU,leF,hd0,hd1,hd2,hcv,hd00,hd01,hd02,hcv0,qg1,hf];exact .inl ⟨_,hf,rfl⟩
   .simp -implicitDefEqProofs [rR,hco,hcc,zaO,hw1,hw2,hw3,zaU,leF,hd0,hd1,hd2,hcv,hd00,hd01,hd02,hcv0,q25Q0,k0];refine zaC ?_
    by_cases hf:f0=0
    .subst hf;simp -implicitDefEqProofs [rR,hco,hcc,zaO,hw1,hw2,hw3,zaU,leF,hd0,hd1,hd2,hcv,hd00,hd01,hd02,hcv0,qg0,qc0];exact .inr ⟨0,by simp,by simp[rlF,Z10,Z85,zcy,zcI,htu,htu0]⟩
    .simp -implicitDefEqProofs [rR,hco,hcc,zaO,hw1,hw2,hw3,zaU,leF,hd0,hd1,hd2,hcv,hd00,hd01,hd02,hcv0,qg0,hf];exact .inl ⟨_,hf,rfl⟩
 |[a0,a1],_=>
  obtain⟨e1,h34⟩ :=zlo hS _ hr;obtain⟨i6,b6,h36⟩ :=zE2 hS _ hr t.1;obtain⟨x00,x01,x02,hx0,hd00,hd01,hd02⟩ :=hS.pp _ (hr.p a0 (by simp));have htu0:tuF a0=[valsF a0.1,x00,x01,x02]:=by unfold tuF;rw[hx0]
  have hcv0:(D.f (valsF a0.1)).cells=some [.f (valsF a0.1)]:=zfz ..;have h25_0:=zrG a0.1 t.1 (by have:=hr.l a0 (by simp);omega);have q25Q0:=fun k=>zah (k:=k) h25_0
  obtain⟨x10,x11,x12,hx1,hd10,hd11,hd12⟩ :=hS.pp _ (hr.p a1 (by simp));have htu1:tuF a1=[valsF a1.1,x10,x11,x12]:=by unfold tuF;rw[hx1]
  have hcv1:(D.f (valsF a1.1)).cells=some [.f (valsF a1.1)]:=zfz ..;have h25_1:=zrG a1.1 t.1 (by have:=hr.l a1 (by simp);omega);have q25Q1:=fun k=>zah (k:=k) h25_1
  have ho0:zg4 SS PP ⟨nm,ce,co,[t,a0,a1]⟩ :=by simpa using hout 0 (by simp)
  obtain⟨f0,g0⟩ :=zlo hS _ ho0;have c0:=zrJ hS _ ho0;have ho1:zg4 SS PP ⟨nm,ce,co,[a0,t,a1]⟩ :=by simpa using hout 1 (by simp)
  obtain⟨f1,g1⟩ :=zlo hS _ ho1;have c1:=zrJ hS _ ho1;have ho2:zg4 SS PP ⟨nm,ce,co,[a0,a1,t]⟩ :=by simpa using hout 2 (by simp)
  obtain⟨f2,g2⟩ :=zlo hS _ ho2;have c2:=zrJ hS _ ho2;simp only[rlF,Z10,Z85,zcy,zcI,htu,htu0,htu1]at h34 h36 g0 c0 g1 c1 g2 c2;have q34:=fun k=>zah (k:=k) h34
  have q36:=fun k=>zah (k:=k) h36
  have qg0:=fun k=>zah (k:=k) g0
  have qc0:=fun k=>zah (k:=k) c0
  have qg1:=fun k=>zah (k:=k) g1
  have qc1:=fun k=>zah (k:=k) c1
  have qg2:=fun k=>zah (k:=k) g2
  have qc2:=fun k=>zah (k:=k) c2
  by_cases he1:e1=0
  rotate_left
  .simp -implicitDefEqProofs [rR,st0,zao,rlF,Z10,Z85,zcy,zcI,htu,htu0,htu1,q34,he1,hco,hcc,zaO,hw1,hw2,hw3,zaU,leF,hd0,hd1,hd2,hcv,hd00,hd01,hd02,hcv0,hd10,hd11,hd12,hcv1];exact .inl ⟨_,he1,rfl⟩
  subst he1
  by_cases he2:e2=0
  rotate_left
  .simp -implicitDefEqProofs [rR,st0,zao,rlF,Z10,Z85,zcy,zcI,htu,htu0,htu1,q34,q35,he2,hco,hcc,zaO,hw1,hw2,hw3,zaU,leF,hd0,hd1,hd2,hcv,hd00,hd01,hd02,hcv0,hd10,hd11,hd12,hcv1];exact .inl ⟨_,he2,rfl⟩
  subst he2;cases b6 with
  |true=>
   simp -implicitDefEqProofs [rR,st0,zao,rlF,Z10,Z85,zcy,zcI,htu,htu0,htu1,q34,q35,q36,hco,hcc,zaO,hw1,hw2,hw3,zaU,leF,hd0,hd1,hd2,hcv,hd00,hd01,hd02,hcv0,hd10,hd11,hd12,hcv1];exact .inl ⟨_,by decide,rfl⟩
  |false=>
   simp -implicitDefEqProofs [rR,st0,zao,rlF,Z10,Z85,zcy,zcI,htu,htu0,htu1,q34,q35,q36,hco,hcc,zaO,hw1,hw2,hw3,zaU,leF,hd0,hd1,hd2,hcv,hd00,hd01,hd02,hcv0,hd10,hd11,hd12,hcv1];refine round ?_;simp -implicitDefEqProofs [rR,hco,hcc,zaO,hw1,hw2,hw3,zaU,leF,hd0,hd1,hd2,hcv,hd00,hd01,hd02,hcv0,hd10,hd11,hd12,hcv1];refine zaC ?_
   by_cases k0:cmpL a0.1 t.1<0
   .simp -implicitDefEqProofs [rR,hco,hcc,zaO,hw1,hw2,hw3,zaU,leF,hd0,hd1,hd2,hcv,hd00,hd01,hd02,hcv0,hd10,hd11,hd12,hcv1,q25Q0,k0];refine round ?_;simp -implicitDefEqProofs [rR,hco,hcc,zaO,hw1,hw2,hw3,zaU,leF,hd0,hd1,hd2,hcv,hd00,hd01,hd02,hcv0,hd10,hd11,hd12,hcv1];refine zaC ?_
    by_cases k1:cmpL a1.1 t.1<0
    .simp -implicitDefEqProofs [rR,hco,hcc,zaO,hw1,hw2,hw3,zaU,leF,hd0,hd1,hd2,hcv,hd00,hd01,hd02,hcv0,hd10,hd11,hd12,hcv1,q25Q1,k1];refine round ?_;simp -implicitDefEqProofs [rR,hco,hcc,zaO,hw1,hw2,hw3,zaU,leF,hd0,hd1,hd2,hcv,hd00,hd01,hd02,hcv0,hd10,hd11,hd12,hcv1];refine zaC ?_;simp -implicitDefEqProofs [rR,hco,hcc,zaO,hw1,hw2,hw3,zaU,leF,hd0,hd1,hd2,hcv,hd00,hd01,hd02,hcv0,hd10,hd11,hd12,hcv1];refine zaC ?_
     by_cases hf:f2=0
     .subst hf;simp -implicitDefEqProofs [rR,hco,hcc,zaO,hw1,hw2,hw3,zaU,leF,hd0,hd1,hd2,hcv,hd00,hd01,hd02,hcv0,hd10,hd11,hd12,hcv1,qg2,qc2];exact .inr ⟨2,by simp,by simp[rlF,Z10,Z85,zcy,zcI,htu,htu0,htu1]⟩
     .simp -implicitDefEqProofs [rR,hco,hcc,zaO,hw1,hw2,hw3,zaU,leF,hd0,hd1,hd2,hcv,hd00,hd01,hd02,hcv0,hd10,hd11,hd12,hcv1,qg2,hf];exact .inl ⟨_,hf,rfl⟩
    .simp -implicitDefEqProofs [rR,hco,hcc,zaO,hw1,hw2,hw3,zaU,leF,hd0,hd1,hd2,hcv,hd00,hd01,hd02,hcv0,hd10,hd11,hd12,hcv1,q25Q1,k1];refine zaC ?_
     by_cases hf:f1=0
     .subst hf;simp -implicitDefEqProofs [rR,hco,hcc,zaO,hw1,hw2,hw3,zaU,leF,hd0,hd1,hd2,hcv,hd00,hd01,hd02,hcv0,hd10,hd11,hd12,hcv1,qg1,qc1];exact .inr ⟨1,by simp,by simp[rlF,Z10,Z85,zcy,zcI,htu,htu0,htu1]⟩
     .simp -implicitDefEqProofs [rR,hco,hcc,zaO,hw1,hw2,hw3,zaU,leF,hd0,hd1,hd2,hcv,hd00,hd01,hd02,hcv0,hd10,hd11,hd12,hcv1,qg1,hf];exact .inl ⟨_,hf,rfl⟩
   .simp -implicitDefEqProofs [rR,hco,hcc,zaO,hw1,hw2,hw3,zaU,leF,hd0,hd1,hd2,hcv,hd00,hd01,hd02,hcv0,hd10,hd11,hd12,hcv1,q25Q0,k0];refine zaC ?_
    by_cases hf:f0=0
    .subst hf;simp -implicitDefEqProofs [rR,hco,hcc,zaO,hw1,hw2,hw3,zaU,leF,hd0,hd1,hd2,hcv,hd00,hd01,hd02,hcv0,hd10,hd11,hd12,hcv1,qg0,qc0];exact .inr ⟨0,by simp,by simp[rlF,Z10,Z85,zcy,zcI,htu,htu0,htu1]⟩
    .simp -implicitDefEqProofs [rR,hco,hcc,zaO,hw1,hw2,hw3,zaU,leF,hd0,hd1,hd2,hcv,hd00,hd01,hd02,hcv0,hd10,hd11,hd12,hcv1,qg0,hf];exact .inl ⟨_,hf,rfl⟩
 |_::_::_::_,h=>exact absurd h (by simp)
end Go.Proofs.YtdonnbdegnkflaaGreatDoor
end
section
namespace Go.Proofs.YtdonnbdegnkflaaGreatDoor
open Go Go.Vse
def u0:List F:=[.b false,.nils,.sl 1 [[.i .u32 1]]]
def u1:List F:=[.b false,.sl 1 [[.i .u32 1]],.sl 1 [[.i .u32 2]]]
def u2:List F:=[.b false,.sl 1 [[.i .u32 1]],.sl 1 [[.i .u32 3]]]
def u3:List F:=[.b false,.sl 1 [[.i .u32 2]],.sl 1 [[.i .u32 3]]]
def u4:List F:=[.b false,.sl 1 [[.i .u32 1]],.sl 1 [[.i .u32 4]]]
def u5:List F:=[.b false,.sl 1 [[.i .u32 1]],.sl 1 [[.i .u32 1]]]
def u6:List F:=[.b false,.sl 1 [[.i .u32 3]],.sl 1 [[.i .u32 5]]]
def u7:List F:=[.b false,.sl 1 [[.i .u32 1]],.sl 1 [[.i .u32 7]]]
def u8:List F:=[.b false,.sl 1 [[.i .u32 5]],.sl 1 [[.i .u32 6]]]
def u9:List F:=[.b false,.sl 1 [[.i .u32 7]],.sl 1 [[.i .u32 6]]]
def u10:List F:=[.b false,.sl 1 [[.i .u32 3]],.sl 1 [[.i .u32 4]]]
def u11:List F:=[.b false,.sl 1 [[.i .u32 3]],.sl 1 [[.i .u32 2]]]
def u12:List F:=[.b false,.sl 1 [[.i .u32 11]],.sl 1 [[.i .u32 10]]]
def u13:List F:=[.b false,.sl 1 [[.i .u32 9]],.sl 1 [[.i .u32 14]]]
def u14:List F:=[.b false,.sl 1 [[.i .u32 7]],.sl 1 [[.i .u32 12]]]
def u15:List F:=[.b false,.sl 1 [[.i .u32 4]],.sl 1 [[.i .u32 3]]]
def u16:List F:=[.b false,.sl 1 [[.i .u32 14]],.sl 1 [[.i .u32 15]]]
def u17:List F:=[.b false,.sl 1 [[.i .u32 10]],.sl 1 [[.i .u32 21]]]
def u18:List F:=[.b false,.sl 1 [[.i .u32 11]],.sl 1 [[.i .u32 12]]]
def u19:List F:=[.b false,.sl 1 [[.i .u32 5]],.sl 1 [[.i .u32 3]]]
def u20:List F:=[.b false,.sl 1 [[.i .u32 19]],.sl 1 [[.i .u32 15]]]
def u21:List F:=[.b false,.sl 1 [[.i .u32 17]],.sl 1 [[.i .u32 21]]]
def u22:List F:=[.b false,.sl 1 [[.i .u32 5]],.sl 1 [[.i .u32 4]]]
def u23:List F:=[.b false,.sl 1 [[.i .u32 17]],.sl 1 [[.i .u32 20]]]
def u24:List F:=[.b false,.sl 1 [[.i .u32 11]],.sl 1 [[.i .u32 28]]]
def u25:List F:=[.b false,.sl 1 [[.i .u32 2]],.sl 1 [[.i .u32 1]]]
def u26:List F:=[.b false,.sl 1 [[.i .u32 8]],.sl 1 [[.i .u32 5]]]
def u27:List F:=[.b false,.sl 1 [[.i .u32 8]],.sl 1 [[.i .u32 7]]]
def u28:List F:=[.b false,.sl 1 [[.i .u32 6]],.sl 1 [[.i .u32 5]]]
def u29:List F:=[.b false,.sl 1 [[.i .u32 26]],.sl 1 [[.i .u32 35]]]
def u30:List F:=[.b false,.sl 1 [[.i .u32 2]],.sl 1 [[.i .u32 7]]]
def u31:List F:=[.b false,.sl 1 [[.i .u32 13]],.sl 1 [[.i .u32 12]]]
def u32:List F:=[.b false,.sl 1 [[.i .u32 11]],.sl 1 [[.i .u32 6]]]
def u33:List F:=[.b false,.sl 1 [[.i .u32 43]],.sl 1 [[.i .u32 30]]]
def u34:List F:=[.b false,.sl 1 [[.i .u32 41]],.sl 1 [[.i .u32 42]]]
def u35:List F:=[.b false,.sl 1 [[.i .u32 17]],.sl 1 [[.i .u32 12]]]
def u36:List F:=[.b false,.sl 1 [[.i .u32 13]],.sl 1 [[.i .u32 6]]]
def u37:List F:=[.b false,.sl 1 [[.i .u32 53]],.sl 1 [[.i .u32 30]]]
def u38:List F:=[.b false,.sl 1 [[.i .u32 55]],.sl 1 [[.i .u32 42]]]
def u39:List F:=[.b false,.sl 1 [[.i .u32 7]],.sl 1 [[.i .u32 4]]]
def u40:List F:=[.b false,.sl 1 [[.i .u32 27]],.sl 1 [[.i .u32 20]]]
def u41:List F:=[.b false,.sl 1 [[.i .u32 25]],.sl 1 [[.i .u32 28]]]
def u42:List F:=[.b false,.sl 1 [[.i .u32 5]],.sl 1 [[.i .u32 2]]]
def u43:List F:=[.b false,.sl 1 [[.i .u32 21]],.sl 1 [[.i .u32 10]]]
def u44:List F:=[.b false,.sl 1 [[.i .u32 23]],.sl 1 [[.i .u32 14]]]
def u45:List F:=[.b false,.sl 1 [[.i .u32 17]],.sl 1 [[.i .u32 10]]]
def u46:List F:=[.b false,.sl 1 [[.i .u32 87]],.sl 1 [[.i .u32 70]]]
def u47:List F:=[.b false,.sl 1 [[.i .u32 11]],.sl 1 [[.i .u32 14]]]
def u48:List F:=[.b false,.sl 1 [[.i .u32 19]],.sl 1 [[.i .u32 12]]]
def u49:List F:=[.b false,.sl 1 [[.i .u32 71]],.sl 1 [[.i .u32 60]]]
def u50:List F:=[.b false,.sl 1 [[.i .u32 61]],.sl 1 [[.i .u32 84]]]
def u51:List F:=[.b false,.sl 1 [[.i .u32 7]],.sl 1 [[.i .u32 3]]]
def u52:List F:=[.b false,.sl 1 [[.i .u32 29]],.sl 1 [[.i .u32 15]]]
def u53:List F:=[.b false,.sl 1 [[.i .u32 31]],.sl 1 [[.i .u32 21]]]
def u54:List F:=[.b false,.sl 1 [[.i .u32 23]],.sl 1 [[.i .u32 15]]]
def u55:List F:=[.b false,.sl 1 [[.i .u32 113]],.sl 1 [[.i .u32 105]]]
def u56:List F:=[.b false,.sl 1 [[.i .u32 13]],.sl 1 [[.i .u32 21]]]
def u57:List F:=[.b false,.sl 1 [[.i .u32 23]],.sl 1 [[.i .u32 12]]]
def u58:List F:=[.b false,.sl 1 [[.i .u32 91]],.sl 1 [[.i .u32 60]]]
def u59:List F:=[.b false,.sl 1 [[.i .u32 89]],.sl 1 [[.i .u32 84]]]
def u60:List F:=[.b false,.sl 1 [[.i .u32 8]],.sl 1 [[.i .u32 3]]]
def u61:List F:=[.b false,.sl 1 [[.i .u32 34]],.sl 1 [[.i .u32 15]]]
def u62:List F:=[.b false,.sl 1 [[.i .u32 38]],.sl 1 [[.i .u32 21]]]
def u63:List F:=[.b false,.sl 1 [[.i .u32 28]],.sl 1 [[.i .u32 15]]]
def u64:List F:=[.b false,.sl 1 [[.i .u32 148]],.sl 1 [[.i .u32 105]]]
def u65:List F:=[.b false,.sl 1 [[.i .u32 20]],.sl 1 [[.i .u32 21]]]
def u66:List F:=[.b false,.sl 1 [[.i .u32 9]],.sl 1 [[.i .u32 4]]]
def u67:List F:=[.b false,.sl 1 [[.i .u32 37]],.sl 1 [[.i .u32 20]]]
def u68:List F:=[.b false,.sl 1 [[.i .u32 39]],.sl 1 [[.i .u32 28]]]
def u69:List F:=[.b false,.sl 1 [[.i .u32 29]],.sl 1 [[.i .u32 20]]]
def u70:List F:=[.b false,.sl 1 [[.i .u32 139]],.sl 1 [[.i .u32 140]]]
def u71:List F:=[.b false,.sl 1 [[.i .u32 15]],.sl 1 [[.i .u32 28]]]
def u72:List F:=[.b false,.sl 1 [[.i .u32 3]],.sl 1 [[.i .u32 1]]]
def u73:List F:=[.b false,.sl 1 [[.i .u32 13]],.sl 1 [[.i .u32 5]]]
def u74:List F:=[.b false,.sl 1 [[.i .u32 15]],.sl 1 [[.i .u32 7]]]
def u75:List F:=[.b false,.sl 1 [[.i .u32 11]],.sl 1 [[.i .u32 5]]]
def u76:List F:=[.b false,.sl 1 [[.i .u32 61]],.sl 1 [[.i .u32 35]]]
def u77:List F:=[.b false,.sl 1 [[.i .u32 9]],.sl 1 [[.i .u32 7]]]
def u78:List F:=[.b false,.sl 1 [[.i .u32 9]],.sl 1 [[.i .u32 5]]]
def u79:List F:=[.b false,.sl 1 [[.i .u32 47]],.sl 1 [[.i .u32 35]]]
def u80:List F:=[.b false,.sl 1 [[.i .u32 31]],.sl 1 [[.i .u32 35]]]
def u81:List F:=[.b false,.sl 1 [[.i .u32 3]],.sl 1 [[.i .u32 7]]]
def PPl:List (List F):=[u1,u2,u3,u4,u5,u0,u6,u7]
def Sl0:List (List F):=[u0]
def Sl1:List (List F):=[u1,u2,u3,u4,u5,u0,u6,u7]
def Sl2:List (List F):=[u5,u8,u9,u10,u11,u1,u12,u13,u3,u14,u15,u2,u16,u17,u18,u19,u20,u21,u22,u4,u23,u24,u25,u26,u27,u0,u6,u7,u28,u29,u30]
def Sl3:List (List F):=[u11,u15,u19,u22,u25,u5,u26,u27,u9,u31,u32,u8,u33,u34,u35,u36,u37,u38,u39,u10,u40,u41,u42,u43,u44,u1,u12,u13,u45,u46,u47,u18,u3,u20,u21,u48,u14,u49,u50,u51,u52,u53,u2,u16,u17,u54,u55,u56,u57,u58,u59,u60,u61,u62,u63,u64,u65,u66,u67,u68,u4,u23,u24,u69,u70,u71,u72,u73,u74,u75,u76,u77,u0,u6,u7,u28,u29,u30,u78,u79,u80,u81]
end Go.Proofs.YtdonnbdegnkflaaGreatDoor
end
