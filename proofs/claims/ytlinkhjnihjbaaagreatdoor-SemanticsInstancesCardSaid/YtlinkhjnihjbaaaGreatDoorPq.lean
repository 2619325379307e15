/- Insert of a tuple. -/
import Derived.Test.YtlinkhjnihjbaaaGreatDoorPp
import Derived.KernelRfl
import Derived.IntWalk
import Derived.Test.YtlinkhjnihjbaaaGreatDoorPa
import Derived.Test.YtlinkhjnihjbaaaGreatDoorPk
import Derived.Test.YtlinkhjnihjbaaaGreatDoorPl
import Derived.Test.YtlinkhjnihjbaaaGreatDoorQs0
set_option linter.all false
set_option maxRecDepth 100000
set_option maxHeartbeats 4000000
noncomputable section
section
namespace Go.Proofs.YtlinkhjnihjbaaaGreatDoor
open Go Go.Vse Go.Vse.Sm
def fn37:pr.fn 37=some g37:=by kernel_rfl
def zRl:List F:=[.s [],.b false,.nils,.nils]
def IsIns(nm:Str)(ce:Bool)(co:F)(tu:List (List Int×List F))(t:List Int×List F)(y:F):Prop:=
 (∃e:Int,e≠0/\y= .tu [.ag zRl,.i .i64 e])\/∃n:Nat,n<=tu.length/\Gd ⟨nm,ce,co,tu.take n++t::tu.drop n⟩/\y= .tu [.ag (rlF ⟨nm,ce,co,tu.take n++t::tu.drop n⟩),.i .i64 0]
theorem zsO{SS:Nat->List F->Prop}{PP:List F->Prop}(hS:zjo SS PP)(nm:Str)(ce:Bool)(co:F)(tu:List (List Int×List F))(hr:zee SS PP ⟨nm,ce,co,tu⟩)(hn2:tu.length<=2)(t:List Int×List F)(ht:PP t.2)
  (hct:∃e,Ans pr 97 [.ag [.s nm,.b ce,co],.ag (tuF t)] (.i .i64 e))
  (hout:∀n,n<=tu.length->zee SS PP ⟨nm,ce,co,tu.take n++t::tu.drop n⟩):∃y,IsIns nm ce co tu t y/\Ans pr 37 [.ag (rlF ⟨nm,ce,co,tu⟩),.ag (tuF t)] y:=by
 refine znH fn37 ?_;have hco:=hr.co;have hcc:=hr.cc;have hw1:IntKind.i64.wrap 1=1:=by decide
 have hw2:IntKind.i64.wrap 2=2:=by decide
 have hw3:IntKind.i64.wrap 3=3:=by decide
 obtain⟨x0,x1,x2,hx,hd0,hd1,hd2⟩ :=hS.pp _ ht;have htu:tuF t=[valsF t.1,x0,x1,x2]:=by unfold tuF;rw[hx]
 have hcv:(D.f (valsF t.1)).cells=some [.f (valsF t.1)]:=zcc ..;obtain⟨e2,h35⟩ :=hct;rw[htu]at h35;have q35:=fun k=>zaj (k:=k) h35
 simp only[g37,rU]
 match tu,hn2 with
 |[],_=>
  obtain⟨e1,-,h34⟩ :=zhK hS _ hr;obtain⟨i6,b6,h36⟩ :=zx0 hS _ hr t.1;have ho0:zee SS PP ⟨nm,ce,co,[t]⟩ :=by simpa using hout 0 (by simp)
  obtain⟨f0,gd0,g0⟩ :=zhK hS _ ho0;have c0:=zjs hS _ ho0;simp only[rlF,Z10,Z85,zbz,zb2,htu]at h34 h36 g0 c0;have q34:=fun k=>zaj (k:=k) h34
  have q36:=fun k=>zaj (k:=k) h36
  have qg0:=fun k=>zaj (k:=k) g0
  have qc0:=fun k=>zaj (k:=k) c0
  by_cases he1:e1=0
  rotate_left
  .simp -implicitDefEqProofs [rR,st0,zax,rlF,Z10,Z85,zbz,zb2,htu,q34,he1,hco,hcc,zaH,hw1,hw2,hw3,zaN,leF,hd0,hd1,hd2,hcv];exact .inl ⟨_,he1,rfl⟩
  subst he1
  by_cases he2:e2=0
  rotate_left
  .simp -implicitDefEqProofs [rR,st0,zax,rlF,Z10,Z85,zbz,zb2,htu,q34,q35,he2,hco,hcc,zaH,hw1,hw2,hw3,zaN,leF,hd0,hd1,hd2,hcv];exact .inl ⟨_,he2,rfl⟩
  subst he2;cases b6 with
  |true=>
   simp -implicitDefEqProofs [rR,st0,zax,rlF,Z10,Z85,zbz,zb2,htu,q34,q35,q36,hco,hcc,zaH,hw1,hw2,hw3,zaN,leF,hd0,hd1,hd2,hcv];exact .inl ⟨_,by decide,rfl⟩
  |false=>
   simp -implicitDefEqProofs [rR,st0,zax,rlF,Z10,Z85,zbz,zb2,htu,q34,q35,q36,hco,hcc,zaH,hw1,hw2,hw3,zaN,leF,hd0,hd1,hd2,hcv];refine round ?_;simp -implicitDefEqProofs [rR,hco,hcc,zaH,hw1,hw2,hw3,zaN,leF,hd0,hd1,hd2,hcv];refine zaM ?_;simp -implicitDefEqProofs [rR,hco,hcc,zaH,hw1,hw2,hw3,zaN,leF,hd0,hd1,hd2,hcv];refine zaM ?_
   by_cases hf:f0=0
   .subst hf;simp -implicitDefEqProofs [rR,hco,hcc,zaH,hw1,hw2,hw3,zaN,leF,hd0,hd1,hd2,hcv,qg0,qc0];exact .inr ⟨0,by simp,by simpa using gd0 rfl,by simp[rlF,Z10,Z85,zbz,zb2,htu]⟩
   .simp -implicitDefEqProofs [rR,hco,hcc,zaH,hw1,hw2,hw3,zaN,leF,hd0,hd1,hd2,hcv,qg0,hf];exact .inl ⟨_,hf,rfl⟩
 |[a0],_=>
  obtain⟨e1,-,h34⟩ :=zhK hS _ hr;obtain⟨i6,b6,h36⟩ :=zx0 hS _ hr t.1;obtain⟨x00,x01,x02,hx0,hd00,hd01,hd02⟩ :=hS.pp _ (hr.p a0 (by simp));have htu0:tuF a0=[valsF a0.1,x00,x01,x02]:=by unfold tuF;rw[hx0]
  have hcv0:(D.f (valsF a0.1)).cells=some [.f (valsF a0.1)]:=zcc ..;have h25_0:=zoE a0.1 t.1 (by have:=hr.l a0 (by simp);omega);have q25Q0:=fun k=>zaj (k:=k) h25_0
  have ho0:zee SS PP ⟨nm,ce,co,[t,a0]⟩ :=by simpa using hout 0 (by simp)
  obtain⟨f0,gd0,g0⟩ :=zhK hS _ ho0;have c0:=zjs hS _ ho0;have ho1:zee SS PP ⟨nm,ce,co,[a0,t]⟩ :=by simpa using hout 1 (by simp)
  obtain⟨f1,gd1,g1⟩ :=zhK hS _ ho1;have c1:=zjs hS _ ho1;simp only[rlF,Z10,Z85,zbz,zb2,htu,htu0]at h34 h36 g0 c0 g1 c1;have q34:=fun k=>zaj (k:=k) h34
  have q36:=fun k=>zaj (k:=k) h36
  have qg0:=fun k=>zaj (k:=k) g0
  have qc0:=fun k=>zaj (k:=k) c0
  have qg1:=fun k=>zaj (k:=k) g1
  have qc1:=fun k=>zaj (k:=k) c1
  by_cases he1:e1=0
  rotate_left
  .simp -implicitDefEqProofs [rR,st0,zax,rlF,Z10,Z85,zbz,zb2,htu,htu0,q34,he1,hco,hcc,zaH,hw1,hw2,hw3,zaN,leF,hd0,hd1,hd2,hcv,hd00,hd01,hd02,hcv0];exact .inl ⟨_,he1,rfl⟩
  subst he1
  by_cases he2:e2=0
  rotate_left
  .simp -implicitDefEqProofs [rR,st0,zax,rlF,Z10,Z85,zbz,zb2,htu,htu0,q34,q35,he2,hco,hcc,zaH,hw1,hw2,hw3,zaN,leF,hd0,hd1,hd2,hcv,hd00,hd01,hd02,hcv0];exact .inl ⟨_,he2,rfl⟩
  subst he2;cases b6 with
  |true=>
   simp -implicitDefEqProofs [rR,st0,zax,rlF,Z10,Z85,zbz,zb2,htu,htu0,q34,q35,q36,hco,hcc,zaH,hw1,hw2,hw3,zaN,leF,hd0,hd1,hd2,hcv,hd00,hd01,hd02,hcv0];exact .inl ⟨_,by decide,rfl⟩
  |false=>
   simp -implicitDefEqProofs [rR,st0,zax,rlF,Z10,Z85,zbz,zb2,htu,htu0,q34,q35,q36,hco,hcc,zaH,hw1,hw2,hw3,zaN,leF,hd0,hd1,hd2,hcv,hd00,hd01,hd02,hcv0];refine round ?_;simp -implicitDefEqProofs [rR,hco,hcc,zaH,hw1,hw2,hw3,zaN,leF,hd0,hd1,hd2,hcv,hd00,hd01,hd02,hcv0];refine zaM ?_
   by_cases k0:cmpL a0.1 t.1<0
   .simp -implicitDefEqProofs [rR,hco,hcc,zaH,hw1,hw2,hw3,zaN,leF,hd0,hd1,hd2,hcv,hd00,hd01,hd02,hcv0,q25Q0,k0];refine round ?_;simp -implicitDefEqProofs [rR,hco,hcc,zaH,hw1,hw2,hw3,zaN,leF,hd0,hd1,hd2,hcv,hd00,hd01,hd02,hcv0];refine zaM ?_;simp -implicitDefEqProofs [rR,hco,hcc,zaH,hw1,hw2,hw3,zaN,leF,hd0,hd1,hd2,hcv,hd00,hd01,hd02,hcv0];refine zaM ?_
    by_cases hf:f1=0
    .subst hf;simp -implicitDefEqProofs [rR,hco,hcc,zaH,hw1,hw2,hw3,zaN,leF,hd0,hd1,hd2,hcv,hd00,hd01,hd02,hcv0,qg1,qc1];exact .inr ⟨1,by simp,by simpa using gd1 rfl,by simp[rlF,Z10,Z85,zbz,zb2,htu,htu0]⟩
    .simp -implicitDefEqProofs [rR,hco,hcc,zaH,hw1,hw2,hw3,zaN,leF,hd0,hd1,hd2,hcv,hd00,hd01,hd02,hcv0,qg1,hf];exact .inl ⟨_,hf,rfl⟩
   .simp -implicitDefEqProofs [rR,hco,hcc,zaH,hw1,hw2,hw3,zaN,leF,hd0,hd1,hd2,hcv,hd00,hd01,hd02,hcv0,q25Q0,k0];refine zaM ?_
    by_cases hf:f0=0
    .subst hf;simp -implicitDefEqProofs [rR,hco,hcc,zaH,hw1,hw2,hw3,zaN,leF,hd0,hd1,hd2,hcv,hd00,hd01,hd02,hcv0,qg0,qc0];exact .inr ⟨0,by simp,by simpa using gd0 rfl,by simp[rlF,Z10,Z85,zbz,zb2,htu,htu0]⟩
    .simp -implicitDefEqProofs [rR,hco,hcc,zaH,hw1,hw2,hw3,zaN,leF,hd0,hd1,hd2,hcv,hd00,hd01,hd02,hcv0,qg0,hf];exact .inl ⟨_,hf,rfl⟩
 |[a0,a1],_=>
  obtain⟨e1,-,h34⟩ :=zhK hS _ hr;obtain⟨i6,b6,h36⟩ :=zx0 hS _ hr t.1;obtain⟨x00,x01,x02,hx0,hd00,hd01,hd02⟩ :=hS.pp _ (hr.p a0 (by simp));have htu0:tuF a0=[valsF a0.1,x00,x01,x02]:=by unfold tuF;rw[hx0]
  have hcv0:(D.f (valsF a0.1)).cells=some [.f (valsF a0.1)]:=zcc ..;have h25_0:=zoE a0.1 t.1 (by have:=hr.l a0 (by simp);omega);have q25Q0:=fun k=>zaj (k:=k) h25_0
  obtain⟨x10,x11,x12,hx1,hd10,hd11,hd12⟩ :=hS.pp _ (hr.p a1 (by simp));have htu1:tuF a1=[valsF a1.1,x10,x11,x12]:=by unfold tuF;rw[hx1]
  have hcv1:(D.f (valsF a1.1)).cells=some [.f (valsF a1.1)]:=zcc ..;have h25_1:=zoE a1.1 t.1 (by have:=hr.l a1 (by simp);omega);have q25Q1:=fun k=>zaj (k:=k) h25_1
  have ho0:zee SS PP ⟨nm,ce,co,[t,a0,a1]⟩ :=by simpa using hout 0 (by simp)
  obtain⟨f0,gd0,g0⟩ :=zhK hS _ ho0;have c0:=zjs hS _ ho0;have ho1:zee SS PP ⟨nm,ce,co,[a0,t,a1]⟩ :=by simpa using hout 1 (by simp)
  obtain⟨f1,gd1,g1⟩ :=zhK hS _ ho1;have c1:=zjs hS _ ho1;have ho2:zee SS PP ⟨nm,ce,co,[a0,a1,t]⟩ :=by simpa using hout 2 (by simp)
  obtain⟨f2,gd2,g2⟩ :=zhK hS _ ho2;have c2:=zjs hS _ ho2;simp only[rlF,Z10,Z85,zbz,zb2,htu,htu0,htu1]at h34 h36 g0 c0 g1 c1 g2 c2;have q34:=fun k=>zaj (k:=k) h34
  have q36:=fun k=>zaj (k:=k) h36
  have qg0:=fun k=>zaj (k:=k) g0
  have qc0:=fun k=>zaj (k:=k) c0
  have qg1:=fun k=>zaj (k:=k) g1
  have qc1:=fun k=>zaj (k:=k) c1
  have qg2:=fun k=>zaj (k:=k) g2
  have qc2:=fun k=>zaj (k:=k) c2
  by_cases he1:e1=0
  rotate_left
  .simp -implicitDefEqProofs [rR,st0,zax,rlF,Z10,Z85,zbz,zb2,htu,htu0,htu1,q34,he1,hco,hcc,zaH,hw1,hw2,hw3,zaN,leF,hd0,hd1,hd2,hcv,hd00,hd01,hd02,hcv0,hd10,hd11,hd12,hcv1];exact .inl ⟨_,he1,rfl⟩
  subst he1
  by_cases he2:e2=0
  rotate_left
  .simp -implicitDefEqProofs [rR,st0,zax,rlF,Z10,Z85,zbz,zb2,htu,htu0,htu1,q34,q35,he2,hco,hcc,zaH,hw1,hw2,hw3,zaN,leF,hd0,hd1,hd2,hcv,hd00,hd01,hd02,hcv0,hd10,hd11,hd12,hcv1];exact .inl ⟨_,he2,rfl⟩
  subst he2;cases b6 with
  |true=>
   simp -implicitDefEqProofs [rR,st0,zax,rlF,Z10,Z85,zbz,zb2,htu,htu0,htu1,q34,q35,q36,hco,hcc,zaH,hw1,hw2,hw3,zaN,leF,hd0,hd1,hd2,hcv,hd00,hd01,hd02,hcv0,hd10,hd11,hd12,hcv1];exact .inl ⟨_,by decide,rfl⟩
  |false=>
   simp -implicitDefEqProofs [rR,st0,zax,rlF,Z10,Z85,zbz,zb2,htu,htu0,htu1,q34,q35,q36,hco,hcc,zaH,hw1,hw2,hw3,zaN,leF,hd0,hd1,hd2,hcv,hd00,hd01,hd02,hcv0,hd10,hd11,hd12,hcv1];refine round ?_;simp -implicitDefEqProofs [rR,hco,hcc,zaH,hw1,hw2,hw3,zaN,leF,hd0,hd1,hd2,hcv,hd00,hd01,hd02,hcv0,hd10,hd11,hd12,hcv1];refine zaM ?_
   by_cases k0:cmpL a0.1 t.1<0
   .simp -implicitDefEqProofs [rR,hco,hcc,zaH,hw1,hw2,hw3,zaN,leF,hd0,hd1,hd2,hcv,hd00,hd01,hd02,hcv0,hd10,hd11,hd12,hcv1,q25Q0,k0];refine round ?_;simp -implicitDefEqProofs [rR,hco,hcc,zaH,hw1,hw2,hw3,zaN,leF,hd0,hd1,hd2,hcv,hd00,hd01,hd02,hcv0,hd10,hd11,hd12,hcv1];refine zaM ?_
    by_cases k1:cmpL a1.1 t.1<0
    .simp -implicitDefEqProofs [rR,hco,hcc,zaH,hw1,hw2,hw3,zaN,leF,hd0,hd1,hd2,hcv,hd00,hd01,hd02,hcv0,hd10,hd11,hd12,hcv1,q25Q1,k1];refine round ?_;simp -implicitDefEqProofs [rR,hco,hcc,zaH,hw1,hw2,hw3,zaN,leF,hd0,hd1,hd2,hcv,hd00,hd01,hd02,hcv0,hd10,hd11,hd12,hcv1];refine zaM ?_;simp -implicitDefEqProofs [rR,hco,hcc,zaH,hw1,hw2,hw3,zaN,leF,hd0,hd1,hd2,hcv,hd00,hd01,hd02,hcv0,hd10,hd11,hd12,hcv1];refine zaM ?_
     by_cases hf:f2=0
     .subst hf;simp -implicitDefEqProofs [rR,hco,hcc,zaH,hw1,hw2,hw3,zaN,leF,hd0,hd1,hd2,hcv,hd00,hd01,hd02,hcv0,hd10,hd11,hd12,hcv1,qg2,qc2];exact .inr ⟨2,by simp,by simpa using gd2 rfl,by simp[rlF,Z10,Z85,zbz,zb2,htu,htu0,htu1]⟩
     .simp -implicitDefEqProofs [rR,hco,hcc,zaH,hw1,hw2,hw3,zaN,leF,hd0,hd1,hd2,hcv,hd00,hd01,hd02,hcv0,hd10,hd11,hd12,hcv1,qg2,hf];exact .inl ⟨_,hf,rfl⟩
    .simp -implicitDefEqProofs [rR,hco,hcc,zaH,hw1,hw2,hw3,zaN,leF,hd0,hd1,hd2,hcv,hd00,hd01,hd02,hcv0,hd10,hd11,hd12,hcv1,q25Q1,k1];refine zaM ?_
     by_cases hf:f1=0
     .subst hf;simp -implicitDefEqProofs [rR,hco,hcc,zaH,hw1,hw2,hw3,zaN,leF,hd0,hd1,hd2,hcv,hd00,hd01,hd02,hcv0,hd10,hd11,hd12,hcv1,qg1,qc1];exact .inr ⟨1,by simp,by simpa using gd1 rfl,by simp[rlF,Z10,Z85,zbz,zb2,htu,htu0,htu1]⟩
     .simp -implicitDefEqProofs [rR,hco,hcc,zaH,hw1,hw2,hw3,zaN,leF,hd0,hd1,hd2,hcv,hd00,hd01,hd02,hcv0,hd10,hd11,hd12,hcv1,qg1,hf];exact .inl ⟨_,hf,rfl⟩
   .simp -implicitDefEqProofs [rR,hco,hcc,zaH,hw1,hw2,hw3,zaN,leF,hd0,hd1,hd2,hcv,hd00,hd01,hd02,hcv0,hd10,hd11,hd12,hcv1,q25Q0,k0];refine zaM ?_
    by_cases hf:f0=0
    .subst hf;simp -implicitDefEqProofs [rR,hco,hcc,zaH,hw1,hw2,hw3,zaN,leF,hd0,hd1,hd2,hcv,hd00,hd01,hd02,hcv0,hd10,hd11,hd12,hcv1,qg0,qc0];exact .inr ⟨0,by simp,by simpa using gd0 rfl,by simp[rlF,Z10,Z85,zbz,zb2,htu,htu0,htu1]⟩
    .simp -implicitDefEqProofs [rR,hco,hcc,zaH,hw1,hw2,hw3,zaN,leF,hd0,hd1,hd2,hcv,hd00,hd01,hd02,hcv0,hd10,hd11,hd12,hcv1,qg0,hf];exact .inl ⟨_,hf,rfl⟩
 |_::_::_::_,h=>exact absurd h (by simp)
end Go.Proofs.YtlinkhjnihjbaaaGreatDoor
end
section
namespace Go.Proofs.YtlinkhjnihjbaaaGreatDoor
open Go Go.Vse Go.Vse.Sm
def mg{α:Type}{l:List α}(n:Nat){a:α}(h:l[n]? =some a):a∈l:=Z39 h
def zaX:∀p∈PPl,Pc p:=allL (P:=Pc) (l:=PPl) ⟨⟨_,_,_,rfl,rfl,rfl,rfl⟩,⟨_,_,_,rfl,rfl,rfl,rfl⟩,⟨_,_,_,rfl,rfl,rfl,rfl⟩,⟨_,_,_,rfl,rfl,rfl,rfl⟩,⟨_,_,_,rfl,rfl,rfl,rfl⟩,⟨_,_,_,rfl,rfl,rfl,rfl⟩,⟨_,_,_,rfl,rfl,rfl,rfl⟩,⟨_,_,_,rfl,rfl,rfl,rfl⟩,trivial⟩
def zGn:∀p∈PPl,Ans pr 40 [.ag p] (.ag p):=allL (P:=fun p=>Ans pr 40 [.ag p] (.ag p)) (l:=PPl) ⟨zk5,zkt,zk6,zkp,zgi,zhq,zkq,zkr,trivial⟩
def ztj{p:List F}(h:p∈PPl):∃n∈PN,p=fr n:=by
 rw[PN_l]at h;obtain⟨n,hn,rfl⟩ :=Z12.1 h;exact⟨n,hn,rfl⟩
def Dl:Nat->List (Nat×Nat)
 |0=>[(0,1)]
 |1=>D1
 |2=>D2
 |_=>DI
theorem dl_A:∀{k:Nat} {s:Nat×Nat},k<3->s∈Dl k->s∈DA
 |0,s,_,h=>by rw[Z31.1 h];exact ze8 clA.1
 |1,s,_,h=>ze8 (Z50.1 clA.2.1 s h)
 |2,s,_,h=>ze8 (Z50.1 clA.2.2.1 s h)
 |_+3,_,h,_=>absurd h (by omega)
theorem zDl:∀{k:Nat} {s:Nat×Nat},s∈Dl k->s∈DI
 |0,s,h=>by rw[Z31.1 h];exact ze8 clA.2.2.2.1
 |1,s,h=>ze8 (Z50.1 clA.2.2.2.2.1 s h)
 |2,s,h=>ze8 (Z50.1 clA.2.2.2.2.2 s h)
 |_+3,_,h=>h
theorem ziQ:∀{k:Nat} {s p:Nat×Nat},k<3->s∈Dl k->p∈PN->adN s p∈Dl (k+1)
 |0,s,p,_,h,hp=>by rw[Z31.1 h];exact ze8 (Z50.1 cl0 p hp)
 |1,s,p,_,h,hp=>ze8 (Z50.1 (Z50.1 cl1 s h) p hp)
 |2,s,p,_,h,hp=>ze8 (Z50.1 (Z50.1 cl2 s h) p hp)
 |_+3,_,_,h,_,_=>absurd h (by omega)
def frP(s:Nat×Nat):Pc (fr s):=by
 obtain⟨a,b⟩ :=s;cases a<;>cases b<;>exact⟨_,_,_,rfl,rfl,rfl,rfl⟩
def SSp(k:Nat)(p:List F):Prop:=k<=3/\∃s∈Dl k,p=fr s
def PPp(p:List F):Prop:=p∈PPl
theorem zqe:zjo SSp PPp where
 z:=⟨_,⟨by omega,(0,1),Z31.2 rfl,rfl⟩,fi0⟩
 pc:=fun k p h=>by obtain⟨-,s,-,rfl⟩ :=h;exact frP s
 pp:=zaX
 add:=fun k s p hk hs hp=>by
  obtain⟨-,s,hm,rfl⟩ :=hs;obtain⟨n,hn,rfl⟩ :=ztj hp;exact⟨_,⟨by omega,_,ziQ hk hm hn,rfl⟩,allL (allL uA _ (dl_A hk hm)) _ hn⟩
 prob:=fun k s h=>by
  obtain⟨-,s,hm,rfl⟩ :=h;exact⟨_,allL uI _ (zDl hm)⟩
 norm:=zGn
def coR:F:= .sl 3 [[.s [97],.i .i64 1,.b false],[.s [98],.i .i64 1,.b false]]
def rR(tu:List (List Int×List F)):Rl:=⟨[82],false,coR,tu⟩
def TuR(t:List Int×List F):Prop:=PPp t.2/\∃a b:Int,t.1=[a,b]/\1<=b/\b<=3
def ckR(t:List Int×List F)(h:TuR t):∃e,Ans pr 97 [.ag [.s [82],.b false,coR],.ag (tuF t)] (.i .i64 e):=by
 obtain⟨hp,a,b,he,_,_⟩ :=h;obtain⟨vs,p⟩ :=t;simp only at he;subst he;exact allL (P:=fun p=>∃e,Ans pr 97 [.ag [.s [82],.b false,coR],.ag (tuF ([a,b],p))] (.i .i64 e)) (l:=PPl) ⟨⟨_,ctR0 a b⟩,⟨_,ctR1 a b⟩,⟨_,ctR2 a b⟩,⟨_,ctR3 a b⟩,⟨_,ctR4 a b⟩,⟨_,ctR5 a b⟩,⟨_,ctR6 a b⟩,⟨_,ctR7 a b⟩,trivial⟩ p hp
def gR(tu:List (List Int×List F))(hn:tu.length<=3)(h:∀t∈tu,TuR t):∃B:List (List Nat),Ans pr 102 [.ag (rlF (rR tu))] (zcm B)/\B.length<=3/\∀b∈B,b.length<=3/\∀i∈b,i<tu.length:=by
 match tu,hn with
 |[],_=>
  exact⟨[],grR0,by simp,by simp⟩
 |[t0],_=>
  obtain⟨hp0,a0,b0,he0,l0,k0⟩ :=h t0 (by simp);obtain⟨x0,y0,z0,hx0,_,_,_⟩ :=zaX _ hp0;obtain⟨v0,w0⟩ :=t0;simp only at he0 hx0;subst he0 hx0;exact⟨[[0]],grR1 a0 b0 x0 y0 z0,by simp,by simp⟩
 |[t0,t1],_=>
  obtain⟨hp0,a0,b0,he0,l0,k0⟩ :=h t0 (by simp);obtain⟨x0,y0,z0,hx0,_,_,_⟩ :=zaX _ hp0;obtain⟨v0,w0⟩ :=t0;simp only at he0 hx0;subst he0 hx0;obtain⟨hp1,a1,b1,he1,l1,k1⟩ :=h t1 (by simp);obtain⟨x1,y1,z1,hx1,_,_,_⟩ :=zaX _ hp1;obtain⟨v1,w1⟩ :=t1;simp only at he1 hx1;subst he1 hx1;exact⟨[[0],[1]],grR2 a0 b0 x0 y0 z0 a1 b1 x1 y1 z1,by simp,by simp⟩
 |[t0,t1,t2],_=>
  obtain⟨hp0,a0,b0,he0,l0,k0⟩ :=h t0 (by simp);obtain⟨x0,y0,z0,hx0,_,_,_⟩ :=zaX _ hp0;obtain⟨v0,w0⟩ :=t0;simp only at he0 hx0;subst he0 hx0;obtain⟨hp1,a1,b1,he1,l1,k1⟩ :=h t1 (by simp);obtain⟨x1,y1,z1,hx1,_,_,_⟩ :=zaX _ hp1;obtain⟨v1,w1⟩ :=t1;simp only at he1 hx1;subst he1 hx1;obtain⟨hp2,a2,b2,he2,l2,k2⟩ :=h t2 (by simp);obtain⟨x2,y2,z2,hx2,_,_,_⟩ :=zaX _ hp2;obtain⟨v2,w2⟩ :=t2;simp only at he2 hx2;subst he2 hx2;exact⟨[[0],[1],[2]],grR3 a0 b0 x0 y0 z0 a1 b1 x1 y1 z1 a2 b2 x2 y2 z2,by simp,by simp⟩
 |_::_::_::_::_,h=>exact absurd h (by simp)
theorem okR(tu:List (List Int×List F))(hn:tu.length<=3)(h:∀t∈tu,TuR t):zee SSp PPp (rR tu) where
 co:=rfl
 cc:=rfl
 v:=zgD
 n:=hn
 p:=fun t ht=>(h t ht).1
 c:=fun t ht=>ckR t (h t ht)
 l:=fun t ht=>by obtain⟨_,a,b,he,_,_⟩ :=h t ht;rw[he];simp
 g:=gR tu hn h
 gc:=fun h=>by simp[rR]at h
def coS:F:= .sl 3 [[.s [97],.i .i64 1,.b false]]
def rS(tu:List (List Int×List F)):Rl:=⟨[83],false,coS,tu⟩
def TuS(t:List Int×List F):Prop:=PPp t.2/\∃a:Int,t.1=[a]
def ckS(t:List Int×List F)(h:TuS t):∃e,Ans pr 97 [.ag [.s [83],.b false,coS],.ag (tuF t)] (.i .i64 e):=by
 obtain⟨hp,a,he⟩ :=h;obtain⟨vs,p⟩ :=t;simp only at he;subst he;exact allL (P:=fun p=>∃e,Ans pr 97 [.ag [.s [83],.b false,coS],.ag (tuF ([a],p))] (.i .i64 e)) (l:=PPl) ⟨⟨_,ctS0 a⟩,⟨_,ctS1 a⟩,⟨_,ctS2 a⟩,⟨_,ctS3 a⟩,⟨_,ctS4 a⟩,⟨_,ctS5 a⟩,⟨_,ctS6 a⟩,⟨_,ctS7 a⟩,trivial⟩ p hp
def gS(tu:List (List Int×List F))(hn:tu.length<=3)(h:∀t∈tu,TuS t):∃B:List (List Nat),Ans pr 102 [.ag (rlF (rS tu))] (zcm B)/\B.length<=3/\∀b∈B,b.length<=3/\∀i∈b,i<tu.length:=by
 match tu,hn with
 |[],_=>
  exact⟨[],grS0,by simp,by simp⟩
 |[t0],_=>
  obtain⟨hp0,a0,he0⟩ :=h t0 (by simp);obtain⟨x0,y0,z0,hx0,_,_,_⟩ :=zaX _ hp0;obtain⟨v0,w0⟩ :=t0;simp only at he0 hx0;subst he0 hx0;exact⟨[[0]],grS1 a0 x0 y0 z0,by simp,by simp⟩
 |[t0,t1],_=>
  obtain⟨hp0,a0,he0⟩ :=h t0 (by simp);obtain⟨x0,y0,z0,hx0,_,_,_⟩ :=zaX _ hp0;obtain⟨v0,w0⟩ :=t0;simp only at he0 hx0;subst he0 hx0;obtain⟨hp1,a1,he1⟩ :=h t1 (by simp);obtain⟨x1,y1,z1,hx1,_,_,_⟩ :=zaX _ hp1;obtain⟨v1,w1⟩ :=t1;simp only at he1 hx1;subst he1 hx1;exact⟨[[0],[1]],grS2 a0 x0 y0 z0 a1 x1 y1 z1,by simp,by simp⟩
 |[t0,t1,t2],_=>
  obtain⟨hp0,a0,he0⟩ :=h t0 (by simp);obtain⟨x0,y0,z0,hx0,_,_,_⟩ :=zaX _ hp0;obtain⟨v0,w0⟩ :=t0;simp only at he0 hx0;subst he0 hx0;obtain⟨hp1,a1,he1⟩ :=h t1 (by simp);obtain⟨x1,y1,z1,hx1,_,_,_⟩ :=zaX _ hp1;obtain⟨v1,w1⟩ :=t1;simp only at he1 hx1;subst he1 hx1;obtain⟨hp2,a2,he2⟩ :=h t2 (by simp);obtain⟨x2,y2,z2,hx2,_,_,_⟩ :=zaX _ hp2;obtain⟨v2,w2⟩ :=t2;simp only at he2 hx2;subst he2 hx2;exact⟨[[0],[1],[2]],grS3 a0 x0 y0 z0 a1 x1 y1 z1 a2 x2 y2 z2,by simp,by simp⟩
 |_::_::_::_::_,h=>exact absurd h (by simp)
theorem okS(tu:List (List Int×List F))(hn:tu.length<=3)(h:∀t∈tu,TuS t):zee SSp PPp (rS tu) where
 co:=rfl
 cc:=rfl
 v:=zf2
 n:=hn
 p:=fun t ht=>(h t ht).1
 c:=fun t ht=>ckS t (h t ht)
 l:=fun t ht=>by obtain⟨_,a,he⟩ :=h t ht;rw[he];simp
 g:=gS tu hn h
 gc:=fun h=>by simp[rS]at h
def coK:F:= .sl 3 [[.s [107],.i .i64 1,.b true],[.s [118],.i .i64 1,.b false]]
def rK(tu:List (List Int×List F)):Rl:=⟨[75],false,coK,tu⟩
def TuK(t:List Int×List F):Prop:=PPp t.2/\∃a b:Int,t.1=[a,b]/\1<=a/\a<=3
def ckK(t:List Int×List F)(h:TuK t):∃e,Ans pr 97 [.ag [.s [75],.b false,coK],.ag (tuF t)] (.i .i64 e):=by
 obtain⟨hp,a,b,he,_,_⟩ :=h;obtain⟨vs,p⟩ :=t;simp only at he;subst he;exact allL (P:=fun p=>∃e,Ans pr 97 [.ag [.s [75],.b false,coK],.ag (tuF ([a,b],p))] (.i .i64 e)) (l:=PPl) ⟨⟨_,ctK0 a b⟩,⟨_,ctK1 a b⟩,⟨_,ctK2 a b⟩,⟨_,ctK3 a b⟩,⟨_,ctK4 a b⟩,⟨_,ctK5 a b⟩,⟨_,ctK6 a b⟩,⟨_,ctK7 a b⟩,trivial⟩ p hp
def gK(tu:List (List Int×List F))(hn:tu.length<=3)(h:∀t∈tu,TuK t):∃B:List (List Nat),Ans pr 102 [.ag (rlF (rK tu))] (zcm B)/\B.length<=3/\∀b∈B,b.length<=3/\∀i∈b,i<tu.length:=by
 match tu,hn with
 |[],_=>
  exact⟨[],grK0,by simp,by simp⟩
 |[t0],_=>
  obtain⟨hp0,a0,b0,he0,l0,k0⟩ :=h t0 (by simp);obtain⟨x0,y0,z0,hx0,_,_,_⟩ :=zaX _ hp0;obtain⟨v0,w0⟩ :=t0;simp only at he0 hx0;subst he0 hx0;exact⟨[[0]],grK1 a0 b0 x0 y0 z0,by simp,by simp⟩
 |[t0,t1],_=>
  obtain⟨hp0,a0,b0,he0,l0,k0⟩ :=h t0 (by simp);obtain⟨x0,y0,z0,hx0,_,_,_⟩ :=zaX _ hp0;obtain⟨v0,w0⟩ :=t0;simp only at he0 hx0;subst he0 hx0;obtain⟨hp1,a1,b1,he1,l1,k1⟩ :=h t1 (by simp);obtain⟨x1,y1,z1,hx1,_,_,_⟩ :=zaX _ hp1;obtain⟨v1,w1⟩ :=t1;simp only at he1 hx1;subst he1 hx1;have q0:a0=1\/a0=2\/a0=3:=by omega
  have q1:a1=1\/a1=2\/a1=3:=by omega
  rcases q0 with rfl|rfl|rfl<;>rcases q1 with rfl|rfl|rfl
  .exact⟨[[0,1]],zuq b0 x0 y0 z0 b1 x1 y1 z1,by simp,by simp⟩
  .exact⟨[[0],[1]],zut b0 x0 y0 z0 b1 x1 y1 z1,by simp,by simp⟩
  .exact⟨[[0],[1]],zuu b0 x0 y0 z0 b1 x1 y1 z1,by simp,by simp⟩
  .exact⟨[[1],[0]],zDB b0 x0 y0 z0 b1 x1 y1 z1,by simp,by simp⟩
  .exact⟨[[0,1]],zuv b0 x0 y0 z0 b1 x1 y1 z1,by simp,by simp⟩
  .exact⟨[[0],[1]],zuw b0 x0 y0 z0 b1 x1 y1 z1,by simp,by simp⟩
  .exact⟨[[1],[0]],zDD b0 x0 y0 z0 b1 x1 y1 z1,by simp,by simp⟩
  .exact⟨[[1],[0]],zDE b0 x0 y0 z0 b1 x1 y1 z1,by simp,by simp⟩
  .exact⟨[[0,1]],zuy b0 x0 y0 z0 b1 x1 y1 z1,by simp,by simp⟩
 |[t0,t1,t2],_=>
  obtain⟨hp0,a0,b0,he0,l0,k0⟩ :=h t0 (by simp);obtain⟨x0,y0,z0,hx0,_,_,_⟩ :=zaX _ hp0;obtain⟨v0,w0⟩ :=t0;simp only at he0 hx0;subst he0 hx0;obtain⟨hp1,a1,b1,he1,l1,k1⟩ :=h t1 (by simp);obtain⟨x1,y1,z1,hx1,_,_,_⟩ :=zaX _ hp1;obtain⟨v1,w1⟩ :=t1;simp only at he1 hx1;subst he1 hx1;obtain⟨hp2,a2,b2,he2,l2,k2⟩ :=h t2 (by simp);obtain⟨x2,y2,z2,hx2,_,_,_⟩ :=zaX _ hp2;obtain⟨v2,w2⟩ :=t2;simp only at he2 hx2;subst he2 hx2;have q0:a0=1\/a0=2\/a0=3:=by omega
  have q1:a1=1\/a1=2\/a1=3:=by omega
  have q2:a2=1\/a2=2\/a2=3:=by omega
  rcases q0 with rfl|rfl|rfl<;>rcases q1 with rfl|rfl|rfl<;>rcases q2 with rfl|rfl|rfl
  .exact⟨[[0,1,2]],zpi b0 x0 y0 z0 b1 x1 y1 z1 b2 x2 y2 z2,by simp,by simp⟩
  .exact⟨[[0,1],[2]],zpk b0 x0 y0 z0 b1 x1 y1 z1 b2 x2 y2 z2,by simp,by simp⟩
  .exact⟨[[0,1],[2]],zpm b0 x0 y0 z0 b1 x1 y1 z1 b2 x2 y2 z2,by simp,by simp⟩
  .exact⟨[[0,2],[1]],zy4 b0 x0 y0 z0 b1 x1 y1 z1 b2 x2 y2 z2,by simp,by simp⟩
  .exact⟨[[0],[1,2]],zpp b0 x0 y0 z0 b1 x1 y1 z1 b2 x2 y2 z2,by simp,by simp⟩
  .exact⟨[[0],[1],[2]],zpq b0 x0 y0 z0 b1 x1 y1 z1 b2 x2 y2 z2,by simp,by simp⟩
  .exact⟨[[0,2],[1]],zy5 b0 x0 y0 z0 b1 x1 y1 z1 b2 x2 y2 z2,by simp,by simp⟩
  .exact⟨[[0],[2],[1]],zy6 b0 x0 y0 z0 b1 x1 y1 z1 b2 x2 y2 z2,by simp,by simp⟩
  .exact⟨[[0],[1,2]],zpr b0 x0 y0 z0 b1 x1 y1 z1 b2 x2 y2 z2,by simp,by simp⟩
  .exact⟨[[1,2],[0]],zy7 b0 x0 y0 z0 b1 x1 y1 z1 b2 x2 y2 z2,by simp,by simp⟩
  .exact⟨[[1],[0,2]],zy9 b0 x0 y0 z0 b1 x1 y1 z1 b2 x2 y2 z2,by simp,by simp⟩
  .exact⟨[[1],[0],[2]],zza b0 x0 y0 z0 b1 x1 y1 z1 b2 x2 y2 z2,by simp,by simp⟩
  .exact⟨[[2],[0,1]],zzb b0 x0 y0 z0 b1 x1 y1 z1 b2 x2 y2 z2,by simp,by simp⟩
  .exact⟨[[0,1,2]],zpu b0 x0 y0 z0 b1 x1 y1 z1 b2 x2 y2 z2,by simp,by simp⟩
  .exact⟨[[0,1],[2]],zpv b0 x0 y0 z0 b1 x1 y1 z1 b2 x2 y2 z2,by simp,by simp⟩
  .exact⟨[[2],[0],[1]],zzc b0 x0 y0 z0 b1 x1 y1 z1 b2 x2 y2 z2,by simp,by simp⟩
  .exact⟨[[0,2],[1]],zzd b0 x0 y0 z0 b1 x1 y1 z1 b2 x2 y2 z2,by simp,by simp⟩
  .exact⟨[[0],[1,2]],zpx b0 x0 y0 z0 b1 x1 y1 z1 b2 x2 y2 z2,by simp,by simp⟩
  .exact⟨[[1,2],[0]],zze b0 x0 y0 z0 b1 x1 y1 z1 b2 x2 y2 z2,by simp,by simp⟩
  .exact⟨[[1],[2],[0]],zzg b0 x0 y0 z0 b1 x1 y1 z1 b2 x2 y2 z2,by simp,by simp⟩
  .exact⟨[[1],[0,2]],zzh b0 x0 y0 z0 b1 x1 y1 z1 b2 x2 y2 z2,by simp,by simp⟩
  .exact⟨[[2],[1],[0]],zzi b0 x0 y0 z0 b1 x1 y1 z1 b2 x2 y2 z2,by simp,by simp⟩
  .exact⟨[[1,2],[0]],zzj b0 x0 y0 z0 b1 x1 y1 z1 b2 x2 y2 z2,by simp,by simp⟩
  .exact⟨[[1],[0,2]],zzk b0 x0 y0 z0 b1 x1 y1 z1 b2 x2 y2 z2,by simp,by simp⟩
  .exact⟨[[2],[0,1]],zzm b0 x0 y0 z0 b1 x1 y1 z1 b2 x2 y2 z2,by simp,by simp⟩
  .exact⟨[[2],[0,1]],zzo b0 x0 y0 z0 b1 x1 y1 z1 b2 x2 y2 z2,by simp,by simp⟩
  .exact⟨[[0,1,2]],zpy b0 x0 y0 z0 b1 x1 y1 z1 b2 x2 y2 z2,by simp,by simp⟩
 |_::_::_::_::_,h=>exact absurd h (by simp)
theorem okK(tu:List (List Int×List F))(hn:tu.length<=3)(h:∀t∈tu,TuK t):zee SSp PPp (rK tu) where
 co:=rfl
 cc:=rfl
 v:=zgE
 n:=hn
 p:=fun t ht=>(h t ht).1
 c:=fun t ht=>ckK t (h t ht)
 l:=fun t ht=>by obtain⟨_,a,b,he,_,_⟩ :=h t ht;rw[he];simp
 g:=gK tu hn h
 gc:=fun h=>by simp[rK]at h
def coC:F:= .sl 3 [[.s [97],.i .i64 1,.b false],[.s [98],.i .i64 1,.b false]]
def rC(tu:List (List Int×List F)):Rl:=⟨[67],true,coC,tu⟩
def TuC(t:List Int×List F):Prop:=PPp t.2/\∃a b:Int,t.1=[a,b]/\t.2=[.b false,.sl 1 [[.i .u32 1]],.sl 1 [[.i .u32 1]]]
def ckC(t:List Int×List F)(h:TuC t):∃e,Ans pr 97 [.ag [.s [67],.b true,coC],.ag (tuF t)] (.i .i64 e):=by
 obtain⟨hp,a,b,he,_⟩ :=h;obtain⟨vs,p⟩ :=t;simp only at he;subst he;exact allL (P:=fun p=>∃e,Ans pr 97 [.ag [.s [67],.b true,coC],.ag (tuF ([a,b],p))] (.i .i64 e)) (l:=PPl) ⟨⟨_,ctC0 a b⟩,⟨_,ctC1 a b⟩,⟨_,ctC2 a b⟩,⟨_,ctC3 a b⟩,⟨_,ctC4 a b⟩,⟨_,ctC5 a b⟩,⟨_,ctC6 a b⟩,⟨_,ctC7 a b⟩,trivial⟩ p hp
def gC(tu:List (List Int×List F))(hn:tu.length<=3)(h:∀t∈tu,TuC t):∃B:List (List Nat),Ans pr 102 [.ag (rlF (rC tu))] (zcm B)/\B.length<=3/\∀b∈B,b.length<=3/\∀i∈b,i<tu.length:=by
 exact⟨[],grC _,by simp,by simp⟩
theorem okC(tu:List (List Int×List F))(hn:tu.length<=3)(h:∀t∈tu,TuC t):zee SSp PPp (rC tu) where
 co:=rfl
 cc:=rfl
 v:=zgH
 n:=hn
 p:=fun t ht=>(h t ht).1
 c:=fun t ht=>ckC t (h t ht)
 l:=fun t ht=>by obtain⟨_,a,b,he,_⟩ :=h t ht;rw[he];simp
 g:=gC tu hn h
 gc:=fun _=>grC _
end Go.Proofs.YtlinkhjnihjbaaaGreatDoor
end
