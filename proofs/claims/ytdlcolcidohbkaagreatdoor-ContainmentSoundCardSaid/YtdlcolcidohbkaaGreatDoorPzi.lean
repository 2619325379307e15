/- Relations: what is valid; rows; CompareTuples of the reference. -/
import Derived.Test.YtdlcolcidohbkaaGreatDoorPo
import Derived.KernelRfl
import Derived.IntWalk
set_option linter.all false
set_option maxRecDepth 100000
set_option maxHeartbeats 4000000
section
namespace Go.Proofs.YtdlcolcidohbkaaGreatDoor
open Go Go.Vse Go.Vse.Sm
def fn37:pr.fn 37=some g37:=by kernel_rfl
def zfC(l:List Int):(valsF l).d= .f (valsF l):=zeh ..
def ziL(l:List Int):zci (.f (valsF l))=some l.length:=by simp[valsF,zd0]
def zxR(l:List Int)(n:Nat):iaB 3 (.f (valsF l)) n=(l[n]?).map fun v=>D.fptr (Sm.vF v):=by simp[valsF,zeY,Z67]
def Pc(p:List F):Prop:=∃a b c,p=[a,b,c]/\a.d= .f a/\b.d= .f b/\c.d= .f c
def cmpL:List Int->List Int->Int
 |[],[]=>0
 |[],_::_=> -1
 |_::_,[]=>1
 |x::a,y::b=>if x=y then cmpL a b else zaW x y
def zDN(l:List Int):cmpL [] l=if 0<l.length then -1 else 0:=by cases l<;>simp[cmpL]
def zBK(l:List Int):cmpL l []=if 0<l.length then 1 else 0:=by cases l<;>simp[cmpL]
def J37(a b:List Int)(n:Nat)(s:St):Prop:=n<=a.length/\n<=b.length/\(s.tm.get 0=some (.f (valsF a))/\s.tm.get 1=some (.f (valsF b))/\s.tm.get 5=some (.f (.i .i64 n)))/\cmpL a b=cmpL (a.drop n) (b.drop n)
def zn9(a b:List Int)(hl:a.length<1000):Ans pr 37 [valsF a,valsF b] (.i .i64 (cmpL a b)):=by
 refine zcf fn37 ?_;simp only[g37,rU];simp[rW,st0,zak,zfC];refine zcS (fun k s=>∃n:Nat,k=a.length - n/\J37 a b n s) (fun x s=>(x= .ret/\s.tm.get 4=some (.f (.i .i64 (cmpL a b))))\/(x= .exit 0/\∃n:Nat,(n=a.length\/n=b.length)/\J37 a b n s)) ?_ a.length _ ⟨0,rfl,Z61 _,Z61 _,?_,rfl⟩ ?_
 .rintro k s ⟨n,rfl,hn,hn',⟨h0,h1,h5⟩,hA⟩;have hw:=zao n (by omega)
  by_cases hlt:n<a.length
  .by_cases hlt':n<b.length
   .rw[Z55 hlt,Z55 hlt']at hA;simp only[cmpL]at hA;have hx:a[n]? =some a[n]:=Z0 hlt;have hy:b[n]? =some b[n]:=Z0 hlt';generalize hX:a[n]=x at hx hA;generalize hY:b[n]=y at hy hA;have q:=fun k=>zad (k:=k) (ans67 x y)
    simp only[Sm.vF]at q;simp[rW,h0,h1,h5,ziL,hlt,hlt'];refine zaw ?_
    by_cases he:x=y
    .have hz:zaW x y=0:=by simp[zaW,he]
     rw[hz]at q;rw[Z51 he]at hA;simp[rW,h0,h1,h5,zxR,hx,hy,hX,hY,hlt,hlt',Sm.vF,q,hw];rw[zdq];refine⟨a.length - (n+1),by omega,n+1,rfl,by omega,by omega,?_,hA⟩;simp[rW,h0,h1,hw]
    .have hz:zaW x y≠0:=by
      unfold zaW;rw[Z49 he];split<;>decide
     rw[Z49 he]at hA;generalize zaW x y=z at q hz hA;simp[rW,h0,h1,h5,zxR,hx,hy,hX,hY,hlt,hlt',Sm.vF,q,hz];exact hA.symm
   .obtain rfl:n=b.length:=by omega
    simp[rW,h0,h1,h5,ziL,hlt,hlt'];refine .inr ⟨hn,hn',?_,hA⟩;simp[rW,h0,h1,h5]
  .obtain rfl:n=a.length:=by omega
   simp[rW,h0,h1,h5,ziL,hlt];refine .inl ⟨hn,hn',?_,hA⟩;simp[rW,h0,h1,h5]
 .simp[rW]
 .rintro x s (⟨rfl,h4⟩ |⟨rfl,n,he,hn,hn',⟨h0,h1,h5⟩,hA⟩)
  .simp[rW,h4]
  .have hf:cmpL a b=if a.length<b.length then -1 else if b.length<a.length then 1 else 0:=by
    rw[hA];rcases he with rfl|rfl
    .rw[Z206,zDN,List.length_drop]
     by_cases h1:a.length<b.length
     .rw[Z51 (by omega),Z51 h1]
     .rw[Z49 (by omega),Z49 h1,Z49 (by omega)]
    .rw[Z206,zBK,List.length_drop]
     by_cases h1:b.length<a.length
     .rw[Z51 (by omega),Z49 (by omega),Z51 h1]
     .rw[Z49 (by omega),Z49 (by omega),Z49 h1]
   rw[hf]
   by_cases k1:a.length<b.length
   .simp[rW,h0,h1,ziL,k1]
   .by_cases k2:b.length<a.length
    .simp[rW,h0,h1,ziL,k1,k2]
    .simp[rW,h0,h1,ziL,k1,k2]
theorem zkj:∀a b:List Int,cmpL a b=zaH a b
 |[],[]=>rfl
 |[],_::_=>rfl
 |_::_,[]=>rfl
 |x::a,y::b=>by
  simp only[cmpL,zaH]
  by_cases h:x=y
  .rw[Z51 h,Z49 (by simp[zaW,h]),zkj a b]
  .have hz:zaW x y≠0:=by
    unfold zaW;rw[Z49 h];split<;>decide
   rw[Z49 h,Z51 hz]
def fn84:pr.fn 84=some g84:=by kernel_rfl
def fn44:pr.fn 44=some g44:=by kernel_rfl
def fn46:pr.fn 46=some g46:=by kernel_rfl
structure zlG(SS:Nat->List F->Prop)(PP:List F->Prop):Prop where
 z:∃p,SS 0 p/\Ans pr 14 [.i .i64 0] (.ag p)
 pc:∀k p,SS k p->Pc p
 pp:∀p,PP p->Pc p
 add:∀k s p,k<3->SS k s->PP p->∃r,SS (k+1) r/\Ans pr 159 [.ag s,.ag p] (.ag r)
 prob:∀k s,SS k s->∃b,Ans pr 83 [.ag s] (.b b)
 norm:∀p,PP p->Ans pr 87 [.ag p] (.ag p)
def ixF(b:List Nat):F:= .sl 1 (b.map fun i=>[.i .i64 (i:Nat)])
def I73(SS:Nat->List F->Prop)(r:Rl)(b:List Nat)(k:Nat)(s:St):Prop:=
 ∃n:Nat,n<=b.length/\k=b.length - n/\s.tm.get 1=some (.f (ixF b))/\s.tm.get 2=some (.ptr 0 4 0 0)/\s.tm.get 4=some (.ptr 1 3 0 0)/\s.tm.get 5=some (.ptr 2 3 0 0)/\s.tm.get 6=some (.f (.i .i64 n))/\
  s.h.get 0=some (.arr 4 0 [[.f (.s r.nm),.f (.b r.ce),.f r.co,.f (slc 4 (r.tu.map tuF))]])/\s.h.get 1=some (.arr 3 0 [[.f (.b false),.f .nils,.f .nils]])/\3<=s.c/\
  ∃p0 p1 p2:F,SS n [p0,p1,p2]/\s.h.get 2=some (.arr 3 0 [[.f p0,.f p1,.f p2]])
def R73(SS:Nat->List F->Prop)(b:List Nat)(x:Ex)(s:St):Prop:=
 x= .exit 0/\s.tm.get 4=some (.ptr 1 3 0 0)/\s.tm.get 5=some (.ptr 2 3 0 0)/\s.h.get 1=some (.arr 3 0 [[.f (.b false),.f .nils,.f .nils]])/\3<=s.c/\∃p0 p1 p2:F,SS b.length [p0,p1,p2]/\s.h.get 2=some (.arr 3 0 [[.f p0,.f p1,.f p2]])
theorem ans84{SS:Nat->List F->Prop}{PP:List F->Prop}(hS:zlG SS PP)(r:Rl)(hco:r.co.d= .f r.co)(hce:(D.f r.co).cells=some [.f r.co])(hT:∀t∈r.tu,PP t.2)(b:List Nat)(hb:b.length<=3)(hbi:∀i∈b,i<r.tu.length):
  ∃p,SS b.length p/\Ans pr 84 [.ag (rlF r),ixF b] (.ag p):=by
 have main:∃y,(∃p,y= .ag p/\SS b.length p)/\Ans pr 84 [.ag (rlF r),ixF b] y:=by
  refine zrv fn84 ?_;obtain⟨z,hz0,hz⟩ :=hS.z;obtain⟨z0,z1,z2,rfl,hd0,hd1,hd2⟩ :=hS.pc _ _ hz0;have q16:=fun k=>zad (k:=k) hz
  simp only[g84,rU];simp -implicitDefEqProofs [rR,st0,zak,rlF,ixF,hco,q16,hd0,hd1,hd2];refine zcS (I73 SS r b) (R73 SS b) ?_ b.length _ ⟨0,Z61 _,rfl,?_,?_,?_,?_,?_,?_,?_,?_,z0,z1,z2,hz0,?_⟩ ?_
  any_goals (simp -implicitDefEqProofs [rR,zak,ixF];done)
  .rintro k s ⟨n,hn,rfl,h1,h2,h4,h5,h6,g0,g1,hc,p0,p1,p2,hp,g2⟩;have hw:=zao n (by omega);have c0:0<s.c:=by omega
   have c1:1<s.c:=by omega
   have c2:2<s.c:=by omega
   by_cases hlt:n<b.length
   .have hix:=hbi _ (Z1 hlt);have hpt:=hT _ (Z1 hix);obtain⟨x0,x1,x2,hx,_,_,_⟩ :=hS.pp _ hpt;have htu:tuF (r.tu[b[n]])=[valsF (r.tu[b[n]]).1,x0,x1,x2]:=by unfold tuF;rw[hx]
    obtain⟨w,hw1,hw2⟩ :=hS.add n _ _ (by omega) hp hpt;obtain⟨w0,w1,w2,rfl,he0,he1,he2⟩ :=hS.pc _ _ hw1;rw[hx]at hw2;have q113:=fun k=>zad (k:=k) hw2
    simp only[ixF]at h1;simp -implicitDefEqProofs [rR,h1,h2,h4,h5,h6,g0,g1,g2,hlt];refine zaw ?_;simp -implicitDefEqProofs [rR,h1,h2,h4,h5,h6,g0,g1,g2,hlt,hix,htu,q113,he0,he1,he2,c0,c1,c2,hw];rw[zdq];refine⟨b.length - (n+1),by omega,n+1,by omega,rfl,?_,?_,?_,?_,?_,?_,?_,?_,w0,w1,w2,hw1,?_⟩
    all_goals simp -implicitDefEqProofs [rR,h1,h2,h4,h5,h6,g0,g1,g2,ixF,c0,c1,c2,hc]
   .have hnl:n=b.length:=by omega
    subst hnl;simp only[ixF]at h1;simp -implicitDefEqProofs [rR,h1,h6];exact⟨rfl,by simp -implicitDefEqProofs [rR,h4],by simp -implicitDefEqProofs [rR,h5],by simp -implicitDefEqProofs [rR,g1],by simp -implicitDefEqProofs [rR,hc],p0,p1,p2,hp,by simp -implicitDefEqProofs [rR,g2]⟩
  .rintro x s ⟨rfl,h4,h5,g1,hc,p0,p1,p2,hp,g2⟩;have c1:1<s.c:=by omega
   simp -implicitDefEqProofs [rR,h4,h5,g1,g2,c1];exact hp
 obtain⟨y,⟨p,rfl,hp⟩,ha⟩ :=main;exact⟨p,hp,ha⟩
def zcA(B:List (List Nat)):F:=slc 1 (B.map fun b=>[ixF b])
structure zeM(SS:Nat->List F->Prop)(PP:List F->Prop)(r:Rl):Prop where
 co:r.co.d= .f r.co
 cc:(D.f r.co).cells=some [.f r.co]
 v:Ans pr 49 [.ag [.s r.nm,.b r.ce,r.co]] (.b true)
 n:r.tu.length<=3
 p:∀t∈r.tu,PP t.2
 c:∀t∈r.tu,∃e,Ans pr 45 [.ag [.s r.nm,.b r.ce,r.co],.ag (tuF t)] (.i .i64 e)
 l:∀t∈r.tu,t.1.length<10
 g:∃B:List (List Nat),Ans pr 82 [.ag (rlF r)] (zcA B)/\B.length<=3/\∀b∈B,b.length<=3/\∀i∈b,i<r.tu.length
 gc:r.ce=true->Ans pr 82 [.ag (rlF r)] .nils
def zmc(r:Rl)(n:Nat):Prop:=∀m (h:m+1<r.tu.length),m+1<n->cmpL (r.tu[m]).1 (r.tu[m+1]).1<0
def zpW(r:Rl)(b:List Nat):Prop:=∃p,Ans pr 84 [.ag (rlF r),ixF b] (.ag p)/\Ans pr 83 [.ag p] (.b true)
structure Gd(r:Rl):Prop where
 v:Ans pr 44 [.ag (rlF r)] (.i .i64 0)
 s:zmc r r.tu.length
 b:∃B:List (List Nat),Ans pr 82 [.ag (rlF r)] (zcA B)/\(B.length<=3/\∀b∈B,b.length<=3/\∀i∈b,i<r.tu.length)/\∀b∈B,zpW r b
abbrev V2(r:Rl)(s:St):Prop:=s.tm.get 1=some (.ptr 0 4 0 0)/\s.h.get 0=some (.arr 4 0 [[.f (.s r.nm),.f (.b r.ce),.f r.co,.f (slc 4 (r.tu.map tuF))]])/\1<=s.c
def I34(r:Rl)(k:Nat)(s:St):Prop:=∃n:Nat,n<=r.tu.length/\k=r.tu.length - n/\V2 r s/\s.tm.get 3=some (.f (.i .i64 n))/\zmc r n
def R34(r:Rl)(x:Ex)(s:St):Prop:=(x= .exit 0/\V2 r s/\zmc r r.tu.length)\/(x= .ret/\∃e,e≠0/\s.tm.get 2=some (.f (.i .i64 e)))
def J34(r:Rl)(B:List (List Nat))(k:Nat)(s:St):Prop:=∃n:Nat,n<=B.length/\k=B.length - n/\V2 r s/\s.tm.get 6=some (.f (zcA B))/\s.tm.get 7=some (.f (.i .i64 n))
def S34(r:Rl)(B:List (List Nat))(x:Ex)(s:St):Prop:=x= .exit 3/\V2 r s/\s.tm.get 6=some (.f (zcA B))
def K34(r:Rl)(B:List (List Nat))(k:Nat)(s:St):Prop:=∃n:Nat,n<=B.length/\k=B.length - n/\V2 r s/\s.tm.get 6=some (.f (zcA B))/\s.tm.get 8=some (.f (.i .i64 n))/\∀b∈B.take n,zpW r b
def T34(r:Rl)(B:List (List Nat))(x:Ex)(s:St):Prop:=(x= .exit 5/\∀b∈B,zpW r b)\/(x= .ret/\∃e,e≠0/\s.tm.get 2=some (.f (.i .i64 e)))
def zpu(b:List Nat):(ixF b).d= .f (ixF b):=rfl
def zlT(b:List Nat):zci (.f (ixF b))=some b.length:=by simp[ixF,zci]
def zGj(B:List (List Nat)):(zcA B).d= .f (zcA B):=zeh ..
def zgr(B:List (List Nat)):zci (.f (zcA B))=some B.length:=by simp[zcA,zd0]
def zno(B:List (List Nat))(n:Nat):iaB 1 (.f (zcA B)) n=(B[n]?).map fun b=>D.fptr [ixF b]:=by simp[zcA,zeY,Z67]
def EP(r:Rl)(B:List (List Nat))(y:F):Prop:=∃e,y= .i .i64 e/\(e=0->zmc r r.tu.length/\∀b∈B,zpW r b)
def zjq{SS:Nat->List F->Prop}{PP:List F->Prop}(hS:zlG SS PP)(r:Rl)(hr:zeM SS PP r):∃e,(e=0->Gd r)/\Ans pr 44 [.ag (rlF r)] (.i .i64 e):=by
 obtain⟨B,hB,hBn,hBb⟩ :=hr.g;have main:∃y,EP r B y/\Ans pr 44 [.ag (rlF r)] y:=by
  refine zrv fn44 ?_;have hB0:=hB;have hnT:=hr.n;have hco:=hr.co;have q70:=fun k=>zad (k:=k) hr.v
  simp only[rlF]at hB;have q71:=fun k=>zad (k:=k) hB
  have h64:¬((64:Int)< (r.tu.length:Int)):=by omega
  simp only[g44,rU];simp -implicitDefEqProofs [rR,st0,zak,rlF,hco,q70,h64];refine zcS (I34 r) (R34 r) ?_ r.tu.length _ ⟨0,Z61 _,rfl,⟨?_,?_,?_⟩,?_,fun m h h2=>by omega⟩ ?_
  any_goals (simp -implicitDefEqProofs [rR,zak];done)
  .rintro k s ⟨n,hn,rfl,⟨h1,g0,hc⟩,h3,hsr⟩;have hw:=zao n (by omega);have c0:0<s.c:=by omega
   by_cases hlt:n<r.tu.length
   .obtain⟨e,he⟩ :=hr.c _ (Z1 hlt);obtain⟨x0,x1,x2,hx,hd0,hd1,hd2⟩ :=hS.pp _ (hr.p _ (Z1 hlt));have htu:tuF (r.tu[n])=[valsF (r.tu[n]).1,x0,x1,x2]:=by unfold tuF;rw[hx]
    rw[htu]at he;have q44:=fun k=>zad (k:=k) he
    by_cases he0:e=0
    .subst he0;cases n with
     |zero=>
      have hw01:IntKind.i64.wrap 1=1:=by decide
      simp -implicitDefEqProofs [rR,h1,g0,h3,hlt];refine zaw ?_;simp -implicitDefEqProofs [rR,h1,g0,h3,hlt,htu,hco,zfC,hd0,hd1,hd2,q44,hw01];rw[zdq];refine⟨r.tu.length - 1,by omega,1,by omega,rfl,⟨?_,?_,?_⟩,?_,fun m h h2=>by omega⟩
      all_goals simp -implicitDefEqProofs [rR,h1,g0,hc]
     |succ m=>
      have hwm:IntKind.i64.wrap (m:Int)=(m:Int):=wrap_i64 _ (by omega) (by omega);have hwm2:IntKind.i64.wrap ((m:Int)+1+1)=((m+2:Nat):Int):=wrap_i64 _ (by omega) (by omega);have hltI:(m:Int)+1<r.tu.length:=by omega
      have hltm:m<r.tu.length:=by omega
      have hne0:¬((m:Int)+1=0):=by omega
      have hp0:(0:Int)<=(m:Int)+1:=by omega
      have h25:=zn9 (r.tu[m]).1 (r.tu[m+1]).1 (by have:=hr.l _ (Z1 hltm);omega);obtain⟨y0,y1,y2,hy,_,_,_⟩ :=hS.pp _ (hr.p _ (Z1 hltm));have htum:tuF (r.tu[m])=[valsF (r.tu[m]).1,y0,y1,y2]:=by unfold tuF;rw[hy]
      have q46:=fun k=>zad (k:=k) h25
      obtain⟨z,hz⟩ :∃z,z=cmpL (r.tu[m]).1 (r.tu[m+1]).1:=⟨_,rfl⟩
      rw[<-hz]at q46
      by_cases k0:z=0
      .simp -implicitDefEqProofs [rR,h1,g0,h3,hltI];refine zaw ?_;simp -implicitDefEqProofs [rR,h1,g0,h3,hlt,hltI,hltm,hp0,htu,htum,hco,zfC,hd0,hd1,hd2,q44,hne0];refine zaw ?_;simp -implicitDefEqProofs [rR,h1,g0,h3,hlt,hltI,hltm,hp0,htu,htum,hco,zfC,hd0,hd1,hd2,hwm,q46,k0];exact .inr ⟨rfl,8,by decide,by simp -implicitDefEqProofs [rR,h1]⟩
      .by_cases k1:0<z
       .simp -implicitDefEqProofs [rR,h1,g0,h3,hltI];refine zaw ?_;simp -implicitDefEqProofs [rR,h1,g0,h3,hlt,hltI,hltm,hp0,htu,htum,hco,zfC,hd0,hd1,hd2,q44,hne0];refine zaw ?_;simp -implicitDefEqProofs [rR,h1,g0,h3,hlt,hltI,hltm,hp0,htu,htum,hco,zfC,hd0,hd1,hd2,hwm,q46,k0,k1];exact .inr ⟨rfl,1,by decide,by simp -implicitDefEqProofs [rR,h1]⟩
       .simp -implicitDefEqProofs [rR,h1,g0,h3,hltI];refine zaw ?_;simp -implicitDefEqProofs [rR,h1,g0,h3,hlt,hltI,hltm,hp0,htu,htum,hco,zfC,hd0,hd1,hd2,q44,hne0];refine zaw ?_;simp -implicitDefEqProofs [rR,h1,g0,h3,hlt,hltI,hltm,hp0,htu,htum,hco,zfC,hd0,hd1,hd2,hwm,q46,k0,k1,hwm2];rw[zdq];refine⟨r.tu.length - (m+2),by omega,m+2,by omega,rfl,⟨?_,?_,?_⟩,?_,fun j h h2=>by
         by_cases hj:j=m
         .subst hj;omega
         .exact hsr j h (by omega)⟩
        all_goals simp -implicitDefEqProofs [rR,h1,g0,hc]
        all_goals omega
    .simp -implicitDefEqProofs [rR,h1,g0,h3,hlt];refine zaw ?_;simp -implicitDefEqProofs [rR,h1,g0,h3,hlt,htu,hco,zfC,hd0,hd1,hd2,q44,he0];exact .inr ⟨rfl,e,he0,by simp -implicitDefEqProofs [rR,h1]⟩
   .simp -implicitDefEqProofs [rR,h1,g0,h3,hlt];exact .inl ⟨rfl,⟨by simp -implicitDefEqProofs [rR,h1],by simp -implicitDefEqProofs [rR,g0],by simp -implicitDefEqProofs [rR,hc]⟩,fun m h h2=>hsr m h (by omega)⟩
  .rintro x s (⟨rfl,⟨h1,g0,hc⟩,hsr⟩ |⟨rfl,e,he,h2⟩)
   .have c0:0<s.c:=by omega
    simp -implicitDefEqProofs [rR,h1,g0,hco,q71,zGj];refine zcS (J34 r B) (S34 r B) ?_ B.length _ ⟨0,Z61 _,rfl,⟨?_,?_,?_⟩,?_,?_⟩ ?_
    any_goals (simp -implicitDefEqProofs [rR,h1,g0,hc];done)
    .rintro k s ⟨n,hn,rfl,⟨h1,g0,hc⟩,h6,h7⟩;have hw:=zao n (by omega)
     by_cases hlt:n<B.length
     .have hbl:=(hBb _ (Z1 hlt)).1;have h16:¬((16:Int)< ((B[n]).length:Int)):=by omega
      simp -implicitDefEqProofs [rR,h1,g0,h6,h7,hlt,zgr,zno,zlT,zpu,h16,hw];rw[zdq];refine⟨B.length - (n+1),by omega,n+1,by omega,rfl,⟨?_,?_,?_⟩,?_,?_⟩
      all_goals simp -implicitDefEqProofs [rR,h1,g0,hc,h6]
     .simp -implicitDefEqProofs [rR,h1,g0,h6,h7,hlt,zgr];exact⟨rfl,⟨by simp -implicitDefEqProofs [rR,h1],by simp -implicitDefEqProofs [rR,g0],by simp -implicitDefEqProofs [rR,hc]⟩,by simp -implicitDefEqProofs [rR,h6]⟩
    .rintro x s ⟨rfl,⟨h1,g0,hc⟩,h6⟩;simp -implicitDefEqProofs [rR,h1,g0,h6];refine zcS (K34 r B) (T34 r B) ?_ B.length _ ⟨0,Z61 _,rfl,⟨?_,?_,?_⟩,?_,?_,by simp⟩ ?_
     any_goals (simp -implicitDefEqProofs [rR,h1,g0,hc,h6];done)
     .rintro k s ⟨n,hn,rfl,⟨h1,g0,hc⟩,h6,h8,hso⟩;have hw:=zao n (by omega);have c0:0<s.c:=by omega
      by_cases hlt:n<B.length
      .obtain⟨hbl,hbi⟩ :=hBb _ (Z1 hlt);obtain⟨p,hp,h73⟩ :=ans84 hS r hr.co hr.cc hr.p (B[n]) hbl hbi;obtain⟨b,h72⟩ :=hS.prob _ _ hp;obtain⟨w0,w1,w2,rfl,he0,he1,he2⟩ :=hS.pc _ _ hp;have h73k:=h73;have hso1:∀b2,Ans pr 83 [.ag [w0,w1,w2]] (.b b2)->b2=true->∀c∈B.take (n+1),zpW r c:=fun b2 hb2 e c hcm=>by
        subst e;rw[Z105,Z0 hlt]at hcm;rcases Z4.1 hcm with h|h
        .exact hso c h
        .have:c=B[n]:=by simpa using h
         rw[this];exact⟨_,h73k,hb2⟩
       simp only[rlF]at h73;have q73:=fun k=>zad (k:=k) h73
       have q72:=fun k=>zad (k:=k) h72
       cases b with
       |true=>
        simp -implicitDefEqProofs [rR,h1,g0,h6,h8,hlt,zgr];refine zaw ?_;simp -implicitDefEqProofs [rR,h1,g0,h6,h8,hlt,zno,zpu,hco,q73,q72,he0,he1,he2,hw,c0];rw[zdq];refine⟨B.length - (n+1),by omega,n+1,by omega,rfl,⟨?_,?_,?_⟩,?_,?_,hso1 _ h72 rfl⟩
        all_goals simp -implicitDefEqProofs [rR,h1,g0,hc,h6]
       |false=>
        simp -implicitDefEqProofs [rR,h1,g0,h6,h8,hlt,zgr];refine zaw ?_;simp -implicitDefEqProofs [rR,h1,g0,h6,h8,hlt,zno,zpu,hco,q73,q72,he0,he1,he2,hw,c0];exact .inr ⟨rfl,19,by decide,by simp -implicitDefEqProofs [rR,h1]⟩
      .simp -implicitDefEqProofs [rR,h1,g0,h6,h8,hlt,zgr];exact .inl ⟨rfl,fun b hb=>hso b (by rw[Z11 (by omega)];exact hb)⟩
     .rintro x s (⟨rfl,hall⟩ |⟨rfl,e,he,h2⟩)
      .simp -implicitDefEqProofs [rR,h1];exact⟨_,rfl,fun _=>⟨hsr,hall⟩⟩
      .simp -implicitDefEqProofs [rR,h2];exact⟨_,rfl,fun e0=>absurd e0 he⟩
   .simp -implicitDefEqProofs [rR,h2];exact⟨e,rfl,fun e0=>absurd e0 he⟩
 obtain⟨y,⟨e,rfl,hg⟩,ha⟩ :=main;exact⟨e,fun e0=>by subst e0;exact⟨ha,(hg rfl).1,B,hB,⟨hBn,hBb⟩,(hg rfl).2⟩,ha⟩
def fn47:pr.fn 47=some g47:=by kernel_rfl
def I36(r:Rl)(vs:List Int)(k:Nat)(s:St):Prop:=∃n:Nat,n<=r.tu.length/\k=r.tu.length - n/\s.tm.get 1=some (.f (valsF vs))/\s.tm.get 2=some (.ptr 0 4 0 0)/\s.h.get 0=some (.arr 4 0 [[.f (.s r.nm),.f (.b r.ce),.f r.co,.f (slc 4 (r.tu.map tuF))]])/\
 s.tm.get 6=some (.f (.i .i64 n))
def R36(x:Ex)(s:St):Prop:=x= .exit 0\/(x= .ret/\∃i:Nat,s.tm.get 4=some (.f (.i .i64 i))/\s.tm.get 5=some (.f (.b true)))
def zLh(y:F):Prop:=∃i b,y= .tu [.i .i64 i,.b b]
def zyt{SS:Nat->List F->Prop}{PP:List F->Prop}(hS:zlG SS PP)(r:Rl)(hr:zeM SS PP r)(vs:List Int):∃i b,Ans pr 46 [.ag (rlF r),valsF vs] (.tu [.i .i64 i,.b b]):=by
 have main:∃y,zLh y/\Ans pr 46 [.ag (rlF r),valsF vs] y:=by
  refine zrv fn46 ?_;have hnT:=hr.n;have hco:=hr.co;simp only[g46,rU];simp -implicitDefEqProofs [rR,st0,zak,rlF,hco,zfC];refine zcS (I36 r vs) R36 ?_ r.tu.length _ ⟨0,Z61 _,rfl,?_,?_,?_,?_⟩ ?_
  any_goals (simp -implicitDefEqProofs [rR,zak];done)
  .rintro k s ⟨n,hn,rfl,h1,h2,g0,h6⟩;have hw:=zao n (by omega)
   by_cases hlt:n<r.tu.length
   .obtain⟨x0,x1,x2,hx,hd0,hd1,hd2⟩ :=hS.pp _ (hr.p _ (Z1 hlt));have htu:tuF (r.tu[n])=[valsF (r.tu[n]).1,x0,x1,x2]:=by unfold tuF;rw[hx]
    have h25:=zn9 (r.tu[n]).1 vs (by have:=hr.l _ (Z1 hlt);omega);have q25:=fun k=>zad (k:=k) h25
    by_cases k0:cmpL (r.tu[n]).1 vs=0
    .rw[k0]at q25;simp -implicitDefEqProofs [rR,h1,h2,g0,h6,hlt,htu,q25];exact .inr ⟨rfl,n,by simp -implicitDefEqProofs [rR,h1],by simp -implicitDefEqProofs [rR,h1]⟩
    .simp -implicitDefEqProofs [rR,h1,h2,g0,h6,hlt,htu,q25,k0,hw];rw[zdq];refine⟨r.tu.length - (n+1),by omega,n+1,by omega,rfl,?_,?_,?_,?_⟩
     all_goals simp -implicitDefEqProofs [rR,h1,h2,g0]
   .simp -implicitDefEqProofs [rR,h1,h2,g0,h6,hlt];exact .inl rfl
  .rintro x s (rfl|⟨rfl,i,h4,h5⟩)
   .simp -implicitDefEqProofs [rR,st0];exact⟨_,_,rfl⟩
   .simp -implicitDefEqProofs [rR,h4,h5];exact⟨_,_,rfl⟩
 obtain⟨y,⟨i,b,rfl⟩,ha⟩ :=main;exact⟨i,b,ha⟩
def zoa{SS:Nat->List F->Prop}{PP:List F->Prop}(hS:zlG SS PP)(r:Rl)(hr:zeM SS PP r):Ans pr 47 [.ag (rlF r)] (.ag (rlF r)):=by
 refine zcf fn47 ?_;have hnT:=hr.n;have hco:=hr.co;have hcc:=hr.cc;have hp:=hr.p;have hw1:IntKind.i64.wrap 1=1:=by decide
 have hw2:IntKind.i64.wrap 2=2:=by decide
 have hw3:IntKind.i64.wrap 3=3:=by decide
 simp only[g47,rU];unfold rlF;generalize r.tu=TT at hnT hp;have zz:=And.intro hco (And.intro hcc (And.intro zfC (And.intro hw1 (And.intro hw2 (And.intro hw3 (qI @zcL (@leF)))))))
 match TT,hnT with
 |[],_=>
  simp -implicitDefEqProofs [rR,st0,zak,hco,hcc,Z85,zbr];refine round ?_;simp -implicitDefEqProofs [rR,hco,hcc]
 |[t0],_=>
  have hp0:=hp t0 (by simp);obtain⟨x00,x01,x02,hx0,hd00,hd01,hd02⟩ :=hS.pp _ hp0;have hn0:=hS.norm _ hp0;rw[hx0]at hn0;have q0:=fun k=>zad (k:=k) hn0
  have htu0:tuF t0=[valsF t0.1,x00,x01,x02]:=by unfold tuF;rw[hx0]
  have hcv0:(D.f (valsF t0.1)).cells=some [.f (valsF t0.1)]:=zcF ..;simp -implicitDefEqProofs [rR,st0,zak,hco,hcc,Z10,Z85,zaV,htu0];refine round ?_;simp -implicitDefEqProofs [rR,zz,hd00,hd01,hd02,q0,hcv0];refine zaw ?_;simp -implicitDefEqProofs [rR,zz,hd00,hd01,hd02,q0,hcv0];refine round ?_;simp -implicitDefEqProofs [rR,zz,hd00,hd01,hd02,q0,hcv0]
 |[t0,t1],_=>
  have hp0:=hp t0 (by simp);obtain⟨x00,x01,x02,hx0,hd00,hd01,hd02⟩ :=hS.pp _ hp0;have hn0:=hS.norm _ hp0;rw[hx0]at hn0;have q0:=fun k=>zad (k:=k) hn0
  have htu0:tuF t0=[valsF t0.1,x00,x01,x02]:=by unfold tuF;rw[hx0]
  have hcv0:(D.f (valsF t0.1)).cells=some [.f (valsF t0.1)]:=zcF ..;have hp1:=hp t1 (by simp);obtain⟨x10,x11,x12,hx1,hd10,hd11,hd12⟩ :=hS.pp _ hp1;have hn1:=hS.norm _ hp1;rw[hx1]at hn1;have q1:=fun k=>zad (k:=k) hn1
  have htu1:tuF t1=[valsF t1.1,x10,x11,x12]:=by unfold tuF;rw[hx1]
  have hcv1:(D.f (valsF t1.1)).cells=some [.f (valsF t1.1)]:=zcF ..;simp -implicitDefEqProofs [rR,st0,zak,hco,hcc,Z10,Z85,zaV,htu0,htu1];refine round ?_;simp -implicitDefEqProofs [rR,zz,hd00,hd01,hd02,q0,hcv0,hd10,hd11,hd12,q1,hcv1];refine zaw ?_;simp -implicitDefEqProofs [rR,zz,hd00,hd01,hd02,q0,hcv0,hd10,hd11,hd12,q1,hcv1];refine round ?_;simp -implicitDefEqProofs [rR,zz,hd00,hd01,hd02,q0,hcv0,hd10,hd11,hd12,q1,hcv1];refine zaw ?_;simp -implicitDefEqProofs [rR,zz,hd00,hd01,hd02,q0,hcv0,hd10,hd11,hd12,q1,hcv1];refine round ?_;simp -implicitDefEqProofs [rR,zz,hd00,hd01,hd02,q0,hcv0,hd10,hd11,hd12,q1,hcv1]
 |[t0,t1,t2],_=>
  have hp0:=hp t0 (by simp);obtain⟨x00,x01,x02,hx0,hd00,hd01,hd02⟩ :=hS.pp _ hp0;have hn0:=hS.norm _ hp0;rw[hx0]at hn0;have q0:=fun k=>zad (k:=k) hn0
  have htu0:tuF t0=[valsF t0.1,x00,x01,x02]:=by unfold tuF;rw[hx0]
  have hcv0:(D.f (valsF t0.1)).cells=some [.f (valsF t0.1)]:=zcF ..;have hp1:=hp t1 (by simp);obtain⟨x10,x11,x12,hx1,hd10,hd11,hd12⟩ :=hS.pp _ hp1;have hn1:=hS.norm _ hp1;rw[hx1]at hn1;have q1:=fun k=>zad (k:=k) hn1
  have htu1:tuF t1=[valsF t1.1,x10,x11,x12]:=by unfold tuF;rw[hx1]
  have hcv1:(D.f (valsF t1.1)).cells=some [.f (valsF t1.1)]:=zcF ..;have hp2:=hp t2 (by simp);obtain⟨x20,x21,x22,hx2,hd20,hd21,hd22⟩ :=hS.pp _ hp2;have hn2:=hS.norm _ hp2;rw[hx2]at hn2;have q2:=fun k=>zad (k:=k) hn2
  have htu2:tuF t2=[valsF t2.1,x20,x21,x22]:=by unfold tuF;rw[hx2]
  have hcv2:(D.f (valsF t2.1)).cells=some [.f (valsF t2.1)]:=zcF ..;simp -implicitDefEqProofs [rR,st0,zak,hco,hcc,Z10,Z85,zaV,htu0,htu1,htu2];refine round ?_;simp -implicitDefEqProofs [rR,zz,hd00,hd01,hd02,q0,hcv0,hd10,hd11,hd12,q1,hcv1,hd20,hd21,hd22,q2,hcv2];refine zaw ?_;simp -implicitDefEqProofs [rR,zz,hd00,hd01,hd02,q0,hcv0,hd10,hd11,hd12,q1,hcv1,hd20,hd21,hd22,q2,hcv2];refine round ?_;simp -implicitDefEqProofs [rR,zz,hd00,hd01,hd02,q0,hcv0,hd10,hd11,hd12,q1,hcv1,hd20,hd21,hd22,q2,hcv2];refine zaw ?_;simp -implicitDefEqProofs [rR,zz,hd00,hd01,hd02,q0,hcv0,hd10,hd11,hd12,q1,hcv1,hd20,hd21,hd22,q2,hcv2];refine round ?_;simp -implicitDefEqProofs [rR,zz,hd00,hd01,hd02,q0,hcv0,hd10,hd11,hd12,q1,hcv1,hd20,hd21,hd22,q2,hcv2];refine zaw ?_;simp -implicitDefEqProofs [rR,zz,hd00,hd01,hd02,q0,hcv0,hd10,hd11,hd12,q1,hcv1,hd20,hd21,hd22,q2,hcv2];refine round ?_;simp -implicitDefEqProofs [rR,zz,hd00,hd01,hd02,q0,hcv0,hd10,hd11,hd12,q1,hcv1,hd20,hd21,hd22,q2,hcv2]
 |_::_::_::_::_,h=>exact absurd h (by simp)
def fn16:pr.fn 16=some g16:=by kernel_rfl
def zRl:List F:=[.s [],.b false,.nils,.nils]
def IsIns(nm:Str)(ce:Bool)(co:F)(tu:List (List Int×List F))(t:List Int×List F)(y:F):Prop:=
 (∃e:Int,e≠0/\y= .tu [.ag zRl,.i .i64 e])\/∃n:Nat,n<=tu.length/\Gd ⟨nm,ce,co,tu.take n++t::tu.drop n⟩/\y= .tu [.ag (rlF ⟨nm,ce,co,tu.take n++t::tu.drop n⟩),.i .i64 0]
theorem zs5{SS:Nat->List F->Prop}{PP:List F->Prop}(hS:zlG SS PP)(nm:Str)(ce:Bool)(co:F)(tu:List (List Int×List F))(hr:zeM SS PP ⟨nm,ce,co,tu⟩)(hn2:tu.length<=2)(t:List Int×List F)(ht:PP t.2)
  (hct:∃e,Ans pr 45 [.ag [.s nm,.b ce,co],.ag (tuF t)] (.i .i64 e))
  (hout:∀n,n<=tu.length->zeM SS PP ⟨nm,ce,co,tu.take n++t::tu.drop n⟩):∃y,IsIns nm ce co tu t y/\Ans pr 16 [.ag (rlF ⟨nm,ce,co,tu⟩),.ag (tuF t)] y:=by
 refine zrv fn16 ?_;have hco:=hr.co;have hcc:=hr.cc;have hw1:IntKind.i64.wrap 1=1:=by decide
 have hw2:IntKind.i64.wrap 2=2:=by decide
 have hw3:IntKind.i64.wrap 3=3:=by decide
 obtain⟨x0,x1,x2,hx,hd0,hd1,hd2⟩ :=hS.pp _ ht;have htu:tuF t=[valsF t.1,x0,x1,x2]:=by unfold tuF;rw[hx]
 have hcv:(D.f (valsF t.1)).cells=some [.f (valsF t.1)]:=zcF ..;obtain⟨e2,h35⟩ :=hct;rw[htu]at h35;have q35:=fun k=>zad (k:=k) h35
 simp only[g16,rU];have zz:=And.intro hco (And.intro hcc (And.intro zfC (And.intro hw1 (And.intro hw2 (And.intro hw3 (qI @zcL (qI @leF (And.intro hd0 (And.intro hd1 (And.intro hd2 (hcv)))))))))))
 match tu,hn2 with
 |[],_=>
  obtain⟨e1,-,h34⟩ :=zjq hS _ hr;obtain⟨i6,b6,h36⟩ :=zyt hS _ hr t.1;have ho0:zeM SS PP ⟨nm,ce,co,[t]⟩ :=by simpa using hout 0 (by simp)
  obtain⟨f0,gd0,g0⟩ :=zjq hS _ ho0;have c0:=zoa hS _ ho0;simp only[rlF,Z10,Z85,zaV,zbr,htu]at h34 h36 g0 c0;have q34:=fun k=>zad (k:=k) h34
  have q36:=fun k=>zad (k:=k) h36
  have qg0:=fun k=>zad (k:=k) g0
  have qc0:=fun k=>zad (k:=k) c0
  by_cases he1:e1=0
  rotate_left
  .simp -implicitDefEqProofs [rR,st0,zak,rlF,Z10,Z85,zaV,zbr,htu,q34,he1,zz];exact .inl ⟨_,he1,rfl⟩
  subst he1
  by_cases he2:e2=0
  rotate_left
  .simp -implicitDefEqProofs [rR,st0,zak,rlF,Z10,Z85,zaV,zbr,htu,q34,q35,he2,zz];exact .inl ⟨_,he2,rfl⟩
  subst he2;cases b6 with
  |true=>
   simp -implicitDefEqProofs [rR,st0,zak,rlF,Z10,Z85,zaV,zbr,htu,q34,q35,q36,zz];exact .inl ⟨_,by decide,rfl⟩
  |false=>
   simp -implicitDefEqProofs [rR,st0,zak,rlF,Z10,Z85,zaV,zbr,htu,q34,q35,q36,zz];refine round ?_;simp -implicitDefEqProofs [rR,zz];refine zaw ?_;simp -implicitDefEqProofs [rR,zz];refine zaw ?_
   by_cases hf:f0=0
   .subst hf;simp -implicitDefEqProofs [rR,zz,qg0,qc0];exact .inr ⟨0,by simp,by simpa using gd0 rfl,by simp[rlF,Z10,Z85,zaV,zbr,htu]⟩
   .simp -implicitDefEqProofs [rR,zz,qg0,hf];exact .inl ⟨_,hf,rfl⟩
 |[a0],_=>
  obtain⟨e1,-,h34⟩ :=zjq hS _ hr;obtain⟨i6,b6,h36⟩ :=zyt hS _ hr t.1;obtain⟨x00,x01,x02,hx0,hd00,hd01,hd02⟩ :=hS.pp _ (hr.p a0 (by simp));have htu0:tuF a0=[valsF a0.1,x00,x01,x02]:=by unfold tuF;rw[hx0]
  have hcv0:(D.f (valsF a0.1)).cells=some [.f (valsF a0.1)]:=zcF ..;have h25_0:=zn9 a0.1 t.1 (by have:=hr.l a0 (by simp);omega);have q25Q0:=fun k=>zad (k:=k) h25_0
  have ho0:zeM SS PP ⟨nm,ce,co,[t,a0]⟩ :=by simpa using hout 0 (by simp)
  obtain⟨f0,gd0,g0⟩ :=zjq hS _ ho0;have c0:=zoa hS _ ho0;have ho1:zeM SS PP ⟨nm,ce,co,[a0,t]⟩ :=by simpa using hout 1 (by simp)
  obtain⟨f1,gd1,g1⟩ :=zjq hS _ ho1;have c1:=zoa hS _ ho1;simp only[rlF,Z10,Z85,zaV,zbr,htu,htu0]at h34 h36 g0 c0 g1 c1;have q34:=fun k=>zad (k:=k) h34
  have q36:=fun k=>zad (k:=k) h36
  have qg0:=fun k=>zad (k:=k) g0
  have qc0:=fun k=>zad (k:=k) c0
  have qg1:=fun k=>zad (k:=k) g1
  have qc1:=fun k=>zad (k:=k) c1
  by_cases he1:e1=0
  rotate_left
  .simp -implicitDefEqProofs [rR,st0,zak,rlF,Z10,Z85,zaV,zbr,htu,htu0,q34,he1,zz,hd00,hd01,hd02,hcv0];exact .inl ⟨_,he1,rfl⟩
  subst he1
  by_cases he2:e2=0
  rotate_left
  .simp -implicitDefEqProofs [rR,st0,zak,rlF,Z10,Z85,zaV,zbr,htu,htu0,q34,q35,he2,zz,hd00,hd01,hd02,hcv0];exact .inl ⟨_,he2,rfl⟩
  subst he2;cases b6 with
  |true=>
   simp -implicitDefEqProofs [rR,st0,zak,rlF,Z10,Z85,zaV,zbr,htu,htu0,q34,q35,q36,zz,hd00,hd01,hd02,hcv0];exact .inl ⟨_,by decide,rfl⟩
  |false=>
   simp -implicitDefEqProofs [rR,st0,zak,rlF,Z10,Z85,zaV,zbr,htu,htu0,q34,q35,q36,zz,hd00,hd01,hd02,hcv0];refine round ?_;simp -implicitDefEqProofs [rR,zz,hd00,hd01,hd02,hcv0];refine zaw ?_
   by_cases k0:cmpL a0.1 t.1<0
   .simp -implicitDefEqProofs [rR,zz,hd00,hd01,hd02,hcv0,q25Q0,k0];refine round ?_;simp -implicitDefEqProofs [rR,zz,hd00,hd01,hd02,hcv0];refine zaw ?_;simp -implicitDefEqProofs [rR,zz,hd00,hd01,hd02,hcv0];refine zaw ?_
    by_cases hf:f1=0
    .subst hf;simp -implicitDefEqProofs [rR,zz,hd00,hd01,hd02,hcv0,qg1,qc1];exact .inr ⟨1,by simp,by simpa using gd1 rfl,by simp[rlF,Z10,Z85,zaV,zbr,htu,htu0]⟩
    .simp -implicitDefEqProofs [rR,zz,hd00,hd01,hd02,hcv0,qg1,hf];exact .inl ⟨_,hf,rfl⟩
   .simp -implicitDefEqProofs [rR,zz,hd00,hd01,hd02,hcv0,q25Q0,k0];refine zaw ?_
    by_cases hf:f0=0
    .subst hf;simp -implicitDefEqProofs [rR,zz,hd00,hd01,hd02,hcv0,qg0,qc0];exact .inr ⟨0,by simp,by simpa using gd0 rfl,by simp[rlF,Z10,Z85,zaV,zbr,htu,htu0]⟩
    .simp -implicitDefEqProofs [rR,zz,hd00,hd01,hd02,hcv0,qg0,hf];exact .inl ⟨_,hf,rfl⟩
 |[a0,a1],_=>
  obtain⟨e1,-,h34⟩ :=zjq hS _ hr;obtain⟨i6,b6,h36⟩ :=zyt hS _ hr t.1;obtain⟨x00,x01,x02,hx0,hd00,hd01,hd02⟩ :=hS.pp _ (hr.p a0 (by simp));have htu0:tuF a0=[valsF a0.1,x00,x01,x02]:=by unfold tuF;rw[hx0]
  have hcv0:(D.f (valsF a0.1)).cells=some [.f (valsF a0.1)]:=zcF ..;have h25_0:=zn9 a0.1 t.1 (by have:=hr.l a0 (by simp);omega);have q25Q0:=fun k=>zad (k:=k) h25_0
  obtain⟨x10,x11,x12,hx1,hd10,hd11,hd12⟩ :=hS.pp _ (hr.p a1 (by simp));have htu1:tuF a1=[valsF a1.1,x10,x11,x12]:=by unfold tuF;rw[hx1]
  have hcv1:(D.f (valsF a1.1)).cells=some [.f (valsF a1.1)]:=zcF ..;have h25_1:=zn9 a1.1 t.1 (by have:=hr.l a1 (by simp);omega);have q25Q1:=fun k=>zad (k:=k) h25_1
  have ho0:zeM SS PP ⟨nm,ce,co,[t,a0,a1]⟩ :=by simpa using hout 0 (by simp)
  obtain⟨f0,gd0,g0⟩ :=zjq hS _ ho0;have c0:=zoa hS _ ho0;have ho1:zeM SS PP ⟨nm,ce,co,[a0,t,a1]⟩ :=by simpa using hout 1 (by simp)
  obtain⟨f1,gd1,g1⟩ :=zjq hS _ ho1;have c1:=zoa hS _ ho1;have ho2:zeM SS PP ⟨nm,ce,co,[a0,a1,t]⟩ :=by simpa using hout 2 (by simp)
  obtain⟨f2,gd2,g2⟩ :=zjq hS _ ho2;have c2:=zoa hS _ ho2;simp only[rlF,Z10,Z85,zaV,zbr,htu,htu0,htu1]at h34 h36 g0 c0 g1 c1 g2 c2;have q34:=fun k=>zad (k:=k) h34
  have q36:=fun k=>zad (k:=k) h36
  have qg0:=fun k=>zad (k:=k) g0
  have qc0:=fun k=>zad (k:=k) c0
  have qg1:=fun k=>zad (k:=k) g1
  have qc1:=fun k=>zad (k:=k) c1
  have qg2:=fun k=>zad (k:=k) g2
  have qc2:=fun k=>zad (k:=k) c2
  by_cases he1:e1=0
  rotate_left
  .simp -implicitDefEqProofs [rR,st0,zak,rlF,Z10,Z85,zaV,zbr,htu,htu0,htu1,q34,he1,zz,hd00,hd01,hd02,hcv0,hd10,hd11,hd12,hcv1];exact .inl ⟨_,he1,rfl⟩
  subst he1
  by_cases he2:e2=0
  rotate_left
  .simp -implicitDefEqProofs [rR,st0,zak,rlF,Z10,Z85,zaV,zbr,htu,htu0,htu1,q34,q35,he2,zz,hd00,hd01,hd02,hcv0,hd10,hd11,hd12,hcv1];exact .inl ⟨_,he2,rfl⟩
  subst he2;cases b6 with
  |true=>
   simp -implicitDefEqProofs [rR,st0,zak,rlF,Z10,Z85,zaV,zbr,htu,htu0,htu1,q34,q35,q36,zz,hd00,hd01,hd02,hcv0,hd10,hd11,hd12,hcv1];exact .inl ⟨_,by decide,rfl⟩
  |false=>
   simp -implicitDefEqProofs [rR,st0,zak,rlF,Z10,Z85,zaV,zbr,htu,htu0,htu1,q34,q35,q36,zz,hd00,hd01,hd02,hcv0,hd10,hd11,hd12,hcv1];refine round ?_;simp -implicitDefEqProofs [rR,zz,hd00,hd01,hd02,hcv0,hd10,hd11,hd12,hcv1];refine zaw ?_
   by_cases k0:cmpL a0.1 t.1<0
   .simp -implicitDefEqProofs [rR,zz,hd00,hd01,hd02,hcv0,hd10,hd11,hd12,hcv1,q25Q0,k0];refine round ?_;simp -implicitDefEqProofs [rR,zz,hd00,hd01,hd02,hcv0,hd10,hd11,hd12,hcv1];refine zaw ?_
    by_cases k1:cmpL a1.1 t.1<0
    .simp -implicitDefEqProofs [rR,zz,hd00,hd01,hd02,hcv0,hd10,hd11,hd12,hcv1,q25Q1,k1];refine round ?_;simp -implicitDefEqProofs [rR,zz,hd00,hd01,hd02,hcv0,hd10,hd11,hd12,hcv1];refine zaw ?_;simp -implicitDefEqProofs [rR,zz,hd00,hd01,hd02,hcv0,hd10,hd11,hd12,hcv1];refine zaw ?_
     by_cases hf:f2=0
     .subst hf;simp -implicitDefEqProofs [rR,zz,hd00,hd01,hd02,hcv0,hd10,hd11,hd12,hcv1,qg2,qc2];exact .inr ⟨2,by simp,by simpa using gd2 rfl,by simp[rlF,Z10,Z85,zaV,zbr,htu,htu0,htu1]⟩
     .simp -implicitDefEqProofs [rR,zz,hd00,hd01,hd02,hcv0,hd10,hd11,hd12,hcv1,qg2,hf];exact .inl ⟨_,hf,rfl⟩
    .simp -implicitDefEqProofs [rR,zz,hd00,hd01,hd02,hcv0,hd10,hd11,hd12,hcv1,q25Q1,k1];refine zaw ?_
     by_cases hf:f1=0
     .subst hf;simp -implicitDefEqProofs [rR,zz,hd00,hd01,hd02,hcv0,hd10,hd11,hd12,hcv1,qg1,qc1];exact .inr ⟨1,by simp,by simpa using gd1 rfl,by simp[rlF,Z10,Z85,zaV,zbr,htu,htu0,htu1]⟩
     .simp -implicitDefEqProofs [rR,zz,hd00,hd01,hd02,hcv0,hd10,hd11,hd12,hcv1,qg1,hf];exact .inl ⟨_,hf,rfl⟩
   .simp -implicitDefEqProofs [rR,zz,hd00,hd01,hd02,hcv0,hd10,hd11,hd12,hcv1,q25Q0,k0];refine zaw ?_
    by_cases hf:f0=0
    .subst hf;simp -implicitDefEqProofs [rR,zz,hd00,hd01,hd02,hcv0,hd10,hd11,hd12,hcv1,qg0,qc0];exact .inr ⟨0,by simp,by simpa using gd0 rfl,by simp[rlF,Z10,Z85,zaV,zbr,htu,htu0,htu1]⟩
    .simp -implicitDefEqProofs [rR,zz,hd00,hd01,hd02,hcv0,hd10,hd11,hd12,hcv1,qg0,hf];exact .inl ⟨_,hf,rfl⟩
 |_::_::_::_,h=>exact absurd h (by simp)
end Go.Proofs.YtdlcolcidohbkaaGreatDoor
end
