/- Sums of probabilities in the reference, exactly. -/
import Derived.Test.YtbhholaillniiaaGreatDoorPg
import Derived.Test.YtbhholaillniiaaGreatDoorPh
import Derived.Test.YtbhholaillniiaaGreatDoorPzg
import Derived.Test.YtbhholaillniiaaGreatDoorPzf
import Derived.Test.YtbhholaillniiaaGreatDoorPk
import Derived.KernelRfl
import Derived.IntWalk
import Derived.Test.YtbhholaillniiaaGreatDoorPi
import Derived.Test.YtbhholaillniiaaGreatDoorPj
import Derived.Test.YtbhholaillniiaaGreatDoorPzb
set_option linter.all false
set_option maxRecDepth 100000
set_option maxHeartbeats 4000000
noncomputable section
section
namespace Go.Proofs.YtbhholaillniiaaGreatDoor
open Go Go.Vse Go.Vse.Sm
def zlz(n:Nat):(zex n).d= .f (zex n):=by cases n<;>rfl
def znm(n:Nat):(D.f (zex n)).cells=some [.f (zex n)]:=by cases n<;>rfl
def frE(s:Nat×Nat):fr s=[.b false,zex s.1,zex s.2]:=rfl
def sN(l:List (Nat×Nat)):Nat×Nat:=l.foldl adN (0,1)
def zrh(l:List (Nat×Nat))(p:Nat×Nat):sN (l++[p])=adN (sN l) p:=by simp[sN]
theorem sN_D:∀l:List (Nat×Nat),l.length<=3->(∀p∈l,p∈PN)->sN l∈Dl l.length
 |[],_,_=>Z31.2 rfl
 |[p],_,h=>zll (k:=0) (by omega) (Z31.2 rfl) (h p (by simp))
 |[p,q],_,h=>zll (k:=1) (by omega) (zll (k:=0) (by omega) (Z31.2 rfl) (h p (by simp))) (h q (by simp))
 |[p,q,r],_,h=>zll (k:=2) (by omega) (zll (k:=1) (by omega) (zll (k:=0) (by omega) (Z31.2 rfl) (h p (by simp))) (h q (by simp))) (h r (by simp))
 |_::_::_::_::_,h,_=>absurd h (by simp)
def zGa(l:List (Nat×Nat))(h:l.length<=2)(hp:∀p∈l,p∈PN):sN l∈DA:=dl_A (by omega) (sN_D l (by omega) hp)
def zGc(l:List (Nat×Nat))(h:l.length<=3)(hp:∀p∈l,p∈PN):sN l∈DI:=dl_I (sN_D l h hp)
def Bks(r:Rl)(b:List Nat)(ns:List (Nat×Nat)):Prop:=ns.length=b.length/\∀k (hk:k<b.length) (hn:k<ns.length),∃T,r.tu[b[k]]? =some T/\T.2=fr ns[k]/\ns[k]∈PN
def Bks.mem{r:Rl}{b:List Nat}{ns:List (Nat×Nat)}(h:Bks r b ns):∀p∈ns,p∈PN:=fun p hp=>by
 obtain⟨k,hk,rfl⟩ :=Z130 hp;obtain⟨T,-,-,h3⟩ :=h.2 k (by rw[<-h.1];exact hk) hk;exact h3
theorem zBF(r:Rl)(hp:∀t∈r.tu,PPp t.2):∀b:List Nat,(∀i∈b,i<r.tu.length)->∃ns,Bks r b ns
 |[],_=>⟨[],rfl,fun k hk=>by simp at hk⟩
 |i::b,h=>by
  obtain⟨ns,h1,h2⟩ :=zBF r hp b fun j hj=>h j (by simp[hj])
  have hi:=h i (by simp);obtain⟨n,hn,he⟩ :=zBk (hp _ (Z1 hi));refine⟨n::ns,by simp[h1],fun k hk hk2=> ?_⟩;cases k with
  |zero=>exact⟨_,Z0 hi,he,hn⟩
  |succ k=>exact h2 k (by simpa using hk) (by simpa using hk2)
def J101(r:Rl)(b:List Nat)(ns:List (Nat×Nat))(n:Nat)(s:St):Prop:=(s.tm.get 1=some (.f (ixF b))/\s.tm.get 2=some (.ptr 0 4 0 0)/\s.tm.get 4=some (.ptr 1 3 0 0)/\s.tm.get 5=some (.ptr 2 3 0 0)/\s.tm.get 6=some (.f (.i .i64 n))/\s.h.get 0=some (.arr 4 0 [[.f (.s r.nm),.f (.b r.ce),.f r.co,.f (zbB r.tu)]])/\s.h.get 1=some (.arr 3 0 [[.f (.b false),.f .nils,.f .nils]])/\s.h.get 2=some (.arr 3 0 [[.f (.b false),.f (zex (sN (ns.take n)).1),.f (zex (sN (ns.take n)).2)]]))/\3<=s.c
def zJr(r:Rl)(hco:r.co.d= .f r.co)(hcc:(D.f r.co).cells=some [.f r.co])(b:List Nat)(ns:List (Nat×Nat))(hb:b.length<=3)(h:Bks r b ns):Ans pr 101 [.ag (rlF r),ixF b] (.ag (fr (sN ns))):=by
 obtain⟨hl,hB⟩ :=id h;refine zcx zHH ?_;have fi0x:Ans pr 28 [.i .i64 0] (.ag [.b false,.nils,.sl 1 [[.i .u32 1]]]):=fi0;have q0:=fun k=>zad (k:=k) fi0x
 have hd:(zbB r.tu).d= .f (zbB r.tu):=znD _;simp only[zuy,rU];simp[rW,st0,zal,rlE,hco,hd,q0,zoa];refine zcA b.length (J101 r b ns) (fun e s=>e= .exit 0/\J101 r b ns b.length s) ?_ ?_ _ ⟨⟨?_,?_,?_,?_,?_,?_,?_,?_⟩,?_⟩ ?_
 .rintro n s hn ⟨⟨h1,h2,h4,h5,h6,g0,g1,g2⟩,hc⟩;have hw:=zau n (by omega);have hnn:n<ns.length:=by omega
  obtain⟨T,hT,hT2,hm⟩ :=hB n hn hnn;have hs:sN (ns.take (n+1))=adN (sN (ns.take n)) ns[n]:=by
   rw[Z105,Z0 hnn];exact zrh _ _
  have hA:UA (sN (ns.take n)) ns[n]:=allL (allL uA _ (zGa _ (by rw[Z41];omega) fun p hp=>h.mem p (Z13 hp))) _ hm;unfold UA at hA;rw[<-hs]at hA;have htu:tuF T=[valsF T.1,.b false,zex (ns[n]).1,zex (ns[n]).2]:=by unfold tuF;rw[hT2];rfl
  have q1:=fun k=>zad (k:=k) hA
  simp only[frE]at q1;have hxi:b[n]? =some b[n]:=Z0 hn;generalize hI:b[n]=i at hxi hT;generalize hM:ns[n]=m at htu q1;generalize sN (ns.take n)=s1 at g2 q1;generalize hS2:sN (ns.take (n+1))=s2 at q1;have hix:ixF b= .sl 1 (b.map fun i=>[.i .i64 (i:Nat)]):=rfl;have c0:0<s.c:=by omega
  have c1:1<s.c:=by omega
  have c2:2<s.c:=by omega
  simp[rW,h1,h2,h4,h5,h6,g0,g1,g2,hn,zkV];refine zay ?_;simp[rW,h1,h2,h4,h5,h6,g0,g1,g2,hn,hix,hxi,hI,zjt,hT,htu,zlz,znm,q1,c2,hw];refine⟨⟨?_,?_,?_,?_,?_,?_,?_,?_⟩,?_⟩
  all_goals simp[rW,h1,h2,h4,h5,h6,g0,g1,g2,hw,hc,hS2]
 .rintro s ⟨⟨h1,h2,h4,h5,h6,g0,g1,g2⟩,hc⟩;simp[rW,h1,h6,zkV];exact⟨⟨by simp[rW,h1],by simp[rW,h2],by simp[rW,h4],by simp[rW,h5],by simp[rW,h6],by simp[rW,g0],by simp[rW,g1],by simp[rW,g2]⟩,by simp[rW,hc]⟩
 .simp[rW]
 .simp[rW]
 .simp[rW]
 .simp[rW]
 .simp[rW]
 .simp[rW]
 .simp[rW]
 .simp[rW];exact⟨rfl,rfl⟩
 .simp[rW]
 .rintro e s ⟨rfl,⟨h1,h2,h4,h5,h6,g0,g1,g2⟩,hc⟩;have c1:1<s.c:=by omega
  rw[Z11 (by omega)]at g2;simp[rW,h4,h5,g1,g2,c1,zlz,znm];rfl
def fn111:pr.fn 111=some zzM:=by kernel_rfl
def eN:∀p∈PN,adN (0,1) p=p:=by decide
def eM0:(DA.all fun s=>PN.all fun p=>!le1 (adN s p)||le1 s)=true:=by kernel_rfl
def eM{s p:Nat×Nat}(hs:s∈DA)(hp:p∈PN)(h:le1 (adN s p)=true):le1 s=true:=by
 have:=Z50.1 (Z50.1 eM0 s hs) p hp;rw[h]at this;simpa using this
def sN_le{l:List (Nat×Nat)}(hl:l.length<=3)(h:∀p∈l,p∈PN)(h1:le1 (sN l)=true):∀k,le1 (sN (l.take k))=true:=by
 have step:∀k,k<l.length->le1 (sN (l.take (k+1)))=true->le1 (sN (l.take k))=true:=fun k hk hh=>by
  rw[Z105,Z0 hk]at hh;have e:sN (l.take k++(some l[k]).toList)=adN (sN (l.take k)) l[k]:=zrh _ _;rw[e]at hh;exact eM (zGa _ (by rw[Z41];omega) fun p hp=>h p (Z13 hp)) (h _ (Z1 hk)) hh
 intro k
 by_cases hk:l.length<=k
 .rw[Z11 hk];exact h1
 .have key:∀j,j<=l.length->le1 (sN (l.take (l.length - j)))=true:=by
   intro j
   induction j with
   |zero=>intro _;rw[Nat.sub_zero,Z7];exact h1
   |succ j ih=>
    intro hj;refine step _ (by omega) ?_;rw[show l.length - (j+1)+1=l.length - j by omega];exact ih (by omega)
  have:=key (l.length - k) (by omega);rw[show l.length - (l.length - k)=k by omega]at this;exact this
def tP(ns:List (Nat×Nat)):Nat->List F
 |0=>zP
 |n+1=>fr (sN (ns.take (n+1)))
def J111(r:Rl)(b:List Nat)(ns:List (Nat×Nat))(n:Nat)(s:St):Prop:=(s.tm.get 2=some (.ptr 0 4 0 0)/\s.tm.get 4=some (.ptr 1 3 0 0)/\s.tm.get 5=some (.ptr 2 3 0 0)/\s.tm.get 8=some (.f (ixF b))/\s.tm.get 9=some (.f (.i .i64 b.length))/\s.tm.get 10=some (.f (.i .i64 n))/\s.h.get 0=some (.arr 4 0 [[.f (.s r.nm),.f (.b r.ce),.f r.co,.f (zbB r.tu)]])/\s.h.get 1=some (.arr 3 0 [[.f (.b false),.f .nils,.f .nils]])/\s.h.get 2=some (.arr 3 0 [(tP ns n).map D.f]))/\3<=s.c
def zGv(ns:List (Nat×Nat))(n:Nat):∃x y,tP ns n=[.b false,x,y]/\x.d= .f x/\y.d= .f y/\(D.f x).cells=some [.f x]/\(D.f y).cells=some [.f y]:=by
 cases n with
 |zero=>exact⟨.nils,.nils,rfl,rfl,rfl,rfl,rfl⟩
 |succ n=>exact⟨_,_,rfl,zlz _,zlz _,znm _,znm _⟩
def zP3{r:Rl}{b:List Nat}{ns:List (Nat×Nat)}(hb:b.length<=3)(h:Bks r b ns)(hle:le1 (sN ns)=true){n:Nat}(hn:n<ns.length):Ans pr 182 [.ag (tP ns n),.ag (fr ns[n])] (.ag (tP ns (n+1))):=by
 have hm:=h.mem _ (Z1 hn);have hln:ns.length<=3:=by have:=h.1;omega
 have hs:sN (ns.take (n+1))=adN (sN (ns.take n)) ns[n]:=by
  rw[Z105,Z0 hn];exact zrh _ _
 cases n with
 |zero=>
  have:tP ns (0+1)=fr ns[0]:=by
   show fr (sN (ns.take (0+1)))=_;rw[hs];exact congrArg fr (eN _ hm)
  rw[this];exact (allL uZ _ hm).1
 |succ n=>
  have h1:=sN_le hln h.mem hle (n+1+1);rw[hs]at h1;have:=allL (allL uB _ (zGa _ (by rw[Z41];omega) fun p hp=>h.mem p (Z13 hp))) _ hm h1;unfold UB at this;rw[<-hs]at this;exact this
def zJs(r:Rl)(hco:r.co.d= .f r.co)(hcc:(D.f r.co).cells=some [.f r.co])(b:List Nat)(ns:List (Nat×Nat))(hb:b.length<=3)(h:Bks r b ns)(hle:le1 (sN ns)=true):Ans pr 111 [.ag (rlF r),ixF b] (.ag (fr (sN ns))):=by
 obtain⟨hl,hB⟩ :=id h;refine zcx fn111 ?_;have hd:(zbB r.tu).d= .f (zbB r.tu):=znD _;simp only[zzM,rU];simp[rW,st0,zal,rlE,hco,hd,zoa,zkV];refine zcA b.length (J111 r b ns) (fun e s=>e= .exit 0/\J111 r b ns b.length s) ?_ ?_ _ ⟨⟨?_,?_,?_,?_,?_,?_,?_,?_,?_⟩,?_⟩ ?_
 .rintro n s hn ⟨⟨h2,h4,h5,h8,h9,h10,g0,g1,g2⟩,hc⟩;have hw:=zau n (by omega);have hnn:n<ns.length:=by omega
  obtain⟨T,hT,hT2,hm⟩ :=hB n hn hnn;have hA:=zP3 (by omega) h hle hnn;obtain⟨x0,y0,hx0,d0,d1,-,-⟩ :=zGv ns n;obtain⟨x1,y1,hx1,k0,k1,l0,l1⟩ :=zGv ns (n+1);have htu:tuF T=[valsF T.1,.b false,zex (ns[n]).1,zex (ns[n]).2]:=by unfold tuF;rw[hT2];rfl
  rw[hx0,hx1]at hA;rw[hx0]at g2;have q1:=fun k=>zad (k:=k) hA
  simp only[frE]at q1;simp only[Z10,Z85]at g2;have hxi:b[n]? =some b[n]:=Z0 hn;generalize hI:b[n]=i at hxi hT;generalize hM:ns[n]=m at htu q1;have hix:ixF b= .sl 1 (b.map fun i=>[.i .i64 (i:Nat)]):=rfl;have c2:2<s.c:=by omega
  simp[rW,h2,h4,h5,h8,h9,h10,g0,g1,g2,hn,hix,hxi,hI];refine zay ?_;simp[rW,h2,h4,h5,h8,h9,h10,g0,g1,g2,hn,hix,hxi,hI,zjt,hT,htu,zlz,znm,q1,d0,d1,k0,k1,l0,l1,c2,hw];refine⟨⟨?_,?_,?_,?_,?_,?_,?_,?_,?_⟩,?_⟩
  all_goals simp[rW,h2,h4,h5,h8,h9,h10,g0,g1,g2,hw,hc,hx1,hix]
 .rintro s ⟨⟨h2,h4,h5,h8,h9,h10,g0,g1,g2⟩,hc⟩;simp[rW,h9,h10];exact⟨⟨by simp[rW,h2],by simp[rW,h4],by simp[rW,h5],by simp[rW,h8],by simp[rW,h9],by simp[rW,h10],by simp[rW,g0],by simp[rW,g1],by simp[rW,g2]⟩,by simp[rW,hc]⟩
 .simp[rW]
 .simp[rW]
 .simp[rW]
 .simp[rW]
 .simp[rW]
 .simp[rW]
 .simp[rW]
 .simp[rW]
 .simp[rW,tP,zP]
 .simp[rW]
 .rintro e s ⟨rfl,⟨h2,h4,h5,h8,h9,h10,g0,g1,g2⟩,hc⟩;have c1:1<s.c:=by omega
  have hN:Ans pr 183 [.ag (tP ns b.length)] (.ag (fr (sN ns))):=by
   have hI:=zGc ns (by omega) h.mem;cases hbl:b.length with
   |zero=>
    have:ns=[]:=Z17.1 (by omega);subst this;exact uZ0
   |succ n=>
    have:=(allL uC _ hI hle).2.2.1;have e:tP ns (n+1)=fr (sN ns):=by
     show fr (sN (ns.take (n+1)))=_;rw[Z11 (by omega)]
    rw[e];exact this
  obtain⟨x0,y0,hx0,d0,d1,-,-⟩ :=zGv ns b.length;rw[hx0]at hN g2;have q1:=fun k=>zad (k:=k) hN
  simp only[frE]at q1;simp only[Z10,Z85]at g2;simp[rW,h4,h5,g1,g2,c1,d0,d1,q1,zlz,znm];rfl
def fn27:pr.fn 27=some g27:=by kernel_rfl
def fn29:pr.fn 29=some g29:=by kernel_rfl
def zsm(n:Int):Ans pr 29 [.i .i64 n] (.ag (Sm.vF n)):=by
 refine zcx fn29 ?_;simp only[g29,rU];unfold Sm.vF;simp -implicitDefEqProofs [Vse.rR,st0,zal]
def k31_0:Ans pr 54 [.i .i64 1,.i .i64 2] (.tu [.ag [.b false,.sl 1 [[.i .u32 1]],.sl 1 [[.i .u32 2]]],.i .i64 0]):=rA
def k31_1:Ans pr 54 [.i .i64 1,.i .i64 3] (.tu [.ag [.b false,.sl 1 [[.i .u32 1]],.sl 1 [[.i .u32 3]]],.i .i64 0]):=rA
def k31_2:Ans pr 54 [.i .i64 2,.i .i64 3] (.tu [.ag [.b false,.sl 1 [[.i .u32 2]],.sl 1 [[.i .u32 3]]],.i .i64 0]):=rA
def k31_3:Ans pr 54 [.i .i64 1,.i .i64 4] (.tu [.ag [.b false,.sl 1 [[.i .u32 1]],.sl 1 [[.i .u32 4]]],.i .i64 0]):=rA
def k31_4:Ans pr 54 [.i .i64 1,.i .i64 1] (.tu [.ag [.b false,.sl 1 [[.i .u32 1]],.sl 1 [[.i .u32 1]]],.i .i64 0]):=rA
def k31_5:Ans pr 54 [.i .i64 0,.i .i64 1] (.tu [.ag [.b false,.nils,.sl 1 [[.i .u32 1]]],.i .i64 0]):=rA
def k31_6:Ans pr 54 [.i .i64 3,.i .i64 5] (.tu [.ag [.b false,.sl 1 [[.i .u32 3]],.sl 1 [[.i .u32 5]]],.i .i64 0]):=rA
def k31_7:Ans pr 54 [.i .i64 1,.i .i64 7] (.tu [.ag [.b false,.sl 1 [[.i .u32 1]],.sl 1 [[.i .u32 7]]],.i .i64 0]):=rA
def zsl(n:Int):∃p,PPp p/\Ans pr 27 [.i .i64 n] (.ag p):=by
 obtain⟨r,hr,he⟩ :=zi2 n 7 (by omega);have he':zaH .and (.i .i64 n) (.i .i64 7)=some (.i .i64 r):=he;have main:∃y,(∃p,PPp p/\y= .ag p)/\Ans pr 27 [.i .i64 n] y:=by
  refine zqI fn27 ?_;simp only[g27,rU];have hc:r=0\/r=1\/r=2\/r=3\/r=4\/r=5\/r=6\/r=7:=by omega
  rcases hc with rfl|rfl|rfl|rfl|rfl|rfl|rfl|rfl
  .have q0:=fun k=>zad (k:=k) k31_0
   simp -implicitDefEqProofs [Vse.rR,st0,zal,he',q0];exact mg 0 rfl
  .have q0:=fun k=>zad (k:=k) k31_1
   simp -implicitDefEqProofs [Vse.rR,st0,zal,he',q0];exact mg 1 rfl
  .have q0:=fun k=>zad (k:=k) k31_2
   simp -implicitDefEqProofs [Vse.rR,st0,zal,he',q0];exact mg 2 rfl
  .have q0:=fun k=>zad (k:=k) k31_3
   simp -implicitDefEqProofs [Vse.rR,st0,zal,he',q0];exact mg 3 rfl
  .have q0:=fun k=>zad (k:=k) k31_4
   simp -implicitDefEqProofs [Vse.rR,st0,zal,he',q0];exact mg 4 rfl
  .have q0:=fun k=>zad (k:=k) k31_5
   simp -implicitDefEqProofs [Vse.rR,st0,zal,he',q0];exact mg 5 rfl
  .have q0:=fun k=>zad (k:=k) k31_6
   simp -implicitDefEqProofs [Vse.rR,st0,zal,he',q0];exact mg 6 rfl
  .have q0:=fun k=>zad (k:=k) k31_7
   simp -implicitDefEqProofs [Vse.rR,st0,zal,he',q0];exact mg 7 rfl
 obtain⟨y,⟨p,hp,rfl⟩,ha⟩ :=main;exact⟨p,hp,ha⟩
def lo2:C:=g9.body.r.r.r.l.r.b.o.r.l.b.r.l.r.b.o
def lo5:C:=lo2.r.l.b.r.r.r.l.r.b.o
def zdv:List (List F):=[[.s [82],.b false,coR],[.s [83],.b false,coS],[.s [75],.b false,coK],[.s [67],.b true,coC]]
def zMy:Ans pr 13 [] (.sl 3 zdv):=rA
def zm9:Ans pr 28 [.i .i64 1] (.ag [.b false,.sl 1 [[.i .u32 1]],.sl 1 [[.i .u32 1]]]):=rA
def pp1:PPp [.b false,.sl 1 [[.i .u32 1]],.sl 1 [[.i .u32 1]]]:=mg 4 rfl
def zgW{α:Type}{P:α->Prop}{l:List α}{t:α}(n:Nat)(h:∀a∈l,P a)(ht:P t):∀a∈l.take n++t::l.drop n,P a:=by
 intro a ha;rcases Z4.1 ha with h1|h1
 .exact h a (Z13 h1)
 .rcases Z5.1 h1 with rfl|h1
  .exact ht
  .exact h a (Z21 h1)
def zgR{α:Type}{l:List α}{t:α}(n:Nat)(hn:n<=l.length):(l.take n++t::l.drop n).length=l.length+1:=by
 simp;omega
def Bd(v:List Int):Prop:=∀z∈v,1<=z/\z<=3
def zj8(t:List Int×List F):Prop:=TuR t/\Bd t.1
def zj9(t:List Int×List F):Prop:=TuS t/\Bd t.1
def zj6(t:List Int×List F):Prop:=TuK t/\Bd t.1
def zj2(t:List Int×List F):Prop:=TuC t/\Bd t.1
def CSr(h0:Vse.T Ob)(x:F)(i:Nat)(id:Nat)(dO:D)(n:Nat)(rel:List D)(id9:Nat)(S:St):Prop:=
 S.tm.get 0=some (.f x)/\S.tm.get 4=some (.f (.sl 3 zdv))/\S.tm.get 5=some (.f (.i .i64 i))/\S.tm.get 6=some (.ptr id 4 0 0)/\S.tm.get 3=some dO/\S.tm.get 7=some (.f (.i .i64 n))/\
 S.tm.get 9=some (.ptr id9 4 0 0)/\S.h.get id=some (.arr 4 0 [rel])/\id<id9/\id9<S.c/\∀j,j<id->S.h.get j=h0.get j
theorem cols1(h00:Vse.T Ob)(x:F)(i:Nat)(id:Nat)(dO:D)(n:Nat)(rel:List D)(id9:Nat)(p0 p1 p2:D)(nm:Str)(ce:Bool)(co:F)(hs:zdv[i]? =some [.s nm,.b ce,co])(hcd:co.d= .f co)(lc:zcp (.f co)=some 1)
  (b:Nat)(b1 b2 b3 b4:Nat)(hr1:zaH .rem (.i .i64 b) (.i .i64 3)=some (.i .i64 (b1:Int)))(hq1:zaH .quo (.i .i64 b) (.i .i64 3)=some (.i .i64 (b3:Int)))(hr2:zaH .rem (.i .i64 b3) (.i .i64 3)=some (.i .i64 (b2:Int)))(hq2:zaH .quo (.i .i64 b3) (.i .i64 3)=some (.i .i64 (b4:Int)))
  (hb1:b1<3)(hb2:b2<3)(S:St)(Q:Ex->St->Prop)(hS:CSr h00 x i id dO n rel id9 S)(gg9:S.h.get id9=some (.arr 4 0 [[.f .nils,p0,p1,p2]]))(h8:S.tm.get 8=some (.f (.i .i64 b)))(h10:S.tm.get 10=some (.f (.i .i64 0)))
  (hQ:∀S' idv,CSr h00 x i id dO n rel id9 S'->S'.h.get id9=some (.arr 4 0 [[.sl idv 0 1 3 1 false,p0,p1,p2]])->S'.h.get idv=some (.arr 3 0 [[.f (.i .i64 1),.f (.i .i64 (1+(b1:Int))),.f (.s [])]])->id9<idv->idv<S'.c->Q (.exit 4) S'):WL pr lo5 S Q:=by
 unfold lo5 lo2 g9;simp only[rU,C.l,C.r,C.b,C.o];obtain⟨h0,h4,h5,h6,h3,h7,h9,g,hi1,hi2,hk⟩ :=hS;have q6a:=fun k=>zad (k:=k) (zsm (1+(b1:Int)))
 have q6b:=fun k=>zad (k:=k) (zsm (1+(b2:Int)))
 simp only[Sm.vF]at q6a q6b;have hv1:IntKind.i64.wrap (1+(b1:Int))=1+(b1:Int):=wrap_i64 _ (by omega) (by omega);have hv2:IntKind.i64.wrap (1+(b2:Int))=1+(b2:Int):=wrap_i64 _ (by omega) (by omega);have hw1:IntKind.i64.wrap 1=1:=by decide
 have hw2:IntKind.i64.wrap 2=2:=by decide
 have i1:¬id=S.c+1+1+1+1+1+1+1:=by omega
 have i2:¬id9=S.c+1+1+1+1+1+1+1:=by omega
 have i3:¬S.c+1+1+1+1+1+1+1=id:=by omega
 have i4:¬S.c+1+1+1+1+1+1+1=id9:=by omega
 have i5:¬id=id9:=by omega
 have i6:¬id9=id:=by omega
 refine round ?_;simp -implicitDefEqProofs [Vse.rR,h0,h4,h5,h6,h3,h7,h9,g,gg9,h8,h10,hs,lc,zcZ,hw1,hw2];refine zay ?_;simp -implicitDefEqProofs [Vse.rR,h0,h4,h5,h6,h3,h7,h9,g,gg9,h8,h10,hs,lc,zcZ,hw1,hw2,hr1,hv1,q6a,hq1,hi2,i1,i2,i3,i4,i5,i6]
 repeat refine⟨by omega,?_⟩
 refine zv3 (fun S'=>CSr h00 x i id dO n rel id9 S'/\S'.tm.get 8=some (.f (.i .i64 b3))/\S'.tm.get 10=some (.f (.i .i64 1))/\∃idv,S'.h.get id9=some (.arr 4 0 [[.sl idv 0 1 3 1 false,p0,p1,p2]])/\S'.h.get idv=some (.arr 3 0 [[.f (.i .i64 1),.f (.i .i64 (1+(b1:Int))),.f (.s [])]])/\id9<idv/\idv<S'.c)
  ⟨⟨?_,?_,?_,?_,?_,?_,?_,?_,?_,?_,?_⟩,?_,?_,S.c+1+1+1+1+1+1+1,?_,?_,?_,?_⟩ ?_
 any_goals (simp -implicitDefEqProofs [Vse.rR,h0,h4,h5,h6,h3,h7,h9,g,i1,i2,i3,i4,i5,i6];done)
 any_goals (simp only[zbi,zb8,zb7,za8,zbW,zbU,zbf,zb6,zb2,zbj,zcb,zca,zaU,zbd,za9,zcf,zci,zcc];omega)
 any_goals omega
 .intro j hj;rw[<-hk j hj];simp only[zbi,zb8,zb7,za8,zbW,zbU,zbf,zb6,zb2,zbj,zcb,zca,zaU,zbd,za9,zcf,zci,zcc]
  repeat first|rw[TG,Z49 (by omega)]|rw[Vse.T.zbt,Z49 (by omega)]
 clear h0 h4 h5 h6 h3 h7 h9 g hi2 hk i1 i2 i3 i4 gg9 h8 h10 i5 i6;rintro S ⟨⟨h0,h4,h5,h6,h3,h7,h9,g,_,hi2,hk⟩,h8,h10,idv,gg9,gv,hi4,hi5⟩;refine round ?_;simp -implicitDefEqProofs [Vse.rR,h0,h4,h5,h6,h3,h7,h9,g,gg9,h8,h10,hs,lc,zcZ,hw1,hw2];refine hQ _ idv ⟨?_,?_,?_,?_,?_,?_,?_,?_,hi1,?_,?_⟩ ?_ ?_ hi4 ?_
 any_goals (simp -implicitDefEqProofs [Vse.rR,h0,h4,h5,h6,h3,h7,h9,g,gg9,gv];done)
 any_goals (simp only[zbi,zb8,zb7,za8,zbW,zbU,zbf,zb6,zb2,zbj,zcb,zca,zaU,zbd,za9,zcf,zci,zcc];omega)
 all_goals (intro j hj;simp only[zbi,zb8,zb7,za8,zbW,zbU,zbf,zb6,zb2,zbj,zcb,zca,zaU,zbd,za9,zcf,zci,zcc];exact hk j hj)
theorem zzs(h00:Vse.T Ob)(x:F)(i:Nat)(id:Nat)(dO:D)(n:Nat)(rel:List D)(id9:Nat)(p0 p1 p2:D)(nm:Str)(ce:Bool)(co:F)(hs:zdv[i]? =some [.s nm,.b ce,co])(hcd:co.d= .f co)(lc:zcp (.f co)=some 2)
  (b:Nat)(b1 b2 b3 b4:Nat)(hr1:zaH .rem (.i .i64 b) (.i .i64 3)=some (.i .i64 (b1:Int)))(hq1:zaH .quo (.i .i64 b) (.i .i64 3)=some (.i .i64 (b3:Int)))(hr2:zaH .rem (.i .i64 b3) (.i .i64 3)=some (.i .i64 (b2:Int)))(hq2:zaH .quo (.i .i64 b3) (.i .i64 3)=some (.i .i64 (b4:Int)))
  (hb1:b1<3)(hb2:b2<3)(S:St)(Q:Ex->St->Prop)(hS:CSr h00 x i id dO n rel id9 S)(gg9:S.h.get id9=some (.arr 4 0 [[.f .nils,p0,p1,p2]]))(h8:S.tm.get 8=some (.f (.i .i64 b)))(h10:S.tm.get 10=some (.f (.i .i64 0)))
  (hQ:∀S' idv,CSr h00 x i id dO n rel id9 S'->S'.h.get id9=some (.arr 4 0 [[.sl idv 0 2 3 2 false,p0,p1,p2]])->S'.h.get idv=some (.arr 3 0 [[.f (.i .i64 1),.f (.i .i64 (1+(b1:Int))),.f (.s [])],[.f (.i .i64 1),.f (.i .i64 (1+(b2:Int))),.f (.s [])]])->id9<idv->idv<S'.c->Q (.exit 4) S'):WL pr lo5 S Q:=by
 unfold lo5 lo2 g9;simp only[rU,C.l,C.r,C.b,C.o];obtain⟨h0,h4,h5,h6,h3,h7,h9,g,hi1,hi2,hk⟩ :=hS;have q6a:=fun k=>zad (k:=k) (zsm (1+(b1:Int)))
 have q6b:=fun k=>zad (k:=k) (zsm (1+(b2:Int)))
 simp only[Sm.vF]at q6a q6b;have hv1:IntKind.i64.wrap (1+(b1:Int))=1+(b1:Int):=wrap_i64 _ (by omega) (by omega);have hv2:IntKind.i64.wrap (1+(b2:Int))=1+(b2:Int):=wrap_i64 _ (by omega) (by omega);have hw1:IntKind.i64.wrap 1=1:=by decide
 have hw2:IntKind.i64.wrap 2=2:=by decide
 have i1:¬id=S.c+1+1+1+1+1+1+1:=by omega
 have i2:¬id9=S.c+1+1+1+1+1+1+1:=by omega
 have i3:¬S.c+1+1+1+1+1+1+1=id:=by omega
 have i4:¬S.c+1+1+1+1+1+1+1=id9:=by omega
 have i5:¬id=id9:=by omega
 have i6:¬id9=id:=by omega
 refine round ?_;simp -implicitDefEqProofs [Vse.rR,h0,h4,h5,h6,h3,h7,h9,g,gg9,h8,h10,hs,lc,zcZ,hw1,hw2];refine zay ?_;simp -implicitDefEqProofs [Vse.rR,h0,h4,h5,h6,h3,h7,h9,g,gg9,h8,h10,hs,lc,zcZ,hw1,hw2,hr1,hv1,q6a,hq1,hi2,i1,i2,i3,i4,i5,i6]
 repeat refine⟨by omega,?_⟩
 refine zv3 (fun S'=>CSr h00 x i id dO n rel id9 S'/\S'.tm.get 8=some (.f (.i .i64 b3))/\S'.tm.get 10=some (.f (.i .i64 1))/\∃idv,S'.h.get id9=some (.arr 4 0 [[.sl idv 0 1 3 1 false,p0,p1,p2]])/\S'.h.get idv=some (.arr 3 0 [[.f (.i .i64 1),.f (.i .i64 (1+(b1:Int))),.f (.s [])]])/\id9<idv/\idv<S'.c)
  ⟨⟨?_,?_,?_,?_,?_,?_,?_,?_,?_,?_,?_⟩,?_,?_,S.c+1+1+1+1+1+1+1,?_,?_,?_,?_⟩ ?_
 any_goals (simp -implicitDefEqProofs [Vse.rR,h0,h4,h5,h6,h3,h7,h9,g,i1,i2,i3,i4,i5,i6];done)
 any_goals (simp only[zbi,zb8,zb7,za8,zbW,zbU,zbf,zb6,zb2,zbj,zcb,zca,zaU,zbd,za9,zcf,zci,zcc];omega)
 any_goals omega
 .intro j hj;rw[<-hk j hj];simp only[zbi,zb8,zb7,za8,zbW,zbU,zbf,zb6,zb2,zbj,zcb,zca,zaU,zbd,za9,zcf,zci,zcc]
  repeat first|rw[TG,Z49 (by omega)]|rw[Vse.T.zbt,Z49 (by omega)]
 clear h0 h4 h5 h6 h3 h7 h9 g hi2 hk i1 i2 i3 i4 gg9 h8 h10 i5 i6;rintro S ⟨⟨h0,h4,h5,h6,h3,h7,h9,g,_,hi2,hk⟩,h8,h10,idv,gg9,gv,hi4,hi5⟩;have i1:¬id=S.c+1+1+1+1+1+1+1:=by omega
 have i2:¬id9=S.c+1+1+1+1+1+1+1:=by omega
 have i3:¬S.c+1+1+1+1+1+1+1=id:=by omega
 have i4:¬S.c+1+1+1+1+1+1+1=id9:=by omega
 have i5:¬id=id9:=by omega
 have i6:¬id9=id:=by omega
 have i7:¬idv=S.c+1+1+1+1+1+1+1:=by omega
 have i8:¬S.c+1+1+1+1+1+1+1=idv:=by omega
 have i9:¬id=idv:=by omega
 have i10:¬id9=idv:=by omega
 have i11:¬idv=id:=by omega
 have i12:¬idv=id9:=by omega
 refine round ?_;simp -implicitDefEqProofs [Vse.rR,h0,h4,h5,h6,h3,h7,h9,g,gg9,h10,hs,lc,zcZ,hw1,hw2,gv];refine zay ?_;simp -implicitDefEqProofs [Vse.rR,h0,h4,h5,h6,h3,h7,h9,g,gg9,h8,h10,hs,lc,zcZ,hw1,hw2,gv,hr2,hv2,q6b,hq2,hi2,hi5,i1,i2,i3,i4,i5,i6,i7,i8,i9,i10,i11,i12]
 repeat refine⟨by omega,?_⟩
 refine zv3 (fun S'=>CSr h00 x i id dO n rel id9 S'/\S'.tm.get 10=some (.f (.i .i64 2))/\∃idv,S'.h.get id9=some (.arr 4 0 [[.sl idv 0 2 3 2 false,p0,p1,p2]])/\S'.h.get idv=some (.arr 3 0 [[.f (.i .i64 1),.f (.i .i64 (1+(b1:Int))),.f (.s [])],[.f (.i .i64 1),.f (.i .i64 (1+(b2:Int))),.f (.s [])]])/\id9<idv/\idv<S'.c)
  ⟨⟨?_,?_,?_,?_,?_,?_,?_,?_,?_,?_,?_⟩,?_,S.c+1+1+1+1+1+1+1,?_,?_,?_,?_⟩ ?_
 any_goals (simp -implicitDefEqProofs [Vse.rR,h0,h4,h5,h6,h3,h7,h9,g,i1,i2,i3,i4,i5,i6,i7,i8,i9,i10,i11,i12];done)
 any_goals (simp only[zbi,zb8,zb7,za8,zbW,zbU,zbf,zb6,zb2,zbj,zcb,zca,zaU,zbd,za9,zcf,zci,zcc];omega)
 any_goals omega
 .intro j hj;rw[<-hk j hj];simp only[zbi,zb8,zb7,za8,zbW,zbU,zbf,zb6,zb2,zbj,zcb,zca,zaU,zbd,za9,zcf,zci,zcc]
  repeat first|rw[TG,Z49 (by omega)]|rw[Vse.T.zbt,Z49 (by omega)]
 clear h0 h4 h5 h6 h3 h7 h9 g hi2 hk i1 i2 i3 i4 gg9 h8 h10 i5 i6 i7 i8 i9 i10 i11 i12 gv hi4 hi5 idv;rintro S ⟨⟨h0,h4,h5,h6,h3,h7,h9,g,_,hi2,hk⟩,h10,idv,gg9,gv,hi4,hi5⟩;refine round ?_;simp -implicitDefEqProofs [Vse.rR,h0,h4,h5,h6,h3,h7,h9,g,gg9,h10,hs,lc,zcZ,hw1,hw2];refine hQ _ idv ⟨?_,?_,?_,?_,?_,?_,?_,?_,hi1,?_,?_⟩ ?_ ?_ hi4 ?_
 any_goals (simp -implicitDefEqProofs [Vse.rR,h0,h4,h5,h6,h3,h7,h9,g,gg9,gv];done)
 any_goals (simp only[zbi,zb8,zb7,za8,zbW,zbU,zbf,zb6,zb2,zbj,zcb,zca,zaU,zbd,za9,zcf,zci,zcc];omega)
 all_goals (intro j hj;simp only[zbi,zb8,zb7,za8,zbW,zbU,zbf,zb6,zb2,zbj,zcb,zca,zaU,zbd,za9,zcf,zci,zcc];exact hk j hj)
def KB(nm:Str)(ce:Bool)(co:F)(Tu:List Int×List F->Prop)(i:Int)(x:F)(id:Nat)(dO:D)(els:List (List D))(tu:List (List Int×List F))(s:St):Prop:=
 ((∀t∈tu,Tu t)/\Gd ⟨nm,ce,co,tu⟩)/\s.tm.get 0=some (.f x)/\s.tm.get 4=some (.f (.sl 3 zdv))/\s.tm.get 5=some (.f (.i .i64 i))/\s.tm.get 6=some (.ptr id 4 0 0)/\s.tm.get 3=some dO/\
 s.h.get id=some (.arr 4 0 [[.f (.s nm),.f (.b ce),.f co,.f (slc 4 (tu.map tuF))]])/\Grow s.h 0 id 4 dO els/\id<s.c
def KI(nm:Str)(ce:Bool)(co:F)(Tu:List Int×List F->Prop)(i:Int)(x:F)(id:Nat)(dO:D)(els:List (List D))(k:Nat)(s:St):Prop:=
 ∃n tu,n<=3/\k=3 - n/\tu.length<=n/\s.tm.get 7=some (.f (.i .i64 (n:Nat)))/\KB nm ce co Tu i x id dO els tu s
def KR(nm:Str)(ce:Bool)(co:F)(Tu:List Int×List F->Prop)(i:Int)(x:F)(id:Nat)(dO:D)(els:List (List D))(e:Ex)(s:St):Prop:=
 e= .exit 2/\∃tu,tu.length<=3/\KB nm ce co Tu i x id dO els tu s
def stepR(x:F)(hx:zdg x)(hxd:x.d= .f x)(id:Nat)(dO:D)(els:List (List D)):∀k s,KI [82] false coR zj8 0 x id dO els k s->wpC pr lo2 s (lp (KI [82] false coR zj8 0 x id dO els) k (KR [82] false coR zj8 0 x id dO els)):=by
 unfold lo2 g9;simp only[rU,C.l,C.r,C.b,C.o];rintro k s ⟨n,tu,hn,rfl,htl,h7,⟨hT,hG⟩,h0,h4,h5,h6,h3,g,hg,c0⟩;obtain⟨a,ha,h14⟩ :=ziz hx 0 (by omega);obtain⟨b,hb,h14b⟩ :=ziz hx (4+n) (by omega);have q14:=fun k=>zad (k:=k) h14
 have hrm:=zc7 a 4 (by omega);have hm4:a%4<4:=Z124 _ (by omega);have hs:zdv[0]? =some [.s [82],.b false,coR]:=rfl;have hmul:zaH .mul (.i .i64 3) (.i .i64 0)=some (.i .i64 0):=rfl;have hw:=zau n (by omega);rw[show((0:Nat):Int)=0 from rfl]at q14;rw[show((4:Nat):Int)=4 from rfl]at hrm;generalize a%4=m4 at hrm hm4
 by_cases hlt:n<m4
 .by_cases hgo:True
  .have hw4:IntKind.i64.wrap (4:Int)=4:=rfl;have hwn:IntKind.i64.wrap ((4:Int)+(n:Int))=((4+n:Nat):Int):=wrap_i64 _ (by omega) (by omega);have q14b:=fun k=>zad (k:=k) h14b
   have hci:((4+n:Nat):Int)=(4:Int)+(n:Int):=rfl;rw[hci]at q14b hwn;obtain⟨z,hz⟩ :∃r:Int,zaH .shr (.i .i64 b) (.i .u64 4)=some (.i .i64 r):=⟨_,rfl⟩
   obtain⟨p,hp,h15⟩ :=zsl z;obtain⟨p0,p1,p2,rfl,hd0,hd1,hd2⟩ :=zaR _ hp;have q15:=fun k=>zad (k:=k) h15
   have q16:=fun k=>zad (k:=k) zm9
   have hr1:=zc7 b 3 (by omega);have hq1:=zf6 b 3 (by omega) (by omega);have hr2:=zc7 (b/3) 3 (by omega);have hq2:=zf6 (b/3) 3 (by omega) (by have:b/3<=b:=Nat.div_le_self _ _;omega);rw[show((3:Nat):Int)=3 from rfl]at hr1 hq1 hr2 hq2;have hb1:b%3<3:=Z124 _ (by omega);have hb2:b/3%3<3:=Z124 _ (by omega);generalize b/3%3=b2 at hr2 hb2;generalize b/3/3=b4 at hq2;generalize b/3=b3 at hq1 hr2 hq2;generalize b%3=b1 at hr1 hb1;have k1:¬id=s.c:=by omega
   have hok0:TuR ([1+(b1:Int),1+(b2:Int)],[p0,p1,p2]):=⟨hp,1+(b1:Int),1+(b2:Int),rfl,by omega,by omega⟩
   have hok:zj8 ([1+(b1:Int),1+(b2:Int)],[p0,p1,p2]):=⟨hok0,fun z hz=>by simp only[Z5,Z164,or_false]at hz;omega⟩
   obtain⟨y,hy,h17⟩ :=zsp zqh [82] false coR tu (okR tu (by omega) fun t h=>(hT t h).1) (by omega) ([1+(b1:Int),1+(b2:Int)],[p0,p1,p2]) hp (ckR _ hok.1) (fun m hm=>okR _ (by rw[zgR m hm];omega) fun t h=>(zgW m hT hok t h).1);have h17:Ans pr 30 [.ag [.s [82],.b false,coR,slc 4 (tu.map tuF)],.ag [.sl 3 [[.i .i64 1,.i .i64 (1+(b1:Int)),.s []],[.i .i64 1,.i .i64 (1+(b2:Int)),.s []]],p0,p1,p2]] y:=h17;simp -implicitDefEqProofs [Vse.rR,h0,h4,h5,h6,h3,h7,g,hxd,q14,hrm,hlt,hs,hgo,hmul,hw4,hwn,q14b,hz,q15,q16,hd0,hd1,hd2];refine zzs s.h x 0 id dO n [.f (.s [82]),.f (.b false),.f coR,.f (slc 4 (tu.map tuF))] s.c (.f p0) (.f p1) (.f p2) [82] false coR rfl rfl rfl b b1 b2 b3 b4 hr1 hq1 hr2 hq2 hb1 hb2 _ _ ⟨?_,?_,?_,?_,?_,?_,?_,?_,?_,?_,?_⟩ ?_ ?_ ?_ ?_
   any_goals (simp -implicitDefEqProofs [Vse.rR,h0,h4,h5,h6,h3,h7,g,k1];done)
   .omega
   .intro j hj;simp only[zbi,zb8,zb7,za8,zbW,zbU,zbf,zb6,zb2,zbj,zcb,zca,zaU,zbd,za9,zcf,zci,zcc]
    repeat first|rw[TG,Z49 (by omega)]|rw[Vse.T.zbt,Z49 (by omega)]
   .clear h0 h4 h5 h6 h3 h7 g k1;intro S idv hS gg9 gv hi4 hi5;obtain⟨h0,h4,h5,h6,h3,h7,h9,g,hi1,hi2,hk⟩ :=hS;rw[show((0:Nat):Int)=0 from rfl]at h5;have hcd:coR.d= .f coR:=rfl;have hcc:(D.f coR).cells=some [.f coR]:=rfl;have j1:¬id=s.c:=by omega
    have j2:¬id=idv:=by omega
    have j3:¬id=S.c:=by omega
    have j4:¬s.c=id:=by omega
    have j5:¬s.c=idv:=by omega
    have j6:¬s.c=S.c:=by omega
    have j7:¬idv=id:=by omega
    have j8:¬idv=s.c:=by omega
    have j9:¬idv=S.c:=by omega
    have j10:¬S.c=id:=by omega
    have j11:¬S.c=s.c:=by omega
    have j12:¬S.c=idv:=by omega
    have keep:∀h':Vse.T Ob,(∀j,j<id->h'.get j=S.h.get j)->Grow h' 0 id 4 dO els:=fun h' hh=>Vse.zeA hg (fun j hj=>(hh j hj).trans (hk j hj)) (Z2 _)
    rcases hy with⟨e,he,rfl⟩ |⟨m,hm,hgd,rfl⟩
    .have q17:=fun k=>zad (k:=k) h17
     simp only[zRl]at q17;simp -implicitDefEqProofs [Vse.rR,h0,h4,h5,h6,h3,h7,h9,g,gg9,gv,hcd,hcc,hd0,hd1,hd2,hi2,hi5,j1,j2,j3,j4,j5,j6,j7,j8,j9,j10,j11,j12,q17,he,hw];rw[zdi];refine⟨3 - (n+1),by omega,n+1,tu,by omega,rfl,by omega,?_,⟨hT,hG⟩,?_,?_,?_,?_,?_,?_,?_,?_⟩
     any_goals (simp -implicitDefEqProofs [Vse.rR,h0,h4,h5,h6,h3,h7,h9,g,gg9,gv,hcd,hcc,hd0,hd1,hd2,hi2,hi5,j1,j2,j3,j4,j5,j6,j7,j8,j9,j10,j11,j12];done)
     .simp only[zbi,zb8,zb7,za8,zbW,zbU,zbf,zb6,zb2,zbj,zcb,zca,zaU,zbd,za9,zcf,zci,zcc];refine keep _ ?_;intro j hj
      repeat first|rw[TG,Z49 (by omega)]|rw[Vse.T.zbt,Z49 (by omega)]
     all_goals (simp only[zbi,zb8,zb7,za8,zbW,zbU,zbf,zb6,zb2,zbj,zcb,zca,zaU,zbd,za9,zcf,zci,zcc];omega)
    .have q17:=fun k=>zad (k:=k) h17
     simp only[rlF]at q17;simp -implicitDefEqProofs [Vse.rR,h0,h4,h5,h6,h3,h7,h9,g,gg9,gv,hcd,hcc,hd0,hd1,hd2,hi2,hi5,j1,j2,j3,j4,j5,j6,j7,j8,j9,j10,j11,j12,q17,hw];refine⟨by omega,?_⟩;rw[zdi];refine⟨3 - (n+1),by omega,n+1,tu.take m++([1+(b1:Int),1+(b2:Int)],[p0,p1,p2])::tu.drop m,by omega,rfl,by rw[zgR m hm];omega,?_,⟨zgW m hT hok,hgd⟩,?_,?_,?_,?_,?_,?_,?_,?_⟩
     any_goals (simp -implicitDefEqProofs [Vse.rR,h0,h4,h5,h6,h3,h7,h9,g,gg9,gv,hcd,hcc,hd0,hd1,hd2,hi2,hi5,j1,j2,j3,j4,j5,j6,j7,j8,j9,j10,j11,j12];done)
     .simp only[zbi,zb8,zb7,za8,zbW,zbU,zbf,zb6,zb2,zbj,zcb,zca,zaU,zbd,za9,zcf,zci,zcc];refine keep _ ?_;intro j hj
      repeat first|rw[TG,Z49 (by omega)]|rw[Vse.T.zbt,Z49 (by omega)]
     all_goals (simp only[zbi,zb8,zb7,za8,zbW,zbU,zbf,zb6,zb2,zbj,zcb,zca,zaU,zbd,za9,zcf,zci,zcc];omega)
  .exact absurd trivial hgo
 .simp -implicitDefEqProofs [Vse.rR,h0,h4,h5,h6,h3,h7,g,hxd,q14,hrm,hlt,hs];refine⟨rfl,tu,by omega,⟨hT,hG⟩,?_,?_,?_,?_,?_,?_,?_,?_⟩
  all_goals simp -implicitDefEqProofs [Vse.rR,h0,h4,h5,h6,h3,g,hg,c0]
def stepS(x:F)(hx:zdg x)(hxd:x.d= .f x)(id:Nat)(dO:D)(els:List (List D)):∀k s,KI [83] false coS zj9 1 x id dO els k s->wpC pr lo2 s (lp (KI [83] false coS zj9 1 x id dO els) k (KR [83] false coS zj9 1 x id dO els)):=by
 unfold lo2 g9;simp only[rU,C.l,C.r,C.b,C.o];rintro k s ⟨n,tu,hn,rfl,htl,h7,⟨hT,hG⟩,h0,h4,h5,h6,h3,g,hg,c0⟩;obtain⟨a,ha,h14⟩ :=ziz hx 1 (by omega);obtain⟨b,hb,h14b⟩ :=ziz hx (7+n) (by omega);have q14:=fun k=>zad (k:=k) h14
 have hrm:=zc7 a 4 (by omega);have hm4:a%4<4:=Z124 _ (by omega);have hs:zdv[1]? =some [.s [83],.b false,coS]:=rfl;have hmul:zaH .mul (.i .i64 3) (.i .i64 1)=some (.i .i64 3):=rfl;have hw:=zau n (by omega);rw[show((1:Nat):Int)=1 from rfl]at q14;rw[show((4:Nat):Int)=4 from rfl]at hrm;generalize a%4=m4 at hrm hm4
 by_cases hlt:n<m4
 .by_cases hgo:¬n=2
  .have hw4:IntKind.i64.wrap (7:Int)=7:=rfl;have hwn:IntKind.i64.wrap ((7:Int)+(n:Int))=((7+n:Nat):Int):=wrap_i64 _ (by omega) (by omega);have q14b:=fun k=>zad (k:=k) h14b
   have hci:((7+n:Nat):Int)=(7:Int)+(n:Int):=rfl;rw[hci]at q14b hwn;obtain⟨z,hz⟩ :∃r:Int,zaH .shr (.i .i64 b) (.i .u64 4)=some (.i .i64 r):=⟨_,rfl⟩
   obtain⟨p,hp,h15⟩ :=zsl z;obtain⟨p0,p1,p2,rfl,hd0,hd1,hd2⟩ :=zaR _ hp;have q15:=fun k=>zad (k:=k) h15
   have q16:=fun k=>zad (k:=k) zm9
   have hr1:=zc7 b 3 (by omega);have hq1:=zf6 b 3 (by omega) (by omega);have hr2:=zc7 (b/3) 3 (by omega);have hq2:=zf6 (b/3) 3 (by omega) (by have:b/3<=b:=Nat.div_le_self _ _;omega);rw[show((3:Nat):Int)=3 from rfl]at hr1 hq1 hr2 hq2;have hb1:b%3<3:=Z124 _ (by omega);have hb2:b/3%3<3:=Z124 _ (by omega);generalize b/3%3=b2 at hr2 hb2;generalize b/3/3=b4 at hq2;generalize b/3=b3 at hq1 hr2 hq2;generalize b%3=b1 at hr1 hb1;have k1:¬id=s.c:=by omega
   have hok0:TuS ([1+(b1:Int)],[p0,p1,p2]):=⟨hp,1+(b1:Int),rfl⟩
   have hok:zj9 ([1+(b1:Int)],[p0,p1,p2]):=⟨hok0,fun z hz=>by simp only[Z5,Z164,or_false]at hz;omega⟩
   obtain⟨y,hy,h17⟩ :=zsp zqh [83] false coS tu (okS tu (by omega) fun t h=>(hT t h).1) (by omega) ([1+(b1:Int)],[p0,p1,p2]) hp (ckS _ hok.1) (fun m hm=>okS _ (by rw[zgR m hm];omega) fun t h=>(zgW m hT hok t h).1);have h17:Ans pr 30 [.ag [.s [83],.b false,coS,slc 4 (tu.map tuF)],.ag [.sl 3 [[.i .i64 1,.i .i64 (1+(b1:Int)),.s []]],p0,p1,p2]] y:=h17;have hgi:¬(n:Int)=2:=by omega
   simp -implicitDefEqProofs [Vse.rR,h0,h4,h5,h6,h3,h7,g,hxd,q14,hrm,hlt,hs,hgi,hgo,hmul,hw4,hwn,q14b,hz,q15,q16,hd0,hd1,hd2];refine cols1 s.h x 1 id dO n [.f (.s [83]),.f (.b false),.f coS,.f (slc 4 (tu.map tuF))] s.c (.f p0) (.f p1) (.f p2) [83] false coS rfl rfl rfl b b1 b2 b3 b4 hr1 hq1 hr2 hq2 hb1 hb2 _ _ ⟨?_,?_,?_,?_,?_,?_,?_,?_,?_,?_,?_⟩ ?_ ?_ ?_ ?_
   any_goals (simp -implicitDefEqProofs [Vse.rR,h0,h4,h5,h6,h3,h7,g,k1];done)
   .omega
   .intro j hj;simp only[zbi,zb8,zb7,za8,zbW,zbU,zbf,zb6,zb2,zbj,zcb,zca,zaU,zbd,za9,zcf,zci,zcc]
    repeat first|rw[TG,Z49 (by omega)]|rw[Vse.T.zbt,Z49 (by omega)]
   .clear h0 h4 h5 h6 h3 h7 g k1;intro S idv hS gg9 gv hi4 hi5;obtain⟨h0,h4,h5,h6,h3,h7,h9,g,hi1,hi2,hk⟩ :=hS;rw[show((1:Nat):Int)=1 from rfl]at h5;have hcd:coS.d= .f coS:=rfl;have hcc:(D.f coS).cells=some [.f coS]:=rfl;have j1:¬id=s.c:=by omega
    have j2:¬id=idv:=by omega
    have j3:¬id=S.c:=by omega
    have j4:¬s.c=id:=by omega
    have j5:¬s.c=idv:=by omega
    have j6:¬s.c=S.c:=by omega
    have j7:¬idv=id:=by omega
    have j8:¬idv=s.c:=by omega
    have j9:¬idv=S.c:=by omega
    have j10:¬S.c=id:=by omega
    have j11:¬S.c=s.c:=by omega
    have j12:¬S.c=idv:=by omega
    have keep:∀h':Vse.T Ob,(∀j,j<id->h'.get j=S.h.get j)->Grow h' 0 id 4 dO els:=fun h' hh=>Vse.zeA hg (fun j hj=>(hh j hj).trans (hk j hj)) (Z2 _)
    rcases hy with⟨e,he,rfl⟩ |⟨m,hm,hgd,rfl⟩
    .have q17:=fun k=>zad (k:=k) h17
     simp only[zRl]at q17;simp -implicitDefEqProofs [Vse.rR,h0,h4,h5,h6,h3,h7,h9,g,gg9,gv,hcd,hcc,hd0,hd1,hd2,hi2,hi5,j1,j2,j3,j4,j5,j6,j7,j8,j9,j10,j11,j12,q17,he,hw];rw[zdi];refine⟨3 - (n+1),by omega,n+1,tu,by omega,rfl,by omega,?_,⟨hT,hG⟩,?_,?_,?_,?_,?_,?_,?_,?_⟩
     any_goals (simp -implicitDefEqProofs [Vse.rR,h0,h4,h5,h6,h3,h7,h9,g,gg9,gv,hcd,hcc,hd0,hd1,hd2,hi2,hi5,j1,j2,j3,j4,j5,j6,j7,j8,j9,j10,j11,j12];done)
     .simp only[zbi,zb8,zb7,za8,zbW,zbU,zbf,zb6,zb2,zbj,zcb,zca,zaU,zbd,za9,zcf,zci,zcc];refine keep _ ?_;intro j hj
      repeat first|rw[TG,Z49 (by omega)]|rw[Vse.T.zbt,Z49 (by omega)]
     all_goals (simp only[zbi,zb8,zb7,za8,zbW,zbU,zbf,zb6,zb2,zbj,zcb,zca,zaU,zbd,za9,zcf,zci,zcc];omega)
    .have q17:=fun k=>zad (k:=k) h17
     simp only[rlF]at q17;simp -implicitDefEqProofs [Vse.rR,h0,h4,h5,h6,h3,h7,h9,g,gg9,gv,hcd,hcc,hd0,hd1,hd2,hi2,hi5,j1,j2,j3,j4,j5,j6,j7,j8,j9,j10,j11,j12,q17,hw];refine⟨by omega,?_⟩;rw[zdi];refine⟨3 - (n+1),by omega,n+1,tu.take m++([1+(b1:Int)],[p0,p1,p2])::tu.drop m,by omega,rfl,by rw[zgR m hm];omega,?_,⟨zgW m hT hok,hgd⟩,?_,?_,?_,?_,?_,?_,?_,?_⟩
     any_goals (simp -implicitDefEqProofs [Vse.rR,h0,h4,h5,h6,h3,h7,h9,g,gg9,gv,hcd,hcc,hd0,hd1,hd2,hi2,hi5,j1,j2,j3,j4,j5,j6,j7,j8,j9,j10,j11,j12];done)
     .simp only[zbi,zb8,zb7,za8,zbW,zbU,zbf,zb6,zb2,zbj,zcb,zca,zaU,zbd,za9,zcf,zci,zcc];refine keep _ ?_;intro j hj
      repeat first|rw[TG,Z49 (by omega)]|rw[Vse.T.zbt,Z49 (by omega)]
     all_goals (simp only[zbi,zb8,zb7,za8,zbW,zbU,zbf,zb6,zb2,zbj,zcb,zca,zaU,zbd,za9,zcf,zci,zcc];omega)
  .have h2:n=2:=by omega
   subst h2;rw[show((2:Nat):Int)=2 from rfl]at h7;have hlt2:(2:Int)< (m4:Int):=by omega
   simp -implicitDefEqProofs [Vse.rR,h0,h4,h5,h6,h3,h7,g,hxd,q14,hrm,hlt,hs,hlt2];refine⟨rfl,tu,by omega,⟨hT,hG⟩,?_,?_,?_,?_,?_,?_,?_,?_⟩
   all_goals simp -implicitDefEqProofs [Vse.rR,h0,h4,h5,h6,h3,g,hg,c0]
 .simp -implicitDefEqProofs [Vse.rR,h0,h4,h5,h6,h3,h7,g,hxd,q14,hrm,hlt,hs];refine⟨rfl,tu,by omega,⟨hT,hG⟩,?_,?_,?_,?_,?_,?_,?_,?_⟩
  all_goals simp -implicitDefEqProofs [Vse.rR,h0,h4,h5,h6,h3,g,hg,c0]
def stepK(x:F)(hx:zdg x)(hxd:x.d= .f x)(id:Nat)(dO:D)(els:List (List D)):∀k s,KI [75] false coK zj6 2 x id dO els k s->wpC pr lo2 s (lp (KI [75] false coK zj6 2 x id dO els) k (KR [75] false coK zj6 2 x id dO els)):=by
 unfold lo2 g9;simp only[rU,C.l,C.r,C.b,C.o];rintro k s ⟨n,tu,hn,rfl,htl,h7,⟨hT,hG⟩,h0,h4,h5,h6,h3,g,hg,c0⟩;obtain⟨a,ha,h14⟩ :=ziz hx 2 (by omega);obtain⟨b,hb,h14b⟩ :=ziz hx (10+n) (by omega);have q14:=fun k=>zad (k:=k) h14
 have hrm:=zc7 a 4 (by omega);have hm4:a%4<4:=Z124 _ (by omega);have hs:zdv[2]? =some [.s [75],.b false,coK]:=rfl;have hmul:zaH .mul (.i .i64 3) (.i .i64 2)=some (.i .i64 6):=rfl;have hw:=zau n (by omega);rw[show((2:Nat):Int)=2 from rfl]at q14;rw[show((4:Nat):Int)=4 from rfl]at hrm;generalize a%4=m4 at hrm hm4
 by_cases hlt:n<m4
 .by_cases hgo:True
  .have hw4:IntKind.i64.wrap (10:Int)=10:=rfl;have hwn:IntKind.i64.wrap ((10:Int)+(n:Int))=((10+n:Nat):Int):=wrap_i64 _ (by omega) (by omega);have q14b:=fun k=>zad (k:=k) h14b
   have hci:((10+n:Nat):Int)=(10:Int)+(n:Int):=rfl;rw[hci]at q14b hwn;obtain⟨z,hz⟩ :∃r:Int,zaH .shr (.i .i64 b) (.i .u64 4)=some (.i .i64 r):=⟨_,rfl⟩
   obtain⟨p,hp,h15⟩ :=zsl z;obtain⟨p0,p1,p2,rfl,hd0,hd1,hd2⟩ :=zaR _ hp;have q15:=fun k=>zad (k:=k) h15
   have q16:=fun k=>zad (k:=k) zm9
   have hr1:=zc7 b 3 (by omega);have hq1:=zf6 b 3 (by omega) (by omega);have hr2:=zc7 (b/3) 3 (by omega);have hq2:=zf6 (b/3) 3 (by omega) (by have:b/3<=b:=Nat.div_le_self _ _;omega);rw[show((3:Nat):Int)=3 from rfl]at hr1 hq1 hr2 hq2;have hb1:b%3<3:=Z124 _ (by omega);have hb2:b/3%3<3:=Z124 _ (by omega);generalize b/3%3=b2 at hr2 hb2;generalize b/3/3=b4 at hq2;generalize b/3=b3 at hq1 hr2 hq2;generalize b%3=b1 at hr1 hb1;have k1:¬id=s.c:=by omega
   have hok0:TuK ([1+(b1:Int),1+(b2:Int)],[p0,p1,p2]):=⟨hp,1+(b1:Int),1+(b2:Int),rfl,by omega,by omega⟩
   have hok:zj6 ([1+(b1:Int),1+(b2:Int)],[p0,p1,p2]):=⟨hok0,fun z hz=>by simp only[Z5,Z164,or_false]at hz;omega⟩
   obtain⟨y,hy,h17⟩ :=zsp zqh [75] false coK tu (okK tu (by omega) fun t h=>(hT t h).1) (by omega) ([1+(b1:Int),1+(b2:Int)],[p0,p1,p2]) hp (ckK _ hok.1) (fun m hm=>okK _ (by rw[zgR m hm];omega) fun t h=>(zgW m hT hok t h).1);have h17:Ans pr 30 [.ag [.s [75],.b false,coK,slc 4 (tu.map tuF)],.ag [.sl 3 [[.i .i64 1,.i .i64 (1+(b1:Int)),.s []],[.i .i64 1,.i .i64 (1+(b2:Int)),.s []]],p0,p1,p2]] y:=h17;simp -implicitDefEqProofs [Vse.rR,h0,h4,h5,h6,h3,h7,g,hxd,q14,hrm,hlt,hs,hgo,hmul,hw4,hwn,q14b,hz,q15,q16,hd0,hd1,hd2];refine zzs s.h x 2 id dO n [.f (.s [75]),.f (.b false),.f coK,.f (slc 4 (tu.map tuF))] s.c (.f p0) (.f p1) (.f p2) [75] false coK rfl rfl rfl b b1 b2 b3 b4 hr1 hq1 hr2 hq2 hb1 hb2 _ _ ⟨?_,?_,?_,?_,?_,?_,?_,?_,?_,?_,?_⟩ ?_ ?_ ?_ ?_
   any_goals (simp -implicitDefEqProofs [Vse.rR,h0,h4,h5,h6,h3,h7,g,k1];done)
   .omega
   .intro j hj;simp only[zbi,zb8,zb7,za8,zbW,zbU,zbf,zb6,zb2,zbj,zcb,zca,zaU,zbd,za9,zcf,zci,zcc]
    repeat first|rw[TG,Z49 (by omega)]|rw[Vse.T.zbt,Z49 (by omega)]
   .clear h0 h4 h5 h6 h3 h7 g k1;intro S idv hS gg9 gv hi4 hi5;obtain⟨h0,h4,h5,h6,h3,h7,h9,g,hi1,hi2,hk⟩ :=hS;rw[show((2:Nat):Int)=2 from rfl]at h5;have hcd:coK.d= .f coK:=rfl;have hcc:(D.f coK).cells=some [.f coK]:=rfl;have j1:¬id=s.c:=by omega
    have j2:¬id=idv:=by omega
    have j3:¬id=S.c:=by omega
    have j4:¬s.c=id:=by omega
    have j5:¬s.c=idv:=by omega
    have j6:¬s.c=S.c:=by omega
    have j7:¬idv=id:=by omega
    have j8:¬idv=s.c:=by omega
    have j9:¬idv=S.c:=by omega
    have j10:¬S.c=id:=by omega
    have j11:¬S.c=s.c:=by omega
    have j12:¬S.c=idv:=by omega
    have keep:∀h':Vse.T Ob,(∀j,j<id->h'.get j=S.h.get j)->Grow h' 0 id 4 dO els:=fun h' hh=>Vse.zeA hg (fun j hj=>(hh j hj).trans (hk j hj)) (Z2 _)
    rcases hy with⟨e,he,rfl⟩ |⟨m,hm,hgd,rfl⟩
    .have q17:=fun k=>zad (k:=k) h17
     simp only[zRl]at q17;simp -implicitDefEqProofs [Vse.rR,h0,h4,h5,h6,h3,h7,h9,g,gg9,gv,hcd,hcc,hd0,hd1,hd2,hi2,hi5,j1,j2,j3,j4,j5,j6,j7,j8,j9,j10,j11,j12,q17,he,hw];rw[zdi];refine⟨3 - (n+1),by omega,n+1,tu,by omega,rfl,by omega,?_,⟨hT,hG⟩,?_,?_,?_,?_,?_,?_,?_,?_⟩
     any_goals (simp -implicitDefEqProofs [Vse.rR,h0,h4,h5,h6,h3,h7,h9,g,gg9,gv,hcd,hcc,hd0,hd1,hd2,hi2,hi5,j1,j2,j3,j4,j5,j6,j7,j8,j9,j10,j11,j12];done)
     .simp only[zbi,zb8,zb7,za8,zbW,zbU,zbf,zb6,zb2,zbj,zcb,zca,zaU,zbd,za9,zcf,zci,zcc];refine keep _ ?_;intro j hj
      repeat first|rw[TG,Z49 (by omega)]|rw[Vse.T.zbt,Z49 (by omega)]
     all_goals (simp only[zbi,zb8,zb7,za8,zbW,zbU,zbf,zb6,zb2,zbj,zcb,zca,zaU,zbd,za9,zcf,zci,zcc];omega)
    .have q17:=fun k=>zad (k:=k) h17
     simp only[rlF]at q17;simp -implicitDefEqProofs [Vse.rR,h0,h4,h5,h6,h3,h7,h9,g,gg9,gv,hcd,hcc,hd0,hd1,hd2,hi2,hi5,j1,j2,j3,j4,j5,j6,j7,j8,j9,j10,j11,j12,q17,hw];refine⟨by omega,?_⟩;rw[zdi];refine⟨3 - (n+1),by omega,n+1,tu.take m++([1+(b1:Int),1+(b2:Int)],[p0,p1,p2])::tu.drop m,by omega,rfl,by rw[zgR m hm];omega,?_,⟨zgW m hT hok,hgd⟩,?_,?_,?_,?_,?_,?_,?_,?_⟩
     any_goals (simp -implicitDefEqProofs [Vse.rR,h0,h4,h5,h6,h3,h7,h9,g,gg9,gv,hcd,hcc,hd0,hd1,hd2,hi2,hi5,j1,j2,j3,j4,j5,j6,j7,j8,j9,j10,j11,j12];done)
     .simp only[zbi,zb8,zb7,za8,zbW,zbU,zbf,zb6,zb2,zbj,zcb,zca,zaU,zbd,za9,zcf,zci,zcc];refine keep _ ?_;intro j hj
      repeat first|rw[TG,Z49 (by omega)]|rw[Vse.T.zbt,Z49 (by omega)]
     all_goals (simp only[zbi,zb8,zb7,za8,zbW,zbU,zbf,zb6,zb2,zbj,zcb,zca,zaU,zbd,za9,zcf,zci,zcc];omega)
  .exact absurd trivial hgo
 .simp -implicitDefEqProofs [Vse.rR,h0,h4,h5,h6,h3,h7,g,hxd,q14,hrm,hlt,hs];refine⟨rfl,tu,by omega,⟨hT,hG⟩,?_,?_,?_,?_,?_,?_,?_,?_⟩
  all_goals simp -implicitDefEqProofs [Vse.rR,h0,h4,h5,h6,h3,g,hg,c0]
end Go.Proofs.YtbhholaillniiaaGreatDoor
end
