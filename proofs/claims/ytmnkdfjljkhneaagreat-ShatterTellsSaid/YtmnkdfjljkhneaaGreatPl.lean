/- The reference: nextRank. -/
import Derived.Test.YtmnkdfjljkhneaaGreatPi
import Derived.Test.YtmnkdfjljkhneaaGreatPk
import Derived.KernelRfl
import Derived.IntWalk
set_option linter.all false
set_option maxRecDepth 100000
set_option maxHeartbeats 4000000
section
namespace Go.Proofs.YtmnkdfjljkhneaaGreat
open Go Go.Vse Go.Vse.Sm
def fn40:pr.fn 40=some g40:=by kernel_rfl
def nrP(hd:List Str)(c:CQ)(x y:Str):Bool:=!(inH hd x||inH hd y||c.cs.any (zcY 3 (.var x) (.var y)))&&zhP c x y
def nrF(hd:List Str)(c:CQ)(ns:List Str)(i:Nat):Option (Str×Str):=match ns[i]? with
 |some x=>((ns.drop (i+1)).find? (nrP hd c x)).map fun y=>(x,y)
 |none=>none
def nrN(hd:List Str)(c:CQ)(ns:List Str):Option (Str×Str):=(List.range ns.length).findSome? (nrF hd c ns)
def nrQ(hd:List Str)(c:CQ):Option (Str×Str):=nrN hd c (vrs c)
def zPN(hd:List Str)(c:CQ){ns:List Str}{i:Nat}{x:Str}(h:ns[i]? =some x):nrF hd c ns i=((ns.drop (i+1)).find? (nrP hd c x)).map fun y=>(x,y):=by unfold nrF;rw[h]
def nrS(hd:List Str)(l:List CQ):Option (Nat×Str×Str):=match l.findIdx? fun c=>(nrQ hd c).isSome with
 |some i=>match l[i]? with
  |some c=>(nrQ hd c).map fun p=>(i,p)
  |none=>none
 |none=>none
def nrR:Option (Nat×Str×Str)->F
 |none=> .tu [.i .i64 0,.s [],.s [],.b false]
 |some p=> .tu [.i .i64 p.1,.s p.2.1,.s p.2.2,.b true]
def zzj(s:St)(a b c d:Rv):resD s [a,b,c,d]=om (resV s a) fun x=>om (resV s b) fun y=>om (resV s c) fun z=>om (resV s d) fun w=>some (.tu [x,y,z,w]):=by
 simp only[resD,zaw,om];cases resV s a<;>cases resV s b<;>cases resV s c<;>cases resV s d<;>rfl
def ziK{ops:List (Vse.Op×Nat)}{S:St}{Q:Ex->St->Prop}(P:St->Prop)(h1:P S)(h2:∀s,P s->WD pr ops s Q):WD pr ops S Q:=h2 S h1
def N1(hd:List Str)(l:List CQ)(n:Nat)(s:St):Prop:=(s.tm.get 1=some (.ptr 0 2 0 0)/\s.tm.get 6=some (.f (.i .i64 n))/\s.h.get 0=some (.arr 2 0 [[.f (zaq hd),.f (qsF l)]]))/\1<=s.c
def N2(hd:List Str)(l:List CQ)(q:CQ)(ns:List Str)(n P:Nat)(d:D)(k:Nat)(s:St):Prop:=(s.tm.get 1=some (.ptr 0 2 0 0)/\s.tm.get 6=some (.f (.i .i64 n))/\s.tm.get 7=some (.ptr P 2 0 0)/\s.tm.get 8=some (d)/\s.tm.get 9=some (.f (.i .i64 k))/\s.h.get 0=some (.arr 2 0 [[.f (zaq hd),.f (qsF l)]])/\s.h.get P=some (.arr 2 0 [[.f (zaB q),.f (zaC q)]]))/\Gro s.h (P+1) s.c 1 d (zaT ns)/\1<=P/\P<s.c
def N3(hd:List Str)(l:List CQ)(q:CQ)(ns:List Str)(n P:Nat)(d:D)(k j:Nat)(s:St):Prop:=∃m:Nat,m=k+1+j/\(s.tm.get 1=some (.ptr 0 2 0 0)/\s.tm.get 6=some (.f (.i .i64 n))/\s.tm.get 7=some (.ptr P 2 0 0)/\s.tm.get 8=some (d)/\s.tm.get 9=some (.f (.i .i64 k))/\s.tm.get 10=some (.f (.i .i64 m))/\s.h.get 0=some (.arr 2 0 [[.f (zaq hd),.f (qsF l)]])/\s.h.get P=some (.arr 2 0 [[.f (zaB q),.f (zaC q)]]))/\Gro s.h (P+1) s.c 1 d (zaT ns)/\1<=P/\P<s.c
def zlz{h:T Ob}{lo c:Nat}{d:D}{l:List Str}(hg:Gro h lo c 1 d (zaT l)){n:Nat}(hn:n<l.length):∃id ro,d= .sl id 0 l.length 1 l.length false/\h.get id=some (.arr 1 ro (zaT l))/\(zaT l)[n]? =some [D.f (.s l[n])]/\lo<=id/\id<c:=by
 rcases hg with⟨-,e⟩ |⟨id,ro,rfl,-,hid,-,h1,h2⟩
 .have:=congrArg List.length e;rw[zbO,List.length_nil]at this;omega
 .exact⟨id,ro,by rw[zbO],hid,by simp[zaT,Z0 hn],h1,h2⟩
def zA2{h:T Ob}{lo lo' c es:Nat}{d:D}{els:List (List D)}(hg:Gro h lo c es d els)(hl:lo'<=lo):Gro h lo' c es d els:=by
 rcases hg with h|⟨id,ro,h1,h2,h3,h4,h5,h6⟩
 .exact .inl h
 .exact .inr ⟨id,ro,h1,h2,h3,h4,by omega,h6⟩
def zA7{h:T Ob}{lo c:Nat}{d:D}{l:List Str}(hg:Gro h lo c 1 d (zaT l)):zcx d=some l.length:=by
 rw[zmr hg,zbO]
def NR(n:Nat)(p:Str×Str)(e:Ex)(s:St):Prop:=e= .ret/\s.tm.get 2=some (.f (.i .i64 n))/\s.tm.get 3=some (.f (.s p.1))/\s.tm.get 4=some (.f (.s p.2))/\s.tm.get 5=some (.f (.b true))
def zxP(hd:List Str)(l:List CQ)(hQ:QG hd l):Ans pr 40 [.ag [zaq hd,qsF l]] (nrR (nrS hd l)):=by
  obtain⟨hh,hl,hq⟩ :=hQ;refine zbd fn40 ?_;simp only[g40,rU];simp[rW,st0,zae,zaN,zcy];refine zcf l (fun c=>(nrQ hd c).isSome) (N1 hd l) (fun e s=>e= .exit 0) (fun n e s=>∃c p,l[n]? =some c/\nrQ hd c=some p/\NR n p e s) ?_ ?_ _ ?_ ?_ ?_
  . rintro n s hn ⟨⟨h1,h6,g0⟩,hlo⟩;have hw:=zao n (by omega);have hx:l[n]? =some l[n]:=Z0 hn;have hG:=hq _ (Z1 hn);generalize hA:l[n]=q at hx hG|-;have n0:¬(0=s.c):=by omega
    simp -implicitDefEqProofs [rW,h1,h6,g0,hn,zbN,zdr,hx,hA,cqE,zaF,zaH,n0];refine zcz rfl rfl (zHO q hG.toCqSm) ?_;rintro d H c1 lw1 mx1 ⟨hGr,hF⟩ hcc;simp only[rG]at hF hGr hcc;have k0:=hF 0 (by omega);have k1:=hF s.c (by omega);simp[Vse.T.zad,n0,g0]at k0 k1;have hvl:=zmM hG.toCqSm;have hne:=zhO q;have hQe:nrQ hd q=nrN hd q (vrs q):=rfl;generalize hNS:vrs q=ns at*;simp[rW,];refine zcf (List.range ns.length) (fun i=>(nrF hd q ns i).isSome) (N2 hd l q ns n s.c d) (fun e s'=>e= .exit 2/\N1 hd l n s') (fun k e s'=>∃p,nrF hd q ns k=some p/\NR n p e s') ?_ ?_ _ ?_ ?_ ?_
    . rintro k s' hk ⟨⟨h1,h6,h7,h8,h9,g0,gP⟩,hg,hP1,hP2⟩;rw[Z37]at hk;rw[List.getElem_range];have hw2:=zao k (by omega);have hnx:ns[k]? =some ns[k]:=Z0 hk;have hxne:=hne _ (Z1 hk);have hyn:=zPN hd q hnx;obtain⟨id,ro,rfl,gid,hX,i1,i2⟩ :=zlz hg hk;generalize hXe:ns[k]=x at hnx hxne hyn hX;simp -implicitDefEqProofs [rW,h1,h6,h7,h8,h9,g0,gP,hk,hw2];refine zcf (ns.drop (k+1)) (nrP hd q x) (N3 hd l q ns n s.c (.sl id 0 ns.length 1 ns.length false) k) (fun e s'=>e= .exit 4/\N2 hd l q ns n s.c (.sl id 0 ns.length 1 ns.length false) k s') (fun m e s'=>∃y,(ns.drop (k+1))[m]? =some y/\NR n (x,y) e s') ?_ ?_ _ ?_ ?_ ?_
      . rintro j s2 hj ⟨m,hm,⟨h1,h6,h7,h8,h9,h10,g0,gP⟩,hg2,hP1,hP2⟩;rw[List.length_drop]at hj;have hmn:m<ns.length:=by omega
        have hw3:=zao m (by omega);obtain⟨id2,ro2,e,gid2,hY,i3,i4⟩ :=zlz hg2 hmn;cases e;have hX2:(zaT ns)[k]? =some [D.f (.s x)]:=hX;have hey:(ns.drop (k+1))[j]'(by simp;omega)=ns[m]:=by rw[List.getElem_drop];simp[hm]
        have hyn2:(ns.drop (k+1))[j]? =some ns[m]:=by rw[<-hey];exact Z0 (by simp;omega)
        have hyn3:ns[k+1+j]? =some ns[m]:=by rw[<-hm];exact Z0 hmn
        have hyne:=hne _ (Z1 hmn);rw[hey];generalize hYe:ns[m]=y at hY hyn2 hyn3 hyne|-;have q0:=fun f=>zaj (k:=f) (zrQ hd x (by omega))
        have q1:=fun f=>zaj (k:=f) (zrQ hd y (by omega))
        have q2:=fun f=>zaj (k:=f) (zGL q 3 (.var x) (.var y) hG hxne hyne)
        have q3:=fun f=>zaj (k:=f) (ans77 q x y hG hxne hyne)
        simp only[cqE,tmF]at q2 q3;unfold nrP;unfold inH;generalize hb0:hd.any (· ==x)=b0 at q0|-;generalize hb1:hd.any (· ==y)=b1 at q1|-;generalize hb2:q.cs.any (zcY 3 (.var x) (.var y))=b2 at q2|-;generalize hb3:zhP q x y=b3 at q3|-;have stay:∀s3:St,s2.c<=s3.c->(∀x,x<s2.c->s3.h.get x=s2.h.get x)->(s3.tm.get 1=some (.ptr 0 2 0 0)/\s3.tm.get 6=some (.f (.i .i64 n))/\s3.tm.get 7=some (.ptr s.c 2 0 0)/\s3.tm.get 8=some (.sl id 0 ns.length 1 ns.length false)/\s3.tm.get 9=some (.f (.i .i64 k))/\s3.tm.get 10=some (.f (.i .i64 (m+1:Nat))))->N3 hd l q ns n s.c (.sl id 0 ns.length 1 ns.length false) k (j+1) s3:=by
          rintro s3 hc3 hh3 ⟨t1,t2,t3,t4,t5,t6⟩;refine⟨m+1,by omega,⟨t1,t2,t3,t4,t5,t6,by rw[hh3 _ (by omega)];exact g0,by rw[hh3 _ hP2];exact gP⟩,zaS hg2 hc3 fun x _ hx=>hh3 x hx,hP1,by omega⟩
        simp -implicitDefEqProofs [rW,h1,h6,h7,h8,h9,h10,g0,gP,hmn];refine zaL ?_;cases b0 with
        | true=>
          simp -implicitDefEqProofs [rW,h1,h6,h7,h8,h9,h10,g0,gP,hk,hmn,gid2,hX2,hY,q0,hw3];refine stay _ (by simp[rW,];omega) (fun x hx=>by simp[rW,]) ?_;simp -implicitDefEqProofs [rW,h1,h6,h7,h8,h9,h10,hw3]
        | false=>
          cases b1 with
          | true=>
            simp -implicitDefEqProofs [rW,h1,h6,h7,h8,h9,h10,g0,gP,hk,hmn,gid2,hX2,hY,q0,q1,hw3];refine stay _ (by simp[rW,];omega) (fun x hx=>by simp[rW,]) ?_;simp -implicitDefEqProofs [rW,h1,h6,h7,h8,h9,h10,hw3]
          | false=>
            cases b2 with
            | true=>
              simp -implicitDefEqProofs [rW,h1,h6,h7,h8,h9,h10,g0,gP,hk,hmn,gid2,hX2,hY,q0,q1,q2,hw3,zaF,zaH];refine stay _ (by simp[rW,];omega) (fun x hx=>by simp[rW,]) ?_;simp -implicitDefEqProofs [rW,h1,h6,h7,h8,h9,h10,hw3]
            | false=>
              simp -implicitDefEqProofs [rW,h1,h6,h7,h8,h9,h10,g0,gP,hk,hmn,gid2,hX2,hY,q0,q1,q2,hw3,zaF,zaH];refine ziK (fun S=>s2.c<=S.c/\(∀x,x<s2.c->S.h.get x=s2.h.get x)/\S.tm.get 1=some (.ptr 0 2 0 0)/\S.tm.get 6=some (.f (.i .i64 n))/\S.tm.get 7=some (.ptr s.c 2 0 0)/\S.tm.get 8=some (.sl id 0 ns.length 1 ns.length false)/\S.tm.get 9=some (.f (.i .i64 k))/\S.tm.get 10=some (.f (.i .i64 m))) ⟨?_,fun x hx=> ?_,?_⟩ ?_
              . simp[rW,];omega
              . simp[rW,]
              . simp -implicitDefEqProofs [rW,h1,h6,h7,h8,h9,h10]
              rintro S ⟨hSc,hSh,h1,h6,h7,h8,h9,h10⟩;have g0':S.h.get 0=some (.arr 2 0 [[.f (zaq hd),.f (qsF l)]]):=by rw[hSh _ (by omega)];exact g0
              have gP':=hSh _ hP2;rw[gP]at gP';have gi':=hSh id (by omega);rw[gid2]at gi';refine zaL ?_;cases b3 with
              | true=>
                simp -implicitDefEqProofs [rW,h1,h6,h7,h8,h9,h10,g0',gP',gi',hk,hmn,hX2,hY,q3,zaF,zaH];refine zaL ?_;simp -implicitDefEqProofs [rW,h1,h6,h7,h8,h9,h10,g0',gP',gi',hk,hmn,hX2,hY];refine⟨y,hyn3,rfl,?_⟩;simp -implicitDefEqProofs [rW,h1,h6,h7,h8,h9,h10]
              | false=>
                simp -implicitDefEqProofs [rW,h1,h6,h7,h8,h9,h10,g0',gP',gi',hk,hmn,hX2,hY,q3,hw3,zaF,zaH];refine stay _ (by simp[rW,];omega) (fun x hx=>by simp[rW,];exact hSh x hx) ?_;simp -implicitDefEqProofs [rW,h1,h6,h7,h8,h9,h10,hw3]
      . rintro s2 ⟨m,hm,⟨h1,h6,h7,h8,h9,h10,g0,gP⟩,hg2,hP1,hP2⟩;have hmn:¬m<ns.length:=by rw[List.length_drop]at hm;omega
        simp -implicitDefEqProofs [rW,h1,h6,h7,h8,h9,h10,g0,gP,hmn];unfold N2;simp -implicitDefEqProofs [rW,h1,h6,h7,h8,h9,h10,g0,gP,hP1,hP2];exact hg2
      . refine⟨k+1,rfl,?_,by simp[rW,];exact hg,hP1,by simp[rW,];exact hP2⟩;simp -implicitDefEqProofs [rW,h1,h6,h7,h8,h9,g0,gP,hw2]
      . rintro hno e s2 ⟨rfl,⟨h1,h6,h7,h8,h9,g0,gP⟩,hg2,hP1,hP2⟩;have e:nrF hd q ns k=none:=by
          rw[hyn,List.find?_eq_none.2 fun y hy=>by rw[hno y hy];simp];rfl
        simp -implicitDefEqProofs [rW,h1,h6,h7,h8,h9,g0,gP,hw2,e];unfold N2;simp -implicitDefEqProofs [rW,h1,h6,h7,h8,h9,g0,gP,hw2,hP1,hP2];exact hg2
      . rintro j hj hp hbf e s2 ⟨y,hy,hR⟩;have hy2:y=(ns.drop (k+1))[j]:=by rw[Z0 hj]at hy;exact (Option.some.inj hy).symm
        have e:nrF hd q ns k=some (x,y):=by
          rw[hyn,ziw hj hp hbf,hy2];rfl
        obtain⟨rfl,h2,h3,h4,h5⟩ :=hR;simp[rW,e];exact⟨x,y,⟨rfl,rfl⟩,rfl,h2,h3,h4,h5⟩
    . rintro s' ⟨⟨h1,h6,h7,h8,h9,g0,gP⟩,hg,hP1,hP2⟩;rw[Z37]at h9;have hln:=zA7 hg;simp -implicitDefEqProofs [rW,h1,h6,h7,h8,h9,g0,gP,hln];unfold N1;simp -implicitDefEqProofs [rW,h1,h6,h7,h8,h9,g0,gP];omega
    . refine⟨?_,?_,hlo,?_⟩
      . simp -implicitDefEqProofs [rW,h1,h6,k0,k1]
      . simp[rW,];exact zA2 hGr (by omega)
      . simp[rW,];omega
    . rintro hno e s' ⟨rfl,⟨h1,h6,g0⟩,hlo⟩;have e:nrQ hd q=none:=by
        rw[hQe];unfold nrN;exact zrV hno
      simp -implicitDefEqProofs [rW,h1,h6,g0,hw,e];unfold N1;simp -implicitDefEqProofs [rW,h1,h6,g0,hw,hlo]
    . rintro k hk hp hbf e s' ⟨p,h1,rfl,h2,h3,h4,h5⟩;have e:nrQ hd q=some p:=by
        rw[hQe];unfold nrN;rw[zot hk hp hbf,List.getElem_range];exact h1
      simp[rW,e];exact⟨q,hx,p.1,p.2,e,rfl,h2,h3,h4,h5⟩
  . rintro s ⟨⟨h1,h6,g0⟩,hlo⟩;simp -implicitDefEqProofs [rW,h1,h6,g0,zbN]
  . unfold N1;simp[rW,]
  . rintro hno e s rfl;have e:nrS hd l=none:=by
      unfold nrS;rw[Z43.2 hno]
    simp[rW,e,nrR,zzj]
  . rintro n hn hp hbf e s ⟨c,p,h1,hq2,rfl,h2,h3,h4,h5⟩;have e:nrS hd l=some (n,p):=by
      unfold nrS;have e1:(l.findIdx? fun c=>(nrQ hd c).isSome)=some n:=Z26.2 ⟨hn,hp,fun j hj=>by rw[hbf j hj];simp⟩;rw[e1];simp only[h1];rw[hq2];rfl
    simp -implicitDefEqProofs [rW,h2,h3,h4,h5,e,nrR,zzj]
def fn36:pr.fn 36=some g36:=by kernel_rfl
def zpO(h:Nat->Option Ob)(k:Nat)(l:List CQ):zaQ (frz h (k+1)) (l.map fun x=>List.map D.f (cqF x))=some (l.map cqF,[]):=by
 have e:(l.map fun x=>List.map D.f (cqF x))=(l.map cqF).map fun a=>a.map D.f:=by rw[Z33];rfl
 rw[e];exact zfm h k _
def qs_rp{l:List CQ}{i:Nat}{L:List CQ}(hL:L≠[]):qsF (rp l i L)= .sl 2 ((l.take i).map cqF++(L.map cqF++(l.drop (i+1)).map cqF)):=by
 unfold qsF rp;rw[<-zbR (by simp[hL])];simp
def zrL(hd:List Str)(l L:List CQ)(i:Nat)(hi:i<l.length)(hl:l.length<=1000)(h2L:2<=L.length)(hL2:L.length<=10):Ans pr 36 [.ag [zaq hd,qsF l],.i .i64 i,qsF L] (.ag [zaq hd,qsF (rp l i L)]):=by
 refine zbd fn36 ?_;simp only[g36,rU];have hw:=zao i (by omega);have hne:l≠[]:=fun e=>by rw[e]at hi;simp at hi
 have hLe:L≠[]:=fun e=>by rw[e]at h2L;simp at h2L
 have hcm:qsF l= .sl 2 (l.map cqF):=(zbR (by simpa using hne)).symm;have hcd:(F.sl 2 (l.map cqF)).d= .f (.sl 2 (l.map cqF)):=by rw[<-hcm];exact zcy l
 have hLm:qsF L= .sl 2 (L.map cqF):=(zbR (by simpa using hLe)).symm;have hLd:(F.sl 2 (L.map cqF)).d= .f (.sl 2 (L.map cqF)):=by rw[<-hLm];exact zcy L
 have ec:=qs_rp (l:=l) (i:=i) hLe;rw[ec,hcm,hLm];clear ec hcm hLm;simp[rW,st0,zae,zaN,hcd,hLd];have hi1:i<=l.length:=by omega
 have hi2:i+1<=l.length:=by omega
 have hi0:(0:Int)<=(i:Int)+1:=by omega
 obtain⟨E1,hE1⟩ :∃E,E=List.take i (List.map (fun x=>List.map D.f (cqF x)) l):=⟨_,rfl⟩
 obtain⟨E2,hE2⟩ :∃E,E=List.take (l.length - (i+1)) (List.drop (i+1) (List.map (fun x=>List.map D.f (cqF x)) l)):=⟨_,rfl⟩
 obtain⟨G,hG⟩ :∃E,E=List.map (fun x=>List.map D.f (cqF x)) L:=⟨_,rfl⟩
 have hE1':=hE1.symm;have hE2':=hE2.symm;have hG':=hG.symm;have l1:E1.length=i:=by rw[hE1,Z41,Z18];omega
 have l2:E2.length=l.length - (i+1):=by rw[hE2,Z41,List.length_drop,Z18];omega
 have l3:G.length=L.length:=by rw[hG,Z18]
 have f1:∀h k,zaQ (frz h (k+1)) E1=some ((l.take i).map cqF,[]):=fun h k=>by rw[hE1,<-List.map_take];exact zpO h k _
 have f2:∀h k,zaQ (frz h (k+1)) E2=some ((l.drop (i+1)).map cqF,[]):=fun h k=>by rw[hE2,Z11 (by simp),<-List.map_drop];exact zpO h k _
 have f3:∀h k,zaQ (frz h (k+1)) G=some (L.map cqF,[]):=fun h k=>by rw[hG];exact zpO h k _
 have g1:∀h,zaQ (frz h 10) E1=some ((l.take i).map cqF,[]):=fun h=>f1 h 9
 have g2:∀h,zaQ (frz h 10) E2=some ((l.drop (i+1)).map cqF,[]):=fun h=>f2 h 9
 have g3:∀h,zaQ (frz h 10) G=some (L.map cqF,[]):=fun h=>f3 h 9
 clear f1 f2 f3;obtain⟨c,hc⟩ :∃c,c=l.length - (i+1):=⟨_,rfl⟩
 obtain⟨b,hb⟩ :∃b,b=L.length:=⟨_,rfl⟩
 rw[<-hc]at hE2' l2;rw[<-hb]at l3;have hc':=hc.symm;have hb':=hb.symm;have e3:¬(G=[]):=fun e=>by rw[e]at l3;simp at l3;omega
 have hb0:¬(b=0):=by omega
 have m1:(i<=zak)=True:=zaV (by omega);have m2:(i*48<=zak)=True:=zaV (by omega);have m3:(b<=zak)=True:=zaV (by omega);have m4:(b*48<=zak)=True:=zaV (by omega);have m5:(i+b<=zak)=True:=zaV (by omega);have m6:((i+b)*48<=zak)=True:=zaV (by omega);have m7:(i+b+c<=zak)=True:=zaV (by omega);have m8:((i+b+c)*48<=zak)=True:=zaV (by omega);have m9:(b+c<=zak)=True:=zaV (by omega);have m10:((b+c)*48<=zak)=True:=zaV (by omega);have ht1:List.take i E1=E1:=Z11 (by omega);have ht2:List.take (i+b) (E1++G)=E1++G:=Z11 (by rw[Z16];omega);have ht3:List.take (i+b+c) (E1++(G++E2))=E1++(G++E2):=Z11 (by simp[Z16];omega);have ht4:List.take b G=G:=Z11 (by omega);have ht5:List.take (b+c) (G++E2)=G++E2:=Z11 (by rw[Z16];omega)
 by_cases h1:i=0
 .have e1:E1=[]:=Z17.1 (by omega);subst h1;subst e1;have hw0:IntKind.i64.wrap 1=1:=rfl;simp only[Z25]at hE2' l2 ht3 g2 hi2 hc';have hE3:List.take c (List.map (fun x=>List.map D.f (cqF x)) l).tail=E2:=by rw[<-List.drop_one];exact hE2'
  by_cases h2:c=0
  .have e2:E2=[]:=Z17.1 (by omega);have e4:l.drop 1=[]:=Z24 (by omega);simp[rW,zcC,hw0,zeM,hi2,hc',hE3,h2,e2,hb',l3,hG',e3,hb0,m3,m4,List.take_zero];refine zaL ?_;simp[rW,zcC,hw0,zeM,hi2,hc',hE3,h2,e2,hb',l3,hG',e3,hb0,m3,m4,g3,ht4,List.take_zero];rw[<-List.drop_one,Z24 (by simp;omega)]
  .have e2:¬(E2=[]):=fun e=>by rw[e]at l2;simp at l2;omega
   have hgt:¬(b+c<=b):=by omega
   simp[rW,zcC,hw0,zeM,hi2,hc',hE3,h2,e2,hb',l3,hG',e3,hb0,m3,m4,List.take_zero];refine zaL ?_;simp[rW,zcC,hw0,zeM,hi2,hc',hE3,h2,e2,l2,hb',l3,hG',e3,hb0,hgt,m3,m4,m9,m10,g2,g3,zkO,ht4,ht5,List.take_zero]
 .have e1:¬(E1=[]):=fun e=>by rw[e]at l1;simp at l1;omega
  have hgt0:¬(i+b<=i):=by omega
  have e5:¬(E1++G=[]):=by simp[e1]
  by_cases h2:c=0
  .have e2:E2=[]:=Z17.1 (by omega);have e4:l.drop (i+1)=[]:=Z24 (by omega);simp[rW,zcC,hw,zeM,hi1,hi2,hi0,hE1',hE2',hc',l1,h1,e1,h2,e2,hb',l3,hG',e3,hb0,m1,m2,m3,m4];refine zaL ?_;simp[rW,zcC,hw,zeM,hi1,hi2,hi0,hE1',hE2',hc',l1,h1,e1,h2,e2,hb',l3,hG',e3,hb0,hgt0,m1,m2,m3,m4,m5,m6,g1,g3,zkO,ht1,ht2];omega
  .have e2:¬(E2=[]):=fun e=>by rw[e]at l2;simp at l2;omega
   have hgt:¬(i+b+c<=i+b):=by omega
   have hle:i+b+c<=i+(b+c):=by omega
   simp[rW,zcC,hw,zeM,hi1,hi2,hi0,hE1',hE2',hc',l1,h1,e1,h2,e2,hb',l3,hG',e3,hb0,m1,m2,m3,m4];refine zaL ?_;simp[rW,zcC,hw,zeM,hi1,hi2,hi0,hE1',hE2',hc',l1,l2,h1,e1,h2,e2,e5,hb',l3,hG',e3,hb0,hgt0,hgt,hle,m1,m2,m3,m4,m5,m6,m7,m8,g1,g2,g3,zkO,ht1,ht2,ht3]
def fn70:pr.fn 70=some g70:=by kernel_rfl
def mtA(r:Str)(k:Nat)(v:Int)(a:Atm):Bool:=decide (a.r=r)&&decide (a.ts[k]? =some (.cst v))
def mtQ(r:Str)(k:Nat)(v:Int)(q:CQ):Bool:=q.as.any (mtA r k v)
def mtK(l:List CQ)(nm:Str)(v:Int)(a:Atm)(k:Nat):Bool:=decide (a.ts[k]? =some (.var nm))&&l.any (mtQ a.r k v)
def mtI(l:List CQ)(nm:Str)(v:Int)(a:Atm):Bool:=(List.range a.ts.length).any (mtK l nm v a)
def mts(l:List CQ)(q:CQ)(nm:Str)(v:Int):Bool:=q.as.any (mtI l nm v)
def MB(hd:List Str)(l:List CQ)(q:CQ)(nm:Str)(v:Int)(s:St):Prop:=(s.tm.get 2=some (.f (.s nm))/\s.tm.get 4=some (.ptr 0 2 0 0)/\s.tm.get 5=some (.ptr 1 2 0 0)/\s.tm.get 7=some (.ptr 2 3 0 0)/\s.h.get 0=some (.arr 2 0 [[.f (zaq hd),.f (qsF l)]])/\s.h.get 1=some (.arr 2 0 [[.f (zaB q),.f (zaC q)]])/\s.h.get 2=some (.arr 3 0 [vD v]))/\3<=s.c
def M1(hd:List Str)(l:List CQ)(q:CQ)(nm:Str)(v:Int)(n:Nat)(s:St):Prop:=MB hd l q nm v s/\s.tm.get 9=some (.f (.i .i64 n))
def M2(hd:List Str)(l:List CQ)(q:CQ)(nm:Str)(v:Int)(n k:Nat)(s:St):Prop:=MB hd l q nm v s/\s.tm.get 9=some (.f (.i .i64 n))/\s.tm.get 10=some (.f (.i .i64 k))
def M3(hd:List Str)(l:List CQ)(q:CQ)(nm:Str)(v:Int)(n k j:Nat)(s:St):Prop:=MB hd l q nm v s/\s.tm.get 9=some (.f (.i .i64 n))/\s.tm.get 10=some (.f (.i .i64 k))/\s.tm.get 11=some (.f (.i .i64 j))
def M4(hd:List Str)(l:List CQ)(q:CQ)(nm:Str)(v:Int)(n k j m:Nat)(s:St):Prop:=MB hd l q nm v s/\s.tm.get 9=some (.f (.i .i64 n))/\s.tm.get 10=some (.f (.i .i64 k))/\s.tm.get 11=some (.f (.i .i64 j))/\s.tm.get 12=some (.f (.i .i64 m))
def MR(e:Ex)(s:St):Prop:=e= .ret/\s.tm.get 8=some (.f (.b true))
def ans70(hd:List Str)(l:List CQ)(q:CQ)(nm:Str)(v:Int)(hQ:QG hd l)(hq:CqG q)(hnm:nm≠[]):Ans pr 70 [.ag [zaq hd,qsF l],.ag (cqF q),.s nm,.ag (vF v)] (.b (mts l q nm v)):=by
 obtain⟨hh,hl,hl2⟩ :=hQ;refine zbd fn70 ?_;simp only[g70,rU];simp only[cqE,vF];simp[rW,st0,zae,zaN,zcy,zaF,zaH];refine zcf q.as (mtI l nm v) (M1 hd l q nm v) (fun e s=>e= .exit 0) (fun n e s=>MR e s) ?_ ?_ _ ?_ ?_ ?_
 .rintro n s hn ⟨⟨⟨h2,h4,h5,h7,g0,g1,g2⟩,hlo⟩,h9⟩;have hw:=zao n (by have:=hq.sa;omega);have hxa:q.as[n]? =some q.as[n]:=Z0 hn;have hst:=hq.st _ (Z1 hn);generalize hA:q.as[n]=A at hxa hst|-;simp -implicitDefEqProofs [rW,h2,h4,h5,h7,h9,g0,g1,g2,hn,za1,zbh,hxa,hA,atE,zaR];refine zcf (List.range A.ts.length) (mtK l nm v A) (M2 hd l q nm v n) (fun e s'=>e= .exit 2/\M1 hd l q nm v n s') (fun k e s'=>MR e s') ?_ ?_ _ ?_ ?_ ?_
  .rintro k s' hk ⟨⟨⟨h2,h4,h5,h7,g0,g1,g2⟩,hlo⟩,h9,h10⟩;rw[Z37]at hk;rw[List.getElem_range];have hw2:=zao k (by omega);have hxt:A.ts[k]? =some A.ts[k]:=Z0 hk;have hte:=zmG (t:=A.ts[k]) hnm;generalize hT:A.ts[k]=t at hxt hte;unfold mtK
   by_cases ht:t= .var nm
   .have ht2:tv t=nm:=hte.2 ht;have hd1:decide (A.ts[k]? =some (.var nm))=true:=by rw[hxt,ht];simp
    rw[hd1,Bool.true_and];generalize hG:l.any (mtQ A.r k v)=G;simp -implicitDefEqProofs [rW,h2,h4,h5,h7,h9,h10,g0,g1,g2,hk,zaO,zbh,hxa,hA,atE,zaR,zbk,hxt,hT,tmE,ht2];refine zcf l (mtQ A.r k v) (M3 hd l q nm v n k) (fun e s'=>e= .exit 4/\M2 hd l q nm v n k s') (fun j e s'=>MR e s') ?_ ?_ _ ?_ ?_ ?_
    .rintro j s2 hj ⟨⟨⟨h2,h4,h5,h7,g0,g1,g2⟩,hlo⟩,h9,h10,h11⟩;have hw3:=zao j (by omega);have hxq:l[j]? =some l[j]:=Z0 hj;have hqj:=hl2 _ (Z1 hj);generalize hQ2:l[j]=p at hxq hqj|-;simp -implicitDefEqProofs [rW,h2,h4,h5,h7,h9,h10,h11,g0,g1,g2,hj,zbN,zdr,hxq,hQ2,cqE,zaF,zaH];refine zcf p.as (mtA A.r k v) (M4 hd l q nm v n k j) (fun e s'=>e= .exit 6/\M3 hd l q nm v n k j s') (fun m e s'=>MR e s') ?_ ?_ _ ?_ ?_ ?_
     .rintro m s3 hm ⟨⟨⟨h2,h4,h5,h7,g0,g1,g2⟩,hlo⟩,h9,h10,h11,h12⟩;have hw4:=zao m (by have:=hqj.sa;omega);have hxb:p.as[m]? =some p.as[m]:=Z0 hm;have hok:=(hqj.toCqSm.toCqOk.as _ (Z1 hm)).1;generalize hB:p.as[m]=B at hxb hok|-;have n0:¬(0=s3.c):=by omega
      have n1:¬(1=s3.c):=by omega
      have n2:¬(2=s3.c):=by omega
      have stay:∀S:St,s3.c<=S.c->(∀x,x<s3.c->S.h.get x=s3.h.get x)->(S.tm.get 2=some (.f (.s nm))/\S.tm.get 4=some (.ptr 0 2 0 0)/\S.tm.get 5=some (.ptr 1 2 0 0)/\S.tm.get 7=some (.ptr 2 3 0 0)/\S.tm.get 9=some (.f (.i .i64 n))/\S.tm.get 10=some (.f (.i .i64 k))/\S.tm.get 11=some (.f (.i .i64 j))/\S.tm.get 12=some (.f (.i .i64 (m+1:Nat))))->M4 hd l q nm v n k j (m+1) S:=by
       rintro S hc3 hh3 ⟨t1,t2,t3,t4,t5,t6,t7,t8⟩;refine⟨⟨⟨t1,t2,t3,t4,?_,?_,?_⟩,by omega⟩,t5,t6,t7,t8⟩
       .rw[hh3 _ (by omega)];exact g0
       .rw[hh3 _ (by omega)];exact g1
       .rw[hh3 _ (by omega)];exact g2
      unfold mtA
      by_cases e1:B.r=A.r
      .by_cases e2:k<B.ts.length
       .have hxu:B.ts[k]? =some B.ts[k]:=Z0 e2;have hoku:=hok _ (Z1 e2);generalize hU:B.ts[k]=u at hxu hoku;rw[hxu];cases u with
        |var w=>
         have hwn:w≠[]:=hoku;simp -implicitDefEqProofs [rW,h2,h4,h5,h7,h9,h10,h11,h12,g0,g1,g2,hm,za1,zbh,zdr,hxq,hQ2,cqE,zaF,zaH,hxb,hB,atE,zaR,n0,n1,n2];refine zaL ?_;simp -implicitDefEqProofs [rW,h2,h4,h5,h7,h9,h10,h11,h12,g0,g1,g2,e1,e2,hxa,hA,zbh,atE,zaR,zaO,zbk,hxu,hU,tmE,zcm,hwn,n0,n1,n2,hw4];refine stay _ (by simp[rW,];omega) (fun x hx=>(by simp[rW,show ¬x=s3.c by omega])) ?_;simp -implicitDefEqProofs [rW,h2,h4,h5,h7,h9,h10,h11,h12,hw4]
        |cst w=>
         have q3:=fun f=>zaj (k:=f) (zsv w v)
         simp only[vF]at q3;have hz:=zfN w v;generalize zcX w v=cz at q3 hz
         by_cases e3:w=v
         .subst e3;have hcz:cz=0:=by simpa using hz
          simp -implicitDefEqProofs [rW,h2,h4,h5,h7,h9,h10,h11,h12,g0,g1,g2,hm,za1,zbh,zdr,hxq,hQ2,cqE,zaF,zaH,hxb,hB,atE,zaR,n0,n1,n2];refine zaL ?_;simp -implicitDefEqProofs [rW,h2,h4,h5,h7,h9,h10,h11,h12,g0,g1,g2,e1,e2,hxa,hA,zbh,atE,zaR,zaO,zbk,hxu,hU,tmE,zdm,zcS,zcN,vD,n0,n1,n2,hw4,q3,hcz];refine⟨rfl,?_⟩;simp[rW,]
         .have hcz:¬(cz=0):=fun e=>e3 (by simpa [e]using hz)
          simp -implicitDefEqProofs [rW,h2,h4,h5,h7,h9,h10,h11,h12,g0,g1,g2,hm,za1,zbh,zdr,hxq,hQ2,cqE,zaF,zaH,hxb,hB,atE,zaR,n0,n1,n2];refine zaL ?_;simp -implicitDefEqProofs [rW,h2,h4,h5,h7,h9,h10,h11,h12,g0,g1,g2,e1,e2,hxa,hA,zbh,atE,zaR,zaO,zbk,hxu,hU,tmE,zdm,zcS,zcN,vD,n0,n1,n2,hw4,q3,hcz,e3];refine stay _ (by simp[rW,];omega) (fun x hx=>(by simp[rW,show ¬x=s3.c by omega])) ?_;simp -implicitDefEqProofs [rW,h2,h4,h5,h7,h9,h10,h11,h12,hw4]
       .rw[List.getElem?_eq_none (by omega:B.ts.length<=k)];simp -implicitDefEqProofs [rW,h2,h4,h5,h7,h9,h10,h11,h12,g0,g1,g2,hm,za1,zbh,zdr,hxq,hQ2,cqE,zaF,zaH,hxb,hB,atE,zaR,n0,n1,n2];refine zaL ?_;simp -implicitDefEqProofs [rW,h2,h4,h5,h7,h9,h10,h11,h12,g0,g1,g2,e1,e2,hxa,hA,zbh,atE,zaR,zaO,zbk,n0,n1,n2,hw4];refine stay _ (by simp[rW,];omega) (fun x hx=>(by simp[rW,show ¬x=s3.c by omega])) ?_;simp -implicitDefEqProofs [rW,h2,h4,h5,h7,h9,h10,h11,h12,hw4]
      .simp -implicitDefEqProofs [rW,h2,h4,h5,h7,h9,h10,h11,h12,g0,g1,g2,hm,za1,zbh,zdr,hxq,hQ2,cqE,zaF,zaH,hxb,hB,atE,zaR,n0,n1,n2];refine zaL ?_;simp -implicitDefEqProofs [rW,h2,h4,h5,h7,h9,h10,h11,h12,g0,g1,g2,e1,hxa,hA,zbh,atE,zaR,zaO,n0,n1,n2,hw4];refine stay _ (by simp[rW,];omega) (fun x hx=>(by simp[rW,show ¬x=s3.c by omega])) ?_;simp -implicitDefEqProofs [rW,h2,h4,h5,h7,h9,h10,h11,h12,hw4]
     .rintro s3 ⟨⟨⟨h2,h4,h5,h7,g0,g1,g2⟩,hlo⟩,h9,h10,h11,h12⟩;simp -implicitDefEqProofs [rW,h2,h4,h5,h7,h9,h10,h11,h12,g0,g1,g2,za1,zdr,hxq,hQ2,cqE,zaF];unfold M3 MB;simp -implicitDefEqProofs [rW,h2,h4,h5,h7,h9,h10,h11,h12,g0,g1,g2,hlo]
     .unfold M4 MB;simp -implicitDefEqProofs [rW,h2,h4,h5,h7,h9,h10,h11,g0,g1,g2,hlo]
     .rintro hno e s3 ⟨rfl,⟨⟨h2,h4,h5,h7,g0,g1,g2⟩,hlo⟩,h9,h10,h11⟩;have e:mtQ A.r k v p=false:=zfr hno;simp -implicitDefEqProofs [rW,h2,h4,h5,h7,h9,h10,h11,g0,g1,g2,e];unfold M3 MB;simp -implicitDefEqProofs [rW,h2,h4,h5,h7,h9,h10,h11,g0,g1,g2,hlo,hw3]
     .rintro m hm hp hbf e s3 ⟨rfl,h8⟩;have e:mtQ A.r k v p=true:=Z30.2 ⟨_,Z1 hm,hp⟩;simp[rW,e];exact⟨rfl,h8⟩
    .rintro s2 ⟨⟨⟨h2,h4,h5,h7,g0,g1,g2⟩,hlo⟩,h9,h10,h11⟩;simp -implicitDefEqProofs [rW,h2,h4,h5,h7,h9,h10,h11,g0,g1,g2,zbN];unfold M2 MB;simp -implicitDefEqProofs [rW,h2,h4,h5,h7,h9,h10,g0,g1,g2,hlo]
    .unfold M3 MB;simp -implicitDefEqProofs [rW,h2,h4,h5,h7,h9,h10,g0,g1,g2,hlo]
    .rintro hno e s2 ⟨rfl,⟨⟨h2,h4,h5,h7,g0,g1,g2⟩,hlo⟩,h9,h10⟩;have e:G=false:=hG▸zfr hno;simp -implicitDefEqProofs [rW,h2,h4,h5,h7,h9,h10,g0,g1,g2,e];unfold M2 MB;simp -implicitDefEqProofs [rW,h2,h4,h5,h7,h9,h10,g0,g1,g2,hlo,hw2]
    .rintro j hj hp hbf e s2 ⟨rfl,h8⟩;have e:G=true:=hG▸Z30.2 ⟨_,Z1 hj,hp⟩;simp[rW,e];exact⟨rfl,h8⟩
   .have ht2:¬(tv t=nm):=fun e=>ht (hte.1 e)
    have hd1:decide (A.ts[k]? =some (.var nm))=false:=by rw[hxt];simpa using ht
    rw[hd1,Bool.false_and];simp -implicitDefEqProofs [rW,h2,h4,h5,h7,h9,h10,g0,g1,g2,hk,zaO,zbh,hxa,hA,atE,zaR,zbk,hxt,hT,tmE,ht2];unfold M2 MB;simp -implicitDefEqProofs [rW,h2,h4,h5,h7,h9,h10,g0,g1,g2,hlo,hw2]
  .rintro s' ⟨⟨⟨h2,h4,h5,h7,g0,g1,g2⟩,hlo⟩,h9,h10⟩;rw[Z37]at h10;simp -implicitDefEqProofs [rW,h2,h4,h5,h7,h9,h10,g0,g1,g2,zbh,hxa,hA,atE,zaR,zaO];unfold M1 MB;simp -implicitDefEqProofs [rW,h2,h4,h5,h7,h9,g0,g1,g2,hlo]
  .unfold M2 MB;simp -implicitDefEqProofs [rW,h2,h4,h5,h7,h9,g0,g1,g2,hlo]
  .rintro hno e s' ⟨rfl,⟨⟨h2,h4,h5,h7,g0,g1,g2⟩,hlo⟩,h9⟩;have e:mtI l nm v A=false:=zfr hno;simp -implicitDefEqProofs [rW,h2,h4,h5,h7,h9,g0,g1,g2,e];unfold M1 MB;simp -implicitDefEqProofs [rW,h2,h4,h5,h7,h9,g0,g1,g2,hlo,hw]
  .rintro k hk hp hbf e s' ⟨rfl,h8⟩;have e:mtI l nm v A=true:=Z30.2 ⟨_,Z1 hk,hp⟩;simp[rW,e];exact⟨rfl,h8⟩
 .rintro s ⟨⟨⟨h2,h4,h5,h7,g0,g1,g2⟩,hlo⟩,h9⟩;simp -implicitDefEqProofs [rW,h2,h4,h5,h7,h9,g0,g1,g2,za1]
 .unfold M1 MB;simp[rW,vD]
 .rintro hno e s rfl;have e:mts l q nm v=false:=zfr hno;simp[rW,e]
 .rintro n hn hp hbf e s ⟨rfl,h8⟩;have e:mts l q nm v=true:=Z30.2 ⟨_,Z1 hn,hp⟩;simp[rW,e,h8]
def fn17:pr.fn 17=some g17:=by kernel_rfl
def zlq(a:List Trm)(t:Trm):List Trm:=if tv t=[]then zcn a t else a
def zgw(a:List Trm)(ts:List Trm):List Trm:=ts.foldl zlq a
def ze2(l:List CQ):List Trm:=l.foldl (fun a c=>zgw a (zfC c)) []
def vT(t:Trm):List F:=[.i .i64 (tk t),.i .i64 (tn t),.s []]
def vsF(l:List Trm):F:=slc 3 (l.map vT)
def zqm(c:CQ)(hc:CqSm c):zeW 544 (zfC c):=by
 have h0:=zpC (l:=c.as) (n:=0) (x:=[]) (fun b hb=>⟨hc.as b hb,hc.st b hb⟩) ⟨by simp,by simp⟩;have h1:=zvW (l:=c.cs) (fun b hb=>hc.cs b hb) h0;exact⟨h1.1,Z3 h1.2 (by have:=hc.sa;have:=hc.sc;omega)⟩
def zvX{ts:List Trm}:∀{n:Nat} {a:List Trm},zeW n a->(∀t∈ts,zau t)->zeW (n+ts.length) (zgw a ts):=by
 unfold zgw
 induction ts with
 |nil=>intro n a h _;exact h
 |cons t ts ih=>
  intro n a h ht;have h1:zeW (n+1) (zlq a t):=by
   unfold zlq;split
   .exact h.add (ht t (by simp))
   .exact⟨h.1,Nat.le_succ_of_le h.2⟩
  have:=ih h1 fun x hx=>ht x (by simp[hx])
  exact⟨this.1,Z3 this.2 (by simp;omega)⟩
def zmh{l:List CQ}(hl:∀c∈l,CqSm c):∀{n:Nat} {a:List Trm},zeW n a->zeW (n+544*l.length) (l.foldl (fun a c=>zgw a (zfC c)) a):=by
 induction l with
 |nil=>intro n a h;exact h
 |cons c l ih=>
  intro n a h;have h0:=zqm c (hl c (by simp));have h1:=zvX h h0.1;have h2:zeW (n+544) (zgw a (zfC c)):=⟨h1.1,Z3 h1.2 (by have:=h0.2;omega)⟩
  have:=ih (fun x hx=>hl x (by simp[hx])) h2;exact⟨this.1,Z3 this.2 (by simp;omega)⟩
def K1(hd:List Str)(l:List CQ)(n:Nat)(a:List Trm)(s:St):Prop:=(s.tm.get 1=some (.ptr 0 2 0 0)/\s.tm.get 3=some (.f (zaW a))/\s.tm.get 4=some (.f (.i .i64 n))/\s.h.get 0=some (.arr 2 0 [[.f (zaq hd),.f (qsF l)]]))/\1<=s.c
def K2(hd:List Str)(l:List CQ)(n:Nat)(ts:List Trm)(m:Nat)(a:List Trm)(s:St):Prop:=(s.tm.get 1=some (.ptr 0 2 0 0)/\s.tm.get 3=some (.f (zaW a))/\s.tm.get 4=some (.f (.i .i64 n))/\s.tm.get 5=some (.f (zaW ts))/\s.tm.get 6=some (.f (.i .i64 m))/\s.h.get 0=some (.arr 2 0 [[.f (zaq hd),.f (qsF l)]]))/\1<=s.c
def K3(ls:List Trm)(n:Nat)(s:St):Prop:=∃L,(s.tm.get 3=some (.f (zaW ls))/\s.tm.get 7=some (L)/\s.tm.get 8=some (.f (.i .i64 n)))/\Gro s.h 1 s.c 3 L ((ls.take n).map fun t=>(vT t).map D.f)/\1<=s.c
def zGC(hd:List Str)(l:List CQ)(hQ:QG hd l):Ans pr 17 [.ag [zaq hd,qsF l]] (vsF (ze2 l)):=by
 obtain⟨hh,hl,hq⟩ :=hQ;refine zbd fn17 ?_;simp only[g17,rU];have hfin:=zmh (l:=l) (fun c hc=>(hq c hc).toCqSm) (n:=0) (a:=[]) ⟨by simp,by simp⟩;simp[rW,st0,zae,zaN,zcy];refine zgo l (fun a c=>zgw a (zfC c)) [] (fun n a s=>K1 hd l n a s) (fun e s=>e= .exit 0/\s.tm.get 3=some (.f (zaW (ze2 l)))/\1<=s.c) ?_ ?_ _ ?_ ?_
 .rintro n a s hn ha ⟨⟨h1,h3,h4,g0⟩,hlo⟩;have hw:=zao n (by omega);have hx:l[n]? =some l[n]:=Z0 hn;have hG:=hq _ (Z1 hn);have hok:=zmh (l:=l.take n) (fun c hc=>(hq c (Z13 hc)).toCqSm) (n:=0) (a:=[]) ⟨by simp,by simp⟩;rw[<-ha]at hok;generalize hA:l[n]=q at hx hG|-;have q1:=fun f=>zaj (k:=f) (ans47 q hG.toCqSm)
  have hto:=zqm q hG.toCqSm;simp only[cqE]at q1;generalize zfC q=ts at q1 hto|-;simp[rW,h1,h3,h4,g0,hn,zbN,zdr,hx,hA,cqE,q1];have hla:a.length<900000:=by have:=hok.2;simp at this;omega
  refine zgo ts zlq a (fun m b s=>K2 hd l n ts m b s) (fun e s'=>e= .exit 2/\K1 hd l n (zgw a ts) s') ?_ ?_ _ ?_ ?_
  .rintro m b s' hm hb ⟨⟨h1,h3,h4,h5,h6,g0⟩,hlo⟩;have hw2:=zao m (by have:=hto.2;omega);have hxt:ts[m]? =some ts[m]:=Z0 hm;have hot:=hto.1 _ (Z1 hm);have hb2:=zvX (ts:=ts.take m) (n:=a.length) (a:=a) ⟨hok.1,Z2 _⟩ fun t ht=>hto.1 t (Z13 ht)
   unfold zgw at hb2;rw[<-hb]at hb2;generalize hT:ts[m]=t at hxt hot|-;have q2:=fun f=>zaj (k:=f) (zrO b t hb2.1 hot (by have:=hb2.2;have:=hto.2;simp at*;omega))
   simp only[tmE]at q2;unfold zlq
   by_cases e:tv t=[]
   .rw[if_pos e];simp only[e]at q2;simp[rW,h1,h3,h4,h5,h6,g0,hm,zaO,zbk,zaR,hxt,hT,tmE,e,q2,hw2];unfold K2;simp[rW,h1,h3,h4,h5,h6,g0,hw2];omega
   .rw[if_neg e];simp[rW,h1,h3,h4,h5,h6,g0,hm,zaO,zbk,zaR,hxt,hT,tmE,e,hw2];unfold K2;simp[rW,h1,h3,h4,h5,h6,g0,hw2];omega
  .rintro s' ⟨⟨h1,h3,h4,h5,h6,g0⟩,hlo⟩;simp[rW,h1,h3,h4,h5,h6,g0,zaO];unfold K1;simp[rW,h1,h3,h4,g0];exact⟨rfl,hlo⟩
  .unfold K2;simp[rW,h1,h3,h4,g0,zaR];omega
  .rintro e s' ⟨rfl,⟨h1,h3,h4,g0⟩,hlo⟩;simp[rW,h1,h3,h4,g0,hw];unfold K1;simp[rW,h1,h3,h4,g0,hw];omega
 .rintro s ⟨⟨h1,h3,h4,g0⟩,hlo⟩;simp[rW,h1,h3,h4,g0,zbN];exact⟨rfl,hlo⟩
 .unfold K1;simp[rW,(show zaW []= .nils from rfl)]
 .rintro e s ⟨rfl,h3,hlo⟩;have hco:ze2 l=l.foldl (fun a c=>zgw a (zfC c)) []:=rfl;rw[<-hco]at hfin;clear hco;have hlen:(ze2 l).length<=544000:=by have:=hfin.2;omega
  generalize ze2 l=ls at*;simp[rW,h3];refine zdi ls.length (K3 ls) (fun e s=>e= .exit 4/\K3 ls ls.length s) ?_ ?_ _ ?_ ?_
  .rintro n s' hn ⟨L,⟨h3,h7,h8⟩,hL,hlo⟩;have hw:=zao n (by omega);have hxt:ls[n]? =some ls[n]:=Z0 hn;have hk2:=Z6 hn;generalize hT:ls[n]=t at hxt hk2;simp[rW,h3,h7,h8,hn,zaO,zbk,zaR,hxt,hT,tmE];refine zey hL (by omega) (by simp;omega) (by omega) ?_;intro r hr1 hr2 hr3 hr4 hr5;refine⟨hr1,?_⟩;simp[rW,hw];refine⟨r.d,?_,?_,?_⟩
   .simp[rW,h3,h7,h8,hw]
   .rw[hk2,Z20];exact hr2
   .simp[rW,];omega
  .rintro s' ⟨L,⟨h3,h7,h8⟩,hL,hlo⟩;simp[rW,h3,h7,h8,zaO];rw[Z7]at hL;refine⟨L,?_,by simp[rW,];exact hL,by simp[rW,];omega⟩;simp[rW,h3,h7,h8]
  .refine⟨.f .nils,?_,.inl ⟨rfl,by simp⟩,?_⟩
   .simp[rW,h3]
   .simp[rW,];exact hlo
  .rintro e s' ⟨rfl,L,⟨h3,h7,h8⟩,hL,hlo⟩;rw[Z7]at hL;have e1:(ls.map fun t=>(vT t).map D.f)=(ls.map vT).map fun a=>a.map D.f:=by rw[Z33];rfl
   rw[e1]at hL;obtain⟨rd,hz⟩ :=zmq (k:=11) hL (zfm s'.h.get 10 (ls.map vT)) (by simp);simp[rW,h3,h7,h8,hz];rfl
end Go.Proofs.YtmnkdfjljkhneaaGreat
end
