/- Rank: exchanged. -/
import Derived.Test.YtmnkdfjljkhneaaGreatPj
import Derived.KernelRfl
import Derived.IntWalk
import Derived.Test.YtmnkdfjljkhneaaGreatPh
import Derived.Test.YtmnkdfjljkhneaaGreatFct
set_option linter.all false
noncomputable section
section
namespace Go.Proofs.YtmnkdfjljkhneaaGreat
open Go Go.Vse Go.Vse.Sm
set_option maxRecDepth 100000
set_option maxHeartbeats 1000000
set_option linter.all false
def XE1(q:CQ)(x y:Str)(n:Nat)(s:St):Prop:=(s.tm.get 1=some (.f (.s x))/\s.tm.get 2=some (.f (.s y))/\s.tm.get 3=some (.ptr 0 2 0 0)/\s.tm.get 14=some (.f (zaO q))/\s.tm.get 15=some (.f (.i .i64 q.as.length))/\s.tm.get 16=some (.f (.i .i64 n))/\s.h.get 0=some (.arr 2 0 [[.f (zaO q),.f (zaR q)]]))/\1≤s.c
def XE2(q:CQ)(x y:Str)(n P:Nat)(A:Atm)(m:Nat)(s:St):Prop:=(s.tm.get 1=some (.f (.s x))/\s.tm.get 2=some (.f (.s y))/\s.tm.get 3=some (.ptr 0 2 0 0)/\s.tm.get 14=some (.f (zaO q))/\s.tm.get 15=some (.f (.i .i64 q.as.length))/\s.tm.get 16=some (.f (.i .i64 n))/\s.tm.get 8=some (.ptr P 3 0 0)/\s.tm.get 21=some (.f (zbO A.ts))/\s.tm.get 22=some (.f (.i .i64 A.ts.length))/\s.tm.get 23=some (.f (.i .i64 m))/\s.h.get 0=some (.arr 2 0 [[.f (zaO q),.f (zaR q)]])/\s.h.get P=some (.arr 3 0 [[.f (.s A.r),.f (.b A.neg),.f (zbO A.ts)]]))/\1≤P/\P<s.c
def XE3(q:CQ)(x y:Str)(n P:Nat)(A:Atm)(m R:Nat)(T:Trm)(k:Nat)(s:St):Prop:=(s.tm.get 1=some (.f (.s x))/\s.tm.get 2=some (.f (.s y))/\s.tm.get 3=some (.ptr 0 2 0 0)/\s.tm.get 14=some (.f (zaO q))/\s.tm.get 15=some (.f (.i .i64 q.as.length))/\s.tm.get 16=some (.f (.i .i64 n))/\s.tm.get 8=some (.ptr P 3 0 0)/\s.tm.get 21=some (.f (zbO A.ts))/\s.tm.get 22=some (.f (.i .i64 A.ts.length))/\s.tm.get 23=some (.f (.i .i64 m))/\s.tm.get 9=some (.f (.i .i64 m))/\s.tm.get 10=some (.ptr R 4 0 0)/\s.tm.get 29=some (.f (zbO A.ts))/\s.tm.get 30=some (.f (.i .i64 A.ts.length))/\s.tm.get 31=some (.f (.i .i64 k))/\s.h.get 0=some (.arr 2 0 [[.f (zaO q),.f (zaR q)]])/\s.h.get P=some (.arr 3 0 [[.f (.s A.r),.f (.b A.neg),.f (zbO A.ts)]])/\s.h.get R=some (.arr 4 0 [tmD T]))/\1≤P/\P<R/\R<s.c
def XER(y:Ex)(s:St):Prop:=y= .ret/\s.tm.get 6=some (.f (.b true))
set_option maxHeartbeats 4000000 in
theorem ans75(q:CQ)(x y:Str)(hq:CqG q)(hx:x≠[])(hy:y≠[]):Ans pr 75 [.ag (cqF q),.s x,.s y] (.b (zlq q x y)):=by
 refine zcQ fn75 ?_;simp only[g75,rU];simp -implicitDefEqProofs [rW,st0,zal,cqE,za4,za2,zdr];refine zeS q.as (exA q x y) (XE1 q x y) (fun e s=>e= .exit 0) (fun n e s=>XER e s) ?_ ?_ _ ?_ ?_ ?_
 ·rintro n s hn ⟨⟨h1,h2,h3,h14,h15,h16,g0⟩,hlo⟩;have hw:=zaB n (by have:=hq.sa;omega);have hxa:q.as[n]? =some q.as[n]:=List.getElem?_eq_getElem hn;have hst:=hq.st _ (List.getElem_mem hn);have hok:=(hq.toCqSm.toCqOk.as _ (List.getElem_mem hn)).1;generalize hA:q.as[n]=A at hxa hst hok⊢;simp -implicitDefEqProofs [rW,h1,h2,h3,h14,h15,h16,hn,zeu,hxa,hA,atE,zc0,zcw];refine zeS (List.range A.ts.length) (exI q x y A) (XE2 q x y n s.c A) (fun e s'=>e= .exit 2/\XE1 q x y n s') (fun m e s'=>XER e s') ?_ ?_ _ ?_ ?_ ?_
  ·rintro m s' hm ⟨⟨h1,h2,h3,h14,h15,h16,h8,h21,h22,h23,g0,gP⟩,hP1,hP2⟩;rw[List.length_range]at hm;rw[List.getElem_range];have hw2:=zaB m (by omega);have hx2:A.ts[m]? =some A.ts[m]:=List.getElem?_eq_getElem hm;generalize hT:A.ts[m]=T at hx2;have nP:¬(s.c=s'.c):=by omega
   simp -implicitDefEqProofs [rW,h1,h2,h3,h14,h15,h16,h8,h21,h22,h23,g0,gP,hm,zcG,hx2,hT,tmE,nP,zcw];refine zeS (List.range A.ts.length) (exJ q x y A m) (XE3 q x y n s.c A m s'.c T) (fun e s2=>e= .exit 4/\XE2 q x y n s.c A m s2) (fun k e s2=>XER e s2) ?_ ?_ _ ?_ ?_ ?_
   ·rintro k s2 hk ⟨⟨h1,h2,h3,h14,h15,h16,h8,h21,h22,h23,h9,h10,h29,h30,h31,g0,gP,gR⟩,hP1,hP2,hR⟩;rw[List.length_range]at hk;rw[List.getElem_range];have hw3:=zaB k (by omega);have hx3:A.ts[k]? =some A.ts[k]:=List.getElem?_eq_getElem hk;generalize hU:A.ts[k]=U at hx3;have nP2:¬(s.c=s2.c):=by omega
    have nR2:¬(s'.c=s2.c):=by omega
    have n02:¬(0=s2.c):=by omega
    have q1:=fun f=>zaC (k:=f) (zIE q A.r m y k x hq hy hx)
    simp only[cqE]at q1;have y1:=zpC (t:=T) hx;have y2:=zpC (t:=U) hy;have e:exJ q x y A m k=(decide (tv T=x)&&decide (tv U=y)&&q.as.any (zlA A.r m y k x)):=by
     unfold exJ;rw[hx2,hx3]
     congr 1
     congr 1
     ·exact decide_eq_decide.2 (by rw[y1];simp)
     ·exact decide_eq_decide.2 (by rw[y2];simp)
    by_cases z1:tv T=x
    ·by_cases z2:tv U=y
     ·generalize hb:q.as.any (zlA A.r m y k x)=b at q1 e;cases b with
      |true=>
       simp -implicitDefEqProofs [rW,h1,h2,h3,h14,h15,h16,h8,h21,h22,h23,h9,h10,h29,h30,h31,g0,gP,gR,hk,zcG,hx3,hU,tmE,tmD,nP2,nR2,n02,hw3,z1,z2,q1];refine⟨by rw[e];simp[z1,z2],rfl,?_⟩;simp -implicitDefEqProofs [rW,]
      |false=>
       simp -implicitDefEqProofs [rW,h1,h2,h3,h14,h15,h16,h8,h21,h22,h23,h9,h10,h29,h30,h31,g0,gP,gR,hk,zcG,hx3,hU,tmE,tmD,nP2,nR2,n02,hw3,z1,z2,q1];refine⟨by rw[e];simp[z1,z2],?_,hP1,hP2,?_⟩
       ·simp -implicitDefEqProofs [rW,h1,h2,h3,h14,h15,h16,h8,h21,h22,h23,h9,h10,h29,h30,h31,g0,gP,gR,hw3,nP2,nR2,n02]
       ·simp -implicitDefEqProofs [rW,];omega
     ·simp -implicitDefEqProofs [rW,h1,h2,h3,h14,h15,h16,h8,h21,h22,h23,h9,h10,h29,h30,h31,g0,gP,gR,hk,zcG,hx3,hU,tmE,tmD,nP2,nR2,n02,hw3,z1,z2];refine⟨by rw[e];simp[z2],?_,hP1,hP2,?_⟩
      ·simp -implicitDefEqProofs [rW,h1,h2,h3,h14,h15,h16,h8,h21,h22,h23,h9,h10,h29,h30,h31,g0,gP,gR,hw3,nP2,nR2,n02]
      ·simp -implicitDefEqProofs [rW,];omega
    ·simp -implicitDefEqProofs [rW,h1,h2,h3,h14,h15,h16,h8,h21,h22,h23,h9,h10,h29,h30,h31,g0,gP,gR,hk,zcG,hx3,hU,tmE,tmD,nP2,nR2,n02,hw3,z1];refine⟨by rw[e];simp[z1],?_,hP1,hP2,?_⟩
     ·simp -implicitDefEqProofs [rW,h1,h2,h3,h14,h15,h16,h8,h21,h22,h23,h9,h10,h29,h30,h31,g0,gP,gR,hw3,nP2,nR2,n02]
     ·simp -implicitDefEqProofs [rW,];omega
   ·rintro s2 ⟨⟨h1,h2,h3,h14,h15,h16,h8,h21,h22,h23,h9,h10,h29,h30,h31,g0,gP,gR⟩,hP1,hP2,hR⟩;rw[List.length_range]at h31;simp -implicitDefEqProofs [rW,h1,h2,h3,h14,h15,h16,h8,h21,h22,h23,h9,h10,h29,h30,h31,g0,gP,gR];refine⟨?_,hP1,by simp -implicitDefEqProofs [rW,];omega⟩;simp -implicitDefEqProofs [rW,h1,h2,h3,h14,h15,h16,h8,h21,h22,h23,h9,h10,h29,h30,h31,g0,gP,gR]
   ·refine⟨?_,hP1,hP2,?_⟩
    ·have n0:¬(0=s'.c):=by omega
     simp -implicitDefEqProofs [rW,h1,h2,h3,h14,h15,h16,h8,h21,h22,h23,g0,gP,nP,tmD,n0]
    ·simp -implicitDefEqProofs [rW,]
   ·rintro hno e s2 ⟨rfl,⟨h1,h2,h3,h14,h15,h16,h8,h21,h22,h23,g0,gP⟩,hP1,hP2⟩;have e:exI q x y A m=false:=by
     unfold exI;rw[List.any_eq_false];exact fun k hk=>by rw[hno k hk];simp
    simp -implicitDefEqProofs [rW,h1,h2,h3,h14,h15,h16,h8,h21,h22,h23,g0,gP,hw2];refine⟨e,?_,hP1,hP2⟩;simp -implicitDefEqProofs [rW,h1,h2,h3,h14,h15,h16,h8,h21,h22,h23,g0,gP,hw2]
   ·rintro k hk hp hbf e s2 ⟨rfl,h6⟩;have e:exI q x y A m=true:=by
     unfold exI;exact List.any_eq_true.2 ⟨_,List.getElem_mem hk,hp⟩
    simp -implicitDefEqProofs [rW,];exact⟨e,rfl,h6⟩
  ·rintro s' ⟨⟨h1,h2,h3,h14,h15,h16,h8,h21,h22,h23,g0,gP⟩,hP1,hP2⟩;rw[List.length_range]at h23;simp -implicitDefEqProofs [rW,h1,h2,h3,h14,h15,h16,h8,h21,h22,h23,g0,gP];refine⟨?_,by simp -implicitDefEqProofs [rW,];omega⟩;simp -implicitDefEqProofs [rW,h1,h2,h3,h14,h15,h16,g0]
  ·refine⟨?_,hlo,?_⟩
   ·have n0:¬(0=s.c):=by omega
    simp -implicitDefEqProofs [rW,h1,h2,h3,h14,h15,h16,g0,n0]
   ·simp -implicitDefEqProofs [rW,]
  ·rintro hno e s' ⟨rfl,⟨h1,h2,h3,h14,h15,h16,g0⟩,hlo⟩;have e:exA q x y A=false:=by
    unfold exA;rw[List.any_eq_false];exact fun k hk=>by rw[hno k hk];simp
   simp -implicitDefEqProofs [rW,h1,h2,h3,h14,h15,h16,g0,hw];refine⟨e,?_,hlo⟩;simp -implicitDefEqProofs [rW,h1,h2,h3,h14,h15,h16,g0,hw]
  ·rintro k hk hp hbf e s' ⟨rfl,h6⟩;have e:exA q x y A=true:=by
    unfold exA;exact List.any_eq_true.2 ⟨_,List.getElem_mem hk,hp⟩
   simp -implicitDefEqProofs [rW,];exact⟨e,rfl,h6⟩
 ·rintro s ⟨⟨h1,h2,h3,h14,h15,h16,g0⟩,hlo⟩;simp -implicitDefEqProofs [rW,h1,h2,h3,h14,h15,h16,g0]
 ·refine⟨?_,?_⟩
  ·simp -implicitDefEqProofs [rW,st0,zal]
  ·simp -implicitDefEqProofs [rW,]
 ·rintro hno e s rfl;have e:zlq q x y=false:=by
   unfold zlq;rw[List.any_eq_false];exact fun k hk=>by rw[hno k hk];simp
  simp -implicitDefEqProofs [rW,e]
 ·rintro n hn hp hbf e s ⟨rfl,h6⟩;have e:zlq q x y=true:=by
   unfold zlq;exact List.any_eq_true.2 ⟨_,List.getElem_mem hn,hp⟩
  simp -implicitDefEqProofs [rW,e,h6]
theorem fn76:pr.fn 76=some g76:=by kernel_rfl
theorem fn39:pr.fn 39=some g39:=by kernel_rfl
theorem ro76(t:Trm)(s w:Str)(hs:s≠[])(hw:w≠[])(ht:zax t){h:T Ob}{c A B:Nat}(gA:h.get A=some (.arr 1 0 [[.f (.s s)]]))(gB:h.get B=some (.arr 1 0 [[.f (.s w)]]))(hA:A<c)(hB:B<c):RO pr 76 [.ag (tmD t),.ptr A 1 0 0,.ptr B 1 0 0] h c (.ag (tmD (sbT s (.var w) t))):=by
 refine zd0 za5 fn76 rfl ?_;simp only[g76,rU];have nA:¬A=c:=by omega
 have nB:¬B=c:=by omega
 have nA1:¬A=c+1:=by omega
 have nB1:¬B=c+1:=by omega
 unfold sbT;cases t with
 |cst a=>
  simp -implicitDefEqProofs [rW,st0,zal,tmD,zcn,zcp,zcr,gA,gB,nA,nB,nA1,nB1,hs,Ne.symm hs,hw,zaS];simp (disch:=omega) only[zbz,zb8]
 |var u=>
  by_cases e:u=s
  ·subst e;simp -implicitDefEqProofs [rW,st0,zal,tmD,zbj,zbn,zbq,gA,gB,nA,nB,nA1,nB1,hs,hw,zaS];simp (disch:=omega) only[zbz,zb8];exact⟨by omega,trivial⟩
  ·have e2:¬(Trm.var u=Trm.var s):=fun h=>e (by cases h;rfl)
   simp -implicitDefEqProofs [rW,st0,zal,tmD,zbj,zbn,zbq,gA,gB,nA,nB,nA1,nB1,hs,hw,e,e2,zaS];simp (disch:=omega) only[zbz,zb8]
theorem ans39(q:CQ)(s:Str)(w:Str)(hs:s≠[])(hw:w≠[])(hq:CqG q):Ans pr 39 [.ag (cqF q),.s s,.s w] (.ag (cqF (mpC (sbT s (.var w)) q))):=by
 refine zcQ fn39 ?_;simp only[g39,rU];simp -implicitDefEqProofs [rW,st0,zal,cqE,za4,za2];refine zdi rfl rfl (zCO (sbT s (.var w)) q hq rfl ?_) ?_
 ·intro t ht H c' hH hc;have b1:=hH 1 (by simp only[rG];omega);have b2:=hH 2 (by simp only[rG];omega);simp only[rG]at b1 b2 hc;refine ro76 t s w hs hw ht ?_ ?_ (by omega) (by omega)
  ·rw[b1];simp[Vse.T.zad]
  ·rw[b2];simp[Vse.T.zad]
 ·rintro d h' c' lw mx ⟨hf,dA,dC,rfl,hA,hC⟩ hcc;simp only[rG]at hf hA hC hcc;have e3:=hf 3 (by omega);simp[Vse.T.zad]at e3;simp -implicitDefEqProofs [rW,e3,hA.2.1,hC.2.1];have hup:∀x,4≤x->x<c'->(h'.set 3 (.arr 2 0 [[dA,dC]])).get x=h'.get x:=fun x h1 h2=>by
   have a1:¬x=3:=by omega
   simp[Vse.T.zad,a1]
  obtain⟨r1,f1⟩ :=hA.2.2 (h'.set 3 (.arr 2 0 [[dA,dC]])) hup 8;obtain⟨r2,f2⟩ :=hC.2.2 (h'.set 3 (.arr 2 0 [[dA,dC]])) hup 8;rw[f1,f2];simp -implicitDefEqProofs [rW,];omega
theorem fn73:pr.fn 73=some g73:=by kernel_rfl
theorem fn113:pr.fn 113=some zuZ:=by kernel_rfl
theorem fn72:pr.fn 72=some g72:=by kernel_rfl
def inH(hd:List Str)(x:Str):Bool:=hd.any (· ==x)
def kp(hd:List Str)(l:List Str):List Str:=l.filter fun x=>!(inH hd x)
theorem ro73(hd:List Str)(x:Str)(hh:hd.length<1000000){h:T Ob}{c A:Nat}(gA:h.get A=some (.arr 1 0 [[.f (zaw hd)]]))(hA:A<c):RO pr 73 [.f (.s x),.ptr A 1 0 0] h c (.f (.b (inH hd x))):=by
 refine zd0 za5 fn73 rfl ?_;simp only[g73,rU];have q1:=fun k=>zaC (k:=k) (zuv hd x hh)
 simp -implicitDefEqProofs [rW,st0,zal,gA,zbl,q1,zaS];rfl
theorem zyq(l:List Str)(p:Str->Bool)(hl:l.length<100000){h:T Ob}{c g:Nat}{d fv:D}{cap:List D}(H:RdV h d l)(hfv:zda fv=some (g,[],cap))(hcl:∀n (hn:n<l.length),RO pr g (.f (.s l[n])::cap) h c (.f (.b (p l[n])))):RO pr 113 [d,fv] h c (.f (.i .i64 (ixP l p))):=by
 refine zd0 za5 fn113 rfl ?_;simp only[zuZ,rU];simp -implicitDefEqProofs [rW,st0,zal,ztd H];refine zeS l p (fun n s=>(s.tm.get 0=some (d)/\s.tm.get 1=some (fv)/\s.tm.get 7=some (.f (.i .i64 l.length))/\s.tm.get 8=some (.f (.i .i64 n)))/\s.h=h/\s.c=c/\s.lw=c) (fun x s=>x= .exit 0/\s.lw=c) (fun n y s=>y= .ret/\s.tm.get 4=some (.f (.i .i64 n))/\s.lw=c) ?_ ?_ _ ?_ ?_ ?_
 ·rintro n s hn ⟨⟨h0,h1,h7,h8⟩,eh,ec,el⟩;have hw:=zaB n (by omega);have hp:=hcl n hn;obtain⟨q,rd,hq,hr⟩ :=zye H hn;generalize hA:l[n]=A at hp hr⊢;simp -implicitDefEqProofs [rW,h0,h1,h7,h8,hn,hq,hr,eh,hfv];refine zdn (d:= .f (.b (p A))) ?_ ?_ ?_
  ·simp only[rG];rw[eh,ec];exact hp
  ·simp only[rG];omega
  ·intro mx;cases hb:p A with
   |true=>simp -implicitDefEqProofs [rW,h0,h1,h7,h8,el]
   |false=>simp -implicitDefEqProofs [rW,h0,h1,h7,h8,hw,eh,ec,el]
 ·rintro s ⟨⟨h0,h1,h7,h8⟩,eh,ec,el⟩;simp -implicitDefEqProofs [rW,h0,h1,h7,h8,el]
 ·simp -implicitDefEqProofs [rW,st0,zal]
 ·rintro h z s ⟨rfl,el⟩;rw[zkW h];simp -implicitDefEqProofs [rW,zaS,el]
 ·rintro n hn hp hm z s ⟨rfl,h4,el⟩;rw[zj8 hn hp hm];simp -implicitDefEqProofs [rW,h4,zaS,el]
theorem zsP(l:List Str):hd8 (za1 l)=false:=by cases l<;>rfl
theorem zxT(hd:List Str)(l:List Str){n:Nat}(hn:n<l.length):kp hd (l.take (n+1))=kp hd (l.take n)++if inH hd l[n]then[]else[l[n]]:=by
 unfold kp;rw[List.take_succ_eq_append_getElem hn,List.filter_append]
 congr 1
 cases h:inH hd l[n]<;>simp[h]
theorem zDT(hd:List Str)(l:List Str):(kp hd l).length≤l.length:=List.length_filter_le _ _
def KD(h:T Ob)(hd l:List Str)(id A c i:Nat)(k':Nat)(s:St):Prop:=∃(j:Nat) (R:List Str),i+1≤j/\j≤l.length/\k'=l.length - j/\(kp hd (l.take j)).length<j/\(s.tm.get 0=some (.sl id 0 l.length 1 l.length false)/\s.tm.get 1=some (.fn 73 [] [.ptr A 1 0 0])/\s.tm.get 5=some (.f (.i .i64 (kp hd (l.take j)).length))/\s.tm.get 6=some (.f (.i .i64 j)))/\s.h.get id=some (.arr 1 0 (za1 R))/\R.length=l.length/\R.take (kp hd (l.take j)).length=kp hd (l.take j)/\(∀q,j≤q->R[q]? =l[q]?)/\(∀x,x<c->x≠id->s.h.get x=h.get x)/\c≤s.c/\s.lw≤s.c
def KE(h:T Ob)(hd l:List Str)(id c:Nat)(s:St):Prop:=∃R:List Str,(s.tm.get 0=some (.sl id 0 l.length 1 l.length false)/\s.tm.get 5=some (.f (.i .i64 (kp hd l).length)))/\s.h.get id=some (.arr 1 0 (za1 R))/\R.length=l.length/\R.take (kp hd l).length=kp hd l/\(∀x,x<c->x≠id->s.h.get x=h.get x)/\c≤s.c
set_option maxHeartbeats 4000000 in
theorem eff72(hd l:List Str)(hh:hd.length<1000000)(hl:l.length<100000){h:T Ob}{c id A:Nat}(gI:h.get id=some (.arr 1 0 (za1 l)))(hid:id<c)(hne:l≠[])(gA:h.get A=some (.arr 1 0 [[.f (zaw hd)]]))(hA:A<c)(hAi:A≠id):
  Eff pr 72 [.sl id 0 l.length 1 l.length false,.fn 73 [] [.ptr A 1 0 0]] h c fun d h' c'=>∃R:List Str,d= .sl id 0 (kp hd l).length 1 l.length false/\h'.get id=some (.arr 1 0 (za1 R))/\R.length=l.length/\R.take (kp hd l).length=kp hd l/\∀x,x<c->x≠id->h'.get x=h.get x:=by
 refine zcJ za5 fn72 ?_;simp only[g72,rU];simp -implicitDefEqProofs [rW,st0,zal];have hR0:RdV h (.sl id 0 l.length 1 l.length false) l:= .inr ⟨0,c,.inr ⟨id,0,by rw[zeL],fun e=>hne (zlR e),gI,Nat.zero_le _,Nat.zero_le _,hid⟩⟩;refine zdn (d:= .f (.i .i64 (ixP l (inH hd)))) ?_ ?_ ?_
 ·simp only[rG];exact zyq l (inH hd) hl hR0 rfl fun n hn=>ro73 hd _ hh gA hA
 ·simp only[rG];omega
 intro mx;unfold ixP;cases hx:l.findIdx? (inH hd)with
 |none=>
  have hk:kp hd l=l:=by
   unfold kp;rw[List.filter_eq_self];intro a ha;rw[List.findIdx?_eq_none_iff.1 hx a ha];rfl
  simp -implicitDefEqProofs [rW,hk,zbW];exact⟨l,gI,rfl,List.take_length ..⟩
 |some i=>
  obtain⟨hi,hp,hbf⟩ :=List.findIdx?_eq_some_iff_getElem.1 hx;have hw:=zaB i (by omega);have hm1:¬((i:Int)= -1):=by omega
  have hki:kp hd (l.take i)=l.take i:=by
   unfold kp;rw[List.filter_eq_self];intro a ha;obtain⟨m,hm,rfl⟩ :=List.mem_iff_getElem.1 ha;have hm':m<i:=by simp at hm;omega
   rw[List.getElem_take];have:=hbf m hm';simpa using this
  have hks:kp hd (l.take (i+1))=l.take i:=by
   rw[zxT hd l hi,hki,hp];simp
  simp -implicitDefEqProofs [rW,hw,hm1];refine zmF (KD h hd l id A c i) (fun x s=>x= .exit 0/\KE h hd l id c s) ?_ (l.length - (i+1)) _ ?_ ?_
  ·rintro k' s ⟨j,R,hj1,hj2,rfl,hlt,⟨h0,h1,h5,h6⟩,gE,hRl,hRt,hRd,hf,hc3,hl3⟩
   by_cases hjl:j<l.length
   ·have hwj:=zaB j (by omega);have hks2:=zxT hd l hjl;have hrj:(za1 R)[j]? =some [.f (.s l[j])]:=by
     have:R[j]? =some l[j]:=by rw[hRd j (Nat.le_refl _)];exact List.getElem?_eq_getElem hjl
     simp[za1,this]
    generalize hX:l[j]=X at hks2 hrj;generalize hN:kp hd (l.take j)=N at*;have hwN:=zaB N.length (by omega);simp -implicitDefEqProofs [rW,h0,h1,h5,h6,hjl,gE,hrj];refine zdn (d:= .f (.b (inH hd X))) ?_ ?_ ?_
    ·simp only[rG];exact ro73 hd X hh (by rw[hf A hA hAi];exact gA) (by omega)
    ·simp only[rG];omega
    intro mx;cases hb:inH hd X with
    |true=>
     rw[hb]at hks2;simp only[if_true,List.append_nil]at hks2;simp -implicitDefEqProofs [rW,h0,h1,h5,h6,hwj];rw[zee];refine⟨l.length - (j+1),by omega,j+1,R,by omega,hjl,rfl,by rw[hks2];omega,?_,?_,hRl,by rw[hks2];exact hRt,fun q hq=>hRd q (by omega),fun x h1 h2=> ?_,?_,?_⟩
     ·rw[hks2];simp -implicitDefEqProofs [rW,h0,h1,h5,h6,hwj]
     ·simp -implicitDefEqProofs [rW,gE]
     ·simp -implicitDefEqProofs [rW,];exact hf x h1 h2
     ·simp -implicitDefEqProofs [rW,];exact hc3
     ·simp -implicitDefEqProofs [rW,];exact hl3
    |false=>
     rw[hb]at hks2;simp only[Bool.false_eq_true,if_false]at hks2;have hNl:N.length<l.length:=by omega
     have hxN:(za1 R)[N.length]? =some [.f (.s (R[N.length]'(by omega)))]:=by
      have:N.length<R.length:=by omega
      simp[za1,this]
     have hset:(za1 R).set N.length [.f (.s X)]=za1 (R.set N.length X):=by simp[za1,List.map_set]
     simp -implicitDefEqProofs [rW,h0,h1,h5,h6,hwj,hwN,gE,hNl,hxN,zsP,hset];refine⟨by omega,?_⟩;rw[zee];have hl1:(N++[X]).length=N.length+1:=by simp
     refine⟨l.length - (j+1),by omega,j+1,R.set N.length X,by omega,hjl,rfl,by rw[hks2,hl1];omega,?_,?_,by simpa using hRl,?_,fun q hq=> ?_,fun x h1 h2=> ?_,?_,?_⟩
     ·rw[hks2,hl1];simp -implicitDefEqProofs [rW,h0,h1,h5,h6]
     ·simp -implicitDefEqProofs [rW,]
     ·rw[hks2,hl1,List.take_add_one,List.take_set_of_le (Nat.le_refl _),hRt,List.getElem?_set_self (by omega)];rfl
     ·rw[List.getElem?_set_ne (by omega)];exact hRd q (by omega)
     ·simp -implicitDefEqProofs [rW,h2];exact hf x h1 h2
     ·simp -implicitDefEqProofs [rW,];exact hc3
     ·simp -implicitDefEqProofs [rW,]
      repeat refine Nat.le_trans (zbD _ _).1 ?_
      omega
   ·have hje:j=l.length:=by omega
    subst hje;rw[List.take_length]at h5 hRt;simp -implicitDefEqProofs [rW,h0,h1,h5,h6];refine⟨R,?_,gE,hRl,hRt,hf,hc3⟩;simp -implicitDefEqProofs [rW,h0,h5]
  ·refine⟨i+1,l,Nat.le_refl _,hi,rfl,?_,?_,?_,rfl,?_,fun q _=>rfl,fun x _ _=> ?_,?_,?_⟩
   ·rw[hks,List.length_take];omega
   ·have:(l.take i).length=i:=by simp;omega
    rw[hks,this];simp -implicitDefEqProofs [rW,]
   ·simp -implicitDefEqProofs [rW,gI]
   ·rw[hks,List.length_take,Nat.min_eq_left (by omega)]
   ·simp -implicitDefEqProofs [rW,]
   ·simp -implicitDefEqProofs [rW,]
   ·simp -implicitDefEqProofs [rW,]
  ·rintro x s ⟨rfl,R,⟨h0,h5⟩,gE,hRl,hRt,hf,hc3⟩;have hcl:=zDT hd l;have hsum:(kp hd l).length+(l.length - (kp hd l).length)=l.length:=by omega
   have hrow:List.take (kp hd l).length (za1 R)++(List.replicate (l.length - (kp hd l).length) [D.f (F.s [])]++List.drop l.length (za1 R))=za1 (kp hd l++List.replicate (l.length - (kp hd l).length) []):=by
    rw[List.drop_of_length_le (by rw[zeL];omega),List.append_nil];have:List.take (kp hd l).length (za1 R)=za1 (R.take (kp hd l).length):=by simp[za1,List.map_take]
    rw[this,hRt];simp[za1]
   simp -implicitDefEqProofs [rW,h0,h5,gE,zhN,zfV,zEJ,zsl,hcl,hsum,hRl,zeL,zsP,hrow];refine⟨by omega,?_⟩;simp -implicitDefEqProofs [rW,zbW];refine⟨_,rfl,by rw[List.length_append,List.length_replicate];exact hsum,by rw[List.take_append_of_le_length (Nat.le_refl _),List.take_length],fun x h1 h2=> ?_⟩;rw[if_neg h2];exact hf x h1 h2
theorem fn38:pr.fn 38=some g38:=by kernel_rfl
def SZ(h:T Ob)(c:Nat)(d:D)(m:List Str):Prop:=(d= .f .nils/\m=[])\/∃(id lim:Nat) (R:List Str),d= .sl id 0 m.length 1 lim false/\h.get id=some (.arr 1 0 (za1 R))/\R.length=lim/\R.take m.length=m/\id<c
theorem SZ.le{h:T Ob}{c id lim:Nat}{m R:List Str}(h2:R.length=lim)(h3:R.take m.length=m):m.length≤lim:=by
 have:=congrArg List.length h3;rw[List.length_take]at this;omega
theorem zKC{h:T Ob}{c:Nat}{d:D}{m:List Str}(H:SZ h c d m):zco d=some m.length:=by
 rcases H with⟨rfl,rfl⟩ |⟨id,lim,R,rfl,-⟩ <;>rfl
theorem zEt{id lim:Nat}{m R:List Str}(h3:R.take m.length=m){n:Nat}(hn:n<m.length):(za1 R)[n]? =some [.f (.s m[n])]:=by
 have h1:(R.take m.length)[n]? =m[n]? :=by rw[h3]
 rw[List.getElem?_take_of_lt hn,List.getElem?_eq_getElem hn]at h1;simp[za1,h1]
theorem zJr(hd l:List Str)(hh:hd.length<1000000)(hl:l.length<100000){h:T Ob}{c lo A:Nat}{d:D}(H:SV h lo c d l)(gA:h.get A=some (.arr 1 0 [[.f (zaw hd)]]))(hA:A<lo)(hlo:lo≤c):
  Eff pr 72 [d,.fn 73 [] [.ptr A 1 0 0]] h c fun d' h' c'=>SZ h' c' d' (kp hd l)/\∀x,x<lo->h'.get x=h.get x:=by
 rcases H with⟨rfl,rfl⟩ |⟨id,rfl,hne,hg,h1,h2⟩
 ·refine zcJ za5 fn72 ?_;simp only[g72,rU];simp -implicitDefEqProofs [rW,st0,zal];refine zdn (d:= .f (.i .i64 (ixP [] (inH hd)))) ?_ ?_ ?_
  ·simp only[rG];exact zyq [] (inH hd) (by simp) (.inl rfl) rfl fun n hn=>by simp at hn
  ·simp only[rG];omega
  intro mx;simp -implicitDefEqProofs [rW,ixP,zbW,kp];exact .inl ⟨rfl,rfl⟩
 ·obtain⟨q,g1,⟨R,g2,g3,g4,g5,g6⟩,g7⟩ :=eff72 hd l hh hl hg h2 hne gA (by omega) (by omega);exact⟨q,g1,⟨.inr ⟨id,l.length,R,g2,g3,g4,g5,by have:=g7.1;omega⟩,fun x hx=>g6 x (by omega) (by omega)⟩,g7⟩
def syP(c:CQ)(x y:Str):Bool:=!(c.cs.any (zbU 3 (.var x) (.var y)))&&zlq c x y
def syF(c:CQ)(ns:List Str)(i:Nat):Option (Str×Str):=match ns[i]? with
 |some x=>((ns.drop (i+1)).find? (syP c x)).map fun y=>(x,y)
 |none=>none
def sym(c:CQ)(ns:List Str):Option (Str×Str):=(List.range ns.length).findSome? (syF c ns)
theorem zy6(c:CQ){ns:List Str}{i:Nat}{x:Str}(h:ns[i]? =some x):syF c ns i=((ns.drop (i+1)).find? (syP c x)).map fun y=>(x,y):=by unfold syF;rw[h]
theorem zlx{α:Type}{l:List α}{p:α->Bool}{n:Nat}(h:n<l.length)(h1:p l[n]=true)(h2:∀m (h':m<n),p (l[m]'(by omega))=false):l.find? p=some l[n]:=by
 rw[List.find?_eq_some_iff_getElem];exact⟨h1,n,h,rfl,fun j hj=>by rw[h2 j hj];rfl⟩
def syR:Option (Str×Str)->F
 |none=> .tu [.s [],.s [],.b false]
 |some p=> .tu [.s p.1,.s p.2,.b true]
def XZ1(q:CQ)(d:D)(ns:List Str)(n:Nat)(s:St):Prop:=(s.tm.get 2=some (.ptr 0 2 0 0)/\s.tm.get 7=some (d)/\s.tm.get 16=some (d)/\s.tm.get 17=some (.f (.i .i64 ns.length))/\s.tm.get 18=some (.f (.i .i64 n))/\s.h.get 0=some (.arr 2 0 [[.f (zaO q),.f (zaR q)]]))/\SZ s.h s.c d ns
def XZ2(q:CQ)(d e:D)(ns:List Str)(n:Nat)(x:Str)(m:Nat)(s:St):Prop:=(s.tm.get 2=some (.ptr 0 2 0 0)/\s.tm.get 7=some (d)/\s.tm.get 16=some (d)/\s.tm.get 17=some (.f (.i .i64 ns.length))/\s.tm.get 18=some (.f (.i .i64 n))/\s.tm.get 9=some (.f (.s x))/\s.tm.get 26=some (e)/\s.tm.get 27=some (.f (.i .i64 (ns.length - (n+1):Nat)))/\s.tm.get 28=some (.f (.i .i64 m))/\s.h.get 0=some (.arr 2 0 [[.f (zaO q),.f (zaR q)]]))/\SZ s.h s.c d ns
def XZR(p:Str×Str)(e:Ex)(s:St):Prop:=e= .ret/\s.tm.get 4=some (.f (.s p.1))/\s.tm.get 5=some (.f (.s p.2))/\s.tm.get 6=some (.f (.b true))
theorem zDU{hd l:List Str}(h:∀s∈l,s≠[]):∀s∈kp hd l,s≠[]:=fun s hs=>h s (List.mem_filter.1 hs).1
theorem rd_3(s:St)(a b c:Rv):resD s [a,b,c]=om (resV s a) fun x=>om (resV s b) fun y=>om (resV s c) fun z=>some (.tu [x,y,z]):=by
 simp only[resD,zaq,om];cases resV s a<;>cases resV s b<;>cases resV s c<;>rfl
theorem zIZ(l:List Str):(D.f (zaw l)).cells=some [.f (zaw l)]:=zhn _ _
set_option maxHeartbeats 4000000 in
theorem ans38(q:CQ)(hd:List Str)(hq:CqG q)(hh:hd.length<1000):Ans pr 38 [.ag (cqF q),zaw hd] (syR (sym q (kp hd (vrs q)))):=by
 refine zcQ fn38 ?_;simp only[g38,rU];simp -implicitDefEqProofs [rW,st0,zal,cqE,za4,za2,zbl,zIZ];refine zdi rfl rfl (zCL q hq.toCqSm) ?_;rintro d H c1 lw1 mx1 ⟨hF,hS⟩ hcc;simp only[rG]at hF hS hcc;have k0:=hF 0 (by omega);have k1:=hF 1 (by omega);simp[Vse.T.zad]at k0 k1;have hvl:=ztU hq.toCqSm;simp -implicitDefEqProofs [rW,];refine zdi rfl rfl (zJr hd (vrs q) (by omega) (by omega) (A:=1) hS (by simp only[rG];exact k1) (by omega) (by simp only[rG];omega)) ?_;rintro d2 H2 c2 lw2 mx2 ⟨hSW,hF2⟩ hcc2;simp only[rG]at hSW hF2 hcc2;have m0:=hF2 0 (by omega);rw[k0]at m0;have hlen:=zKC hSW;have hne:=zDU (hd:=hd) (zrA q);have hkl:=zDT hd (vrs q);generalize kp hd (vrs q)=ns at*;simp -implicitDefEqProofs [rW,hlen];refine zeS (List.range ns.length) (fun i=>(syF q ns i).isSome) (XZ1 q d2 ns) (fun e s=>e= .exit 0) (fun n e s=>∃p,syF q ns n=some p/\XZR p e s) ?_ ?_ _ ?_ ?_ ?_
 ·rintro n s hn ⟨⟨h2,h7,h16,h17,h18,g0⟩,hW⟩;rw[List.length_range]at hn;rw[List.getElem_range];have hw:=zaB n (by omega);rcases hW with⟨-,e⟩ |⟨id,lim,R,rfl,gR,hRl,hRt,hid⟩
  ·rw[e]at hn;simp at hn
  have hle:=SZ.le (h:=H) (c:=0) (id:=0) hRl hRt;have hat:=fun m (hm:m<ns.length)=>zEt (id:=id) (lim:=lim) hRt hm
  have hx:=hat n hn;have hnx:ns[n]? =some ns[n]:=List.getElem?_eq_getElem hn;have hxne:=hne _ (List.getElem_mem hn);generalize hX:ns[n]=x at hx hnx hxne;have h1n:n+1≤ns.length:=by omega
  have h0n:(0:Int)≤(n:Int)+1:=by omega
  have hyn:=zy6 q hnx;simp -implicitDefEqProofs [rW,h2,h7,h16,h17,h18,g0,hn,gR,hx,hw,zhN,zfV,h1n,h0n];have hdl:(ns.drop (n+1)).length=ns.length - (n+1):=by simp
  refine zeS (ns.drop (n+1)) (syP q x) (XZ2 q (.sl id 0 ns.length 1 lim false) (.sl id (n+1) (ns.length - (n+1)) 1 lim false) ns n x) (fun e s'=>e= .exit 2/\XZ1 q (.sl id 0 ns.length 1 lim false) ns n s') (fun m e s'=>∃y,(ns.drop (n+1))[m]? =some y/\XZR (x,y) e s') ?_ ?_ _ ?_ ?_ ?_
  ·rintro m s' hm ⟨⟨h2,h7,h16,h17,h18,h9,h26,h27,h28,g0⟩,hW⟩;have hm2:m<ns.length - (n+1):=by omega
   have hw2:=zaB m (by omega);rcases hW with⟨e,-⟩ |⟨id',lim',R,e,gR,hRl,hRt,hid⟩
   ·cases e
   cases e;have hy:=zEt (id:=id) (lim:=lim) hRt (n:=n+1+m) (by omega);have hey:(ns.drop (n+1))[m]=ns[n+1+m]:=by rw[List.getElem_drop]
   have hyn2:(ns.drop (n+1))[m]? =some ns[n+1+m]:=by rw[<-hey];exact List.getElem?_eq_getElem hm
   have hyne:=hne _ (List.getElem_mem (show n+1+m<ns.length by omega));rw[hey];generalize hY:ns[n+1+m]=y at hy hyn2 hyne⊢;have q1:=fun f=>zaC (k:=f) (zB1 q 3 (.var x) (.var y) hq hxne hyne)
   have q2:=fun f=>zaC (k:=f) (ans75 q x y hq hxne hyne)
   simp only[cqE,tmF]at q1 q2;unfold syP;generalize hb1:q.cs.any (zbU 3 (.var x) (.var y))=b1 at q1⊢;generalize hb2:zlq q x y=b2 at q2⊢;have stay:SZ s'.h s'.c (.sl id 0 ns.length 1 lim false) ns:= .inr ⟨id,lim,R,rfl,gR,hRl,hRt,hid⟩;have hYn:ns[n+1+m]? =some y:=by rw[<-hY];exact List.getElem?_eq_getElem (by omega)
   cases b1 with
   |true=>
    simp -implicitDefEqProofs [rW,h2,h7,h16,h17,h18,h9,h26,h27,h28,g0,hm2,gR,hy,q1,hw2,za4,za2];refine⟨?_,by simp -implicitDefEqProofs [rW,];exact stay⟩;simp -implicitDefEqProofs [rW,h2,h7,h16,h17,h18,h9,h26,h27,h28,g0,hw2]
   |false=>
    cases b2 with
    |true=>
     simp -implicitDefEqProofs [rW,h2,h7,h16,h17,h18,h9,h26,h27,h28,g0,hm2,gR,hy,q1,q2,hw2,za4,za2];refine⟨y,hYn,rfl,?_⟩;simp -implicitDefEqProofs [rW,h2,h7,h16,h17,h18,h9,h26,h27,h28,g0]
    |false=>
     simp -implicitDefEqProofs [rW,h2,h7,h16,h17,h18,h9,h26,h27,h28,g0,hm2,gR,hy,q1,q2,hw2,za4,za2];refine⟨?_,by simp -implicitDefEqProofs [rW,];exact stay⟩;simp -implicitDefEqProofs [rW,h2,h7,h16,h17,h18,h9,h26,h27,h28,g0,hw2]
  ·rintro s' ⟨⟨h2,h7,h16,h17,h18,h9,h26,h27,h28,g0⟩,hW⟩;rw[hdl]at h28;simp -implicitDefEqProofs [rW,h2,h7,h16,h17,h18,h9,h26,h27,h28,g0];refine⟨?_,by simp -implicitDefEqProofs [rW,];exact hW⟩;simp -implicitDefEqProofs [rW,h2,h7,h16,h17,h18,g0]
  ·refine⟨?_,by simp -implicitDefEqProofs [rW,];exact .inr ⟨id,lim,R,rfl,gR,hRl,hRt,hid⟩⟩;simp -implicitDefEqProofs [rW,h2,h7,h16,h17,h18,g0]
  ·rintro hno e s' ⟨rfl,⟨h2,h7,h16,h17,h18,g0⟩,hW⟩;have hf:(ns.drop (n+1)).find? (syP q x)=none:=List.find?_eq_none.2 fun y hy=>by rw[hno y hy];simp
   rw[hf]at hyn;simp -implicitDefEqProofs [rW,h2,h7,h16,h17,h18,g0,hw,hyn];refine⟨?_,by simp -implicitDefEqProofs [rW,];exact hW⟩;simp -implicitDefEqProofs [rW,h2,h7,h16,h17,h18,g0,hw]
  ·rintro m hm hp hbf e s' ⟨y,hy,rfl,hR⟩;have hf:(ns.drop (n+1)).find? (syP q x)=some y:=by
    rw[List.getElem?_eq_getElem hm]at hy;cases hy;exact zlx hm hp hbf
   rw[hf]at hyn;simp -implicitDefEqProofs [rW,hyn];exact⟨x,y,⟨rfl,rfl⟩,rfl,hR⟩
 ·rintro s ⟨⟨h2,h7,h16,h17,h18,g0⟩,hW⟩;rw[List.length_range]at h18;simp -implicitDefEqProofs [rW,h2,h7,h16,h17,h18,g0]
 ·refine⟨?_,by simp -implicitDefEqProofs [rW,];exact hSW⟩;simp -implicitDefEqProofs [rW,m0]
 ·rintro hno e s rfl;have hf:sym q ns=none:=by
   unfold sym;exact zC4 hno
  rw[hf];simp -implicitDefEqProofs [rW,rd_3];rfl
 ·rintro n hn hp hbf e s ⟨p,hp2,rfl,h4,h5,h6⟩;have hf:sym q ns=some p:=by
   unfold sym;rw[zxv hn hp hbf,List.getElem_range];exact hp2
  rw[hf];simp -implicitDefEqProofs [rW,h4,h5,h6,rd_3];rfl
theorem fn37:pr.fn 37=some g37:=by kernel_rfl
theorem fn13:pr.fn 13=some g13:=by kernel_rfl
def sp3(q:CQ)(x y:Str):List CQ:=[wth q ⟨3,.var x,.var y⟩,mpC (sbT y (.var x)) q,wth q ⟨3,.var y,.var x⟩]
def rkQ(hd:List Str)(c:CQ):Option (Str×Str):=sym c (kp hd (vrs c))
def rkS(hd:List Str)(l:List CQ):Option (Nat×List CQ):=match l.findIdx? fun c=>(rkQ hd c).isSome with
 |some i=>match l[i]? with
  |some c=>(rkQ hd c).map fun p=>(i,sp3 c p.1 p.2)
  |none=>none
 |none=>none
theorem zKD{c:CQ}{ns:List Str}{p:Str×Str}(h:sym c ns=some p):∃i x,ns[i]? =some x/\p.1=x/\p.2∈ns.drop (i+1)/\syP c x p.2=true:=by
 unfold sym at h;obtain⟨i,hi,h⟩ :=List.exists_of_findSome?_eq_some h;have hi2:i<ns.length:=by simpa using hi
 rw[zy6 c (List.getElem?_eq_getElem hi2)]at h;cases hf:(ns.drop (i+1)).find? (syP c ns[i])with
 |none=>rw[hf]at h;cases h
 |some y=>
  rw[hf]at h;cases h;exact⟨i,_,List.getElem?_eq_getElem hi2,rfl,List.mem_of_find?_eq_some hf,List.find?_some hf⟩
theorem zJY{hd:List Str}{c:CQ}{p:Str×Str}(h:rkQ hd c=some p):p.1≠[]/\p.2≠[]:=by
 obtain⟨i,x,h1,rfl,h3,-⟩ :=zKD h;have hne:=zDU (hd:=hd) (zrA c);exact⟨hne _ (List.mem_of_getElem? h1),hne _ (List.mem_of_mem_drop h3)⟩
def XU1(h0:T Ob)(hd:List Str)(dq:D)(l:List CQ)(c0 n:Nat)(s:St):Prop:=(s.tm.get 1=some (.ptr c0 2 0 0)/\s.tm.get 10=some (dq)/\s.tm.get 11=some (.f (.i .i64 l.length))/\s.tm.get 12=some (.f (.i .i64 n)))/\s.h.get c0=some (.arr 2 0 [[.f (zaw hd),dq]])/\c0+1≤s.c/\Frm h0 s.h c0
def XUR(h0:T Ob)(c0 n:Nat)(q:CQ)(o:Option (Str×Str))(s:St):Prop:=∃p id ex,o=some p/\(s.tm.get 2=some (.f (.i .i64 n))/\s.tm.get 3=some (.sl id 0 3 2 3 ex))/\s.h.get id=some (.arr 2 0 (fD ((sp3 q p.1 p.2).map cqF)))/\c0≤id/\id<s.c/\Frm h0 s.h c0
set_option maxHeartbeats 4000000 in
theorem eff37(hd:List Str)(l:List CQ)(hQ:QG hd l){h:T Ob}{c0:Nat}{dq:D}(hD:QD h c0 dq l):Eff pr 37 [.ag [.f (zaw hd),dq]] h c0 (StP (rkS hd l) h c0):=by
 obtain⟨hh,hl,hq⟩ :=hQ;refine zcJ za5 fn37 ?_;simp only[g37,rU];simp -implicitDefEqProofs [rW,st0,zal,zjo hD,zm2 hD,zbl];refine zeS l (fun c=>(rkQ hd c).isSome) (XU1 h hd dq l c0) (fun x s=>x= .exit 0/\XU1 h hd dq l c0 l.length s) (fun n y s=>y= .ret/\∃c,l[n]? =some c/\XUR h c0 n c (rkQ hd c) s) ?_ ?_ _ ?_ ?_ ?_
 ·rintro n s hn ⟨⟨h1,h10,h11,h12⟩,g0,hlo,hF⟩;have hw:=zaB n (by omega);obtain⟨id,rows,hi,hY,hr,hid⟩ :=zvR hD hn;rw[<-hF id hid]at hY;have hqn:=hq _ (List.getElem_mem hn);have hln:l[n]? =some l[n]:=List.getElem?_eq_getElem hn;generalize hA:l[n]=A at hr hqn hln;have q1:=fun k=>zaC (k:=k) (ans38 A hd hqn hh)
  have n0:¬(c0=s.c):=by omega
  have hid2:¬(id=s.c):=by omega
  have e0:rkQ hd A=sym A (kp hd (vrs A)):=rfl;cases ho:sym A (kp hd (vrs A))with
  |none=>
   rw[ho]at q1 e0;simp only[cqE,syR]at q1;simp -implicitDefEqProofs [rW,h1,h10,h11,h12,hn,hi,hY,hr,g0,n0,q1,zbl,zcA,za4,za2,e0,hw,hA];refine⟨?_,?_,by simp -implicitDefEqProofs [rW,];omega,fun x hx=> ?_⟩
   ·simp -implicitDefEqProofs [rW,h1,h10,h11,h12]
   ·simp -implicitDefEqProofs [rW,n0,g0]
   ·have nx:¬(x=s.c):=by omega
    simp -implicitDefEqProofs [rW,nx];exact hF x hx
  |some p=>
   rw[ho]at q1 e0;obtain⟨p1,p2⟩ :=zJY e0;simp only[cqE,syR]at q1;have r1:=fun k=>zaC (k:=k) (zuu A 3 (.var p.1) (.var p.2) hqn)
   have r2:=fun k=>zaC (k:=k) (ans39 A p.2 p.1 p2 p1 hqn)
   have r3:=fun k=>zaC (k:=k) (zBZ _ (zjT hqn (f:=sbT p.2 (.var p.1)) (fun t ht=>zis (s:=p.2) (t:= .var p.1) p1 ht)).toCqSm)
   have r4:=fun k=>zaC (k:=k) (zuu A 3 (.var p.2) (.var p.1) hqn)
   simp only[cqE,tmF]at r1 r2 r3 r4;simp -implicitDefEqProofs [rW,h1,h10,h11,h12,hn,hi,hY,hr,g0,n0,q1,zbl,zcA,za4,za2,e0,hw,hA];refine zcI ?_;simp -implicitDefEqProofs [rW,h1,h10,h11,h12,za4,za2,r1,r2,r3,r4];refine⟨A,hln,p,s.c+1+1+1+1+1+1+1+1+1+1+1+1+1+1+1+1+1+1+1+1,true,e0,⟨?_,?_⟩,?_,?_,?_,fun x hx=> ?_⟩
   ·simp -implicitDefEqProofs [rW,]
   ·simp -implicitDefEqProofs [rW,]
   ·simp -implicitDefEqProofs [rW,];rfl
   ·omega
   ·simp -implicitDefEqProofs [rW,]
   ·have nx:¬(x=s.c):=by omega
    have ny:¬(x=s.c+1+1+1+1+1+1+1+1+1+1+1+1+1+1+1+1+1+1+1+1):=by omega
    simp -implicitDefEqProofs [rW,nx,ny];exact hF x hx
 ·rintro s ⟨⟨h1,h10,h11,h12⟩,g0,hlo,hF⟩;simp -implicitDefEqProofs [rW,h1,h10,h11,h12];refine⟨?_,by simp -implicitDefEqProofs [rW,];exact g0,by simp -implicitDefEqProofs [rW,];exact hlo,by simp -implicitDefEqProofs [rW,];exact hF⟩;simp -implicitDefEqProofs [rW,h1,h10,h11,h12]
 ·refine⟨?_,?_,?_,fun x hx=> ?_⟩
  ·simp -implicitDefEqProofs [rW,st0,zal]
  ·simp -implicitDefEqProofs [rW,]
  ·simp -implicitDefEqProofs [rW,]
  ·have nx:¬(x=c0):=by omega
   simp -implicitDefEqProofs [rW,nx]
 ·rintro hno x s ⟨rfl,⟨h1,h10,h11,h12⟩,g0,hlo,hF⟩;have hst:rkS hd l=none:=by
   unfold rkS;rw[show(l.findIdx? fun c=>(rkQ hd c).isSome)=none from List.findIdx?_eq_none_iff.2 hno]
  rw[hst];simp -implicitDefEqProofs [rW,h1,h10,h11,h12,zbW];exact⟨⟨hF,rfl⟩,fun _=>⟨fun _ _=>rfl,rfl⟩⟩
 ·rintro n hn hp hbf y s ⟨rfl,q,hqn,p,id,ex,ho,⟨h2,h3⟩,gI,hi1,hi2,hF⟩;have hst:rkS hd l=some (n,sp3 q p.1 p.2):=by
   unfold rkS;rw[show(l.findIdx? fun c=>(rkQ hd c).isSome)=some n from List.findIdx?_eq_some_iff_getElem.2 ⟨hn,hp,fun j hj=>by simpa using hbf j hj⟩];simp only[hqn,ho,Option.map_some]
  rw[hst];simp -implicitDefEqProofs [rW,h2,h3,zbW];exact⟨hF,id,ex,rfl,gI,hi1,hi2⟩
theorem ans13{hd:List Str}{l0:List CQ}(hQ0:QG hd l0){k:Nat}{r:Option (List CQ)}(hR:RwN hd (rkS hd) k (zbk hd l0) r):Ans pr 13 [.ag [zaw hd,qsF l0]] (rwF hd r):=by
 refine zcQ fn13 ?_;simp only[g13,rU];simp -implicitDefEqProofs [rW,st0,zal,zbl,zlI];refine zdi rfl rfl (zCM hQ0 (stp:=rkS hd) (fv:= .f (.fn 37)) rfl (fun l hQ h c dq hD=>eff37 hd l hQ hD) hR) ?_;rintro d H c1 lw1 mx1 ⟨hF1,hP⟩ hcc;simp only[rG]at hF1 hP hcc;have k1:=hF1 1 (by omega);simp[Vse.T.zad]at k1;cases r with
 |none=>
  simp only[RwP]at hP;subst hP;simp -implicitDefEqProofs [rW,k1];exact⟨by omega,rfl⟩
 |some l=>
  obtain⟨dq,rfl,hE⟩ :=hP;have hE2:=hE.up (h':=H.set 1 (.arr 2 0 [[.f (zaw hd),dq]])) (fun x h1 h2=>by
   have y:¬(x=1):=by omega
   simp[Vse.T.zad,y]) (Nat.le_refl _)
  obtain⟨rd,hz⟩ :=zyc hE2 8;have hz:frz (H.set 1 (.arr 2 0 [[.f (zaw hd),dq]])).get 10 dq=some (qsF l,rd):=hz;simp -implicitDefEqProofs [rW,k1,hz,zqI hE];exact⟨by omega,rfl⟩
theorem fn21:pr.fn 21=some g21:=by kernel_rfl
theorem qb{f:Nat}{fs gs:List F}{x y:F}(h:Ans pr f fs x)(e1:fs=gs)(e2:x=y):Ans pr f gs y:=by rw[<-e1,<-e2];exact h
def kA:CQ:=⟨[⟨[82],false,[.var [120],.var [121]]⟩,⟨[82],false,[.cst 1,.var [122]]⟩],[],false,false⟩
def kB:CQ:=⟨[⟨[82],false,[.cst 1,.var [121]]⟩,⟨[82],false,[.cst 1,.var [122]]⟩],[],false,false⟩
def kC:CQ:=⟨[⟨[82],false,[.var [120],.var [121]]⟩,⟨[82],false,[.cst 1,.var [122]]⟩],[⟨2,.var [120],.cst 1⟩],false,false⟩
def kD:CQ:=⟨[⟨[82],false,[.var [120],.var [121]]⟩,⟨[82],false,[.var [121],.var [120]]⟩],[],false,false⟩
def kE:CQ:=⟨[⟨[82],false,[.var [120],.var [121]]⟩,⟨[82],false,[.var [121],.var [120]]⟩],[⟨3,.var [120],.var [121]⟩],false,false⟩
def kF:CQ:=⟨[⟨[82],false,[.var [120],.var [120]]⟩,⟨[82],false,[.var [120],.var [120]]⟩],[],false,false⟩
def kG:CQ:=⟨[⟨[82],false,[.var [120],.var [121]]⟩,⟨[82],false,[.var [121],.var [120]]⟩],[⟨3,.var [121],.var [120]⟩],false,false⟩
theorem k0:Ans pr 54 [.s [82,40,120,44,32,121,41,44,32,82,40,49,44,32,122,41]] (.tu [.ag [zaw [],qsF [kA]],.i .i64 0]):=qb kn0 rfl (by kernel_rfl)
theorem k1:Ans pr 54 [.s [82,40,120,44,32,121,41,44,32,82,40,121,44,32,120,41]] (.tu [.ag [zaw [],qsF [kD]],.i .i64 0]):=qb kn1 rfl (by kernel_rfl)
theorem k2:Ans pr 16 [.ag [zaw [],qsF [kA]]] (.sl 3 [[.i .i64 1,.i .i64 1,.s []]]):=qb kn2 (by kernel_rfl) rfl
theorem s1:zbk [] [kA]=[kA]:=by kernel_rfl
theorem s2:shS [] [kA]=some (0,spl kA [120] 1):=by kernel_rfl
theorem s3:zbk [] (rp [kA] 0 (spl kA [120] 1))=[kB,kC]:=by kernel_rfl
theorem s4:shS [] [kB,kC]=none:=by kernel_rfl
theorem s5:zbk [] [kD]=[kD]:=by kernel_rfl
theorem s6:rkS [] [kD]=some (0,sp3 kD [120] [121]):=by kernel_rfl
theorem s7:zbk [] (rp [kD] 0 (sp3 kD [120] [121]))=[kE,kF,kG]:=by kernel_rfl
theorem s8:rkS [] [kE,kF,kG]=none:=by kernel_rfl
theorem gA:CqG kA:=⟨⟨⟨by simp[kA,zbB,zax],by simp[kA],by simp[kA],by simp[kA]⟩,by simp[kA],by simp[kA],by simp[kA],by simp[kA]⟩,by simp[kA]⟩
theorem gB:CqG kB:=⟨⟨⟨by simp[kB,zbB,zax],by simp[kB],by simp[kB],by simp[kB]⟩,by simp[kB],by simp[kB],by simp[kB],by simp[kB]⟩,by simp[kB]⟩
theorem gC:CqG kC:=⟨⟨⟨by simp[kC,zbB,zax],by simp[kC,zbt,zax],by simp[kC],by simp[kC]⟩,by simp[kC],by simp[kC],by simp[kC],by simp[kC]⟩,by simp[kC]⟩
theorem gD:CqG kD:=⟨⟨⟨by simp[kD,zbB,zax],by simp[kD],by simp[kD],by simp[kD]⟩,by simp[kD],by simp[kD],by simp[kD],by simp[kD]⟩,by simp[kD]⟩
theorem gE:CqG kE:=⟨⟨⟨by simp[kE,zbB,zax],by simp[kE,zbt,zax],by simp[kE],by simp[kE]⟩,by simp[kE],by simp[kE],by simp[kE],by simp[kE]⟩,by simp[kE]⟩
theorem gF:CqG kF:=⟨⟨⟨by simp[kF,zbB,zax],by simp[kF],by simp[kF],by simp[kF]⟩,by simp[kF],by simp[kF],by simp[kF],by simp[kF]⟩,by simp[kF]⟩
theorem gG:CqG kG:=⟨⟨⟨by simp[kG,zbB,zax],by simp[kG,zbt,zax],by simp[kG],by simp[kG]⟩,by simp[kG],by simp[kG],by simp[kG],by simp[kG]⟩,by simp[kG]⟩
theorem qg(l:List CQ)(hl:l.length≤1000)(h:∀c∈l,CqG c):QG [] l:=⟨by simp,hl,h⟩
theorem rwA:RwN [] (shS []) 1 (zbk [] [kA]) (some [kB,kC]):=by
 rw[s1];have h1:QG [] [kA]:=qg _ (by simp) (by simp[gA]);have h2:RwN [] (shS []) 0 (zbk [] (rp [kA] 0 (spl kA [120] 1))) (some [kB,kC]):=by
  rw[s3];exact .stop (qg _ (by simp) (by simp[gB,gC])) (by simp) s4
 refine .go h1 (by simp) s2 (by simp) (by simp[spl]) (by simp[spl]) (by simp[rp,spl]) (qg _ (by simp[rp,spl]) ?_) h2;intro c hc;simp only[rp,spl,List.take_zero,List.nil_append,List.mem_append,List.mem_cons,List.not_mem_nil,or_false]at hc;rcases hc with(rfl|rfl)|hc
 ·exact zjT gA fun t ht=>ztN t ht
 ·exact zkT gA ⟨by simp[zax],trivial⟩ (by simp[kA])
 ·simp at hc
theorem rwD:RwN [] (rkS []) 1 (zbk [] [kD]) (some [kE,kF,kG]):=by
 rw[s5];have h1:QG [] [kD]:=qg _ (by simp) (by simp[gD]);have h2:RwN [] (rkS []) 0 (zbk [] (rp [kD] 0 (sp3 kD [120] [121]))) (some [kE,kF,kG]):=by
  rw[s7];exact .stop (qg _ (by simp) (by simp[gE,gF,gG])) (by simp) s8
 refine .go h1 (by simp) s6 (by simp) (by simp[sp3]) (by simp[sp3]) (by simp[rp,sp3]) (qg _ (by simp[rp,sp3]) ?_) h2;intro c hc;simp only[rp,sp3,List.take_zero,List.nil_append,List.mem_append,List.mem_cons,List.not_mem_nil,or_false]at hc;rcases hc with(rfl|rfl|rfl)|hc
 ·exact zkT gD ⟨by simp[zax],by simp[zax]⟩ (by simp[kD])
 ·exact zjT gD fun t ht=>zis (by simp[zax]) ht
 ·exact zkT gD ⟨by simp[zax],by simp[zax]⟩ (by simp[kD])
 ·simp at hc
theorem ans21:Ans pr 21 [] (.b true):=by
 refine zcQ fn21 ?_;have q0:=fun f=>zaC (k:=f) k0
 have q1:=fun f=>zaC (k:=f) k1
 have q2:=fun f=>zaC (k:=f) k2
 have q3:=fun f=>zaC (k:=f) (zBS (qg [kA] (by simp) (by simp[gA])) rwA)
 have q4:=fun f=>zaC (k:=f) (ans13 (qg [kD] (by simp) (by simp[gD])) rwD)
 simp only[rwF]at q3 q4;have hl:kC.cs.length=1:=rfl;simp only[g21,rU];simp -implicitDefEqProofs [rW,st0,zal,q0,q1,q2,q3,q4,zbl,zlI,zfa,zgV,cqE,za4,za2,zci,hl]
def Vs:List Str:=[[120],[121],[122]]
theorem Vs_ne:∀s∈Vs,s≠[]:=by simp[Vs]
def cnc:Trm->Option Int
 | .cst n=>some n
 | .var _=>none
def Ks(l:List CQ):List Int:=l.flatMap fun c=>(tsC c).filterMap cnc
theorem zmo{α β:Type}(f:α->List β)(m:Nat):∀(l:List α),(∀a∈l,(f a).length≤m)->(l.flatMap f).length≤m*l.length
 |[],_=>by simp
 |a::l,h=>by
  have h1:=zmo f m l fun b hb=>h b (by simp[hb])
  have h2:=h a (by simp);rw[List.flatMap_cons,List.length_append,List.length_cons,Nat.mul_add];omega
theorem zHR{m:Nat}{c:CQ}(h:CqW m c):(tsC c).length≤6+2*m:=by
 have h1:=zmo (fun a:Atm=>a.ts) 2 c.as fun a ha=>(h.al a ha).2
 have h2:=zmo ts2 2 c.cs fun k _=>by simp[ts2]
 have:=h.la;have:=h.lc;unfold tsC tsA;rw[List.length_append];omega
theorem zHZ{l:List CQ}(h:∀c∈l,CqW 4 c):(Ks l).length≤14*l.length:=
 zmo _ 14 l fun c hc=>Nat.le_trans (List.length_filterMap_le _ _) (zHR (h c hc))
theorem ptW{m:Nat}{l:List CQ}{c:CQ}(hc:c∈l)(h:CqW m c):∀t∈tsC c,PTm Vs (Ks l) t:=by
 intro t ht;cases t with
 |var s=>
  have hv:TmV (.var s):=by
   rcases zdg.1 ht with⟨a,ha,h1⟩ |⟨k,hk,h1⟩
   ·exact (h.av a ha).2 _ h1
   ·rcases h1 with h1|h1
    ·rw[h1];exact (h.cv k hk).1
    ·rw[h1];exact (h.cv k hk).2
  rcases hv with rfl|rfl|rfl<;>simp[PTm,Vs]
 |cst n=>exact List.mem_flatMap.2 ⟨c,hc,List.mem_filterMap.2 ⟨_,ht,rfl⟩⟩
theorem zGJ(V:List Str)(K:List Int):(prs V K).length≤K.length*V.length:=zmo _ _ V fun s _=>by simp
theorem zJJ{l:List CQ}(hl:l.length≤4)(h:∀c∈l,CqW 4 c):∀c∈l,zfE 2 (prs Vs (Ks l)) (PTm Vs (Ks l)) c:=by
 intro c hc;refine⟨(h c hc).g (by omega),ptW hc (h c hc),?_⟩;have h1:cnt 2 (prs Vs (Ks l)) c≤(prs Vs (Ks l)).length:=List.countP_le_length;have h2:=zGJ Vs (Ks l);have h3:=zHZ h;have h4:=(h c hc).lc;have h5:Vs.length=3:=rfl;rw[h5]at h2;omega
theorem zKu{hd:List Str}{l:List CQ}(hh:hd.length<10)(hl:l.length≤4)(h:∀c∈l,CqW 4 c):∃k r,RwN hd (shS hd) k (zbk hd l) r/\∀m,r=some m->(∀c∈m,zfE 2 (prs Vs (Ks l)) (PTm Vs (Ks l)) c/\Smd hd c)/\shS hd m=none/\m.length≤64:=by
 obtain⟨k1,k2,k3⟩ :=zlD (B:=3) (by omega) (.inl rfl) zx9 (hd:=hd) (zJJ hl h);obtain⟨r,hr,hr2⟩ :=rw_ex (B:=3) (by omega) (.inl rfl) zx9 (show hd.length<1000 by omega) (zKt hd Vs (Ks l) Vs_ne) _ (zbk hd l) (by omega) k1 (Nat.le_refl _);exact⟨_,r,hr,hr2⟩
theorem ans4{x:F}(hx:zga x)(n:Int):Ans pr 4 [x,.i .i64 n] (.b true):=by
 obtain⟨hd,l,hh,-,hl,hw,h6⟩ :=ans6 hx n;obtain⟨k,r,hR,hr⟩ :=zKu hh hl hw;have hQ:QG hd l:=⟨by omega,by omega,fun c hc=>(hw c hc).g (by omega)⟩
 exact ans4w hx hQ h6 hR (fun m e=>⟨(hr m e).2.1,fun c hc=>((hr m e).1 c hc).1.g,(hr m e).2.2⟩) ans21
end Go.Proofs.YtmnkdfjljkhneaaGreat
end
