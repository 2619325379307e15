/- Equal queries are told to be equal. -/
import Derived.Test.YtimgcabgophnfaaGreatPb
import Derived.KernelRfl
import Derived.IntWalk
import Derived.Test.YtimgcabgophnfaaGreatPe
set_option linter.all false
section
namespace Go.Proofs.YtimgcabgophnfaaGreat
open Go Go.Vse Go.Vse.Sm
set_option maxRecDepth 100000
set_option maxHeartbeats 1000000
set_option linter.all false
theorem fn40:pr.fn 40=some g40:=by kernel_rfl
theorem fn44:pr.fn 44=some g44:=by kernel_rfl
theorem fn113:pr.fn 113=some zzV:=by kernel_rfl
theorem fn84:pr.fn 84=some g84:=by kernel_rfl
theorem fn18:pr.fn 18=some g18:=by kernel_rfl
theorem fn50:pr.fn 50=some g50:=by kernel_rfl
theorem fn21:pr.fn 21=some g21:=by kernel_rfl
theorem eqT2(t:Trm):zbt [1,0,0,1] [D.f (.s (tv t)),D.f (.i .i64 (tk t)),D.f (.i .i64 (tn t)),D.f (.s [])] [D.f (.s (tv t)),D.f (.i .i64 (tk t)),D.f (.i .i64 (tn t)),D.f (.s [])]=some true:=by
 simp[zbt]
theorem eqM(k:Cm):zbt [0,1,0,0,1,1,0,0,1] [D.f (.i .i64 k.op),D.f (.s (tv k.l)),D.f (.i .i64 (tk k.l)),D.f (.i .i64 (tn k.l)),D.f (.s []),D.f (.s (tv k.r)),D.f (.i .i64 (tk k.r)),D.f (.i .i64 (tn k.r)),D.f (.s [])] [D.f (.i .i64 k.op),D.f (.s (tv k.l)),D.f (.i .i64 (tk k.l)),D.f (.i .i64 (tn k.l)),D.f (.s []),D.f (.s (tv k.r)),D.f (.i .i64 (tk k.r)),D.f (.i .i64 (tn k.r)),D.f (.s [])]=some true:=by
 simp[zbt]
theorem zxA{a b:List Str}(hl:a.length=b.length)(h:∀i,i<a.length->a[i]? =b[i]?):a=b:=by
 apply List.ext_getElem?;intro i
 by_cases hi:i<a.length
 ·exact h i hi
 ·rw[List.getElem?_eq_none (by omega),List.getElem?_eq_none (by omega)]
def SQ44(a b:List Str)(k:Nat)(s:St):Prop:=∃n:Nat,(k=a.length - n/\n≤a.length/\∀i,i<n->a[i]? =b[i]?)/\(s.tm.get 0=some (.f (zas a))/\s.tm.get 1=some (.f (zas b))/\s.tm.get 5=some (.f (.i .i64 n)))
theorem zH2(a b:List Str)(hn:a.length<100000):Ans pr 44 [zas a,zas b] (.b (decide (a=b))):=by
 refine za1 fn44 ?_;simp only[g44,rU]
 by_cases hl:a.length=b.length
 ·have hl':(a.length:Int)=b.length:=by omega
  simp[rW,st0,zae,zaL,za7,hl,hl'];refine zcu (SQ44 a b) (fun x s=>(x= .exit 0/\a=b)\/(x= .ret/\a≠b/\s.tm.get 4=some (.f (.b false)))) ?_ a.length _ ?_ ?_
  ·rintro k s ⟨n,⟨rfl,hn2,he⟩,⟨h0,h1,h5⟩⟩
   by_cases hlt:n<a.length
   ·have ha:a[n]? =some a[n]:=List.getElem?_eq_getElem hlt;have hb:b[n]? =some b[n]:=List.getElem?_eq_getElem (by omega);have hltb:n<b.length:=by omega
    have hw:=zao n (by omega);generalize hA:a[n]=A at ha;generalize hB:b[n]=B at hb
    by_cases hq:A=B
    ·subst hq;simp[rW,h0,h1,h5,za7,hlt,hltb,hl];refine zay ?_;simp[rW,h0,h1,h5,zb2,ha,hb,hlt,hltb,hA,hB];rw[zbh];refine⟨a.length - (n+1),by omega,n+1,⟨rfl,by omega,fun i hi=> ?_⟩,?_⟩
     ·by_cases hi2:i=n
      ·subst hi2;rw[ha,hb]
      ·exact he i (by omega)
     ·simp[rW,h0,h1,h5,hw]
    ·have hne:a≠b:=fun e=>hq (by subst e;rw[ha]at hb;exact Option.some.inj hb)
     simp[rW,h0,h1,h5,za7,hlt,hltb,hl];refine zay ?_;simp[rW,h0,h1,h5,zb2,ha,hb,hlt,hltb,hA,hB,hq,hne]
   ·have e:a=b:=zxA hl fun i hi=>he i (by omega)
    have hltb:¬(n<b.length):=by omega
    simp[rW,h0,h1,h5,za7,hlt,hltb,hl];exact e
  ·simp[rW,SQ44];exact⟨0,by simp,by simp[hl]⟩
  ·rintro x s (⟨rfl,e⟩ |⟨rfl,e,h4⟩)
   ·simp[rW,e]
   ·simp[rW,h4,e]
 ·have hl':¬((a.length:Int)=b.length):=by omega
  have hne:¬(a=b):=fun e=>hl (by rw[e])
  simp[rW,st0,zae,zaL,za7,hl,hl',hne]
def SQ40(a b:List Str)(k:Nat)(s:St):Prop:=∃n:Nat,(k=a.length - n/\n≤a.length/\∀i,i<n->a[i]? =b[i]?)/\(s.tm.get 0=some (.f (zas a))/\s.tm.get 1=some (.f (zas b))/\s.tm.get 12=some (.f (.i .i64 a.length))/\s.tm.get 13=some (.f (.i .i64 n)))
theorem ans40(a b:List Str)(hn:a.length<100000):Ans pr 40 [zas a,zas b] (.b (decide (a=b))):=by
 refine za1 fn40 ?_;simp only[g40,rU]
 by_cases hl:a.length=b.length
 ·have hl':(a.length:Int)=b.length:=by omega
  simp[rW,st0,zae,zaL,za7,hl,hl'];refine zcu (SQ40 a b) (fun x s=>(x= .exit 0/\a=b)\/(x= .ret/\a≠b/\s.tm.get 4=some (.f (.b false)))) ?_ a.length _ ?_ ?_
  ·rintro k s ⟨n,⟨rfl,hn2,he⟩,⟨h0,h1,h12,h13⟩⟩
   by_cases hlt:n<a.length
   ·have ha:a[n]? =some a[n]:=List.getElem?_eq_getElem hlt;have hb:b[n]? =some b[n]:=List.getElem?_eq_getElem (by omega);have hltb:n<b.length:=by omega
    have hw:=zao n (by omega);generalize hA:a[n]=A at ha;generalize hB:b[n]=B at hb
    by_cases hq:A=B
    ·subst hq;simp[rW,h0,h1,h12,h13,za7,hlt,hltb,hl];refine zay ?_;simp[rW,h0,h1,h12,h13,zb2,ha,hb,hlt,hltb,hA,hB];rw[zbh];refine⟨a.length - (n+1),by omega,n+1,⟨rfl,by omega,fun i hi=> ?_⟩,?_⟩
     ·by_cases hi2:i=n
      ·subst hi2;rw[ha,hb]
      ·exact he i (by omega)
     ·simp[rW,h0,h1,h12,h13,hw]
    ·have hne:a≠b:=fun e=>hq (by subst e;rw[ha]at hb;exact Option.some.inj hb)
     simp[rW,h0,h1,h12,h13,za7,hlt,hltb,hl];refine zay ?_;simp[rW,h0,h1,h12,h13,zb2,ha,hb,hlt,hltb,hA,hB,hq,hne]
   ·have e:a=b:=zxA hl fun i hi=>he i (by omega)
    have hltb:¬(n<b.length):=by omega
    simp[rW,h0,h1,h12,h13,za7,hlt,hltb,hl];exact e
  ·simp[rW,SQ40];exact⟨0,by simp,by simp[hl]⟩
  ·rintro x s (⟨rfl,e⟩ |⟨rfl,e,h4⟩)
   ·simp[rW,e]
   ·simp[rW,h4,e]
 ·have hl':¬((a.length:Int)=b.length):=by omega
  have hne:¬(a=b):=fun e=>hl (by rw[e])
  simp[rW,st0,zae,zaL,za7,hl,hl',hne]
theorem zw5:∀a:Str,Go.Op.bytesLess a a=false
 |[]=>rfl
 |x::a=>by
  simp only[Go.Op.bytesLess,zw5 a,Bool.and_false,Bool.or_false,decide_eq_false_iff_not];exact UInt8.lt_irrefl x
theorem zsp(a:Str):zeo a a=0:=by simp[zeo,zw5]
theorem zsv(t:Trm):zaO t t=0:=by cases t<;>simp[zaO,zsp,zdL]
theorem zPb(k:Cm)(hk:zb8 k):Ans pr 113 [.ag (cmF k),.ag (cmF k)] (.i .i64 0):=by
 refine za1 fn113 ?_;simp only[zzV,rU];have q1:=fun m=>zak (k:=m) (zlw k.l k.l hk.1 hk.1)
 have q2:=fun m=>zak (k:=m) (zlw k.r k.r hk.2 hk.2)
 rw[zsv]at q1 q2;simp only[tmE]at q1 q2;simp -implicitDefEqProofs [rR,st0,zae,tmE,cmF,q1,q2]
theorem zpO:∀l:List Trm,zfU l l=0
 |[]=>by simp[zfU]
 |t::l=>by simp[zfU,zsv,zpO l]
theorem zBK(a:Atm):zpU a a=0:=by
 simp[zpU,zsp,zpO]
def Eqv(a b:CQ):Prop:=a.as=b.as/\a.cs=b.cs
theorem ans84(a b:CQ)(ha:zbu a)(he:Eqv a b):Ans pr 84 [.ag (cqF a),.ag (cqF b)] (.i .i64 0):=by
 refine za1 fn84 ?_;simp only[g84,rU];have hla:b.as.length=a.as.length:=by rw[he.1]
 have hlc:b.cs.length=a.cs.length:=by rw[he.2]
 simp -implicitDefEqProofs [rR,st0,zae,cqE,zaV,zaW];refine zex a.as.length (fun n s=>s.tm.get 2=some (.ptr 0 2 0 0)/\s.tm.get 3=some (.ptr 1 2 0 0)/\s.tm.get 5=some (.f (.i .i64 n))/\s.h.get 0=some (.arr 2 0 [[.f (zaC a),.f (zaF a)]])/\s.h.get 1=some (.arr 2 0 [[.f (zaC b),.f (zaF b)]])) (fun x s=>x= .exit 0/\s.tm.get 2=some (.ptr 0 2 0 0)/\s.tm.get 3=some (.ptr 1 2 0 0)/\s.h.get 0=some (.arr 2 0 [[.f (zaC a),.f (zaF a)]])/\s.h.get 1=some (.arr 2 0 [[.f (zaC b),.f (zaF b)]])) ?_ ?_ _ ?_ ?_
 ·rintro n s hn ⟨h2,h3,h5,g0,g1⟩;have hw:=zao n (by have:=ha.sa;omega);have hx:a.as[n]? =some a.as[n]:=List.getElem?_eq_getElem hn;have hy:b.as[n]? =some a.as[n]:=by rw[<-he.1];exact hx
  have q:=fun m=>zak (k:=m) (zBM a.as[n] a.as[n] (ha.as _ (List.getElem_mem hn)) (ha.as _ (List.getElem_mem hn)))
  rw[zBK]at q;generalize a.as[n]=A at hx hy q;simp only[atE]at q;simp -implicitDefEqProofs [rR,h2,h3,h5,g0,g1,za2,hla,hn];refine zay ?_;simp -implicitDefEqProofs [rR,h2,h3,h5,g0,g1,zcI,hx,hy,atE,zaS,q,hw]
 ·rintro s ⟨h2,h3,h5,g0,g1⟩;simp -implicitDefEqProofs [rR,h2,h3,h5,g0,g1,za2,hla]
 ·simp -implicitDefEqProofs [rR,st0,zae]
 ·rintro x s ⟨rfl,h2,h3,g0,g1⟩;simp -implicitDefEqProofs [rR,h2,h3,g0,g1,za2,hla];refine zex a.cs.length (fun n s=>s.tm.get 2=some (.ptr 0 2 0 0)/\s.tm.get 3=some (.ptr 1 2 0 0)/\s.tm.get 7=some (.f (.i .i64 n))/\s.h.get 0=some (.arr 2 0 [[.f (zaC a),.f (zaF a)]])/\s.h.get 1=some (.arr 2 0 [[.f (zaC b),.f (zaF b)]])) (fun x s=>x= .exit 2/\s.tm.get 2=some (.ptr 0 2 0 0)/\s.tm.get 3=some (.ptr 1 2 0 0)/\s.h.get 0=some (.arr 2 0 [[.f (zaC a),.f (zaF a)]])/\s.h.get 1=some (.arr 2 0 [[.f (zaC b),.f (zaF b)]])) ?_ ?_ _ ?_ ?_
  ·rintro n s hn ⟨h2,h3,h7,g0,g1⟩;have hw:=zao n (by have:=ha.sc;omega);have hx:a.cs[n]? =some a.cs[n]:=List.getElem?_eq_getElem hn;have hy:b.cs[n]? =some a.cs[n]:=by rw[<-he.2];exact hx
   have q:=fun m=>zak (k:=m) (zPb a.cs[n] (ha.cs _ (List.getElem_mem hn)))
   generalize a.cs[n]=K at hx hy q;simp only[cmF,tmE,List.cons_append,List.nil_append]at q;simp -implicitDefEqProofs [rR,h2,h3,h7,g0,g1,zbf,hlc,hn];refine zay ?_;simp -implicitDefEqProofs [rR,h2,h3,h7,g0,g1,zcs,hx,hy,cmF,tmE,q,hw]
  ·rintro s ⟨h2,h3,h7,g0,g1⟩;simp -implicitDefEqProofs [rR,h2,h3,h7,g0,g1,zbf,hlc]
  ·simp -implicitDefEqProofs [rR,h2,h3,g0,g1]
  ·rintro x s ⟨rfl,h2,h3,g0,g1⟩;have hw0:IntKind.i64.wrap 0=0:=rfl;simp -implicitDefEqProofs [rR,h2,h3,g0,g1,zbf,hlc,hw0]
def E2(a b:CQ)(n:Nat)(rr:Str)(ng:Bool)(ts:List Trm)(m:Nat)(s:St):Prop:=∃X Y:Nat,(s.tm.get 2=some (.ptr 0 2 0 0)/\s.tm.get 3=some (.ptr 1 2 0 0)/\s.tm.get 5=some (.f (.i .i64 n))/\s.tm.get 6=some (.ptr X 3 0 0)/\s.tm.get 7=some (.ptr Y 3 0 0)/\s.tm.get 8=some (.f (.i .i64 m))/\s.h.get 0=some (.arr 2 0 [[.f (zaC a),.f (zaF a)]])/\s.h.get 1=some (.arr 2 0 [[.f (zaC b),.f (zaF b)]])/\s.h.get X=some (.arr 3 0 [[.f (.s rr),.f (.b ng),.f (zaX ts)]])/\s.h.get Y=some (.arr 3 0 [[.f (.s rr),.f (.b ng),.f (zaX ts)]]))/\2≤s.c
theorem zHU(a b:CQ)(ha:zbu a)(he:Eqv a b):Ans pr 18 [.ag (cqF a),.ag (cqF b)] (.b true):=by
 refine za1 fn18 ?_;simp only[g18,rU];have hla:b.as.length=a.as.length:=by rw[he.1]
 have hlc:b.cs.length=a.cs.length:=by rw[he.2]
 simp -implicitDefEqProofs [rR,st0,zae,cqE,zaV,zaW,za2,zbf,hla,hlc];refine zex a.as.length (fun n s=>(s.tm.get 2=some (.ptr 0 2 0 0)/\s.tm.get 3=some (.ptr 1 2 0 0)/\s.tm.get 5=some (.f (.i .i64 n))/\s.h.get 0=some (.arr 2 0 [[.f (zaC a),.f (zaF a)]])/\s.h.get 1=some (.arr 2 0 [[.f (zaC b),.f (zaF b)]]))/\2≤s.c) (fun x s=>x= .exit 0/\s.tm.get 2=some (.ptr 0 2 0 0)/\s.tm.get 3=some (.ptr 1 2 0 0)/\s.h.get 0=some (.arr 2 0 [[.f (zaC a),.f (zaF a)]])/\s.h.get 1=some (.arr 2 0 [[.f (zaC b),.f (zaF b)]])) ?_ ?_ _ ?_ ?_
 ·rintro n s hn ⟨⟨h2,h3,h5,g0,g1⟩,hc2⟩;have hw:=zao n (by have:=ha.sa;omega);have hx:a.as[n]? =some a.as[n]:=List.getElem?_eq_getElem hn;have hy:b.as[n]? =some a.as[n]:=by rw[<-he.1];exact hx
  have hst:=ha.st _ (List.getElem_mem hn);generalize hA:a.as[n]=A' at hx hy hst;simp[rW,h2,h3,h5,g0,g1,za2,hla,hn];refine zay ?_;have n0:(0:Nat)≠s.c:=by omega
  have n1:(1:Nat)≠s.c:=by omega
  have hns:zbv .neq (.s A'.r) (.s A'.r)=some (.b false):=by simp[zbv,zzj]
  have hnl:zbv .neq (.i .i64 (A'.ts.length:Int)) (.i .i64 (A'.ts.length:Int))=some (.b false):=by rw[zp0];simp
  obtain⟨rr,ng,ts⟩ :=A';simp only at hns hnl hst;have e2:¬(s.c+1+1=s.c):=by omega
  simp -implicitDefEqProofs [rulI,rR,h2,h3,h5,g0,g1,zcI,hx,hy,hA,atE,zaS,hns,hnl,zaQ,e2];refine zex ts.length (fun m s=>E2 a b n rr ng ts m s) (fun x s=>x= .exit 2/\E2 a b n rr ng ts ts.length s) ?_ ?_ _ ?_ ?_
  ·rintro m s hm ⟨X,Y,⟨h2,h3,h5,h6,h7,h8,g0,g1,gX,gY⟩,hc2⟩;have hwm:=zao m (by omega);have hxm:ts[m]? =some ts[m]:=List.getElem?_eq_getElem hm;have hqm:=eqT2 ts[m];generalize hT:ts[m]=T at hxm hqm;simp[rW,h2,h3,h5,h6,h7,h8,g0,g1,gX,gY,zaQ,hm];refine zay ?_;simp[rW,h2,h3,h5,h6,h7,h8,g0,g1,gX,gY,zbr,hxm,hT,hm,tmE,hqm,hwm,E2]
   skip
  ·rintro s ⟨X,Y,⟨h2,h3,h5,h6,h7,h8,g0,g1,gX,gY⟩,hc2⟩;simp[rW,h2,h3,h5,h6,h7,h8,g0,g1,gX,gY,zaQ,E2];exact hc2
  ·simp[rW,h2,h3,h5,g0,g1,E2]
  ·rintro x s ⟨rfl,X,Y,⟨h2,h3,h5,h6,h7,h8,g0,g1,gX,gY⟩,hc2⟩;simp[rW,h2,h3,h5,h6,h7,h8,g0,g1,gX,gY,hw];exact hc2
 ·rintro s ⟨⟨h2,h3,h5,g0,g1⟩,hc2⟩;simp[rW,h2,h3,h5,g0,g1,za2,hla]
 ·simp[rW,st0,zae]
 ·rintro x s ⟨rfl,h2,h3,g0,g1⟩;simp[rW,h2,h3,g0,g1,za2,hla];refine zex a.cs.length (fun n s=>s.tm.get 2=some (.ptr 0 2 0 0)/\s.tm.get 3=some (.ptr 1 2 0 0)/\s.tm.get 9=some (.f (.i .i64 n))/\s.h.get 0=some (.arr 2 0 [[.f (zaC a),.f (zaF a)]])/\s.h.get 1=some (.arr 2 0 [[.f (zaC b),.f (zaF b)]])) (fun x s=>x= .exit 4) ?_ ?_ _ ?_ ?_
  ·rintro n s hn ⟨h2,h3,h9,g0,g1⟩;have hw:=zao n (by have:=ha.sc;omega);have hx:a.cs[n]? =some a.cs[n]:=List.getElem?_eq_getElem hn;have hy:b.cs[n]? =some a.cs[n]:=by rw[<-he.2];exact hx
   generalize a.cs[n]=K at hx hy;have hq:=eqM K;simp[rW,h2,h3,h9,g0,g1,zbf,hlc,hn];refine zay ?_;simp[rW,h2,h3,h9,g0,g1,zcs,hx,hy,cmF,tmE,hq,hw]
  ·rintro s ⟨h2,h3,h9,g0,g1⟩;simp[rW,h2,h3,h9,g0,g1,zbf,hlc]
  ·simp[rW,h2,h3,g0,g1]
  ·rintro x s rfl;simp[rW,]
def qsF(l:List CQ):F:=slc 2 (l.map cqF)
theorem zfS(l:List CQ):(qsF l).d= .f (qsF l):=zjD ..
theorem zdD(l:List CQ):zcr (.f (qsF l))=some l.length:=by simp[qsF,zgP]
theorem zh3(l:List CQ)(n:Nat):iaB 2 (.f (qsF l)) n=(l[n]?).map fun c=>D.fptr (cqF c):=by simp[qsF,zii,Function.comp_def]
def zik(l m:List CQ):Prop:=l.length=m.length/\∀i (h:i<l.length) (h':i<m.length),Eqv l[i] m[i]
theorem ans50(hd:List Str)(l m:List CQ)(hh:hd.length<1000)(hs:∀c∈l,zbu c)(hl:l.length<1000)(he:zik l m):Ans pr 50 [.ag [zas hd,qsF l],.ag [zas hd,qsF m]] (.b true):=by
 have q44:=fun k=>zak (k:=k) (zH2 hd hd (by omega))
 refine za1 fn50 ?_;simp only[g50,rU];have hlm:=he.1;simp -implicitDefEqProofs [rR,st0,zae,zaL,zfS,q44,zdD,hlm];refine zex l.length (fun n s=>s.tm.get 2=some (.ptr 0 2 0 0)/\s.tm.get 3=some (.ptr 1 2 0 0)/\s.tm.get 5=some (.f (.i .i64 n))/\s.h.get 0=some (.arr 2 0 [[.f (zas hd),.f (qsF l)]])/\s.h.get 1=some (.arr 2 0 [[.f (zas hd),.f (qsF m)]])) (fun x s=>x= .exit 0) ?_ ?_ _ ?_ ?_
 ·rintro n s hn ⟨h2,h3,h5,g0,g1⟩;have hw:=zao n (by omega);have hx:l[n]? =some l[n]:=List.getElem?_eq_getElem hn;have hn2:n<m.length:=by omega
  have hy:m[n]? =some m[n]:=List.getElem?_eq_getElem hn2;have q:=fun k=>zak (k:=k) (ans84 l[n] m[n] (hs _ (List.getElem_mem hn)) (he.2 n hn hn2))
  generalize hA:l[n]=A at hx q;generalize hB:m[n]=B at hy q;simp only[cqE]at q;simp -implicitDefEqProofs [rR,h2,h3,h5,g0,g1,zdD,hlm,hn,hn2];refine zay ?_;simp -implicitDefEqProofs [rR,h2,h3,h5,g0,g1,zh3,hx,hy,hA,hB,hn,hn2,cqE,zaV,zaW,q,hw]
 ·rintro s ⟨h2,h3,h5,g0,g1⟩;simp -implicitDefEqProofs [rR,h2,h3,h5,g0,g1,zdD,hlm]
 ·simp -implicitDefEqProofs [rR,st0,zae,hlm]
 ·rintro x s rfl;simp -implicitDefEqProofs [rR,]
theorem zHX(hd:List Str)(l m:List CQ)(hh:hd.length<1000)(hs:∀c∈l,zbu c)(hl:l.length<1000)(he:zik l m):Ans pr 21 [.ag [zas hd,qsF l],.ag [zas hd,qsF m]] (.b true):=by
 have q50:=fun k=>zak (k:=k) (ans50 hd l m hh hs hl he)
 refine za1 fn21 ?_;simp only[g21,rU];have hlm:=he.1;simp -implicitDefEqProofs [rR,st0,zae,zaL,zfS,q50,zdD,hlm];refine zex l.length (fun n s=>s.tm.get 2=some (.ptr 0 2 0 0)/\s.tm.get 3=some (.ptr 1 2 0 0)/\s.tm.get 5=some (.f (.i .i64 n))/\s.h.get 0=some (.arr 2 0 [[.f (zas hd),.f (qsF l)]])/\s.h.get 1=some (.arr 2 0 [[.f (zas hd),.f (qsF m)]])) (fun x s=>x= .exit 0) ?_ ?_ _ ?_ ?_
 ·rintro n s hn ⟨h2,h3,h5,g0,g1⟩;have hw:=zao n (by omega);have hx:l[n]? =some l[n]:=List.getElem?_eq_getElem hn;have hn2:n<m.length:=by omega
  have hy:m[n]? =some m[n]:=List.getElem?_eq_getElem hn2;have q:=fun k=>zak (k:=k) (zHU l[n] m[n] (hs _ (List.getElem_mem hn)) (he.2 n hn hn2))
  generalize hA:l[n]=A at hx q;generalize hB:m[n]=B at hy q;simp only[cqE]at q;simp -implicitDefEqProofs [rR,h2,h3,h5,g0,g1,zdD,hlm,hn,hn2];refine zay ?_;simp -implicitDefEqProofs [rR,h2,h3,h5,g0,g1,zh3,hx,hy,hA,hB,hn,hn2,cqE,zaV,zaW,q,hw]
 ·rintro s ⟨h2,h3,h5,g0,g1⟩;simp -implicitDefEqProofs [rR,h2,h3,h5,g0,g1,zdD,hlm]
 ·simp -implicitDefEqProofs [rR,st0,zae,hlm]
 ·rintro x s rfl;simp -implicitDefEqProofs [rR,]
theorem fn83:pr.fn 83=some g83:=by kernel_rfl
theorem fn49:pr.fn 49=some g49:=by kernel_rfl
theorem fn48:pr.fn 48=some g48:=by kernel_rfl
theorem fn20:pr.fn 20=some g20:=by kernel_rfl
def bnS(l:List Str)(a:Atm):List Str:=if a.neg=true then l else zdp l a.ts
def bnd(c:CQ):List Str:=c.as.foldl bnS []
theorem zw6{l:List Atm}(hl:∀a∈l,a.ts.length≤12):∀x:List Str,(l.foldl bnS x).length≤x.length+12*l.length:=by
 induction l with
 |nil=>intro x;simp
 |cons a l ih=>
  intro x;have h1:=zh5 a.ts x;have h2:=hl a (by simp);have h3:=ih (fun b hb=>hl b (by simp[hb])) (bnS x a);have h4:(bnS x a).length≤x.length+12:=by unfold bnS;split<;>omega
  simp only[List.foldl_cons,List.length_cons];omega
theorem ans83(c:CQ)(hc:zbu c):Ans pr 83 [.ag (cqF c)] (zas (bnd c)):=by
 refine za1 fn83 ?_;simp only[g83,rU];simp[rW,st0,zae,cqE,zaV,zaW];refine zd5 c.as bnS [] (fun n a s=>V1 T.e 0 c a n s) (fun x s=>x= .exit 0/\∃n,V1 T.e 0 c (bnd c) n s) ?_ ?_ _ ?_ ?_
 ·rintro n a s hn ha ⟨d,h1,h4,h3,g0,hg,hc1,hfr⟩;have hw:=zao n (by have:=hc.sa;omega);have hal:a.length≤144:=by
   have:=zw6 (l:=c.as.take n) (fun b hb=>hc.st b (List.mem_of_mem_take hb)) [];rw[<-ha]at this;have:=hc.sa;simp at*;omega
  have hat:=hc.as _ (List.getElem_mem hn);have hst:=hc.st _ (List.getElem_mem hn);generalize hA:c.as[n]=A at hat hst⊢;unfold bnS;cases hneg:A.neg with
  |true=>
   simp[rW,h1,h4,h3,g0,za2,hn];refine zcu (fun _ s=>V2 T.e 0 c n a 0 s) (fun x s=>x= .exit 2/\V2 T.e 0 c n a 0 s) ?_ 0 _ ?_ ?_
   ·rintro k s ⟨d,h1,h4,h5,h3,g0,hg,hc1,hfr⟩
    by_cases hz:0<A.ts.length
    ·have hz':(0:Int)<A.ts.length:=by omega
     simp[rW,h1,h4,h5,h3,g0,za2,zcI,zaQ,zbr,hn,hA,atE,zaS,hneg,hz,hz',V2,hg,hc1]
    ·have hz':¬((0:Int)<A.ts.length):=by omega
     simp[rW,h1,h4,h5,h3,g0,za2,zcI,zaQ,zbr,hn,hA,atE,zaS,hneg,hz,hz',V2,hg,hc1]
   ·simp[rW,h1,h4,h3,g0,V2,hc1,hg]
   ·rintro x s ⟨rfl,d,h1,h4,h5,h3,g0,hg,hc1,hfr⟩;simp[rW,h1,h4,h5,h3,g0,V1,hg,hc1,hw]
  |false=>
   simp[rW,h1,h4,h3,g0,za2,hn];refine zd5 A.ts (fun l t=>zcA l (tv t)) a (fun m b s=>V2 T.e 0 c n b m s) (fun x s=>x= .exit 2/\∃m,V2 T.e 0 c n (zdp a A.ts) m s) ?_ ?_ _ ?_ ?_
   ·rintro m b s hm hb ⟨d,h1,h4,h5,h3,g0,hg,hc1,hfr⟩;have hwm:=zao m (by omega);have hbl:b.length≤200:=by
     have:=zh5 (A.ts.take m) a;rw[show zdp a (A.ts.take m)=b from hb.symm]at this;simp at this;omega
    simp[rW,h1,h4,h5,h3,g0,za2,zcI,zaQ,zbr,hn,hA,atE,hm,tmE,zaS,hneg];refine zfa ?_ ?_ (zsM b (tv A.ts[m]) (by omega) hg hc1) ?_
    ·simp only[rG]
    ·simp only[rG]
    rintro d' h' c' lw' mx' ⟨hg',hf⟩ hcc;have e0:=hf 0 (by omega) (zbQ hg (by omega));simp[rW,h1,h4,h5,h3,g0,e0,hwm,V2,hg'];exact Nat.le_trans hc1 hcc
   ·rintro s ⟨d,h1,h4,h5,h3,g0,hg,hc1,hfr⟩;simp[rW,h1,h4,h5,h3,g0,za2,zcI,zaQ,zbr,hn,hA,atE,zaS,V2,hc1,hneg];exact⟨⟨_,rfl⟩,hg⟩
   ·simp[rW,h1,h4,h3,g0,V2,hc1,hg]
   ·rintro x s ⟨rfl,m,d,h1,h4,h5,h3,g0,hg,hc1,hfr⟩;simp[rW,h1,h4,h5,h3,g0,V1,hg,hc1,hw]
 ·rintro s ⟨d,h1,h4,h3,g0,hg,hc1,hfr⟩;simp[rW,h1,h4,h3,g0,za2,V1,hg,hc1];exact⟨⟨_,rfl⟩,hg⟩
 ·simp[rW,V1,Gro.nil];exact .inl ⟨rfl,rfl⟩
 ·rintro x s ⟨rfl,n,d,h1,h4,h3,g0,hg,hc1,hfr⟩;obtain⟨rd,hz⟩ :=zxN hg;simp[rW,h1,h4,h3,g0,hz]
def cvA(hd l:List Str)(x:Str):List Str:=if hd.any (· ==x)=true then l++[x]else l
def cov(d w:CQ)(hd:List Str):Bool:=((vrs w).foldl (cvA hd) (vrs d)).all fun x=>(bnd d).any (· ==x)
theorem zqW(hd:List Str):∀(l x:List Str),(l.foldl (cvA hd) x).length≤x.length+l.length
 |[],x=>by simp
 |a::l,x=>by
  have h1:=zqW hd l (cvA hd x a);have h2:(cvA hd x a).length≤x.length+1:=by unfold cvA;split<;>simp
  simp only[List.foldl_cons,List.length_cons];omega
theorem zDd{h:T Ob}{lo lo' c es:Nat}{d:D}{els:List (List D)}(hg:Gro h lo c es d els)(hl:lo'≤lo):Gro h lo' c es d els:=by
 rcases hg with h1|⟨id,ro,h1,h2,h3,h4,h5,h6⟩
 ·exact .inl h1
 ·exact .inr ⟨id,ro,h1,h2,h3,h4,by omega,h6⟩
theorem zfJ{h:T Ob}{lo c es:Nat}{d:D}{els:List (List D)}(hg:Gro h lo c es d els){x:Nat}(hx:d.oid=some x):lo≤x/\x<c:=by
 rcases hg with⟨rfl,_⟩ |⟨id,ro,rfl,h2,h3,h4,h5,h6⟩
 ·simp[D.oid]at hx
 ·simp[D.oid]at hx;omega
theorem zDe{h:T Ob}{lo c:Nat}{d:D}{l:List Str}(hg:Gro h lo c 1 d (zbq l)){n:Nat}(hn:n<l.length):∃id ro,d= .sl id 0 l.length 1 l.length false/\h.get id=some (.arr 1 ro (zbq l))/\(zbq l)[n]? =some [D.f (.s l[n])]:=by
 rcases hg with⟨_,h2⟩ |⟨id,ro,h1,h2,h3,h4,h5,h6⟩
 ·have:=zi5 h2;subst this;simp at hn
 ·rw[zbn]at h1;exact⟨id,ro,h1,h3,by simp[zbq,hn]⟩
theorem zeK{h:T Ob}{lo c:Nat}{d:D}{l:List Str}(hg:Gro h lo c 1 d (zbq l)):zcr d=some l.length:=by
 rcases hg with⟨rfl,h2⟩ |⟨id,ro,rfl,h2,h3,h4,h5,h6⟩
 ·have:=zi5 h2;subst this;rfl
 ·rw[zbn];rfl
theorem zFZ{h h':T Ob}{lo c c' es:Nat}{d:D}{els:List (List D)}(hg:Gro h lo c es d els)(hc:c≤c')(hk:∀x,d.oid=some x->h'.get x=h.get x):Gro h' lo c' es d els:=by
 rcases hg with h1|⟨id,ro,rfl,h2,h3,h4,h5,h6⟩
 ·exact .inl h1
 ·exact .inr ⟨id,ro,rfl,h2,by rw[hk id rfl];exact h3,h4,h5,by omega⟩
def C1(W B:List Str)(hd:List Str)(a:List Str)(n:Nat)(s:St):Prop:=∃dW d,(s.tm.get 2=some (.f (zas hd))/\s.tm.get 7=some (.f (zas B))/\s.tm.get 8=some (d)/\s.tm.get 9=some (dW)/\s.tm.get 10=some (.f (.i .i64 n)))/\Gro s.h 2 s.c 1 dW (zbq W)/\Gro s.h 2 s.c 1 d (zbq a)/\(∀x,d.oid=some x->dW.oid≠some x)/\2≤s.c
def C2(B:List Str)(L:List Str)(k:Nat)(s:St):Prop:=∃d n,(k=L.length - n/\n≤L.length/\∀i (h:i<L.length),i<n->B.any (· ==L[i])=true)/\(s.tm.get 7=some (.f (zas B))/\s.tm.get 8=some (d)/\s.tm.get 11=some (.f (.i .i64 n)))/\Gro s.h 2 s.c 1 d (zbq L)
theorem ans49(d w:CQ)(hd:List Str)(hdd:zbu d)(hw:zbu w)(hh:hd.length<1000):Ans pr 49 [.ag (cqF d),.ag (cqF w),zas hd] (.b (cov d w hd)):=by
  refine za1 fn49 ?_;simp only[g49,rU];have q83:=fun k=>zak (k:=k) (ans83 d hdd)
  have hlw:=zgR hw;have hld:=zgR hdd;have hlb:=zw6 (l:=d.as) hdd.st [];have hlB:(bnd d).length<1000:=by have:=hdd.sa;simp at hlb;unfold bnd;omega
  unfold cov;simp only[cqE]at q83;generalize hB:bnd d=B at q83 hlB⊢;simp[rW,st0,zae,cqE,zaV,zaW,zaL,q83];refine zfa rfl rfl (zzx d hdd) ?_;rintro d8 h' c' lw mx ⟨hg8,hf8⟩ hcc;simp only[rG]at hg8 hf8 hcc;have e1:=hf8 1 (by omega);have e0:=hf8 0 (by omega);simp[Vse.T.zab]at e0 e1;simp[rW,e0,e1];refine zfa (h:=h') (c:=c') (by simp only[rG]) (by simp only[rG]) (zzx w hw) ?_;rintro d9 h9 c9 lw9 mx9 ⟨hg9,hf9⟩ hcc9;have hg8':=zcb hg8 hcc9 fun id _ h2=>hf9 id h2
  generalize vrs d=Ld at hg8 hg8' hld⊢;generalize vrs w=W at hg9 hlw⊢;simp[rW,];refine zd5 W (cvA hd) Ld (fun n a s=>C1 W B hd a n s) (fun x s=>x= .exit 0/\∃n,C1 W B hd (W.foldl (cvA hd) Ld) n s) ?_ ?_ _ ?_ ?_
  · rintro n a s hn ha ⟨dW,d,⟨h2,h7,h8,h9,h10⟩,hgW,hg,hne,hc2⟩;have hw1:=zao n (by omega);have hal:a.length≤400:=by
      have:=zqW hd (W.take n) Ld;rw[<-ha]at this;simp at this;omega
    have q73:=fun k=>zak (k:=k) (zy9 hd W[n] (by omega))
    obtain⟨id,ro,rfl,gW,hx⟩ :=zDe hgW hn;generalize hX:W[n]=X at hx q73⊢;unfold cvA;cases hb:hd.any (· ==X)with
    | true=>
      rw[hb]at q73;simp[rW,h2,h7,h8,h9,h10,hn,gW,hx,q73];refine zgc hg hc2 (by rw[zbn];simp;omega) (by omega) ?_;intro r hr1 hr2 hr3 hr4 hr5;refine⟨hr1,?_⟩;simp[rW,h2,h7,h8,h9,h10,hw1,C1];rw[<-zEN];exact⟨_,r.d,⟨rfl,rfl⟩,zFZ hgW hr3 fun x hx=>hr4 x (zfJ hgW hx).2 fun e=>hne x e hx,hr2,fun x hx hy=>by
        rcases hr5 x hx with e|e
        · have:=zfJ hgW hy;omega
        · exact hne x e hy,by omega⟩
    | false=>
      rw[hb]at q73;simp[rW,h2,h7,h8,h9,h10,hn,gW,hx,q73,hw1,C1];exact⟨_,d,⟨rfl,rfl⟩,hgW,hg,hne,hc2⟩
  · rintro s ⟨dW,d,⟨h2,h7,h8,h9,h10⟩,hgW,hg,hne,hc2⟩;have hlW:=zeK hgW;simp[rW,h2,h7,h8,h9,h10,hlW,C1];exact⟨W.length,dW,d,by simp,hgW,hg,hne,hc2⟩
  · simp[rW,C1];exact⟨d9,d8,⟨rfl,rfl⟩,zDd hg9 (by omega),zDd hg8' (by omega),fun x hx hy=>by have:=zfJ hg8 hx;have:=zfJ hg9 hy;omega,by omega⟩
  · rintro x s ⟨rfl,n,dW,d,⟨h2,h7,h8,h9,h10⟩,hgW,hg,hne,hc2⟩;have hLl:=zqW hd W Ld;generalize W.foldl (cvA hd) Ld=L at hg hLl⊢;simp[rW,h2,h7,h8,h9,h10];refine zcu (C2 B L) (fun x s=>(x= .exit 2/\(L.all fun x=>B.any (· ==x))=true)\/(x= .ret/\(L.all fun x=>B.any (· ==x))=false/\s.tm.get 6=some (.f (.b false)))) ?_ L.length _ ?_ ?_
    · rintro k s ⟨d,n,⟨rfl,hn,he⟩,⟨h7,h8,h11⟩,hg⟩;have hl:=zeK hg
      by_cases hlt:n<L.length
      · have hw1:=zao n (by omega);have q73:=fun k=>zak (k:=k) (zy9 B L[n] (by omega))
        obtain⟨id,ro,rfl,gL,hx⟩ :=zDe hg hlt;generalize hX:L[n]=X at hx q73;cases hb:B.any (· ==X)with
        | true=>
          rw[hb]at q73;simp[rW,h7,h8,h11,hlt,gL,hx,q73];rw[zbh];refine⟨L.length - (n+1),by omega,D.sl id 0 L.length 1 L.length false,n+1,⟨rfl,by omega,fun i h hi=> ?_⟩,?_,?_⟩
          · by_cases hin:i=n
            · subst hin;rw[hX];exact hb
            · exact he i h (by omega)
          · simp[rW,h7,h8,h11,hw1]
          · simp[rW,];exact hg
        | false=>
          rw[hb]at q73;simp[rW,h7,h8,h11,hlt,gL,hx,q73];exact⟨X,by rw[<-hX];exact List.getElem_mem hlt,fun hm=>by rw[List.any_eq_true.2 ⟨X,hm,by simp⟩]at hb;cases hb⟩
      · simp[rW,h7,h8,h11,hl,hlt];intro x hx;obtain⟨i,hi,rfl⟩ :=List.getElem_of_mem hx;have:=he i hi (by omega);simpa using this
    · simp[rW,C2,h2,h7,h8,h9,h10];exact⟨d,0,⟨by simp,by simp,fun i h hi=>absurd hi (by omega)⟩,⟨rfl,rfl⟩,hg⟩
    · rintro x s (⟨rfl,e⟩ |⟨rfl,e,h6⟩)
      · simp[rW,e]
      · simp[rW,e,h6]
def zcJ(c:CQ)(i:Nat)(na:Bool):CQ:=⟨c.as.take i++c.as.drop (i+1),c.cs,c.ne,na⟩
theorem zB3{c:CQ}(hne:c.as≠[]):zaC c= .sl 3 (c.as.map atF):=by
 unfold zaC Sm.asF;rw[if_neg (fun h=>hne h.2),zcX (by simpa using hne)]
theorem zB1{c:CQ}(hne:c.as≠[]){i:Nat}(hi:i≤c.as.length)(h:Nat->Option Ob):sliceB 3 h (.f (zaC c)) none (some (.f (.i .i64 i))) none=some (.f (.sl 3 ((c.as.take i).map atF)),[]):=by
 rw[zB3 hne];simp[sliceB,za9,zbz,hi,List.map_take]
theorem zB2{c:CQ}(hne:c.as≠[]){i:Nat}(hi:i≤c.as.length)(h:Nat->Option Ob):sliceB 3 h (.f (zaC c)) (some (.f (.i .i64 i))) none none=some (.f (.sl 3 ((c.as.drop i).map atF)),[]):=by
 rw[zB3 hne];simp[sliceB,za9,zbz,hi,List.map_drop];exact List.take_of_length_le (by simp)
theorem zPn{c:CQ}(h:c.na=true):zaC c= .sl 3 (c.as.map atF):=by
 unfold zaC Sm.asF;split
 ·rename_i hh;rw[hh.2];rfl
 ·rename_i hh;rw[zcX (fun e=>hh ⟨h,by simpa using e⟩)]
theorem ziu(c:CQ):(D.f (zaF c)).cells=some [.f (zaF c)]:=by
 unfold zaF csF;split
 ·rfl
 ·exact zgr _ _
theorem ans48(c:CQ)(hc:zbu c)(hne:c.as≠[])(i:Nat)(hi:i<c.as.length):Ans pr 48 [.ag (cqF c),.i .i64 i] (.ag (cqF (zcJ c i true))):=by
 refine za1 fn48 ?_;simp only[g48,rU];have hw:=zao i (by have:=hc.sa;omega);have s1:=fun h=>zB1 hne (i:=i) (by omega) h
 have s2:=fun h=>zB2 hne (i:=i+1) (by omega) h
 have hR:zaC (zcJ c i true)= .sl 3 ((c.as.take i).map atF++(c.as.drop (i+1)).map atF):=by
  rw[zPn rfl];simp[zcJ]
 have hK:zaF (zcJ c i true)=zaF c:=rfl;have hP12:(c.as.take i).length≤12:=by have:=hc.sa;simp;omega
 have hS12:(c.as.drop (i+1)).length≤12:=by have:=hc.sa;simp;omega
 generalize c.as.take i=P at s1 hP12 hR;generalize c.as.drop (i+1)=S at s2 hS12 hR;simp -implicitDefEqProofs [rR,st0,zae,cqE,zaV,zaW,hR,hK]
 push_cast at s2 hw
 have fr:∀(l:List (List F)) h k,zaT (frz h (k+1)) (l.map (·.map D.f))=some (l,[]):=fun l h k=>zjq h k l
 have fP:∀h,zaT (frz h 10) (P.map fun x=>(atF x).map D.f)=some (P.map atF,[]):=fun h=>by simpa [List.map_map,Function.comp_def]using fr (P.map atF) h 9
 have fS:∀h,zaT (frz h 10) (S.map fun x=>(atF x).map D.f)=some (S.map atF,[]):=fun h=>by simpa [List.map_map,Function.comp_def]using fr (S.map atF) h 9
 have m1:(P.length≤zaj)=True:=zaR (by omega);have m2:(P.length*48≤zaj)=True:=zaR (by omega);have m3:(P.length+S.length≤zaj)=True:=zaR (by omega);have m4:((P.length+S.length)*48≤zaj)=True:=zaR (by omega);have m5:(S.length≤zaj)=True:=zaR (by omega);have m6:(S.length*48≤zaj)=True:=zaR (by omega);have tP:List.take P.length (P.map fun x=>(atF x).map D.f)=(P.map fun x=>(atF x).map D.f):=List.take_of_length_le (by simp);have tS:List.take S.length (S.map fun x=>(atF x).map D.f)=(S.map fun x=>(atF x).map D.f):=List.take_of_length_le (by simp);have tPS:List.take (P.length+S.length) ((P.map fun x=>(atF x).map D.f)++(S.map fun x=>(atF x).map D.f))=(P.map fun x=>(atF x).map D.f)++(S.map fun x=>(atF x).map D.f):=List.take_of_length_le (by simp);refine zay ?_
 by_cases hP:P=[]
 ·by_cases hS:S=[]
  ·simp -implicitDefEqProofs [rR,zae,hw,s1,s2,hP,hS,zaV,zaW,ziu]
   trace_state
  ·simp -implicitDefEqProofs [rR,zae,hw,s1,s2,hP,hS,zaV,zaW,ziu,m5,m6,fS,tS]
   trace_state
 ·by_cases hS:S=[]
  ·simp -implicitDefEqProofs [rR,zae,hw,s1,s2,hP,hS,zaV,zaW,ziu,m1,m2,fP,tP]
   trace_state
  ·have hS0:0<S.length:=List.length_pos_iff.2 hS;have m7:(P.length+S.length≤P.length)=False:=leF (by omega);simp -implicitDefEqProofs [rR,zae,hw,s1,s2,hP,hS,zaV,zaW,ziu,m1,m2,m3,m4,m7,fP,fS,tPS]
   trace_state
theorem zkP{c:CQ}(hc:zbu c)(i:Nat)(na:Bool):zbu (zcJ c i na):=by
 have hm:∀a∈(zcJ c i na).as,a∈c.as:=fun a ha=>by
  rcases List.mem_append.1 ha with h|h
  ·exact List.mem_of_mem_take h
  ·exact List.mem_of_mem_drop h
 have hl:(zcJ c i na).as.length≤c.as.length:=by simp[zcJ];omega
 exact⟨⟨fun a ha=>hc.as a (hm a ha),hc.cs,by have:=hc.la;omega,hc.lc⟩,by have:=hc.sa;omega,fun a ha=>hc.st a (hm a ha),hc.sc,fun a ha=>hc.s2 a (hm a ha)⟩
def znq(hd:List Str)(c:CQ)(i:Nat):CQ:=if cov (zcJ c i true) c hd=true/\(zhg c (zcJ c i true) hd).isSome=true then zcJ c i true else c
def zev(hd:List Str):Nat->CQ->CQ
 |0,c=>c
 |k+1,c=>zev hd k (znq hd c k)
def CO(hd:List Str)(R:CQ)(k:Nat)(s:St):Prop:=∃(c:CQ) (z:Int),(z=(k:Int) - 1/\k≤c.as.length/\zbu c)/\(s.tm.get 1=some (.f (zas hd))/\s.tm.get 2=some (.ptr 0 2 0 0)/\s.tm.get 4=some (.ptr 1 2 0 0)/\s.tm.get 5=some (.f (.i .i64 z))/\s.h.get 0=some (.arr 2 0 [[.f (zaC c),.f (zaF c)]])/\s.h.get 1=some (.arr 2 0 [[.f .nils,.f .nils]]))/\2≤s.c/\zev hd k c=R
theorem zHW(c:CQ)(hd:List Str)(hc:zbu c)(hh:hd.length<1000):Ans pr 20 [.ag (cqF c),zas hd] (.ag (cqF (zev hd c.as.length c))):=by
 refine za1 fn20 ?_;simp only[g20,rU];obtain⟨z0,hz0⟩ :∃z0:Int,z0=(c.as.length:Int) - 1:=⟨_,rfl⟩
 have hw0:IntKind.i64.wrap ((c.as.length:Int) - 1)=z0:=by rw[hz0];exact IntWalk.i64_in _ (by have:=hc.sa;omega)
 simp[rW,st0,zae,cqE,zaV,zaW,zaL,za2,hw0];refine zcu (CO hd (zev hd c.as.length c)) (fun x s=>x= .exit 0/\(s.tm.get 2=some (.ptr 0 2 0 0)/\s.tm.get 4=some (.ptr 1 2 0 0)/\s.h.get 0=some (.arr 2 0 [[.f (zaC (zev hd c.as.length c)),.f (zaF (zev hd c.as.length c))]])/\s.h.get 1=some (.arr 2 0 [[.f .nils,.f .nils]]))/\2≤s.c) ?_ c.as.length _ ?_ ?_
 ·generalize zev hd c.as.length c=R;clear hw0 hz0 hc;rintro k s ⟨c,z,⟨hz,hk,hc⟩,⟨h1,h2,h4,h5,g0,g1⟩,hc2,hR⟩;cases k with
  |zero=>
   have hz0:¬(0≤z):=by omega
   simp[rW,h1,h2,h4,h5,g0,g1,hz0];subst hR;exact⟨⟨rfl,rfl⟩,hc2⟩
  |succ j=>
   have hz1:z=(j:Int):=by omega
   subst hz1;have hne:c.as≠[]:=fun e=>by rw[e]at hk;simp at hk
   obtain⟨z2,hz2⟩ :∃z2:Int,z2=(j:Int) - 1:=⟨_,rfl⟩
   have hw:IntKind.i64.wrap ((j:Int) - 1)=z2:=by rw[hz2];exact IntWalk.i64_in _ (by have:=hc.sa;omega)
   have hs:=zkP hc j true;have q48:=fun k=>zak (k:=k) (ans48 c hc hne j (by omega))
   have q49:=fun k=>zak (k:=k) (ans49 (zcJ c j true) c hd hs hc hh)
   have q9:=fun k=>zak (k:=k) (zFf c (zcJ c j true) hd hc hs hh)
   have hR':zev hd j (znq hd c j)=R:=hR;unfold znq at hR';generalize hD:zcJ c j true=d at q48 q49 q9 hs hR';have hld:j≤d.as.length:=by rw[<-hD];simp[zcJ];omega
   simp only[cqE]at q48 q49 q9;have n0:¬(0=s.c):=by omega
   have n1:¬(1=s.c):=by omega
   have n0':¬(s.c=0):=by omega
   have n1':¬(s.c=1):=by omega
   cases hcv:cov d c hd with
   |false=>
    rw[hcv]at q49 hR';simp only[Bool.false_eq_true,false_and,if_false]at hR';simp[rW,h1,h2,h4,h5,g0,g1,q48,q49,zaV,zaW,zaL,n0,n1,n0',n1'];rw[zbh];refine⟨j,by omega,c,z2,⟨hz2,by omega,hc⟩,?_,?_,hR'⟩
    ·simp[rW,h1,h2,h4,h5,g0,g1,hw,n0,n1,n0',n1']
    ·simp[rW,];omega
   |true=>
    rw[hcv]at q49 hR';cases hm:zhg c d hd with
    |none=>
     rw[hm]at q9 hR';simp only[zfy]at q9;simp at hR';simp[rW,h1,h2,h4,h5,g0,g1,q48,q49,q9,zaV,zaW,zaL,n0,n1,n0',n1'];rw[zbh];refine⟨j,by omega,c,z2,⟨hz2,by omega,hc⟩,?_,?_,hR'⟩
     ·simp[rW,h1,h2,h4,h5,g0,g1,hw,n0,n1,n0',n1']
     ·simp[rW,];omega
    |some l=>
     rw[hm]at q9 hR';simp only[zfy]at q9;simp at hR';simp[rW,h1,h2,h4,h5,g0,g1,q48,q49,q9,zaV,zaW,zaL,zaS,n0,n1,n0',n1'];rw[zbh];refine⟨j,by omega,d,z2,⟨hz2,by omega,hs⟩,?_,?_,hR'⟩
     ·simp[rW,h1,h2,h4,h5,g0,g1,hw,n0,n1,n0',n1']
     ·simp[rW,];omega
 ·simp[rW,CO];exact⟨c,z0,⟨hz0,Nat.le_refl _,hc⟩,⟨rfl,rfl,rfl⟩,rfl⟩
 ·rintro x s ⟨rfl,⟨h2,h4,g0,g1⟩,hc2⟩;simp[rW,h2,h4,g0,g1,zaV,zaW,ziu];omega
theorem fn15:pr.fn 15=some g15:=by kernel_rfl
theorem fn17:pr.fn 17=some g17:=by kernel_rfl
def exR(hd:List Str)(c d:CQ):Bool:=(zhg c d hd).isSome
def zg7(hd hd2:List Str)(l m:List CQ):Bool:=decide (hd=hd2)&&l.all fun d=>m.any fun c=>exR hd c d
def QOk(l:List CQ):Prop:=(∀c∈l,zbu c)/\l.length<1000
theorem zFk{α:Type}{l:List α}{p:α->Bool}{n:Nat}(hn:n<l.length):(l.take (n+1)).any p=((l.take n).any p||p l[n]):=by
 rw[List.take_succ_eq_append_getElem hn,List.any_append];simp
def XB0(hd hd2:List Str)(l m:List CQ)(s:St):Prop:=(s.tm.get 2=some (.ptr 0 2 0 0)/\s.tm.get 3=some (.ptr 1 2 0 0)/\s.h.get 0=some (.arr 2 0 [[.f (zas hd),.f (qsF l)]])/\s.h.get 1=some (.arr 2 0 [[.f (zas hd2),.f (qsF m)]]))/\2≤s.c
def XK1(hd hd2:List Str)(l m:List CQ)(k:Nat)(s:St):Prop:=∃i,(k=l.length - i/\i≤l.length/\∀j (hj:j<l.length),j<i->(m.any fun c=>exR hd c l[j])=true)/\XB0 hd hd2 l m s/\s.tm.get 5=some (.f (.i .i64 i))
def XK2(hd hd2:List Str)(l m:List CQ)(i:Nat)(p:CQ->Bool)(k:Nat)(s:St):Prop:=∃n,(k=m.length - n/\n≤m.length)/\XB0 hd hd2 l m s/\(s.tm.get 5=some (.f (.i .i64 i))/\s.tm.get 6=some (.f (.b ((m.take n).any p)))/\s.tm.get 7=some (.f (.i .i64 n)))
theorem zy6(hd hd2:List Str)(l m:List CQ)(hh:hd.length<1000)(hl:QOk l)(hm:QOk m):Ans pr 15 [.ag [zas hd,qsF l],.ag [zas hd2,qsF m]] (.b (zg7 hd hd2 l m)):=by
 refine za1 fn15 ?_;simp only[g15,rU];have q44:=fun k=>zak (k:=k) (zH2 hd hd2 (by omega))
 unfold zg7
 by_cases he:hd=hd2
 ·rw[decide_eq_true he]at q44⊢;simp[rW,st0,zae,zaL,zfS,q44];refine zcu (XK1 hd hd2 l m) (fun x s=>(x= .exit 0/\(l.all fun d=>m.any fun c=>exR hd c d)=true)\/(x= .ret/\(l.all fun d=>m.any fun c=>exR hd c d)=false/\s.tm.get 4=some (.f (.b false)))) ?_ l.length _ ?_ ?_
  ·rintro k s ⟨i,⟨rfl,hi,hal⟩,⟨⟨h2,h3,g0,g1⟩,hc2⟩,h5⟩
   by_cases hlt:i<l.length
   ·have hw:=zao i (by have:=hl.2;omega);have hx:l[i]? =some l[i]:=List.getElem?_eq_getElem hlt;have hsd:=hl.1 _ (List.getElem_mem hlt);generalize hD:l[i]=d at hx hsd;simp[rW,h2,h3,g0,g1,h5,zdD,hlt];refine zcu (XK2 hd hd2 l m i fun c=>exR hd c d) (fun x s=>x= .exit 2/\XB0 hd hd2 l m s/\(s.tm.get 5=some (.f (.i .i64 i))/\s.tm.get 6=some (.f (.b (m.any fun c=>exR hd c d))))) ?_ m.length _ ?_ ?_
    ·rintro k s ⟨n,⟨rfl,hn⟩,⟨⟨h2,h3,g0,g1⟩,hc2⟩,h5,h6,h7⟩
     by_cases hnl:n<m.length
     ·cases hb:(m.take n).any fun c=>exR hd c d with
      |true=>
       rw[hb]at h6;have e:(m.any fun c=>exR hd c d)=true:=by
        obtain⟨c,hc,hp⟩ :=List.any_eq_true.1 hb;exact List.any_eq_true.2 ⟨c,List.mem_of_mem_take hc,hp⟩
       simp[rW,h2,h3,h5,h6,h7,g0,g1,zdD,hnl,XB0,e];exact hc2
      |false=>
       rw[hb]at h6;have hwn:=zao n (by have:=hm.2;omega);have hy:m[n]? =some m[n]:=List.getElem?_eq_getElem hnl;have hat:=zFk (p:=fun c=>exR hd c d) hnl;rw[hb,Bool.false_or]at hat
       have hsc:=hm.1 _ (List.getElem_mem hnl);generalize hC:m[n]=c at hy hsc hat
       have q9:=fun k=>zak (k:=k) (zFf c d hd hsc hsd hh)
       simp only[cqE]at q9;unfold exR at hat
       cases hh2:zhg c d hd with
       |none=>
        rw[hh2]at q9 hat
        simp only[zfy]at q9;simp[rW,h2,h3,h5,h6,h7,g0,g1,zdD,hnl];refine zay ?_;simp[rW,h2,h3,h5,h6,h7,g0,g1,zh3,hx,hy,hlt,hnl,hD,hC,cqE,zaV,zaW,zaL,q9];rw[zbh];refine⟨m.length - (n+1),by omega,n+1,⟨rfl,by omega⟩,?_,?_⟩
        ·simp[rW,XB0,h2,h3,g0,g1]
        ·simp[rW,h5,h6,h7,hwn];simpa [exR]using hat
       |some w=>
        rw[hh2]at q9 hat
        simp only[zfy]at q9;simp[rW,h2,h3,h5,h6,h7,g0,g1,zdD,hnl];refine zay ?_;simp[rW,h2,h3,h5,h6,h7,g0,g1,zh3,hx,hy,hlt,hnl,hD,hC,cqE,zaV,zaW,zaL,zaS,q9];rw[zbh];refine⟨m.length - (n+1),by omega,n+1,⟨rfl,by omega⟩,?_,?_⟩
        ·simp[rW,XB0,h2,h3,g0,g1]
        ·simp[rW,h5,h6,h7,hwn];simpa [exR]using hat
     ·have e:m.take n=m:=List.take_of_length_le (by omega);rw[e]at h6;simp[rW,h2,h3,h5,h6,h7,g0,g1,zdD,hnl,XB0];exact hc2
    ·simp[rW,XK2,XB0,h2,h3,g0,g1,h5];exact⟨0,⟨by simp,by simp⟩,hc2,by simp,rfl⟩
    ·rintro x s ⟨rfl,⟨⟨h2,h3,g0,g1⟩,hc2⟩,h5,h6⟩;cases hb:m.any fun c=>exR hd c d with
     |true=>
      rw[hb]at h6;simp[rW,h2,h3,h5,h6,g0,g1];rw[zbh];refine⟨l.length - (i+1),by omega,i+1,⟨rfl,by omega,fun j hj hji=> ?_⟩,?_,?_⟩
      ·by_cases hji2:j=i
       ·subst hji2;rw[hD];exact hb
       ·exact hal j hj (by omega)
      ·simp[rW,XB0,h2,h3,g0,g1];exact hc2
      ·simp[rW,hw]
     |false=>
      rw[hb]at h6;simp[rW,h2,h3,h5,h6,g0,g1];exact⟨d,by rw[<-hD];exact List.getElem_mem hlt,fun c hc=>by have:=List.any_eq_false.1 hb c hc;simpa using this⟩
   ·simp[rW,h2,h3,g0,g1,h5,zdD,hlt];intro x hx;obtain⟨j,hj,rfl⟩ :=List.getElem_of_mem hx;obtain⟨c,hc,hp⟩ :=List.any_eq_true.1 (hal j hj (by omega));exact⟨c,hc,hp⟩
  ·simp[rW,XK1,XB0];exact⟨0,⟨by simp,by simp,fun j _ h=>absurd h (by omega)⟩,rfl⟩
  ·rintro x s (⟨rfl,e⟩ |⟨rfl,e,h4⟩)
   ·rw[e];simp[rW,]
   ·rw[e];simp[rW,h4]
 ·rw[decide_eq_false he]at q44⊢;simp[rW,st0,zae,zaL,zfS,q44]
theorem ans17(hd hd2:List Str)(l m:List CQ)(hh:hd.length<1000)(hh2:hd2.length<1000)(hl:QOk l)(hm:QOk m):Ans pr 17 [.ag [zas hd,qsF l],.ag [zas hd2,qsF m]] (.b (zg7 hd hd2 l m&&zg7 hd2 hd m l)):=by
 refine za1 fn17 ?_;simp only[g17,rU];have q1:=fun k=>zak (k:=k) (zy6 hd hd2 l m hh hl hm)
 have q2:=fun k=>zak (k:=k) (zy6 hd2 hd m l hh2 hm hl)
 cases hb:zg7 hd hd2 l m with
 |true=>rw[hb]at q1;simp[rW,st0,zae,zaL,zfS,q1,q2]
 |false=>rw[hb]at q1;simp[rW,st0,zae,zaL,zfS,q1,q2]
end Go.Proofs.YtimgcabgophnfaaGreat
end
