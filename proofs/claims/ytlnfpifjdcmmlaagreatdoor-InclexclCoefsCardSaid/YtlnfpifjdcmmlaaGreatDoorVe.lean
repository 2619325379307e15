/- The evaluator and its soundness. Conditions: none. -/
import Derived.Test.YtlnfpifjdcmmlaaGreatDoorVd
import Derived.Test.YtlnfpifjdcmmlaaGreatDoorVc
set_option linter.all false
noncomputable section
section
namespace Go.Vse
variable [Globs]
def Rt(tm:TM)(t:T D):Prop:=∀i,getM tm i=t.get i
def Rt.put{tm:TM}{t:T D}(h:Rt tm t)(dst:Option Nat)(d:D):Rt (ziV tm dst d) (zcX t dst d):=by
 intro i;cases dst with
 |none=>exact h i
 |some j=>
  have e:ziV tm (some j) d=zlq tm j (some d):=rfl;rw[e,zqe,h i];simp only[zcX,T.zab]
def F.zwd(x:F):x.dk=x.d:=by cases x<;>rfl
section
variable {tm:TM}{t:T D}
def zaH(h:Rt tm t)(x:A):zdx tm x=zad t x:=by
 cases x with
 |t n=>exact h n
 |k x=>exact congrArg some (F.zwd x)
 |x=>rfl
 |g cs=>rfl
theorem zjr(h:Rt tm t):∀l,zk8 tm l=zat (zad t) l
 |[]=>rfl
 |x::l=>by
  have e:zk8 tm (x::l)=oL (zdx tm x) fun y=>oL (zk8 tm l) fun m=>some (y::m):=rfl
  rw[e,zaH h,zjr h l,zat];cases zad t x with
  |none=>rfl
  |some y=>cases zat (zad t) l<;>rfl
theorem zuK(h:Rt tm t):∀l,zw1 tm l=zat (fun(p:Nat×Nat×A)=>do some (p.1,p.2.1,<-zad t p.2.2)) l
 |[]=>rfl
 |x::l=>by
  have e:zw1 tm (x::l)=oL (zdx tm x.2.2) fun y=>oL (zw1 tm l) fun m=>some ((x.1,x.2.1,y)::m):=rfl
  rw[e,zaH h,zuK h l,zat];cases zad t x.2.2 with
  |none=>rfl
  |some y=>
   simp only[Z48,Z47];cases zat _ l<;>rfl
theorem zpJ(h:Rt tm t):∀l,zw2 tm l=zat (fun(p:Nat×A)=>do some (p.1,<-zad t p.2)) l
 |[]=>rfl
 |x::l=>by
  have e:zw2 tm (x::l)=oL (zdx tm x.2) fun y=>oL (zw2 tm l) fun m=>some ((x.1,y)::m):=rfl
  rw[e,zaH h,zpJ h l,zat];cases zad t x.2 with
  |none=>rfl
  |some y=>
   simp only[Z48,Z47];cases zat _ l<;>rfl
def zuW(h:Rt tm t)(x:Option A):zmS tm x=zcC (zad t) x:=by
 cases x with
 |none=>rfl
 |some x=>
  have e:zmS tm (some x)=oL (zdx tm x) fun y=>some (some y):=rfl
  rw[e,zaH h,zcC];cases zad t x<;>rfl
def zay{α:Type}(x:α)(k:α->Option Rs):oK (some x) k=k x:=rfl
def zLL(h:Rt tm t)(hp:Nat->Option Ob)(c:Nat)(o:O A)(hk:kcl o= .n):opK o tm hp c=(o.res (zad t)).bind (opv hp c):=by
 cases o with
 |mv x'=>
  show ra k_mv x' tm hp c=_;unfold ra;simp only[zaH h,O.res,Z48];cases zad t x' with
  |none=>rfl
  |some y=>
   simp only[zay,Z47];rfl
 |pick q' x' y'=>
  show zpP zzm q' x' y' tm hp c=_;unfold zpP;simp only[zaH h,O.res,Z48];cases zad t q' with
  |none=>rfl
  |some y=>
   simp only[zay,Z47];cases zad t x' with
   |none=>rfl
   |some y=>
    simp only[zay,Z47];cases zad t y' with
    |none=>rfl
    |some y=>
     simp only[zay,Z47];rfl
 |new cs'=>
  rfl
 |box x'=>
  show ra zDS x' tm hp c=_;unfold ra;simp only[zaH h,O.res,Z48];cases zad t x' with
  |none=>rfl
  |some y=>
   simp only[zay,Z47];rfl
 |bld z' ps'=>
  show rp (zDP z') ps' tm hp c=_;unfold rp;simp only[zuK h,O.res,Z48];cases zat _ ps' with
  |none=>rfl
  |some y=>
   simp only[zay,Z47];rfl
 |bsl es' z' m' ps'=>
  show rq (zDU es' z' m') ps' tm hp c=_;unfold rq;simp only[zpJ h,O.res,Z48];cases zat _ ps' with
  |none=>rfl
  |some y=>
   simp only[zay,Z47];rfl
 |bsf es' z' m' ps'=>
  show rq (zDT es' z' m') ps' tm hp c=_;unfold rq;simp only[zpJ h,O.res,Z48];cases zat _ ps' with
  |none=>rfl
  |some y=>
   simp only[zay,Z47];rfl
 |ld g' n' x'=>
  show ra (k_ld g' n') x' tm hp c=_;unfold ra;simp only[zaH h,O.res,Z48];cases zad t x' with
  |none=>rfl
  |some y=>
   simp only[zay,Z47];rfl
 |st n' x' v'=>
  show raa (k_st n') x' v' tm hp c=_;unfold raa;simp only[zaH h,O.res,Z48];cases zad t x' with
  |none=>rfl
  |some y=>
   simp only[zay,Z47];cases zad t v' with
   |none=>rfl
   |some y=>
    simp only[zay,Z47];rfl
 |nck x'=>
  show ra zEt x' tm hp c=_;unfold ra;simp only[zaH h,O.res,Z48];cases zad t x' with
  |none=>rfl
  |some y=>
   simp only[zay,Z47];rfl
 |bin op' x' y'=>
  show raa (zDO op') x' y' tm hp c=_;unfold raa;simp only[zaH h,O.res,Z48];cases zad t x' with
  |none=>rfl
  |some y=>
   simp only[zay,Z47];cases zad t y' with
   |none=>rfl
   |some y=>
    simp only[zay,Z47];rfl
 |eqb ne' x' y'=>
  show raa (zD8 ne') x' y' tm hp c=_;unfold raa;simp only[zaH h,O.res,Z48];cases zad t x' with
  |none=>rfl
  |some y=>
   simp only[zay,Z47];cases zad t y' with
   |none=>rfl
   |some y=>
    simp only[zay,Z47];rfl
 |eqn kd' ne' x' y'=>
  show raa (zD9 kd' ne') x' y' tm hp c=_;unfold raa;simp only[zaH h,O.res,Z48];cases zad t x' with
  |none=>rfl
  |some y=>
   simp only[zay,Z47];cases zad t y' with
   |none=>rfl
   |some y=>
    simp only[zay,Z47];rfl
 |eqa ks' ne' x' y'=>
  show raa (zD5 ks' ne') x' y' tm hp c=_;unfold raa;simp only[zaH h,O.res,Z48];cases zad t x' with
  |none=>rfl
  |some y=>
   simp only[zay,Z47];cases zad t y' with
   |none=>rfl
   |some y=>
    simp only[zay,Z47];rfl
 |un op' x'=>
  show ra (k_un op') x' tm hp c=_;unfold ra;simp only[zaH h,O.res,Z48];cases zad t x' with
  |none=>rfl
  |some y=>
   simp only[zay,Z47];rfl
 |cvi k' x'=>
  show ra (zD1 k') x' tm hp c=_;unfold ra;simp only[zaH h,O.res,Z48];cases zad t x' with
  |none=>rfl
  |some y=>
   simp only[zay,Z47];rfl
 |cvs x'=>
  show ra zD3 x' tm hp c=_;unfold ra;simp only[zaH h,O.res,Z48];cases zad t x' with
  |none=>rfl
  |some y=>
   simp only[zay,Z47];rfl
 |s2b x'=>
  show ra zEv x' tm hp c=_;unfold ra;simp only[zaH h,O.res,Z48];cases zad t x' with
  |none=>rfl
  |some y=>
   simp only[zay,Z47];rfl
 |b2s x'=>
  show ra zDN x' tm hp c=_;unfold ra;simp only[zaH h,O.res,Z48];cases zad t x' with
  |none=>rfl
  |some y=>
   simp only[zay,Z47];rfl
 |mkf f' a' b'=>
  show rll (zEo f') a' b' tm hp c=_;unfold rll;simp only[zjr h,O.res,Z48];cases zat (zad t) a' with
  |none=>rfl
  |some y=>
   simp only[zay,Z47];cases zat (zad t) b' with
   |none=>rfl
   |some y=>
    simp only[zay,Z47];rfl
 |mks es' byt' z' l' m'=>
  show raa (zEq es' byt' z') l' m' tm hp c=_;unfold raa;simp only[zaH h,O.res,Z48];cases zad t l' with
  |none=>rfl
  |some y=>
   simp only[zay,Z47];cases zad t m' with
   |none=>rfl
   |some y=>
    simp only[zay,Z47];rfl
 |sls x' lo' hi'=>
  show zBZ zEx x' lo' hi' tm hp c=_;unfold zBZ;simp only[zaH h,zuW h,O.res,Z48];cases zad t x' with
  |none=>rfl
  |some y=>
   simp only[zay,Z47];cases zcC (zad t) lo' with
   |none=>rfl
   |some y=>
    simp only[zay,Z47];cases zcC (zad t) hi' with
    |none=>rfl
    |some y=>
     simp only[zay,Z47];rfl
 |slc es' x' lo' hi' mx'=>
  show zxq (zEw es') x' lo' hi' mx' tm hp c=_;unfold zxq;simp only[zaH h,zuW h,O.res,Z48];cases zad t x' with
  |none=>rfl
  |some y=>
   simp only[zay,Z47];cases zcC (zad t) lo' with
   |none=>rfl
   |some y=>
    simp only[zay,Z47];cases zcC (zad t) hi' with
    |none=>rfl
    |some y=>
     simp only[zay,Z47];cases zcC (zad t) mx' with
     |none=>rfl
     |some y=>
      simp only[zay,Z47];rfl
 |fa off' x'=>
  show ra (k_fa off') x' tm hp c=_;unfold ra;simp only[zaH h,O.res,Z48];cases zad t x' with
  |none=>rfl
  |some y=>
   simp only[zay,Z47];rfl
 |fld g' off' n' x'=>
  show ra (zEc g' off' n') x' tm hp c=_;unfold ra;simp only[zaH h,O.res,Z48];cases zad t x' with
  |none=>rfl
  |some y=>
   simp only[zay,Z47];rfl
 |ia es' x' i'=>
  show raa (k_ia es') x' i' tm hp c=_;unfold raa;simp only[zaH h,O.res,Z48];cases zad t x' with
  |none=>rfl
  |some y=>
   simp only[zay,Z47];cases zad t i' with
   |none=>rfl
   |some y=>
    simp only[zay,Z47];rfl
 |iaa es' m' x' i'=>
  show raa (zEe es' m') x' i' tm hp c=_;unfold raa;simp only[zaH h,O.res,Z48];cases zad t x' with
  |none=>rfl
  |some y=>
   simp only[zay,Z47];cases zad t i' with
   |none=>rfl
   |some y=>
    simp only[zay,Z47];rfl
 |ixs x' i'=>
  show raa zEj x' i' tm hp c=_;unfold raa;simp only[zaH h,O.res,Z48];cases zad t x' with
  |none=>rfl
  |some y=>
   simp only[zay,Z47];cases zad t i' with
   |none=>rfl
   |some y=>
    simp only[zay,Z47];rfl
 |ixa g' es' m' x' i'=>
  show raa (zEi g' es' m') x' i' tm hp c=_;unfold raa;simp only[zaH h,O.res,Z48];cases zad t x' with
  |none=>rfl
  |some y=>
   simp only[zay,Z47];cases zad t i' with
   |none=>rfl
   |some y=>
    simp only[zay,Z47];rfl
 |ext x' i'=>
  show ra (zEb i') x' tm hp c=_;unfold ra;simp only[zaH h,O.res,Z48];cases zad t x' with
  |none=>rfl
  |some y=>
   simp only[zay,Z47];rfl
 |app es' byt' s' x'=>
  show raa (zDJ es' byt') s' x' tm hp c=_;unfold raa;simp only[zaH h,O.res,Z48];cases zad t s' with
  |none=>rfl
  |some y=>
   simp only[zay,Z47];cases zad t x' with
   |none=>rfl
   |some y=>
    simp only[zay,Z47];rfl
 |apz es' byt' z' s' n'=>
  show raa (zDK es' byt' z') s' n' tm hp c=_;unfold raa;simp only[zaH h,O.res,Z48];cases zad t s' with
  |none=>rfl
  |some y=>
   simp only[zay,Z47];cases zad t n' with
   |none=>rfl
   |some y=>
    simp only[zay,Z47];rfl
 |cpy es' d' s'=>
  show raa (zDZ es') d' s' tm hp c=_;unfold raa;simp only[zaH h,O.res,Z48];cases zad t d' with
  |none=>rfl
  |some y=>
   simp only[zay,Z47];cases zad t s' with
   |none=>rfl
   |some y=>
    simp only[zay,Z47];rfl
 |clr es' z' s'=>
  show ra (zDX es' z') s' tm hp c=_;unfold ra;simp only[zaH h,O.res,Z48];cases zad t s' with
  |none=>rfl
  |some y=>
   simp only[zay,Z47];rfl
 |len x'=>
  show ra zEk x' tm hp c=_;unfold ra;simp only[zaH h,O.res,Z48];cases zad t x' with
  |none=>rfl
  |some y=>
   simp only[zay,Z47];rfl
 |lns x'=>
  show ra zEl x' tm hp c=_;unfold ra;simp only[zaH h,O.res,Z48];cases zad t x' with
  |none=>rfl
  |some y=>
   simp only[zay,Z47];rfl
 |mlen x'=>
  show ra zzk x' tm hp c=_;unfold ra;simp only[zaH h,O.res,Z48];cases zad t x' with
  |none=>rfl
  |some y=>
   simp only[zay,Z47];rfl
 |cap x'=>
  show ra zDW x' tm hp c=_;unfold ra;simp only[zaH h,O.res,Z48];cases zad t x' with
  |none=>rfl
  |some y=>
   simp only[zay,Z47];rfl
 |mm mx' x' y'=>
  show raa (k_mm mx') x' y' tm hp c=_;unfold raa;simp only[zaH h,O.res,Z48];cases zad t x' with
  |none=>rfl
  |some y=>
   simp only[zay,Z47];cases zad t y' with
   |none=>rfl
   |some y=>
    simp only[zay,Z47];rfl
 |mmk=>
  rfl
 |mup kd' m' k' v'=>
  show zpP (zEs kd') m' k' v' tm hp c=_;unfold zpP;simp only[zaH h,O.res,Z48];cases zad t m' with
  |none=>rfl
  |some y=>
   simp only[zay,Z47];cases zad t k' with
   |none=>rfl
   |some y=>
    simp only[zay,Z47];cases zad t v' with
    |none=>rfl
    |some y=>
     simp only[zay,Z47];rfl
 |mlk kd' z' ok' m' k'=>
  show raa (zEr kd' z' ok') m' k' tm hp c=_;unfold raa;simp only[zaH h,O.res,Z48];cases zad t m' with
  |none=>rfl
  |some y=>
   simp only[zay,Z47];cases zad t k' with
   |none=>rfl
   |some y=>
    simp only[zay,Z47];rfl
 |callp _ _=>cases hk
 |call _ _=>cases hk
 |callv _ _=>cases hk
def zrm{f:A->Option D}{o:O A}{o':O D}(hk:kcl o= .n)(hr:o.res f=some o'):kindOf o'= .n:=by
 cases o with
 |mv _=>
  simp only[O.res]at hr;obtain⟨_,_,hr⟩ :=zah hr;cases hr;rfl
 |pick _ _ _=>
  simp only[O.res]at hr;obtain⟨_,_,hr⟩ :=zah hr;obtain⟨_,_,hr⟩ :=zah hr;obtain⟨_,_,hr⟩ :=zah hr;cases hr;rfl
 |new _=>
  simp only[O.res]at hr;cases hr;rfl
 |box _=>
  simp only[O.res]at hr;obtain⟨_,_,hr⟩ :=zah hr;cases hr;rfl
 |bld _ _=>
  simp only[O.res]at hr;obtain⟨_,_,hr⟩ :=zah hr;cases hr;rfl
 |bsl _ _ _ _=>
  simp only[O.res]at hr;obtain⟨_,_,hr⟩ :=zah hr;cases hr;rfl
 |bsf _ _ _ _=>
  simp only[O.res]at hr;obtain⟨_,_,hr⟩ :=zah hr;cases hr;rfl
 |ld _ _ _=>
  simp only[O.res]at hr;obtain⟨_,_,hr⟩ :=zah hr;cases hr;rfl
 |st _ _ _=>
  simp only[O.res]at hr;obtain⟨_,_,hr⟩ :=zah hr;obtain⟨_,_,hr⟩ :=zah hr;cases hr;rfl
 |nck _=>
  simp only[O.res]at hr;obtain⟨_,_,hr⟩ :=zah hr;cases hr;rfl
 |bin _ _ _=>
  simp only[O.res]at hr;obtain⟨_,_,hr⟩ :=zah hr;obtain⟨_,_,hr⟩ :=zah hr;cases hr;rfl
 |eqb _ _ _=>
  simp only[O.res]at hr;obtain⟨_,_,hr⟩ :=zah hr;obtain⟨_,_,hr⟩ :=zah hr;cases hr;rfl
 |eqn _ _ _ _=>
  simp only[O.res]at hr;obtain⟨_,_,hr⟩ :=zah hr;obtain⟨_,_,hr⟩ :=zah hr;cases hr;rfl
 |eqa _ _ _ _=>
  simp only[O.res]at hr;obtain⟨_,_,hr⟩ :=zah hr;obtain⟨_,_,hr⟩ :=zah hr;cases hr;rfl
 |un _ _=>
  simp only[O.res]at hr;obtain⟨_,_,hr⟩ :=zah hr;cases hr;rfl
 |cvi _ _=>
  simp only[O.res]at hr;obtain⟨_,_,hr⟩ :=zah hr;cases hr;rfl
 |cvs _=>
  simp only[O.res]at hr;obtain⟨_,_,hr⟩ :=zah hr;cases hr;rfl
 |s2b _=>
  simp only[O.res]at hr;obtain⟨_,_,hr⟩ :=zah hr;cases hr;rfl
 |b2s _=>
  simp only[O.res]at hr;obtain⟨_,_,hr⟩ :=zah hr;cases hr;rfl
 |mkf _ _ _=>
  simp only[O.res]at hr;obtain⟨_,_,hr⟩ :=zah hr;obtain⟨_,_,hr⟩ :=zah hr;cases hr;rfl
 |mks _ _ _ _ _=>
  simp only[O.res]at hr;obtain⟨_,_,hr⟩ :=zah hr;obtain⟨_,_,hr⟩ :=zah hr;cases hr;rfl
 |sls _ _ _=>
  simp only[O.res]at hr;obtain⟨_,_,hr⟩ :=zah hr;obtain⟨_,_,hr⟩ :=zah hr;obtain⟨_,_,hr⟩ :=zah hr;cases hr;rfl
 |slc _ _ _ _ _=>
  simp only[O.res]at hr;obtain⟨_,_,hr⟩ :=zah hr;obtain⟨_,_,hr⟩ :=zah hr;obtain⟨_,_,hr⟩ :=zah hr;obtain⟨_,_,hr⟩ :=zah hr;cases hr;rfl
 |fa _ _=>
  simp only[O.res]at hr;obtain⟨_,_,hr⟩ :=zah hr;cases hr;rfl
 |fld _ _ _ _=>
  simp only[O.res]at hr;obtain⟨_,_,hr⟩ :=zah hr;cases hr;rfl
 |ia _ _ _=>
  simp only[O.res]at hr;obtain⟨_,_,hr⟩ :=zah hr;obtain⟨_,_,hr⟩ :=zah hr;cases hr;rfl
 |iaa _ _ _ _=>
  simp only[O.res]at hr;obtain⟨_,_,hr⟩ :=zah hr;obtain⟨_,_,hr⟩ :=zah hr;cases hr;rfl
 |ixs _ _=>
  simp only[O.res]at hr;obtain⟨_,_,hr⟩ :=zah hr;obtain⟨_,_,hr⟩ :=zah hr;cases hr;rfl
 |ixa _ _ _ _ _=>
  simp only[O.res]at hr;obtain⟨_,_,hr⟩ :=zah hr;obtain⟨_,_,hr⟩ :=zah hr;cases hr;rfl
 |ext _ _=>
  simp only[O.res]at hr;obtain⟨_,_,hr⟩ :=zah hr;cases hr;rfl
 |app _ _ _ _=>
  simp only[O.res]at hr;obtain⟨_,_,hr⟩ :=zah hr;obtain⟨_,_,hr⟩ :=zah hr;cases hr;rfl
 |apz _ _ _ _ _=>
  simp only[O.res]at hr;obtain⟨_,_,hr⟩ :=zah hr;obtain⟨_,_,hr⟩ :=zah hr;cases hr;rfl
 |cpy _ _ _=>
  simp only[O.res]at hr;obtain⟨_,_,hr⟩ :=zah hr;obtain⟨_,_,hr⟩ :=zah hr;cases hr;rfl
 |clr _ _ _=>
  simp only[O.res]at hr;obtain⟨_,_,hr⟩ :=zah hr;cases hr;rfl
 |len _=>
  simp only[O.res]at hr;obtain⟨_,_,hr⟩ :=zah hr;cases hr;rfl
 |lns _=>
  simp only[O.res]at hr;obtain⟨_,_,hr⟩ :=zah hr;cases hr;rfl
 |mlen _=>
  simp only[O.res]at hr;obtain⟨_,_,hr⟩ :=zah hr;cases hr;rfl
 |cap _=>
  simp only[O.res]at hr;obtain⟨_,_,hr⟩ :=zah hr;cases hr;rfl
 |mm _ _ _=>
  simp only[O.res]at hr;obtain⟨_,_,hr⟩ :=zah hr;obtain⟨_,_,hr⟩ :=zah hr;cases hr;rfl
 |mmk=>
  simp only[O.res]at hr;cases hr;rfl
 |mup _ _ _ _=>
  simp only[O.res]at hr;obtain⟨_,_,hr⟩ :=zah hr;obtain⟨_,_,hr⟩ :=zah hr;obtain⟨_,_,hr⟩ :=zah hr;cases hr;rfl
 |mlk _ _ _ _ _=>
  simp only[O.res]at hr;obtain⟨_,_,hr⟩ :=zah hr;obtain⟨_,_,hr⟩ :=zah hr;cases hr;rfl
 |callp _ _=>cases hk
 |call _ _=>cases hk
 |callv _ _=>cases hk
end
end Go.Vse
end
section
namespace Go.Vse
variable [Globs]
def zk1{α:Type}(t:T α):t.gk=t.get:=funext (T.znK t)
structure RS(k:SK)(s:St):Prop where
 tm:Rt k.tm s.tm
 h:k.h=s.h
 c:k.c=s.c
 lw:k.lw=s.lw
 mx:k.mx=s.mx
theorem zpW:∀(l:List (Nat×Option Ob)) (h:T Ob),zlA h l=wrT h l
 |[],_=>rfl
 |(id,some ob)::l,h=>by rw[zlA,wrT,zpW l,T.zkp];rfl
 |(id,none)::l,h=>by rw[zlA,wrT,zpW l,T.zkp];rfl
theorem zqP:∀(l:List (Nat×Option Ob)) (m:Nat),zlz m l=zcW m l
 |[],_=>rfl
 |(id,o)::l,m=>by
  rw[zlz,zcW,zqP l]
  by_cases hlt:id<m
  .rw[if_pos hlt,show Nat.blt id m=true by simpa [Nat.blt_eq]using hlt]
  .rw[if_neg hlt,show Nat.blt id m=false by
    cases hc:Nat.blt id m with
    |false=>rfl
    |true=>exact absurd (by simpa [Nat.blt_eq]using hc) hlt]
def zG9(a b:Nat):ziU a b=Nat.max a b:=by
 unfold ziU
 by_cases hle:a<=b
 .rw[show Nat.ble a b=true by simpa [Nat.ble_eq]using hle];exact (Nat.max_eq_right hle).symm
 .rw[show Nat.ble a b=false by
   cases hc:Nat.ble a b with
   |false=>rfl
   |true=>exact absurd (by simpa [Nat.ble_eq]using hc) hle]
  exact (Nat.max_eq_left (Nat.le_of_lt (Nat.lt_of_not_le hle))).symm
def zy6(tm:TM)(h:T Ob)(c lw mx:Nat)(p:Fp):fin tm h c lw mx p=some (⟨tm,h,c,lw,Nat.max mx (c+1)⟩,p):=by
 unfold fin
 by_cases hle:mx<=c+1
 .rw[show Nat.ble mx (Nat.succ c)=true by simpa [Nat.ble_eq]using hle,show Nat.max mx (c+1)=c+1 from Nat.max_eq_right hle]
 .rw[show Nat.ble mx (Nat.succ c)=false by
   cases hc:Nat.ble mx (Nat.succ c)with
   |false=>rfl
   |true=>exact absurd (by simpa [Nat.ble_eq]using hc) hle,show Nat.max mx (c+1)=mx from Nat.max_eq_left (by omega)]
def zGC(tm:TM)(h:T Ob)(c lw mx:Nat)(p:Fp):fin2 tm h c lw mx p=some (⟨tm,h,c,lw,Nat.max mx (c+1)⟩,p):=by
 unfold fin2;rw[show Nat.ble lw lw=true by simp[Nat.ble_eq],zy6]
section
variable {tm:TM}{t:T D}
theorem zvg(ht:Rt tm t){h:T Ob}{c lw mx:Nat}{dst:Option Nat}{r:Option Rs}{k:SK}{p:Fp}(hs:zm3 tm h c lw mx dst r=some (k,p)):
  ∃s,zcE ⟨t,h,c,lw,mx⟩ dst r=some (s,p)/\RS k s:=by
 cases r with
 |none=>cases hs
 |some r=>
  obtain⟨d,rd,wr,c'⟩ :=r;cases wr with
  |nil=>
   have e:zm3 tm h c lw mx dst (some ⟨d,rd,[],c'⟩)=fin (ziV tm dst d) h c' lw mx ⟨false,rd,[],c,Nat.succ c',h,h⟩ :=rfl;rw[e,zy6]at hs;cases hs;exact⟨_,rfl,⟨ht.put dst d,rfl,rfl,rfl,rfl⟩⟩
  |cons x wr=>
   have e:zm3 tm h c lw mx dst (some ⟨d,rd,x::wr,c'⟩)= @Bool.rec (fun _=>Option (SK×Fp)) none
    (fin2 (ziV tm dst d) (zlA h (x::wr)) c' (zlz lw (x::wr)) mx ⟨false,rd,(x::wr).map (·.1),c,Nat.succ c',h,zlA h (x::wr)⟩) (zao c' (x::wr)):=rfl
   rw[e]at hs;cases hw:zao c' (x::wr)with
   |false=>rw[hw]at hs;cases hs
   |true=>
    rw[hw]at hs;simp only[zGC,zpW,zqP,Z46,Prod.mk.injEq]at hs;obtain⟨rfl,rfl⟩ :=hs;refine⟨⟨zcX t dst d,wrT h (x::wr),c',zcW lw (x::wr),Nat.max mx (c'+1)⟩,?_,⟨ht.put dst d,rfl,rfl,rfl,rfl⟩⟩;simp only[zcE,hw];rfl
theorem zvh(ht:Rt tm t){h:T Ob}{c lw mx:Nat}{dst:Option Nat}{q:Option CR}{k:SK}{p:Fp}(hs:zm5 tm h c lw mx dst q=some (k,p)):
  ∃s,zf1 ⟨t,h,c,lw,mx⟩ dst q=some (s,p)/\RS k s:=by
 cases q with
 |none=>cases hs
 |some q=>
  obtain⟨d,h',c',lw',mx'⟩ :=q;have e:zm5 tm h c lw mx dst (some ⟨d,h',c',lw',mx'⟩)= @Bool.rec (fun _=>Option (SK×Fp)) none
   (some (⟨ziV tm dst d,h',c',@Bool.rec (fun _=>Nat) lw' lw (Nat.ble lw lw'),ziU mx mx'⟩,⟨true,[],[],c,mx',h,h'⟩)) (Nat.ble (ziU mx mx') (ziU mx mx')):=rfl
  rw[e,show Nat.ble (ziU mx mx') (ziU mx mx')=true by simp[Nat.ble_eq]]at hs;cases hs;refine⟨_,rfl,⟨ht.put dst d,rfl,rfl,?_,zG9 _ _⟩⟩;simp only
  by_cases hle:lw<=lw'
  .rw[show Nat.ble lw lw'=true by simpa [Nat.ble_eq]using hle];exact (Nat.min_eq_left hle).symm
  .rw[show Nat.ble lw lw'=false by
    cases hc:Nat.ble lw lw' with
    |false=>rfl
    |true=>exact absurd (by simpa [Nat.ble_eq]using hc) hle]
   exact (Nat.min_eq_right (Nat.le_of_lt (Nat.lt_of_not_le hle))).symm
def zCC(ht:Rt tm t)(g:Option (Nat×Bool)):zxM tm g=zb7 t g:=by
 cases g with
 |none=>rfl
 |some p=>
  obtain⟨s,w⟩ :=p;have e:zxM tm (some (s,w))=oL (getM tm s) (zrA w):=rfl;rw[e,ht s];simp only[zb7];cases t.get s with
  |none=>rfl
  |some d=>
   have e2:oL (some d) (zrA w)=zrA w d:=rfl;rw[e2];cases d with
   |f x=>
    cases x with
    |b x=>cases x<;>cases w<;>rfl
    |_=>rfl
   |_=>rfl
end
def EV(p:Nat->Prop):Prop:=∃N,∀n,N<=n->p n
def EV.and{p q:Nat->Prop}(hp:EV p)(hq:EV q):EV fun n=>p n/\q n:=by
 obtain⟨N,h1⟩ :=hp;obtain⟨M,h2⟩ :=hq;exact⟨N+M,fun n hn=>⟨h1 n (by omega),h2 n (by omega)⟩⟩
def EV.mono{p q:Nat->Prop}(hp:EV p)(h:∀n,p n->q n):EV q:=hp.imp fun _ h1 n hn=>h n (h1 n hn)
def EV.all{p:Nat->Prop}(h:∀n,p n):EV p:=⟨0,fun n _=>h n⟩
def EV.ge(N:Nat):EV fun n=>N<=n:=⟨N,fun _ h=>h⟩
def Con(pr:Pr)(f:Nat)(args:List D)(h:T Ob)(c:Nat)(q:CR):Prop:=EV fun n=>zcG pr n f args h c=some q
def Ans(pr:Pr)(f:Nat)(fs:List F)(x:F):Prop:=∃q rd,Con pr f (F.dL fs) .e 0 q/\frz q.h.get 12 q.d=some (x,rd)
section
variable {pr:Pr}{orc:Orc}{clK:Cl}
def zhH(pr:Pr)(orc:Orc):Prop:=∀f fs x,orc f fs=some x->Ans pr f fs x
def zjF(pr:Pr)(clK:Cl):Prop:=∀f args h c q,clK f args h c=some q->Con pr f args h c q
theorem zyG(ho:zhH pr orc)(hc:zjF pr clK){h:Nat->Option Ob}{c f:Nat}{args:List D}{r:Rs}(hs:zkT orc clK h c f args=some r):
  EV fun n=>zeu (zcG pr n) h c f args=some r:=by
 unfold zkT at hs;split at hs
 .cases hs
 .rename_i fs rd hfz;split at hs
  .rename_i x hx;obtain⟨q,rd',h1,h2⟩ :=ho f fs x hx;refine h1.mono fun n hn=> ?_
   simp only[zeu,hfz,hn,h2];rw[<-hs,F.zwd]
  .split at hs
   .cases hs
   .rename_i q hq;split at hs
    .cases hs
    .rename_i x rd' hx;refine (hc _ _ _ _ _ hq).mono fun n hn=> ?_
     rw[zk1]at hx;simp only[zeu,hfz,hn,hx];rw[<-hs,F.zwd]
theorem zCr(ho:zhH pr orc)(hc:zjF pr clK){tm:TM}{t:T D}(ht:Rt tm t){o:O A}{gd:Option (Nat×Bool)}{dst:Option Nat}{h:T Ob}{c lw mx:Nat}{k:SK}{p:Fp}
  (hs:zry orc clK o dst tm h c lw mx=some (k,p)):∃s,RS k s/\EV fun n=>step (zcG pr n) ⟨t,h,c,lw,mx⟩ ⟨dst,gd,o⟩ =some (s,p):=by
 unfold zry at hs;cases hk:kcl o with
 |p f args=>
  have ho':o= .callp f args:=by cases o<;>simp[kcl]at hk;obtain⟨rfl,rfl⟩ :=hk;rfl
  subst ho';rw[hk]at hs;simp only[zjr ht]at hs;cases hm:zat (zad t) args with
  |none=>rw[hm]at hs;cases hs
  |some ds=>
   rw[hm]at hs;have hs':zm3 tm h c lw mx dst (zkT orc clK h.gk c f ds)=some (k,p):=hs;cases hr:zkT orc clK h.gk c f ds with
   |none=>rw[hr]at hs';cases hs'
   |some r=>
    rw[hr]at hs';obtain⟨s,h1,h2⟩ :=zvg ht hs';refine⟨s,h2,(zyG ho hc hr).mono fun n hn=> ?_⟩;simp only[step,O.res,Z48,hm,Z47,kindOf];rw[zk1]at hn;rw[hn];exact h1
 |q f args=>
  have ho':o= .call f args:=by cases o<;>simp[kcl]at hk;obtain⟨rfl,rfl⟩ :=hk;rfl
  subst ho';rw[hk]at hs;simp only[zjr ht]at hs;cases hm:zat (zad t) args with
  |none=>rw[hm]at hs;cases hs
  |some ds=>
   rw[hm]at hs;have hs':zm5 tm h c lw mx dst (clK f ds h c)=some (k,p):=hs;cases hr:clK f ds h c with
   |none=>rw[hr]at hs';cases hs'
   |some r=>
    rw[hr]at hs';obtain⟨s,h1,h2⟩ :=zvh ht hs';refine⟨s,h2,(hc _ _ _ _ _ hr).mono fun n hn=> ?_⟩;simp only[step,O.res,Z48,hm,Z47,kindOf];rw[hn];exact h1
 |v x args=>
  have ho':o= .callv x args:=by cases o<;>simp[kcl]at hk;obtain⟨rfl,rfl⟩ :=hk;rfl
  subst ho';rw[hk]at hs;simp only[zjr ht,zaH ht]at hs;cases hx:zad t x with
  |none=>rw[hx]at hs;cases hs
  |some d=>
   rw[hx]at hs;cases hm:zat (zad t) args with
   |none=>rw[hm]at hs;cases hs
   |some ds=>
    rw[hm]at hs;have hs':zrZ clK dst ds tm h c lw mx d=some (k,p):=hs;have main:∀f as,kindOf (.callv d ds)= .q f as->zm5 tm h c lw mx dst (clK f as h c)=some (k,p)->
      ∃s,RS k s/\EV fun n=>step (zcG pr n) ⟨t,h,c,lw,mx⟩ ⟨dst,gd,.callv x args⟩ =some (s,p):=by
     intro f as hkd hs';cases hr:clK f as h c with
     |none=>rw[hr]at hs';cases hs'
     |some r=>
      rw[hr]at hs';obtain⟨s,h1,h2⟩ :=zvh ht hs';refine⟨s,h2,(hc _ _ _ _ _ hr).mono fun n hn=> ?_⟩;simp only[step,O.res,Z48,hm,hx,Z47,hkd];rw[hn];exact h1
    unfold zrZ at hs';split at hs'
    .exact main _ _ rfl hs'
    .exact main _ _ rfl hs'
    .cases hs'
 |n=>
  rw[hk]at hs;have hs':zm3 tm h c lw mx dst (opK o tm h.gk c)=some (k,p):=hs;rw[zLL ht _ _ _ hk]at hs';cases hr:o.res (zad t)with
  |none=>rw[hr]at hs';cases hs'
  |some o'=>
   rw[hr]at hs';simp only[Z47]at hs';obtain⟨s,h1,h2⟩ :=zvg ht hs';refine⟨s,h2,EV.all fun n=> ?_⟩;simp only[step,hr,zrm hk hr];rw[zk1]at h1;exact h1
theorem zuV(ho:zhH pr orc)(hc:zjF pr clK){k k':SK}{s:St}(hr:RS k s){o:Op}{p:Fp}(hs:zmR orc clK k o=some (k',p)):
  ∃s',RS k' s'/\EV fun n=>zeH (zcG pr n) s o=some (s',p):=by
 obtain⟨tm,h,c,lw,mx⟩ :=k;obtain⟨t,h',c',lw',mx'⟩ :=s;obtain⟨ht,e1,e2,e3,e4⟩ :=hr;simp only at ht e1 e2 e3 e4;subst e1 e2 e3 e4;obtain⟨dst,gd,o⟩ :=o;have hs':zBI orc clK dst gd o tm h c lw mx=some (k',p):=hs;unfold zBI at hs';rw[zCC ht]at hs';cases hw:zb7 t gd with
 |none=>rw[hw]at hs';cases hs'
 |some b=>
  rw[hw]at hs';cases b with
  |true=>
   obtain⟨s,h1,h2⟩ :=zCr (gd:=gd) ho hc ht (show zry orc clK o dst tm h c lw mx=some (k',p)from hs');refine⟨s,h1,h2.mono fun n hn=> ?_⟩;simp only[zeH,hw];exact hn
  |false=>
   have hs2:some (SK.mk (ziV tm dst (.f .un)) h c lw mx,Fp.mk false [] [] c c h h)=some (k',p):=hs';cases hs2;refine⟨⟨zcX t dst (.f .un),h,c,lw,mx⟩,⟨ht.put dst (.f .un),rfl,rfl,rfl,rfl⟩,EV.all fun n=> ?_⟩;simp only[zeH,hw]
theorem zuZ(ho:zhH pr orc)(hc:zjF pr clK):∀(l:List Op) (k k':SK) (s:St),RS k s->runK orc clK l k=some k'->∃s',RS k' s'/\EV fun n=>ze8 (zcG pr n) l s=some s'
 |[],k,k',s,hr,hs=>by
  cases hs;exact⟨s,hr,EV.all fun n=>rfl⟩
 |o::l,k,k',s,hr,hs=>by
  have e:runK orc clK (o::l) k= @Option.rec (SK×Fp) (fun _=>Option SK) none (fun p=>@Prod.rec SK Fp (fun _=>Option SK) (fun s' _=>runK orc clK l s') p) (zmR orc clK k o):=rfl;rw[e]at hs;cases h1:zmR orc clK k o with
  |none=>rw[h1]at hs;cases hs
  |some y=>
   obtain⟨k1,p⟩ :=y;rw[h1]at hs;obtain⟨s1,r1,ev1⟩ :=zuV ho hc hr h1;obtain⟨s2,r2,ev2⟩ :=zuZ ho hc l k1 k' s1 r1 hs;refine⟨s2,r2,(ev1.and ev2).mono fun n ⟨a,b⟩ => ?_⟩;simp only[ze8,a];exact b
def zlX{p q:Fp}(h:p.ziI=true):q.apart p=true/\p.apart q=true:=by
 obtain⟨all,rd,wr,lo,hi,h1,h2⟩ :=p;obtain⟨all',rd',wr',lo',hi',h1',h2'⟩ :=q;have e:Fp.ziI ⟨all,rd,wr,lo,hi,h1,h2⟩ = @Bool.rec (fun _=>Bool) (@List.rec Nat (fun _=>Bool) (@List.rec Nat (fun _=>Bool) true (fun _ _ _=>false) wr) (fun _ _ _=>false) rd) false all:=rfl;rw[e]at h;cases all with
 |true=>cases h
 |false=>
  cases rd with
  |cons _ _=>cases h
  |nil=>
   cases wr with
   |cons _ _=>cases h
   |nil=>cases all'<;>simp[Fp.apart]
inductive Imp:List Fp->List (Nat×Fp)->Prop where
 |nil:Imp [] []
 |skip {l m p}:Imp l m->p.ziI=true->Imp (l++[p]) m
 |keep {l m p}:Imp l m->Imp (l++[p]) ((l.length,p)::m)
theorem zgp(p:Fp)(mask:Nat):∀(l:List Fp) (q:Fp) (i:Nat),zcb p mask (l++[q]) i=(zcb p mask l i&&(!mask.testBit (i+l.length)||q.apart p))
 |[],q,i=>by simp[zcb]
 |x::l,q,i=>by
  simp only[Z30,zcb,zgp p mask l q (i+1),Z24];rw[show i+1+l.length=i+(l.length+1) by omega,Bool.and_assoc]
def zyk{p:Fp}{mask:Nat}{l:List Fp}{m:List (Nat×Fp)}(hi:Imp l m):zhn p mask m=true->zcb p mask l 0=true:=by
 induction hi with
 |nil=>intro _;rfl
 |skip _ hl ih=>
  intro h;rw[zgp,ih h,(zlX (q:=p) hl).2];simp
 | @keep l m q _ ih=>
  intro h;rw[zgp];unfold zhn at h;have hb:mask.testBit l.length=Nat.beq (Nat.mod (Nat.div mask (Nat.pow 2 l.length)) 2) 1:=by
   rw[Nat.testBit_eq_decide_div_mod_eq];have:∀x:Nat,decide (x=1)=Nat.beq x 1:=fun x=>by
    cases hx:Nat.beq x 1 with
    |true=>simpa using Nat.eq_of_beq_eq_true hx
    |false=>simpa using Nat.ne_of_beq_eq_false hx
   exact this _
  rw[Z26,hb];split at h
  .rename_i hbt;split at h
   .rename_i ha;rw[ih h,ha];simp
   .cases h
  .rename_i hbf;rw[ih h,hbf];simp
theorem zqh{p:Fp}(h:p.ziI=true)(mask:Nat):∀(l:List Fp) (i:Nat),zcb p mask l i=true
 |[],_=>rfl
 |q::l,i=>by simp[zcb,(zlX (q:=q) h).1,zqh h mask l (i+1)]
theorem zyR(ho:zhH pr orc)(hc:zjF pr clK):∀(l:List (Op×Nat)) (fps:List Fp) (m:List (Nat×Fp)) (k k':SK) (s:St),Imp fps m->RS k s->
  drK orc clK l fps.length m k=some k'->∃s',RS k' s'/\EV fun n=>ze2 (zcG pr n) l fps s=some s'
 |[],fps,m,k,k',s,_,hr,hs=>by
  cases hs;exact⟨s,hr,EV.all fun n=>rfl⟩
 |(o,mask)::l,fps,m,k,k',s,hm,hr,hs=>by
  have e:drK orc clK ((o,mask)::l) fps.length m k= @Option.rec (SK×Fp) (fun _=>Option SK) none (fun p=>@Prod.rec SK Fp (fun _=>Option SK) (fun s' p=>
   @Bool.rec (fun _=>Option SK) (@Bool.rec (fun _=>Option SK) none (drK orc clK l (Nat.succ fps.length) ((fps.length,p)::m) (zlo s' p.hi)) (zhn p mask m)) (drK orc clK l (Nat.succ fps.length) m (zlo s' p.hi)) p.ziI) p) (zmR orc clK k o):=rfl
  rw[e]at hs;cases h1:zmR orc clK k o with
  |none=>rw[h1]at hs;cases hs
  |some y=>
   obtain⟨k1,p⟩ :=y;rw[h1]at hs;obtain⟨s1,r1,ev1⟩ :=zuV ho hc hr h1;have hrs:RS (zlo k1 p.hi) {s1 with c:=p.hi}:=by
    obtain⟨tm,h,c,lw,mx⟩ :=k1;exact⟨r1.tm,r1.h,rfl,r1.lw,r1.mx⟩
   have hlen:Nat.succ fps.length=(fps++[p]).length:=by simp
   have fin:∀m',Imp (fps++[p]) m'->zcb p mask fps 0=true->drK orc clK l (Nat.succ fps.length) m' (zlo k1 p.hi)=some k'->∃s',RS k' s'/\EV fun n=>ze2 (zcG pr n) ((o,mask)::l) fps s=some s':=by
    intro m' hm' ha hd;rw[hlen]at hd;obtain⟨s2,r2,ev2⟩ :=zyR ho hc l (fps++[p]) m' _ k' _ hm' hrs hd;refine⟨s2,r2,(ev1.and ev2).mono fun n ⟨a,b⟩ => ?_⟩;simp only[ze2,a,ha,if_true];exact b
   have hs':@Bool.rec (fun _=>Option SK) (@Bool.rec (fun _=>Option SK) none (drK orc clK l (Nat.succ fps.length) ((fps.length,p)::m) (zlo k1 p.hi)) (zhn p mask m)) (drK orc clK l (Nat.succ fps.length) m (zlo k1 p.hi)) p.ziI=some k':=hs;cases hl:p.ziI with
   |true=>
    rw[hl]at hs';exact fin m (hm.skip hl) (zqh hl mask fps 0) hs'
   |false=>
    rw[hl]at hs';cases ha:zhn p mask m with
    |false=>rw[ha]at hs';cases hs'
    |true=>
     rw[ha]at hs';exact fin _ hm.keep (zyk hm ha) hs'
theorem zpH{body:St->Option (Ex×St)}:∀(n m:Nat) (s:St) (r:Ex×St),n<=m->iter body n s=some r->iter body m s=some r
 |0,_,_,_,_,h=>by cases h
 |n+1,0,_,_,h,_=>by omega
 |n+1,m+1,s,r,hle,h=>by
  simp only[iter]at h|-;cases hb:body s with
  |none=>simp only[hb]at h;cases h
  |some y=>
   obtain⟨x,s'⟩ :=y;cases x with
   |nrm=>
    simp only[hb]at h|-;exact zpH n m s' r (by omega) h
   |exit i=>simp only[hb]at h|-;exact h
   |ret=>simp only[hb]at h|-;exact h
def RX(r:Ex×SK)(r':Ex×St):Prop:=r.1=r'.1/\RS r.2 r'.2
theorem ztE{r:Option (Ex×SK)}{kk:SK->Option (Ex×SK)}{y:Ex×SK}(h:zoh r kk=some y):
  (∃k,r=some (.nrm,k)/\kk k=some y)\/(∃x k,r=some (x,k)/\x≠ .nrm/\y=(x,k)):=by
 cases r with
 |none=>cases h
 |some z=>
  obtain⟨x,k⟩ :=z;cases x with
  |nrm=>exact .inl ⟨k,rfl,h⟩
  |exit i=>cases h;exact .inr ⟨_,_,rfl,by simp,rfl⟩
  |ret=>cases h;exact .inr ⟨_,_,rfl,by simp,rfl⟩
theorem zgu(ho:zhH pr orc)(hc:zjF pr clK)(lf:Nat):∀(c:C) (k:SK) (s:St) (r:Ex×SK),RS k s->evK orc clK lf c k=some r->
  ∃r',RX r r'/\EV fun n=>evC (zcG pr n) n c s=some r'
 | .skip,k,s,r,hr,hs=>by cases hs;exact⟨(.nrm,s),⟨rfl,hr⟩,EV.all fun n=>rfl⟩
 | .exit id,k,s,r,hr,hs=>by cases hs;exact⟨(.exit id,s),⟨rfl,hr⟩,EV.all fun n=>rfl⟩
 | .ret,k,s,r,hr,hs=>by cases hs;exact⟨(.ret,s),⟨rfl,hr⟩,EV.all fun n=>rfl⟩
 | .reg ops,k,s,r,hr,hs=>by
  have hs':zw5 (runK orc clK ops k)=some r:=hs;cases h1:runK orc clK ops k with
  |none=>rw[h1]at hs';cases hs'
  |some k1=>
   rw[h1]at hs';cases hs';obtain⟨s1,r1,ev1⟩ :=zuZ ho hc ops k k1 s hr h1;exact⟨(.nrm,s1),⟨rfl,r1⟩,ev1.mono fun n hn=>by simp only[evC,hn]⟩
 | .dreg ops,k,s,r,hr,hs=>by
  have hs':zw5 (drK orc clK ops 0 [] k)=some r:=hs;cases h1:drK orc clK ops 0 [] k with
  |none=>rw[h1]at hs';cases hs'
  |some k1=>
   rw[h1]at hs';cases hs';obtain⟨s1,r1,ev1⟩ :=zyR ho hc ops [] [] k k1 s .nil hr h1;exact⟨(.nrm,s1),⟨rfl,r1⟩,ev1.mono fun n hn=>by simp only[evC,hn]⟩
 | .seq a b,k,s,r,hr,hs=>by
  have hs':zoh (evK orc clK lf a k) (evK orc clK lf b)=some r:=hs;rcases ztE hs' with⟨k1,h1,h2⟩ |⟨x,k1,h1,hx,rfl⟩
  .obtain⟨⟨x',s1⟩,⟨e1,r1⟩,ev1⟩ :=zgu ho hc lf a k s _ hr h1;simp only at e1 r1;subst e1;obtain⟨r2,x2,ev2⟩ :=zgu ho hc lf b k1 s1 _ r1 h2;exact⟨r2,x2,(ev1.and ev2).mono fun n ⟨p,q⟩ =>by simp only[evC,p];exact q⟩
  .obtain⟨⟨x',s1⟩,⟨e1,r1⟩,ev1⟩ :=zgu ho hc lf a k s _ hr h1;simp only at e1 r1;subst e1;refine⟨(x,s1),⟨rfl,r1⟩,ev1.mono fun n p=> ?_⟩;simp only[evC,p];cases x<;>simp_all
 | .cond x a b,k,s,r,hr,hs=>by
  have hs':@Option.rec D (fun _=>Option (Ex×SK)) none (fun d=>@Option.rec Bool (fun _=>Option (Ex×SK)) none (fun b'=>@Bool.rec (fun _=>Option (Ex×SK)) (evK orc clK lf b k) (evK orc clK lf a k) b') (zq4 d)) (zdx k.tm x)=some r:=hs;rw[zaH hr.tm]at hs';cases hx:zad s.tm x with
  |none=>rw[hx]at hs';cases hs'
  |some d=>
   rw[hx]at hs';cases hd:zq4 d with
   |none=>simp only[hd]at hs';cases hs'
   |some b'=>
    simp only[hd]at hs';have hde:d= .f (.b b'):=by
     unfold zq4 at hd;split at hd
     .cases hd;rfl
     .cases hd
    subst hde;cases b' with
    |true=>
     obtain⟨r2,x2,ev2⟩ :=zgu ho hc lf a k s _ hr hs';exact⟨r2,x2,ev2.mono fun n p=>by simp only[evC,hx];exact p⟩
    |false=>
     obtain⟨r2,x2,ev2⟩ :=zgu ho hc lf b k s _ hr hs';exact⟨r2,x2,ev2.mono fun n p=>by simp only[evC,hx];exact p⟩
 | .blk id c,k,s,r,hr,hs=>by
  have hs':blkK id (evK orc clK lf c k)=some r:=hs;cases h1:evK orc clK lf c k with
  |none=>rw[h1]at hs';cases hs'
  |some y=>
   obtain⟨x,k1⟩ :=y;rw[h1]at hs';obtain⟨⟨x',s1⟩,⟨e1,r1⟩,ev1⟩ :=zgu ho hc lf c k s _ hr h1;simp only at e1 r1;subst e1;cases x with
   |nrm=>cases hs';exact⟨(.nrm,s1),⟨rfl,r1⟩,ev1.mono fun n p=>by simp only[evC,p]⟩
   |ret=>cases hs';exact⟨(.ret,s1),⟨rfl,r1⟩,ev1.mono fun n p=>by simp only[evC,p]⟩
   |exit i=>
    have hs2:@Bool.rec (fun _=>Option (Ex×SK)) (some (.exit i,k1)) (some (.nrm,k1)) (Nat.beq i id)=some r:=hs';cases hb:Nat.beq i id with
    |true=>
     rw[hb]at hs2;cases hs2;exact⟨(.nrm,s1),⟨rfl,r1⟩,ev1.mono fun n p=>by simp only[evC,p];rw[if_pos (Nat.eq_of_beq_eq_true hb)]⟩
    |false=>
     rw[hb]at hs2;cases hs2;exact⟨(.exit i,s1),⟨rfl,r1⟩,ev1.mono fun n p=>by simp only[evC,p];rw[if_neg (Nat.ne_of_beq_eq_false hb)]⟩
 | .loop c,k,s,r,hr,hs=>by
  have hs':zrj (evK orc clK lf c) lf k=some r:=hs;have key:∀(m:Nat) (k:SK) (s:St),RS k s->zrj (evK orc clK lf c) m k=some r->∃r',RX r r'/\EV fun n=>iter (evC (zcG pr n) n c) m s=some r':=by
   intro m
   induction m with
   |zero=>intro k s _ h;cases h
   |succ m ih=>
    intro k s hr h;have h':zoh (evK orc clK lf c k) (zrj (evK orc clK lf c) m)=some r:=h;rcases ztE h' with⟨k1,h1,h2⟩ |⟨x,k1,h1,hx,rfl⟩
    .obtain⟨⟨x',s1⟩,⟨e1,r1⟩,ev1⟩ :=zgu ho hc lf c k s _ hr h1;simp only at e1 r1;subst e1;obtain⟨r2,x2,ev2⟩ :=ih k1 s1 r1 h2;exact⟨r2,x2,(ev1.and ev2).mono fun n ⟨p,q⟩ =>by simp only[iter,p];exact q⟩
    .obtain⟨⟨x',s1⟩,⟨e1,r1⟩,ev1⟩ :=zgu ho hc lf c k s _ hr h1;simp only at e1 r1;subst e1;refine⟨(x,s1),⟨rfl,r1⟩,ev1.mono fun n p=> ?_⟩;simp only[iter,p];cases x<;>simp_all
  obtain⟨r',x',ev⟩ :=key lf k s hr hs';exact⟨r',x',(ev.and (EV.ge lf)).mono fun n ⟨p,q⟩ =>by simp only[evC];exact zpH lf n s r' q p⟩
theorem zAk:∀(l:List D) (i:Nat) (tm:TM) (t:T D),Rt tm t->Rt (tmK l i tm) (zaj l i t)
 |[],_,_,_,h=>h
 |d::l,i,tm,t,h=>by
  rw[tmK,zaj];refine zAk l (i+1) _ _ fun j=> ?_
  rw[zqe,h j,T.zab]
def zB1{k:SK}{s:St}(hr:RS k s)(v:Rv):zxu k v=resV s v:=by
 cases v with
 |t n=>exact hr.tm n
 |cell n g sz=>
  simp only[zxu,resV,hr.tm n,hr.h,zk1];cases s.tm.get n<;>rfl
theorem zsV{k:SK}{s:St}(hr:RS k s):∀l,zrv k l=zat (resV s) l
 |[]=>rfl
 |x::l=>by
  rw[zrv,zat,zB1 hr,zsV hr l];cases resV s x with
  |none=>rfl
  |some y=>cases zat (resV s) l<;>rfl
def zB0{k:SK}{s:St}(hr:RS k s)(l:List Rv):zxt k l=resD s l:=by
 unfold zxt resD;rw[zsV hr];cases zat (resV s) l with
 |none=>rfl
 |some m=>
  cases m with
  |nil=>rfl
  |cons a m=>cases m<;>rfl
theorem zsi(ho:zhH pr orc):∀n,zjF pr (zq7 orc pr n)
 |0=>fun f args h c q hq=>by cases hq
 |n+1=>fun f args h c q hq=>by
  simp only[zq7]at hq;cases hf:pr.fn f with
  |some fn=>
   simp only[hf]at hq;unfold fnK at hq;split at hq
   .cases hq
   .cases hq
   .rename_i x k hne hev;have hr0:RS (SK.mk (tmK args 0 {}) h c c c) (St.mk (zaj args 0 .e) h c c c):=⟨zAk args 0 {} .e fun i=>by rw[zBq];rfl,rfl,rfl,rfl,rfl⟩
    obtain⟨⟨x',s⟩,⟨e1,r1⟩,ev1⟩ :=zgu ho (zsi ho n) n fn.body _ _ _ hr0 hev;simp only at e1 r1;subst e1;split at hq
    .cases hq
    .rename_i d hd;rw[zB0 r1]at hd;have key:EV fun m=>zfE (evC (zcG pr m) m) fn args h c=some q:=by
      refine ev1.mono fun m hm=> ?_
      simp only[zfE,hm];have fin:(match resD s fn.res with|none=>none|some d=>if Nat.beq s.lw c&&d.isF then some (CR.mk d h c c s.mx)else some (CR.mk d s.h s.c s.lw s.mx))=some q:=by
       simp only[hd];rw[<-r1.lw,<-r1.mx,<-r1.h,<-r1.c];split at hq
       .rename_i hb;split at hq
        .rename_i hi;rw[hb,hi];simpa using hq
        .rename_i hi;rw[hb,hi];simpa using hq
       .rename_i hb;rw[hb];simpa using hq
      cases x with
      |nrm=>exact fin
      |ret=>exact fin
      |exit i=>exact absurd rfl (hne i)
     obtain⟨N,hN⟩ :=key;refine⟨N+1,fun m hm=> ?_⟩;obtain⟨m,rfl⟩ :∃m',m=m'+1:=⟨m - 1,by omega⟩
     simp only[zcG,hf];exact hN m (by omega)
  |none=>
   simp only[hf]at hq;refine⟨1,fun m hm=> ?_⟩;obtain⟨m,rfl⟩ :∃m',m=m'+1:=⟨m - 1,by omega⟩
   simp only[zcG,hf];exact hq
end
end Go.Vse
end
section
namespace Go.Vse
variable [Globs]
section
variable (pr:Pr)
def zcS(r:Option (St×Fp))(Q:St->Fp->Prop):Prop:=
 match r with
 |some (s',p)=>Q s' p
 |none=>False
def zbz(o:Op)(s:St)(Q:St->Fp->Prop):Prop:=
 match zb7 s.tm o.gd with
 |none=>False
 |some false=>Q {s with tm:=zcX s.tm o.dst (.f .un)} {all:=false,rd:=[],wr:=[],lo:=s.c,hi:=s.c,h:=s.h,h':=s.h}
 |some true=>match o.o.res (zad s.tm)with
  |none=>False
  |some o'=>match kindOf o' with
   | .p f args=>match zc7 s.h.get args with
    |none=>False
    |some (fs,rd)=>∃x,Ans pr f fs x/\zcS (zcE s o.dst (some {d:=x.d,rd,wr:=zaw s.h.get rd,c:=s.c})) Q
   | .q f args=>∃q,Con pr f args s.h s.c q/\zcS (zf1 s o.dst (some q)) Q
   | .n=>zcS (zcE s o.dst (opv s.h.get s.c o')) Q
   | .bad=>False
def wpO:List Op->St->(St->Prop)->Prop
 |[],s,Q=>Q s
 |o::l,s,Q=>zbz pr o s fun s' _=>wpO l s' Q
def wpD:List (Op×Nat)->List Fp->St->(St->Prop)->Prop
 |[],_,s,Q=>Q s
 |(o,mask)::l,fps,s,Q=>zbz pr o s fun s' p=>zcb p mask fps 0=true/\wpD l (fps++[p]) {s' with c:=p.hi} Q
def wpC:C->St->(Ex->St->Prop)->Prop
 | .skip,s,Q=>Q .nrm s
 | .reg ops,s,Q=>wpO pr ops s (Q .nrm)
 | .dreg ops,s,Q=>wpD pr ops [] s (Q .nrm)
 | .seq a b,s,Q=>wpC a s fun x s'=>match x with
  | .nrm=>wpC b s' Q
  |x=>Q x s'
 | .cond x a b,s,Q=>match zad s.tm x with
  |some (.f (.b true))=>wpC a s Q
  |some (.f (.b false))=>wpC b s Q
  |_=>False
 | .blk id c,s,Q=>wpC c s fun x s'=>match x with
  | .exit i=>if i=id then Q .nrm s' else Q (.exit i) s'
  |x=>Q x s'
 | .loop c,s,Q=>∃x s' m,Q x s'/\EV fun n=>iter (evC (zcG pr n) n c) m s=some (x,s')
 | .exit id,s,Q=>Q (.exit id) s
 | .ret,s,Q=>Q .ret s
variable {pr}
def ztN{o:Op}{s:St}{Q:St->Fp->Prop}(h:zbz pr o s Q):∃s' p,Q s' p/\EV fun n=>zeH (zcG pr n) s o=some (s',p):=by
 unfold zbz at h;split at h
 .exact h.elim
 .rename_i hw;exact⟨_,_,h,EV.all fun n=>by simp only[zeH,hw]⟩
 .rename_i hw;split at h
  .exact h.elim
  .rename_i o' hr;split at h
   .rename_i f args hk;split at h
    .exact h.elim
    .rename_i fs rd hfz;obtain⟨x,⟨q,rd',hc,hx⟩,h⟩ :=h;unfold zcS at h;split at h
     .rename_i s' p hst;refine⟨s',p,h,hc.mono fun n hn=> ?_⟩;simp only[zeH,hw,step,hr,hk,zeu,hfz,hn,hx];exact hst
     .exact h.elim
   .rename_i f args hk;obtain⟨q,hc,h⟩ :=h;unfold zcS at h;split at h
    .rename_i s' p hst;refine⟨s',p,h,hc.mono fun n hn=> ?_⟩;simp only[zeH,hw,step,hr,hk,hn];exact hst
    .exact h.elim
   .rename_i hk;unfold zcS at h;split at h
    .rename_i s' p hst;refine⟨s',p,h,EV.all fun n=> ?_⟩;simp only[zeH,hw,step,hr,hk];exact hst
    .exact h.elim
   .exact h.elim
theorem zAq:∀(l:List Op) (s:St) (Q:St->Prop),wpO pr l s Q->∃s',Q s'/\EV fun n=>ze8 (zcG pr n) l s=some s'
 |[],s,Q,h=>⟨s,h,EV.all fun _=>rfl⟩
 |o::l,s,Q,h=>by
  obtain⟨s1,p,h1,e1⟩ :=ztN h;obtain⟨s2,h2,e2⟩ :=zAq l s1 Q h1;exact⟨s2,h2,(e1.and e2).mono fun n ⟨a,b⟩ =>by simp only[ze8,a];exact b⟩
theorem zAp:∀(l:List (Op×Nat)) (fps:List Fp) (s:St) (Q:St->Prop),wpD pr l fps s Q->∃s',Q s'/\EV fun n=>ze2 (zcG pr n) l fps s=some s'
 |[],_,s,Q,h=>⟨s,h,EV.all fun _=>rfl⟩
 |(o,mask)::l,fps,s,Q,h=>by
  obtain⟨s1,p,⟨ha,h1⟩,e1⟩ :=ztN h;obtain⟨s2,h2,e2⟩ :=zAp l (fps++[p]) {s1 with c:=p.hi} Q h1;exact⟨s2,h2,(e1.and e2).mono fun n ⟨a,b⟩ =>by simp only[ze2,a,ha,if_true];exact b⟩
theorem zfa:∀(c:C) (s:St) (Q:Ex->St->Prop),wpC pr c s Q->∃x s',Q x s'/\EV fun n=>evC (zcG pr n) n c s=some (x,s')
 | .skip,s,Q,h=>⟨_,s,h,EV.all fun _=>rfl⟩
 | .exit id,s,Q,h=>⟨_,s,h,EV.all fun _=>rfl⟩
 | .ret,s,Q,h=>⟨_,s,h,EV.all fun _=>rfl⟩
 | .reg ops,s,Q,h=>by
  obtain⟨s',h1,e1⟩ :=zAq ops s _ h;exact⟨.nrm,s',h1,e1.mono fun n hn=>by simp only[evC,hn]⟩
 | .dreg ops,s,Q,h=>by
  obtain⟨s',h1,e1⟩ :=zAp ops [] s _ h;exact⟨.nrm,s',h1,e1.mono fun n hn=>by simp only[evC,hn]⟩
 | .seq a b,s,Q,h=>by
  obtain⟨x,s1,h1,e1⟩ :=zfa a s _ h;cases x with
  |nrm=>
   obtain⟨x2,s2,h2,e2⟩ :=zfa b s1 Q h1;exact⟨x2,s2,h2,(e1.and e2).mono fun n ⟨p,q⟩ =>by simp only[evC,p];exact q⟩
  |exit i=>exact⟨.exit i,s1,h1,e1.mono fun n p=>by simp only[evC,p]⟩
  |ret=>exact⟨.ret,s1,h1,e1.mono fun n p=>by simp only[evC,p]⟩
 | .cond x a b,s,Q,h=>by
  unfold wpC at h;split at h
  .rename_i hx;obtain⟨x2,s2,h2,e2⟩ :=zfa a s Q h;exact⟨x2,s2,h2,e2.mono fun n p=>by simp only[evC,hx];exact p⟩
  .rename_i hx;obtain⟨x2,s2,h2,e2⟩ :=zfa b s Q h;exact⟨x2,s2,h2,e2.mono fun n p=>by simp only[evC,hx];exact p⟩
  .exact h.elim
 | .blk id c,s,Q,h=>by
  obtain⟨x,s1,h1,e1⟩ :=zfa c s _ h;cases x with
  |nrm=>exact⟨.nrm,s1,h1,e1.mono fun n p=>by simp only[evC,p]⟩
  |ret=>exact⟨.ret,s1,h1,e1.mono fun n p=>by simp only[evC,p]⟩
  |exit i=>
   by_cases hi:i=id
   .simp only[hi,if_true]at h1;exact⟨.nrm,s1,h1,e1.mono fun n p=>by simp only[evC,p,hi,if_true]⟩
   .simp only[hi,if_false]at h1;exact⟨.exit i,s1,h1,e1.mono fun n p=>by simp only[evC,p,hi,if_false]⟩
 | .loop c,s,Q,h=>by
  obtain⟨x,s',m,h1,e1⟩ :=h;exact⟨x,s',h1,(e1.and (EV.ge m)).mono fun n ⟨p,q⟩ =>by simp only[evC];exact zpH m n s _ q p⟩
theorem zM8{c:C}{Q:Ex->St->Prop}(I:Nat->St->Prop)(hstep:∀k s,I k s->wpC pr c s fun x s'=>match x with
  | .nrm=>∃k',k'<k/\I k' s'
  |x=>Q x s'):∀(k:Nat) (s:St),I k s->wpC pr (.loop c) s Q:=by
 intro k
 induction k using Nat.strongRecOn with
 |ind k ih=>
  intro s hI;obtain⟨x,s1,hq,ev⟩ :=zfa c s _ (hstep k s hI);cases x with
  |nrm=>
   obtain⟨k',hlt,hI'⟩ :=hq;obtain⟨x2,s2,m,h2,e2⟩ :=ih k' hlt s1 hI';exact⟨x2,s2,m+1,h2,(ev.and e2).mono fun n ⟨p,q⟩ =>by simp only[iter,p];exact q⟩
  |exit i=>exact⟨.exit i,s1,1,hq,ev.mono fun n p=>by simp only[iter,p]⟩
  |ret=>exact⟨.ret,s1,1,hq,ev.mono fun n p=>by simp only[iter,p]⟩
def st0(args:List D)(h:T Ob)(c:Nat):St:={tm:=zaj args 0 .e,h,c,lw:=c,mx:=c}
end
end Go.Vse
end
section
namespace Go.Vse
variable [Globs]
def St.up(s:St)(dst:Option Nat)(d:D):St:={s with tm:=zcX s.tm dst d,mx:=Nat.max s.mx (s.c+1)}
def St.aft(s:St)(dst:Option Nat)(d:D)(wr:List (Nat×Option Ob))(c:Nat):St:=
 {tm:=zcX s.tm dst d,h:=wrT s.h wr,c,lw:=zcW s.lw wr,mx:=Nat.max s.mx (c+1)}
def zqG(t:T D)(i j:Nat)(d:D):(zcX t (some i) d).get j=if j=i then some d else t.get j:=T.zab ..
def zzD(t:T D)(d:D):zcX t none d=t:=rfl
def zE4(s:St)(dst:Option Nat)(d:D):(s.up dst d).tm=zcX s.tm dst d:=rfl
def up_h(s:St)(dst:Option Nat)(d:D):(s.up dst d).h=s.h:=rfl
def up_c(s:St)(dst:Option Nat)(d:D):(s.up dst d).c=s.c:=rfl
def zE2(s:St)(dst:Option Nat)(d:D):(s.up dst d).lw=s.lw:=rfl
def zya(s:St)(dst:Option Nat)(d:D)(wr:List (Nat×Option Ob))(c:Nat):(s.aft dst d wr c).tm=zcX s.tm dst d:=rfl
def zDb(s:St)(dst:Option Nat)(d:D)(wr:List (Nat×Option Ob))(c:Nat):(s.aft dst d wr c).h=wrT s.h wr:=rfl
def zC9(s:St)(dst:Option Nat)(d:D)(wr:List (Nat×Option Ob))(c:Nat):(s.aft dst d wr c).c=c:=rfl
def zx9(s:St)(dst:Option Nat)(d:D)(wr:List (Nat×Option Ob))(c:Nat):(s.aft dst d wr c).lw=zcW s.lw wr:=rfl
section
variable {pr:Pr}{l:List Op}{s:St}{Q:St->Prop}{dst:Option Nat}
theorem zvw{o:O A}{o':O D}(hr:o.res (zad s.tm)=some o')(hk:kindOf o'= .n){r:Rs}(hv:opv s.h.get s.c o'=some r)(hw:zao r.c r.wr=true)
  {R:St->Fp->Prop}(h:R (s.aft dst r.d r.wr r.c) {all:=false,rd:=r.rd,wr:=r.wr.map (·.1),lo:=s.c,hi:=r.c+1,h:=s.h,h':=wrT s.h r.wr}):
  zbz pr ⟨dst,none,o⟩ s R:=by
 simp only[zbz,zb7,hr,hk,hv,zcS,zcE,hw];exact h
theorem wpO_n{o:O A}{o':O D}(hr:o.res (zad s.tm)=some o')(hk:kindOf o'= .n){r:Rs}(hv:opv s.h.get s.c o'=some r)(hw:zao r.c r.wr=true)
  (h:wpO pr l (s.aft dst r.d r.wr r.c) Q):wpO pr (⟨dst,none,o⟩ ::l) s Q:=zvw hr hk hv hw h
def zxP{o:O A}{o':O D}{d:D}{rd:List Nat}(hr:o.res (zad s.tm)=some o')(hk:kindOf o'= .n)(hv:opv s.h.get s.c o'=some {d,rd,c:=s.c})
  (h:wpO pr l (s.up dst d) Q):wpO pr (⟨dst,none,o⟩ ::l) s Q:=zvw hr hk hv rfl h
def zM3{q x y:A}(h:∃b d e,zad s.tm q=some (.f (.b b))/\zad s.tm x=some d/\zad s.tm y=some e/\wpO pr l (s.up dst (if b then d else e)) Q):wpO pr (⟨dst,none,.pick q x y⟩ ::l) s Q:=by
 obtain⟨b,d,e,h1,h2,h3,h⟩ :=h;exact zxP (o':= .pick (.f (.b b)) d e) (rd:=[]) (by simp[O.res,h1,h2,h3]) rfl rfl h
def w_bin{op:BinOp}{x y:A}(h:∃a b,zad s.tm x=some (.f a)/\zad s.tm y=some (.f b)/\∃z,za3 op a b=some z/\wpO pr l (s.up dst (.f z)) Q):wpO pr (⟨dst,none,.bin op x y⟩ ::l) s Q:=by
 obtain⟨a,b,h1,h2,z,h3,h⟩ :=h;exact zxP (o':= .bin op (.f a) (.f b)) (rd:=[]) (by simp[O.res,h1,h2]) rfl (by simp[opv,h3,okF]) h
def w_not{x:A}(h:∃b,zad s.tm x=some (.f (.b b))/\wpO pr l (s.up dst (.f (.b !b))) Q):wpO pr (⟨dst,none,.un .not x⟩ ::l) s Q:=by
 obtain⟨b,h1,h⟩ :=h;exact zxP (o':= .un .not (.f (.b b))) (rd:=[]) (by simp[O.res,h1]) rfl rfl h
def faB(off:Nat):D->Option D
 | .ptr id es i j=>some (.ptr id es i (j+off))
 | .fptr cs=>some (.fptr (cs.drop off))
 |_=>none
def iaB(es:Nat)(x:D)(i:Nat):Option D:=
 match x with
 | .f (.sl es' els)=>if es=es' then(els[i]?).map D.fptr else none
 | .sl id off m es' _ _=>if es=es'/\i<m then some (.ptr id es (off+i) 0)else none
 |_=>none
theorem zIk{f:Nat}{args:List A}(h:∃ds,zat (zad s.tm) args=some ds/\∃fs rd,zc7 s.h.get ds=some (fs,rd)/\∃x,Ans pr f fs x/\zao s.c (zaw s.h.get rd)=true/\wpO pr l (s.aft dst x.d (zaw s.h.get rd) s.c) Q):
  wpO pr (⟨dst,none,.callp f args⟩ ::l) s Q:=by
 obtain⟨ds,h1,fs,rd,h2,x,h3,h4,h⟩ :=h;simp only[wpO,zbz,zb7,O.res,h1,Z48,Z47,kindOf,h2];refine⟨x,h3,?_⟩;simp only[zcS,zcE,h4];exact h
def St.cal(s:St)(dst:Option Nat)(q:CR):St:={tm:=zcX s.tm dst q.d,h:=q.h,c:=q.c,lw:=Nat.min s.lw q.lw,mx:=Nat.max s.mx q.mx}
def zM1{f:Nat}{args:List A}(h:∃ds,zat (zad s.tm) args=some ds/\∃q,Con pr f ds s.h s.c q/\wpO pr l (s.cal dst q) Q):wpO pr (⟨dst,none,.call f args⟩ ::l) s Q:=by
 obtain⟨ds,h1,q,h2,h⟩ :=h;simp only[wpO,zbz,zb7,O.res,h1,Z48,Z47,kindOf];exact⟨q,h2,h⟩
def zJS{x:A}{a b:C}{Q:Ex->St->Prop}(h:∃t,zad s.tm x=some (.f (.b t))/\(if t then wpC pr a s Q else wpC pr b s Q)):wpC pr (.cond x a b) s Q:=by
 obtain⟨t,h1,h⟩ :=h;unfold wpC;rw[h1];cases t<;>simpa using h
def zJX{Q:Ex->St->Prop}:wpC pr .skip s Q=Q .nrm s:=rfl
def zJV{id:Nat}{Q:Ex->St->Prop}:wpC pr (.exit id) s Q=Q (.exit id) s:=rfl
def c_ret{Q:Ex->St->Prop}:wpC pr .ret s Q=Q .ret s:=rfl
def zLN(t:T D)(n:Nat):zad t (.t n)=t.get n:=rfl
def zLM(t:T D)(x:F):zad t (.k x)=some x.d:=rfl
def zFJ(a b:Int):za3 .lss (.i .i64 a) (.i .i64 b)=some (.b (decide (a<b))):=rfl
def zFG(a b:Int):za3 .leq (.i .i64 a) (.i .i64 b)=some (.b (decide (a<=b))):=rfl
def zFD(a b:Int):za3 .geq (.i .i64 a) (.i .i64 b)=some (.b (decide (a≥b))):=rfl
def zFE(a b:Int):za3 .gtr (.i .i64 a) (.i .i64 b)=some (.b (decide (a>b))):=rfl
def zFC(a b:Int):za3 .eql (.i .i64 a) (.i .i64 b)=some (.b (a==b)):=rfl
def zFK(a b:Int):za3 .neq (.i .i64 a) (.i .i64 b)=some (.b (a != b)):=rfl
def zFB(a b:Int):za3 .add (.i .i64 a) (.i .i64 b)=some (.i .i64 (IntKind.i64.wrap (a+b))):=rfl
def zFU(a b:Int):za3 .sub (.i .i64 a) (.i .i64 b)=some (.i .i64 (IntKind.i64.wrap (a - b))):=rfl
def zFN(a b:Int)(h:b≠0):za3 .rem (.i .i64 a) (.i .i64 b)=some (.i .i64 (a.tmod b)):=by
 simp[za3,zrU,Go.binOp,Go.Op.intDiv,h,zhP];rfl
def zFM(a b:Int)(h:b≠0):za3 .quo (.i .i64 a) (.i .i64 b)=some (.i .i64 (IntKind.i64.wrap (a.tdiv b))):=by
 simp[za3,zrU,Go.binOp,Go.Op.intDiv,h,zhP];rfl
end
end Go.Vse
end
section
namespace Go.Vse
variable [Globs]
open Go.RowKit
section
variable {P:Program}{pur:Nat->Bool}{pr:Pr}
def zfX:Mu:=fun _ _=>False
def zoz(H:Array Obj):Prop:=∀n cs,Globs.data n=some cs->za8 H zfX n 0 cs
def zxT:zau zfX (T.e:T Ob).get (fun _=>none)=zfX:=by
 rw[zk0,zjH]
def sim_e(H:Array Obj)(hg:zoz H):Sim zfX H (T.e:T Ob).get (fun _=>none) (fun _=>False):=
 ⟨fun id ob h=>by simp[T.zwR]at h,fun id b h=>by simp at h,fun id id' b h=>by simp at h,fun id b i h=>by simp at h,fun id ob h=>by simp[T.zwR]at h,fun b i h=>h.elim,fun n cs h=>by rw[zxT];exact hg n cs h⟩
theorem land(hp:zvz P pur pr){f:Nat}{fs:List F}{vs:List Value}{w:World}(hgl:zoz w.heap)(hrel:zaO w.heap zfX fs vs){q:CR}(hc:Con pr f (F.dL fs) .e 0 q){b:Bool}(hd:q.d= .f (.b b)):
  Calls P f ⟨vs⟩ w fun e w'=>e= .returned (.bool b)/\Below w.heap.size w w':=by
 obtain⟨N,hN⟩ :=hc;have ok:=zpx hp N f _ _ _ _ (hN N (Z3 _));obtain⟨_,_,_,h⟩ :=ok;have hargs:zas w.heap (zau zfX (T.e:T Ob).get (fun _=>none)) (fun _=>none) (fun _=>False) (F.dL fs) vs:=by
  rw[zxT];exact zaO.dL fs vs hrel
 refine (h zfX (fun _=>none) (fun _=>False) w vs (sim_e _ hgl) (fun id _ _ h=>h) hargs).mono fun e w' ⟨v,he,hb,ρ',hr,_,hev⟩ => ?_
 rw[hd]at hr;simp only[Rel,zak]at hr;subst hr;subst he;exact⟨rfl,hb.os,hb.tape,hb.output,hev.size,fun k hk=>(hev.blk k hk fun id h=>by simp at h).1⟩
theorem zn4{H:Array Obj}{b:Nat}{k:IntKind}:∀(zs:List Int) (o:Nat),(∀i,i<zs.length->zbQ H b (o+i)=some (.int k (zs.getD i 0)))->za8 H zfX b o (zs.map fun z=> .i k z)
 |[],_,_=>by simp only[List.map_nil,za8]
 |z::zs,o,h=>by
  simp only[Z11,za8,zak];refine⟨⟨fun h=>h,_,?_,rfl,rfl⟩,zn4 zs (o+1) fun i hi=> ?_⟩
  .have:=h 0 (by simp);simpa using this
  .have:=h (i+1) (by simp;omega);rw[show o+(i+1)=o+1+i by omega]at this;simpa using this
def zqI{w:World}{g:Nat}{k:IntKind}{zs:List Int}(h:∀i,i<zs.length->w.cell? ⟨g,i,none⟩ =some (.int k (zs.getD i 0))):za8 w.heap zfX g 0 (zs.map fun z=> .i k z):=
 zn4 zs 0 fun i hi=>by rw[Z26,<-zi6];exact h i hi
def zmY(k:IntKind)(isNil:Bool)(len:Nat)(zs:List Int):F:=if isNil then .nils else .sl 1 ((zs.take len).map fun z=>[.i k z])
theorem zn5{H:Array Obj}{b:Nat}{k:IntKind}:∀(zs:List Int) (o:Nat),(∀i,i<zs.length->zbQ H b (o+i)=some (.int k (zs.getD i 0)))->zci H zfX b 1 o (zs.map fun z=>[.i k z])
 |[],_,_=>by simp only[List.map_nil,zci]
 |z::zs,o,h=>by
  simp only[Z11,zci,List.length_singleton,za8,zak];refine⟨trivial,⟨⟨fun h=>h,_,?_,rfl,rfl⟩,trivial⟩,zn5 zs (o+1) fun i hi=> ?_⟩
  .have:=h 0 (by simp);simpa using this
  .have:=h (i+1) (by simp;omega);rw[show o+(i+1)=o+1+i by omega]at this;simpa using this
theorem zHk{w:World}{k:IntKind}{a:Option Addr}{len cap:Nat}{zs:List Int}
  (h:(a=none/\len=0/\cap=0/\zs=[])\/∃x,a=some x/\len<=cap/\zs.length=cap/\(∀i,i<zs.length->w.cell? (x.add i)=some (.int k (zs.getD i 0)))):
  zak w.heap zfX (zmY k a.isNone len zs) (.slice a len cap):=by
 rcases h with⟨rfl,rfl,rfl,rfl⟩ |⟨x,rfl,hl,hz,hc⟩
 .simp only[zmY,Option.isNone_none,if_true,zak]
 .have hlen:((zs.take len).map fun z=>[F.i k z]).length=len:=by simp;omega
  have e:zmY k (some x).isNone len zs= .sl 1 ((zs.take len).map fun z=>[.i k z]):=by simp[zmY]
  rw[e];simp only[zak];rw[hlen];have hx:len≠0->x=⟨x.block,x.off,none⟩ :=by
   intro hne;have h0:=hc 0 (by omega);obtain⟨b,o,sp⟩ :=x;cases sp with
   |none=>rfl
   |some s=>
    simp only[World.cell?,Addr.add]at h0;split at h0<;>simp at h0
  refine⟨x,cap,rfl,hl,x.block,x.off,fun hne=>hx (fun e0=>hne (by simp[e0])),?_⟩
  by_cases hne:len=0
  .subst hne;simp only[List.take_zero,List.map_nil,zci]
  .refine zn5 _ _ fun i hi=> ?_
   have hi':i<len:=by simp at hi;omega
   have h1:=hc i (by omega);rw[hx hne]at h1;have h2:(⟨x.block,x.off,none⟩ :Addr).add i=⟨x.block,x.off+i,none⟩ :=zcF _ _ _;rw[h2,zi6]at h1;rw[h1]
   congr 2
   simp only[List.getD_eq_getElem?_getD,List.getElem?_take,hi',if_true]
end
end Go.Vse
end
section
namespace Go.Vse
variable [Globs]
def zB8(orc:Orc)(pr:Pr)(n f:Nat)(fs:List F):Option F:=
 match zq7 orc pr n f (F.dL fs) .e 0 with
 |none=>none
 |some q=>match frz q.h.gk 12 q.d with
  |some (x,_)=>some x
  |none=>none
def zCd{orc:Orc}{pr:Pr}(ho:zhH pr orc){n f:Nat}{fs:List F}{x:F}(h:zB8 orc pr n f fs=some x):Ans pr f fs x:=by
 unfold zB8 at h;split at h
 .cases h
 .rename_i q hq;split at h
  .rename_i y rd hy;cases h;rw[zk1]at hy;exact⟨q,rd,zsi ho n _ _ _ _ _ hq,hy⟩
  .cases h
end Go.Vse
end
section
namespace Go.Vse
variable [Globs]
section
variable {pr:Pr}{l:List Op}{s:St}{Q:St->Prop}{dst:Option Nat}
theorem zdA{o:O A}{o':O D}(hr:o.res (zad s.tm)=some o')(hk:kindOf o'= .n):
  wpO pr (⟨dst,none,o⟩ ::l) s Q↔∃r,opv s.h.get s.c o'=some r/\zao r.c r.wr=true/\wpO pr l (s.aft dst r.d r.wr r.c) Q:=by
 constructor
 .intro h;simp only[wpO,zbz,zb7,hr,hk]at h;unfold zcS at h;split at h
  .rename_i s' p hs;cases hv:opv s.h.get s.c o' with
   |none=>rw[hv]at hs;cases hs
   |some r=>
    rw[hv]at hs;simp only[zcE]at hs;cases hw:zao r.c r.wr with
    |false=>rw[hw]at hs;cases hs
    |true=>
     rw[hw]at hs;simp only[Bool.not_true,cond_false,Z46,Prod.mk.injEq]at hs;obtain⟨rfl,rfl⟩ :=hs;exact⟨r,rfl,hw,h⟩
  .exact h.elim
 .rintro⟨r,hv,hw,h⟩;exact wpO_n hr hk hv hw h
def zdg{o:O A}(hr:o.res (zad s.tm)=none):wpO pr (⟨dst,none,o⟩ ::l) s Q↔False:=by
 simp[wpO,zbz,zb7,hr]
def zgo(d:D):s.aft dst d [] s.c=s.up dst d:=rfl
def x_nil:wpO pr [] s Q↔Q s:=Iff.rfl
def x_mv{x:A}:wpO pr (⟨dst,none,.mv x⟩ ::l) s Q↔∃d,zad s.tm x=some d/\wpO pr l (s.up dst d) Q:=by
 cases hx:zad s.tm x with
 |none=>rw[zdg (by simp[O.res,hx])];simp
 |some d=>rw[zdA (o':= .mv d) (by simp[O.res,hx]) rfl];simp[opv,okD,zao,zgo]
def zNi{q x y:A}:wpO pr (⟨dst,none,.pick q x y⟩ ::l) s Q↔∃b,zad s.tm q=some (.f (.b b))/\∃d,zad s.tm x=some d/\∃e,zad s.tm y=some e/\wpO pr l (s.up dst (if b then d else e)) Q:=by
 constructor
 .intro h;cases hq:zad s.tm q with
  |none=>exact ((zdg (by simp[O.res,hq])).1 h).elim
  |some z=>
   cases hx:zad s.tm x with
   |none=>exact ((zdg (by simp[O.res,hq,hx])).1 h).elim
   |some d=>
    cases hy:zad s.tm y with
    |none=>exact ((zdg (by simp[O.res,hq,hx,hy])).1 h).elim
    |some e=>
     obtain⟨r,hv,_,h⟩ :=(zdA (o':= .pick z d e) (by simp[O.res,hq,hx,hy]) rfl).1 h;cases z with
     |f z=>
      cases z with
      |b b=>simp only[opv,okD,Z46]at hv;subst hv;exact⟨b,rfl,d,rfl,e,rfl,h⟩
      |_=>simp[opv]at hv
     |_=>simp[opv]at hv
 .rintro⟨b,h1,d,h2,e,h3,h⟩;exact zM3 ⟨b,d,e,h1,h2,h3,h⟩
def x_ld{g:Bool}{n:Nat}{x:A}:wpO pr (⟨dst,none,.ld g n x⟩ ::l) s Q↔∃p,zad s.tm x=some p/\∃y,zbh g n s.h.get p=some y/\wpO pr l (s.up dst y.1) Q:=by
 cases hx:zad s.tm x with
 |none=>rw[zdg (by simp[O.res,hx])];simp
 |some p=>
  rw[zdA (o':= .ld g n p) (by simp[O.res,hx]) rfl];cases hl:zbh g n s.h.get p with
  |none=>simp[opv,hl]
  |some y=>obtain⟨d,rd⟩ :=y;simp[opv,hl,zao,zgo]
def x_bin{op:BinOp}{x y:A}:wpO pr (⟨dst,none,.bin op x y⟩ ::l) s Q↔∃a,zad s.tm x=some (.f a)/\∃b,zad s.tm y=some (.f b)/\∃z,za3 op a b=some z/\wpO pr l (s.up dst (.f z)) Q:=by
 constructor
 .intro h;cases hx:zad s.tm x with
  |none=>exact ((zdg (by simp[O.res,hx])).1 h).elim
  |some d=>
   cases hy:zad s.tm y with
   |none=>exact ((zdg (by simp[O.res,hx,hy])).1 h).elim
   |some e=>
    obtain⟨r,hv,_,h⟩ :=(zdA (o':= .bin op d e) (by simp[O.res,hx,hy]) rfl).1 h;cases d with
    |f a=>
     cases e with
     |f b=>
      cases hz:za3 op a b with
      |none=>simp[opv,hz]at hv
      |some z=>simp only[opv,hz,okF,Z46]at hv;subst hv;exact⟨a,rfl,b,rfl,z,hz,h⟩
     |_=>simp[opv]at hv
    |_=>simp[opv]at hv
 .rintro⟨a,h1,b,h2,z,h3,h⟩;exact w_bin ⟨a,b,h1,h2,z,h3,h⟩
def x_not{x:A}:wpO pr (⟨dst,none,.un .not x⟩ ::l) s Q↔∃b,zad s.tm x=some (.f (.b b))/\wpO pr l (s.up dst (.f (.b !b))) Q:=by
 constructor
 .intro h;cases hx:zad s.tm x with
  |none=>exact ((zdg (by simp[O.res,hx])).1 h).elim
  |some d=>
   obtain⟨r,hv,_,h⟩ :=(zdA (o':= .un .not d) (by simp[O.res,hx]) rfl).1 h;cases d with
   |f z=>
    cases z with
    |b b=>simp only[opv,okF,Z46]at hv;subst hv;exact⟨b,rfl,h⟩
    |i k n=>simp[opv,zhP,Go.Op.unary,Go.stuck]at hv
    |_=>simp[opv]at hv
   |_=>simp[opv]at hv
 .rintro⟨b,h1,h⟩;exact w_not ⟨b,h1,h⟩
def x_len{x:A}:wpO pr (⟨dst,none,.len x⟩ ::l) s Q↔∃v,zad s.tm x=some v/\∃n,zbn v=some n/\wpO pr l (s.up dst (.f (.i .i64 n))) Q:=by
 cases hx:zad s.tm x with
 |none=>rw[zdg (by simp[O.res,hx])];simp
 |some v=>
  rw[zdA (o':= .len v) (by simp[O.res,hx]) rfl];cases hl:zbn v with
  |none=>simp[opv,hl]
  |some n=>simp[opv,hl,okF,zao,zgo]
def x_fa{off:Nat}{x:A}:wpO pr (⟨dst,none,.fa off x⟩ ::l) s Q↔∃v,zad s.tm x=some v/\∃d,faB off v=some d/\wpO pr l (s.up dst d) Q:=by
 cases hx:zad s.tm x with
 |none=>rw[zdg (by simp[O.res,hx])];simp
 |some v=>
  rw[zdA (o':= .fa off v) (by simp[O.res,hx]) rfl];cases v<;>simp[opv,faB,okD,zao,zgo]
def x_ext{x:A}{i:Nat}:wpO pr (⟨dst,none,.ext x i⟩ ::l) s Q↔∃cs,zad s.tm x=some (.tu cs)/\∃d,cs[i]? =some d/\wpO pr l (s.up dst d) Q:=by
 cases hx:zad s.tm x with
 |none=>rw[zdg (by simp[O.res,hx])];simp
 |some v=>
  rw[zdA (o':= .ext v i) (by simp[O.res,hx]) rfl];cases v with
  |tu cs=>
   cases hc:cs[i]? with
   |none=>simp[opv,hc]
   |some d=>simp[opv,hc,okD,zao,zgo]
  |_=>simp[opv]
def x_box{x:A}:wpO pr (⟨dst,none,.box x⟩ ::l) s Q↔∃d,zad s.tm x=some d/\∃cs,d.cells=some cs/\wpO pr l (s.aft dst (.ptr s.c cs.length 0 0) [(s.c,some (.arr cs.length 0 [cs]))] (s.c+1)) Q:=by
 cases hx:zad s.tm x with
 |none=>rw[zdg (by simp[O.res,hx])];simp
 |some d=>
  rw[zdA (o':= .box d) (by simp[O.res,hx]) rfl];cases hc:d.cells with
  |none=>simp[opv,hc]
  |some cs=>simp[opv,hc,zao,Nat.blt_eq]
def x_new{cs:List F}:wpO pr (⟨dst,none,.new cs⟩ ::l) s Q↔wpO pr l (s.aft dst (.ptr s.c cs.length 0 0) [(s.c,some (.arr cs.length 0 [cs.map D.f]))] (s.c+1)) Q:=by
 rw[zdA (o':= .new cs) rfl rfl];simp[opv,zao,Nat.blt_eq]
def x_st{n:Nat}{x v:A}:wpO pr (⟨dst,none,.st n x v⟩ ::l) s Q↔∃p,zad s.tm x=some p/\∃d,zad s.tm v=some d/\∃y,zdQ n s.h.get p d=some y/\y.1<s.c/\wpO pr l (s.aft dst (.f .un) [(y.1,some y.2)] s.c) Q:=by
 cases hx:zad s.tm x with
 |none=>rw[zdg (by simp[O.res,hx])];simp
 |some p=>
  cases hv:zad s.tm v with
  |none=>rw[zdg (by simp[O.res,hx,hv])];simp
  |some d=>
   rw[zdA (o':= .st n p d) (by simp[O.res,hx,hv]) rfl];cases hs:zdQ n s.h.get p d with
   |none=>simp[opv,hs]
   |some y=>
    obtain⟨id,ob⟩ :=y;simp[opv,hs,zao,Nat.blt_eq];exact⟨fun h=>⟨id,ob,⟨rfl,rfl⟩,h⟩,fun⟨_,_,⟨e1,e2⟩,h⟩ =>by subst e1 e2;exact h⟩
def x_ia{es:Nat}{x i:A}:wpO pr (⟨dst,none,.ia es x i⟩ ::l) s Q↔∃v,zad s.tm x=some v/\∃w,zad s.tm i=some w/\∃n,zbu w=some n/\∃d,iaB es v n=some d/\wpO pr l (s.up dst d) Q:=by
 cases hx:zad s.tm x with
 |none=>rw[zdg (by simp[O.res,hx])];simp
 |some v=>
  cases hy:zad s.tm i with
  |none=>rw[zdg (by simp[O.res,hx,hy])];simp
  |some w=>
   rw[zdA (o':= .ia es v w) (by simp[O.res,hx,hy]) rfl];cases hn:zbu w with
   |none=>simp[opv,hn]
   |some n=>
    cases v with
    |f z=>
     cases z with
     |sl es' els=>
      by_cases he:es=es'
      .subst he;cases hel:els[n]? with
       |none=>simp[opv,hn,iaB,hel]
       |some el=>simp[opv,hn,iaB,hel,okD,zao,zgo]
      .simp[opv,hn,iaB,he]
     |_=>simp[opv,hn,iaB]
    |sl id off m es' lim ex=>
     by_cases he:es=es'/\n<m
     .simp[opv,hn,iaB,he,okD,zao,zgo]
     .simp[opv,hn,iaB,he]
    |_=>simp[opv,hn,iaB]
def fnD(f:Nat):List D->D
 |[]=> .f (.fn f)
 |y=> .fn f [] y
def x_mkf{f:Nat}{b:List A}:wpO pr (⟨dst,none,.mkf f [] b⟩ ::l) s Q↔∃y,zat (zad s.tm) b=some y/\wpO pr l (s.up dst (fnD f y)) Q:=by
 cases hy:zat (zad s.tm) b with
 |none=>rw[zdg (by simp[O.res,zat,hy])];simp
 |some y=>
  rw[zdA (o':= .mkf f [] y) (by simp[O.res,zat,hy]) rfl];cases y<;>simp[opv,okD,okF,zao,zgo,fnD]
def x_bld{z:List F}{ps:List (Nat×Nat×A)}:wpO pr (⟨dst,none,.bld z ps⟩ ::l) s Q↔∃qs,zat (fun(p:Nat×Nat×A)=>(zad s.tm p.2.2).map fun d=>(p.1,p.2.1,d)) ps=some qs/\∃cs,zdp (z.map D.f) qs=some cs/\wpO pr l (s.up dst (.ag cs)) Q:=by
 have e:zat (fun(p:Nat×Nat×A)=>(zad s.tm p.2.2).map fun d=>(p.1,p.2.1,d)) ps=zat (fun x=>match x with|(o,n,x)=>do some (o,n,<-zad s.tm x)) ps:=by
  congr 1
  funext p
  obtain⟨o,n,x⟩ :=p;simp only;cases zad s.tm x<;>rfl
 rw[e];cases hq:zat (fun x=>match x with|(o,n,x)=>do some (o,n,<-zad s.tm x)) ps with
 |none=>rw[zdg (by simp only[O.res];rw[hq];rfl)];simp
 |some qs=>
  rw[zdA (o':= .bld z qs) (by simp only[O.res];rw[hq];rfl) rfl];cases hf:zdp (z.map D.f) qs with
  |none=>simp[opv,hf]
  |some cs=>simp[opv,hf,okD,zao,zgo]
def zIt{f:Nat}{args:List A}:wpO pr (⟨dst,none,.callp f args⟩ ::l) s Q↔∃ds,zat (zad s.tm) args=some ds/\∃y,zc7 s.h.get ds=some y/\∃x,Ans pr f y.1 x/\zao s.c (zaw s.h.get y.2)=true/\wpO pr l (s.aft dst x.d (zaw s.h.get y.2) s.c) Q:=by
 constructor
 .intro h;simp only[wpO,zbz,zb7,O.res,Z48]at h;cases hm:zat (zad s.tm) args with
  |none=>simp[hm]at h
  |some ds=>
   simp only[hm,Z47,kindOf]at h;cases hf:zc7 s.h.get ds with
   |none=>simp[hf]at h
   |some y=>
    obtain⟨fs,rd⟩ :=y;simp only[hf]at h;obtain⟨x,h1,h2⟩ :=h;refine⟨ds,rfl,(fs,rd),hf,x,h1,?_⟩;unfold zcS at h2;simp only[zcE]at h2;cases hw:zao s.c (zaw s.h.get rd)with
    |false=>simp[hw]at h2
    |true=>simp only[hw,Bool.not_true,cond_false]at h2;exact⟨rfl,h2⟩
 .rintro⟨ds,h1,⟨fs,rd⟩,h2,x,h3,h4,h⟩;exact zIk ⟨ds,h1,fs,rd,h2,x,h3,h4,h⟩
def zNd{f:Nat}{args:List A}:wpO pr (⟨dst,none,.call f args⟩ ::l) s Q↔∃ds,zat (zad s.tm) args=some ds/\∃q,Con pr f ds s.h s.c q/\wpO pr l (s.cal dst q) Q:=by
 constructor
 .intro h;simp only[wpO,zbz,zb7,O.res,Z48]at h;cases hm:zat (zad s.tm) args with
  |none=>simp[hm]at h
  |some ds=>
   simp only[hm,Z47,kindOf]at h;obtain⟨q,h1,h2⟩ :=h;exact⟨ds,rfl,q,h1,h2⟩
 .rintro⟨ds,h1,q,h2,h⟩;exact zM1 ⟨ds,h1,q,h2,h⟩
def zNg{x:A}{a b:C}{Q:Ex->St->Prop}:wpC pr (.cond x a b) s Q↔∃t,zad s.tm x=some (.f (.b t))/\(if t then wpC pr a s Q else wpC pr b s Q):=by
 constructor
 .intro h;unfold wpC at h;split at h
  .rename_i hx;exact⟨true,hx,by simpa using h⟩
  .rename_i hx;exact⟨false,hx,by simpa using h⟩
  .exact h.elim
 .exact zJS
end
end Go.Vse
end
section
namespace Go.Vse
variable [Globs]
def oB{α:Type}(o:Option α)(k:α->Prop):Prop:=
 match o with
 |some a=>k a
 |none=>False
@[congr] theorem oB_congr{α:Type}{o o':Option α}{k:α->Prop}(h:o=o'):oB o k=oB o' k:=by rw[h]
def zjt{α:Type}(a:α)(k:α->Prop):oB (some a) k=k a:=rfl
def zfj{α:Type}(o:Option α)(k:α->Prop):(∃a,o=some a/\k a)↔oB o k:=by
 cases o with
 |none=>simp[oB]
 |some a=>simp[oB]
def asB:D->Option Bool
 | .f (.b b)=>some b
 |_=>none
def asF:D->Option F
 | .f x=>some x
 |_=>none
def zv2:D->Option (List D)
 | .tu cs=>some cs
 |_=>none
def zsj(o:Option D)(k:Bool->Prop):(∃b,o=some (.f (.b b))/\k b)↔oB (o.bind asB) k:=by
 cases o with
 |none=>simp[oB]
 |some d=>
  cases d with
  |f x=>cases x<;>simp[oB,asB]
  |_=>simp[oB,asB]
def zy3(o:Option D)(k:F->Prop):(∃b,o=some (.f b)/\k b)↔oB (o.bind asF) k:=by
 cases o with
 |none=>simp[oB]
 |some d=>cases d<;>simp[oB,asF]
def zGA(o:Option D)(k:List D->Prop):(∃b,o=some (.tu b)/\k b)↔oB (o.bind zv2) k:=by
 cases o with
 |none=>simp[oB]
 |some d=>cases d<;>simp[oB,zv2]
def asB_b(b:Bool):asB (.f (.b b))=some b:=rfl
def asF_f(x:F):asF (.f x)=some x:=rfl
def zFw(cs:List D):zv2 (.tu cs)=some cs:=rfl
theorem zk6{f:D->Option (F×List Nat)}(hf:∀d x rd,d.isF=true->f d=some (x,rd)->rd=[]):∀(ds:List D) (xs:List F) (rd:List Nat),D.zgS ds=true->zbf f ds=some (xs,rd)->rd=[]
 |[],xs,rd,_,h=>by simp[zbf]at h;exact h.2
 |d::ds,xs,rd,hi,h=>by
  simp only[D.zgS,Z15]at hi;unfold zbf at h;split at h
  .cases h
  .rename_i x r hx;split at h
   .cases h
   .rename_i m r' hm;simp only[Z46,Prod.mk.injEq]at h;rw[<-h.2,hf d x r hi.1 hx,zk6 hf ds m r' hi.2 hm];rfl
theorem zpy{h:Nat->Option Ob}:∀(k:Nat) (d:D) (x:F) (rd:List Nat),d.isF=true->frz h k d=some (x,rd)->rd=[]
 |0,_,_,_,_,h=>by simp[frz]at h
 |k+1,d,x,rd,hi,hf=>by
  unfold frz at hf;split at hf
  .simp at hf;exact hf.2
  .split at hf
   .rename_i l r hm;simp only[Z46,Prod.mk.injEq]at hf;rw[<-hf.2];exact zk6 (zpy k) _ _ _ hi hm
   .cases hf
  .split at hf
   .rename_i l r hm;simp only[Z46,Prod.mk.injEq]at hf;rw[<-hf.2];exact zk6 (zpy k) _ _ _ hi hm
   .cases hf
  .simp[D.isF]at hi
  .cases hf
def zsh(res:List Rv)(y:F)(x:Ex)(s:St):Prop:=
 (match x with| .exit _=>False|_=>True)/\∃d,resD s res=some d/\∃rd,frz s.h.get 12 d=some (y,rd)
def zIs{pr:Pr}{c:C}{s:St}{Q:Ex->St->Prop}{f:Nat}{fn:Fn}(hf:pr.fn f=some fn){fs:List F}{y:F}(hb:fn.body=c)(hs:s=st0 (F.dL fs) .e 0)(hQ:Q=zsh fn.res y)(hw:wpC pr c s Q):Ans pr f fs y:=by
 subst hb hs hQ;obtain⟨x,s,⟨hx,d,hd,rd,hz⟩,ev⟩ :=zfa _ _ _ hw;refine⟨if Nat.beq s.lw 0&&d.isF then ⟨d,.e,0,0,s.mx⟩else ⟨d,s.h,s.c,s.lw,s.mx⟩,rd,?_,?_⟩
 .have key:EV fun m=>zfE (evC (zcG pr m) m) fn (F.dL fs) .e 0=some (if Nat.beq s.lw 0&&d.isF then ⟨d,.e,0,0,s.mx⟩else ⟨d,s.h,s.c,s.lw,s.mx⟩):=by
   refine ev.mono fun m hm=> ?_
   unfold zfE;unfold st0 at hm;rw[hm];cases x with
   |exit i=>exact hx.elim
   |nrm=>simp only[hd];split<;>rfl
   |ret=>simp only[hd];split<;>rfl
  obtain⟨N,hN⟩ :=key;refine⟨N+1,fun m hm=> ?_⟩;obtain⟨m,rfl⟩ :∃m',m=m'+1:=⟨m - 1,by omega⟩
  simp only[zcG,hf];exact hN m (by omega)
 .split
  .rename_i hb;simp only[Z15]at hb;have hr:=zpy 12 d y rd hb.2 hz;subst hr;exact zhu 12 d y [] hz fun id hid=>by simp at hid
  .exact hz
def zco{pr:Pr}{f:Nat}{fn:Fn}(hf:pr.fn f=some fn){fs:List F}{y:F}(hw:wpC pr fn.body (st0 (F.dL fs) .e 0) (zsh fn.res y)):Ans pr f fs y:=
 zIs hf rfl rfl rfl hw
section
variable {pr:Pr}{l:List Op}{s:St}{Q:St->Prop}{dst:Option Nat}
def y_mv{x:A}:wpO pr (⟨dst,none,.mv x⟩ ::l) s Q↔oB (zad s.tm x) fun d=>wpO pr l (s.up dst d) Q:=by rw[x_mv,zfj]
def zNm{q x y:A}:wpO pr (⟨dst,none,.pick q x y⟩ ::l) s Q↔oB ((zad s.tm q).bind asB) fun b=>oB (zad s.tm x) fun d=>oB (zad s.tm y) fun e=>wpO pr l (s.up dst (if b then d else e)) Q:=by
 rw[zNi,zsj];simp only[zfj]
def y_ld{g:Bool}{n:Nat}{x:A}:wpO pr (⟨dst,none,.ld g n x⟩ ::l) s Q↔oB (zad s.tm x) fun p=>oB (zbh g n s.h.get p) fun y=>wpO pr l (s.up dst y.1) Q:=by rw[x_ld];simp only[zfj]
def y_bin{op:BinOp}{x y:A}:wpO pr (⟨dst,none,.bin op x y⟩ ::l) s Q↔oB ((zad s.tm x).bind asF) fun a=>oB ((zad s.tm y).bind asF) fun b=>oB (za3 op a b) fun z=>wpO pr l (s.up dst (.f z)) Q:=by
 rw[x_bin,zy3];simp only[zy3,zfj]
def y_not{x:A}:wpO pr (⟨dst,none,.un .not x⟩ ::l) s Q↔oB ((zad s.tm x).bind asB) fun b=>wpO pr l (s.up dst (.f (.b !b))) Q:=by rw[x_not,zsj]
def y_len{x:A}:wpO pr (⟨dst,none,.len x⟩ ::l) s Q↔oB (zad s.tm x) fun v=>oB (zbn v) fun n=>wpO pr l (s.up dst (.f (.i .i64 n))) Q:=by rw[x_len];simp only[zfj]
def y_fa{off:Nat}{x:A}:wpO pr (⟨dst,none,.fa off x⟩ ::l) s Q↔oB (zad s.tm x) fun v=>oB (faB off v) fun d=>wpO pr l (s.up dst d) Q:=by rw[x_fa];simp only[zfj]
def y_ext{x:A}{i:Nat}:wpO pr (⟨dst,none,.ext x i⟩ ::l) s Q↔oB ((zad s.tm x).bind zv2) fun cs=>oB cs[i]? fun d=>wpO pr l (s.up dst d) Q:=by rw[x_ext,zGA];simp only[zfj]
def y_box{x:A}:wpO pr (⟨dst,none,.box x⟩ ::l) s Q↔oB (zad s.tm x) fun d=>oB d.cells fun cs=>wpO pr l (s.aft dst (.ptr s.c cs.length 0 0) [(s.c,some (.arr cs.length 0 [cs]))] (s.c+1)) Q:=by rw[x_box];simp only[zfj]
def y_st{n:Nat}{x v:A}:wpO pr (⟨dst,none,.st n x v⟩ ::l) s Q↔oB (zad s.tm x) fun p=>oB (zad s.tm v) fun d=>oB (zdQ n s.h.get p d) fun y=>y.1<s.c/\wpO pr l (s.aft dst (.f .un) [(y.1,some y.2)] s.c) Q:=by
 rw[x_st];simp only[zfj]
def y_ia{es:Nat}{x i:A}:wpO pr (⟨dst,none,.ia es x i⟩ ::l) s Q↔oB (zad s.tm x) fun v=>oB (zad s.tm i) fun w=>oB (zbu w) fun n=>oB (iaB es v n) fun d=>wpO pr l (s.up dst d) Q:=by rw[x_ia];simp only[zfj]
def y_mkf{f:Nat}{b:List A}:wpO pr (⟨dst,none,.mkf f [] b⟩ ::l) s Q↔oB (zat (zad s.tm) b) fun y=>wpO pr l (s.up dst (fnD f y)) Q:=by rw[x_mkf,zfj]
def y_bld{z:List F}{ps:List (Nat×Nat×A)}:wpO pr (⟨dst,none,.bld z ps⟩ ::l) s Q↔oB (zat (fun(p:Nat×Nat×A)=>(zad s.tm p.2.2).map fun d=>(p.1,p.2.1,d)) ps) fun qs=>oB (zdp (z.map D.f) qs) fun cs=>wpO pr l (s.up dst (.ag cs)) Q:=by
 rw[x_bld];simp only[zfj]
def zIv{f:Nat}{args:List A}:wpO pr (⟨dst,none,.callp f args⟩ ::l) s Q↔oB (zat (zad s.tm) args) fun ds=>oB (zc7 s.h.get ds) fun y=>∃x,Ans pr f y.1 x/\zao s.c (zaw s.h.get y.2)=true/\wpO pr l (s.aft dst x.d (zaw s.h.get y.2) s.c) Q:=by
 rw[zIt];simp only[zfj]
def zNk{f:Nat}{args:List A}:wpO pr (⟨dst,none,.call f args⟩ ::l) s Q↔oB (zat (zad s.tm) args) fun ds=>∃q,Con pr f ds s.h s.c q/\wpO pr l (s.cal dst q) Q:=by rw[zNd,zfj]
def zfh:D->Option (Nat×List D×List D)
 | .fn f a b=>some (f,a,b)
 | .f (.fn f)=>some (f,[],[])
 |_=>none
def zFs(f:Nat)(a b:List D):zfh (.fn f a b)=some (f,a,b):=rfl
def zJH(f:Nat):zfh (.f (.fn f))=some (f,[],[]):=rfl
def zIw{x:A}{args:List A}:wpO pr (⟨dst,none,.callv x args⟩ ::l) s Q↔oB ((zad s.tm x).bind zfh) fun g=>oB (zat (zad s.tm) args) fun ds=>∃q,Con pr g.1 (g.2.1++ds++g.2.2) s.h s.c q/\wpO pr l (s.cal dst q) Q:=by
 cases hx:zad s.tm x with
 |none=>simp[wpO,zbz,zb7,O.res,hx,oB]
 |some d=>
  cases hm:zat (zad s.tm) args with
  |none=>cases d with
   |f y=>cases y<;>simp[wpO,zbz,zb7,O.res,hx,hm,oB,zfh]
   |_=>simp[wpO,zbz,zb7,O.res,hx,hm,oB,zfh]
  |some ds=>
   cases d with
   |f y=>
    cases y with
    |fn f=>simp only[wpO,zbz,zb7,O.res,hx,hm,Z48,Z47,kindOf,oB,zfh,Z29,Z23];exact Iff.rfl
    |_=>simp[wpO,zbz,zb7,O.res,hx,hm,oB,zfh,kindOf]
   |fn f a b=>simp only[wpO,zbz,zb7,O.res,hx,hm,Z48,Z47,kindOf,oB,zfh];exact Iff.rfl
   |_=>simp[wpO,zbz,zb7,O.res,hx,hm,oB,zfh,kindOf]
def zNl{x:A}{a b:C}{Q:Ex->St->Prop}:wpC pr (.cond x a b) s Q↔oB ((zad s.tm x).bind asB) fun t=>if t then wpC pr a s Q else wpC pr b s Q:=by rw[zNg,zsj]
end
end Go.Vse
end
section
namespace Go.Vse
variable [Globs]
def zcA(a b:List Nat):Prop:=∀x∈a,x∉b
section
variable (pr:Pr)
def zcQ:Nat->List (List Nat×List Nat)->List Nat->List Nat->Prop
 |_,[],_,_=>True
 |m,(r,w)::L,rd,wr=>(m%2=1->zcA rd w/\zcA wr w/\zcA wr r)/\zcQ (m/2) L rd wr
def wpE:List (List Nat×List Nat)->List (Op×Nat)->St->(St->Prop)->Prop
 |_,[],s,Q=>Q s
 |L,(o,mask)::l,s,Q=>zbz pr o s fun s' p=>p.all=false/\zcQ mask L p.rd p.wr/\wpE (L++[(p.rd,p.wr)]) l {s' with c:=p.hi} Q
variable {pr}
def zou{o:Op}{s:St}{Q Q':St->Fp->Prop}(hQ:∀s p,Q s p->Q' s p)(h:zbz pr o s Q):zbz pr o s Q':=by
 have m0:∀r,zcS r Q->zcS r Q':=by
  intro r h;unfold zcS at h|-;split
  .exact hQ _ _ h
  .exact h
 unfold zbz at h|-;split
 .simp_all
 .rename_i hw;simp only[hw]at h;exact hQ _ _ h
 .rename_i hw;simp only[hw]at h;split
  .simp_all
  .rename_i o' hr;simp only[hr]at h;split
   .rename_i hk;simp only[hk]at h;split
    .simp_all
    .rename_i hf;simp only[hf]at h;obtain⟨x,h1,h2⟩ :=h;exact⟨x,h1,m0 _ h2⟩
   .rename_i hk;simp only[hk]at h;obtain⟨q,h1,h2⟩ :=h;exact⟨q,h1,m0 _ h2⟩
   .rename_i hk;simp only[hk]at h;exact m0 _ h
   .rename_i hk;simp only[hk]at h
theorem zea:∀(m:Nat) (L:List (List Nat×List Nat)),zcQ m L [] []↔True
 |_,[]=>Iff.rfl
 |m,(r,w)::L=>by simp[zcQ,zcA,zea (m/2) L]
theorem zns{p:Fp}(hp:p.all=false){mask:Nat}:∀(fps:List Fp) (i:Nat),(∀q∈fps,q.all=false)->zcQ (mask/2 ^ i) (fps.map fun q=>(q.rd,q.wr)) p.rd p.wr->zcb p mask fps i=true
 |[],_,_,_=>rfl
 |q::l,i,hf,h=>by
  simp only[Z11,zcQ]at h;have h2:=zns hp l (i+1) (fun x hx=>hf x (by simp[hx])) (by rw[Nat.pow_succ,<-Nat.div_div_eq_div_mul];exact h.2);simp only[zcb,h2,Bool.and_true,Bool.or_eq_true,Bool.not_eq_true'];cases hb:mask.testBit i with
  |false=>exact .inl rfl
  |true=>
   right;rw[Nat.testBit_eq_decide_div_mod_eq]at hb;obtain⟨d1,d2,d3⟩ :=h.1 (of_decide_eq_true hb);have q1:=hf q (by simp);simp only[Fp.apart,q1,hp,Z15,List.all_eq_true,Bool.not_eq_true',List.contains_eq_mem,decide_eq_false_iff_not];exact⟨⟨fun x hx hm=>d1 x hx hm,fun x hx hm=>d3 x hm hx⟩,fun x hx hm=>d2 x hm hx⟩
theorem zFa:∀(l:List (Op×Nat)) (fps:List Fp) (s:St) (Q:St->Prop),(∀q∈fps,q.all=false)->wpE pr (fps.map fun q=>(q.rd,q.wr)) l s Q->wpD pr l fps s Q
 |[],_,_,_,_,h=>h
 |(o,mask)::l,fps,s,Q,hf,h=>by
  refine zou (fun s' p ⟨h1,h2,h3⟩ =>⟨?_,zFa l (fps++[p]) _ Q ?_ (by simpa using h3)⟩) h
  .exact zns h1 fps 0 hf (by simpa using h2)
  .intro q hq;rcases Z5.1 hq with hq|hq
   .exact hf q hq
   .simp only[Z32]at hq;subst hq;exact h1
def zJU{ops:List (Op×Nat)}{s:St}{Q:Ex->St->Prop}(h:wpE pr [] ops s (Q .nrm)):wpC pr (.dreg ops) s Q:=
 zFa ops [] s _ (fun q hq=>by simp at hq) h
def St.ue(s:St)(dst:Option Nat)(d:D):St:={s with tm:=zcX s.tm dst d,c:=s.c+1,mx:=Nat.max s.mx (s.c+1)}
def St.ae(s:St)(dst:Option Nat)(d:D)(wr:List (Nat×Option Ob))(c:Nat):St:=
 {tm:=zcX s.tm dst d,h:=wrT s.h wr,c:=c+1,lw:=zcW s.lw wr,mx:=Nat.max s.mx (c+1)}
def St.se(s:St)(dst:Option Nat):St:={s with tm:=zcX s.tm dst (.f .un)}
def zEU(s:St)(dst:Option Nat)(d:D):(s.ue dst d).tm=zcX s.tm dst d:=rfl
def ue_h(s:St)(dst:Option Nat)(d:D):(s.ue dst d).h=s.h:=rfl
def ue_c(s:St)(dst:Option Nat)(d:D):(s.ue dst d).c=s.c+1:=rfl
def zET(s:St)(dst:Option Nat)(d:D):(s.ue dst d).lw=s.lw:=rfl
def zC7(s:St)(dst:Option Nat)(d:D)(wr:List (Nat×Option Ob))(c:Nat):(s.ae dst d wr c).tm=zcX s.tm dst d:=rfl
def ae_h(s:St)(dst:Option Nat)(d:D)(wr:List (Nat×Option Ob))(c:Nat):(s.ae dst d wr c).h=wrT s.h wr:=rfl
def ae_c(s:St)(dst:Option Nat)(d:D)(wr:List (Nat×Option Ob))(c:Nat):(s.ae dst d wr c).c=c+1:=rfl
def zC6(s:St)(dst:Option Nat)(d:D)(wr:List (Nat×Option Ob))(c:Nat):(s.ae dst d wr c).lw=zcW s.lw wr:=rfl
def zEG(s:St)(dst:Option Nat):(s.se dst).tm=zcX s.tm dst (.f .un):=rfl
def se_h(s:St)(dst:Option Nat):(s.se dst).h=s.h:=rfl
def se_c(s:St)(dst:Option Nat):(s.se dst).c=s.c:=rfl
def zEF(s:St)(dst:Option Nat):(s.se dst).lw=s.lw:=rfl
variable {l:List (Op×Nat)}{s:St}{Q:St->Prop}{dst:Option Nat}{L:List (List Nat×List Nat)}{mask:Nat}
def zBc(b:List Nat):zcA [] b↔True:=by simp[zcA]
def zyP(x:Nat)(a b:List Nat):zcA (x::a) b↔x∉b/\zcA a b:=by simp[zcA]
def e_nil:wpE pr L [] s Q↔Q s:=Iff.rfl
def zhb(d:D):s.ae dst d [] s.c=s.ue dst d:=rfl
theorem zcy{o:O A}(hk:kcl o= .n):wpE pr L ((⟨dst,none,o⟩,mask)::l) s Q↔oB ((o.res (zad s.tm)).bind (opv s.h.get s.c)) fun r=>zao r.c r.wr=true/\
    zcQ mask L r.rd (r.wr.map (·.1))/\wpE pr (L++[(r.rd,r.wr.map (·.1))]) l (s.ae dst r.d r.wr r.c) Q:=by
  simp only[wpE,zbz,zb7];cases hr:o.res (zad s.tm)with
  |none=>exact Iff.rfl
  | some o'=>
    simp only[Z47,zrm hk hr];cases hv:opv s.h.get s.c o' with
    |none=>exact Iff.rfl
    | some r=>
      simp only[zcS,zcE,oB];cases hw:zao r.c r.wr with
      |false=>simp
      |true=>simp only[Bool.not_true,cond_false,true_and];exact Iff.rfl
def zc1{l:List Op}{o:O A}(hk:kcl o= .n):wpO pr (⟨dst,none,o⟩ ::l) s Q↔oB ((o.res (zad s.tm)).bind (opv s.h.get s.c)) fun r=>zao r.c r.wr=true/\wpO pr l (s.aft dst r.d r.wr r.c) Q:=by
 simp only[wpO,zbz,zb7];cases hr:o.res (zad s.tm)with
 |none=>exact Iff.rfl
 |some o'=>
  simp only[Z47,zrm hk hr];cases hv:opv s.h.get s.c o' with
  |none=>exact Iff.rfl
  |some r=>
   simp only[zcS,zcE,oB];cases hw:zao r.c r.wr with
   |false=>simp
   |true=>simp only[Bool.not_true,cond_false,true_and];exact Iff.rfl
def e_mv{x:A}:wpE pr L ((⟨dst,none,.mv x⟩,mask)::l) s Q↔oB (zad s.tm x) fun d=>wpE pr (L++[([],[])]) l (s.ue dst d) Q:=by
 rw[zcy rfl];cases hx:zad s.tm x<;>simp[O.res,hx,opv,okD,oB,zao,zcA,zhb,zea]
def e_ld{g:Bool}{n:Nat}{x:A}:wpE pr L ((⟨dst,none,.ld g n x⟩,mask)::l) s Q↔oB (zad s.tm x) fun p=>oB (zbh g n s.h.get p) fun y=>zcQ mask L y.2 []/\wpE pr (L++[(y.2,[])]) l (s.ue dst y.1) Q:=by
 rw[zcy rfl];cases hx:zad s.tm x with
 |none=>simp[O.res,hx,oB]
 |some p=>
  cases hl:zbh g n s.h.get p with
  |none=>simp[O.res,hx,opv,hl,oB]
  |some y=>obtain⟨d,rd⟩ :=y;simp[O.res,hx,opv,hl,oB,zao,zcA,zhb,zea]
def e_bin{op:BinOp}{x y:A}:wpE pr L ((⟨dst,none,.bin op x y⟩,mask)::l) s Q↔oB ((zad s.tm x).bind asF) fun a=>oB ((zad s.tm y).bind asF) fun b=>oB (za3 op a b) fun z=>wpE pr (L++[([],[])]) l (s.ue dst (.f z)) Q:=by
 rw[zcy rfl];cases hx:zad s.tm x with
 |none=>simp[O.res,hx,oB]
 |some d=>
  cases hy:zad s.tm y with
  |none=>cases d<;>simp[O.res,hx,hy,oB,asF]
  |some e=>
   cases d with
   |f a=>
    cases e with
    |f b=>
     cases hz:za3 op a b<;>simp[O.res,hx,hy,oB,asF,opv,hz,okF,zao,zcA,zhb,zea]
    |_=>simp[O.res,hx,hy,oB,asF,opv]
   |_=>simp[O.res,hx,hy,oB,asF,opv]
def zKo{q x y:A}:wpE pr L ((⟨dst,none,.pick q x y⟩,mask)::l) s Q↔oB ((zad s.tm q).bind asB) fun b=>oB (zad s.tm x) fun d=>oB (zad s.tm y) fun e=>wpE pr (L++[([],[])]) l (s.ue dst (if b then d else e)) Q:=by
 rw[zcy rfl];cases hq:zad s.tm q with
 |none=>simp[O.res,hq,oB]
 |some z=>
  cases hx:zad s.tm x with
  |none=>
   cases z with
   |f z=>cases z<;>simp[O.res,hq,hx,oB,asB]
   |_=>simp[O.res,hq,hx,oB,asB]
  |some d=>
   cases hy:zad s.tm y with
   |none=>
    cases z with
    |f z=>cases z<;>simp[O.res,hq,hx,hy,oB,asB]
    |_=>simp[O.res,hq,hx,hy,oB,asB]
   |some e=>
    cases z with
    |f z=>cases z<;>simp[O.res,hq,hx,hy,oB,asB,opv,okD,zao,zcA,zhb,zea]
    |_=>simp[O.res,hq,hx,hy,oB,asB,opv]
def e_eqb{ne:Bool}{x y:A}:wpE pr L ((⟨dst,none,.eqb ne x y⟩,mask)::l) s Q↔oB ((zad s.tm x).bind asB) fun a=>oB ((zad s.tm y).bind asB) fun b=>wpE pr (L++[([],[])]) l (s.ue dst (.f (.b (if ne then !(a==b)else a==b)))) Q:=by
 rw[zcy rfl];cases hx:zad s.tm x with
 |none=>simp[O.res,hx,oB]
 |some d=>
  cases hy:zad s.tm y with
  |none=>
   cases d with
   |f z=>cases z<;>simp[O.res,hx,hy,oB,asB]
   |_=>simp[O.res,hx,hy,oB,asB]
  |some e=>
   cases d with
   |f z=>
    cases z with
    |b a=>
     cases e with
     |f z'=>cases z'<;>simp[O.res,hx,hy,oB,asB,opv,okF,zao,zcA,zhb,zea]
     |_=>simp[O.res,hx,hy,oB,asB,opv]
    |_=>simp[O.res,hx,hy,oB,asB,opv]
   |_=>simp[O.res,hx,hy,oB,asB,opv]
def e_len{x:A}:wpE pr L ((⟨dst,none,.len x⟩,mask)::l) s Q↔oB (zad s.tm x) fun v=>oB (zbn v) fun n=>wpE pr (L++[([],[])]) l (s.ue dst (.f (.i .i64 n))) Q:=by
 rw[zcy rfl];cases hx:zad s.tm x with
 |none=>simp[O.res,hx,oB]
 |some v=>cases hl:zbn v<;>simp[O.res,hx,oB,opv,hl,okF,zao,zcA,zhb,zea]
def e_fa{off:Nat}{x:A}:wpE pr L ((⟨dst,none,.fa off x⟩,mask)::l) s Q↔oB (zad s.tm x) fun v=>oB (faB off v) fun d=>wpE pr (L++[([],[])]) l (s.ue dst d) Q:=by
 rw[zcy rfl];cases hx:zad s.tm x with
 |none=>simp[O.res,hx,oB]
 |some v=>cases v<;>simp[O.res,hx,oB,opv,faB,okD,zao,zcA,zhb,zea]
def e_ia{es:Nat}{x i:A}:wpE pr L ((⟨dst,none,.ia es x i⟩,mask)::l) s Q↔oB (zad s.tm x) fun v=>oB (zad s.tm i) fun w=>oB (zbu w) fun n=>oB (iaB es v n) fun d=>wpE pr (L++[([],[])]) l (s.ue dst d) Q:=by
 rw[zcy rfl];cases hx:zad s.tm x with
 |none=>simp[O.res,hx,oB]
 |some v=>
  cases hy:zad s.tm i with
  |none=>simp[O.res,hx,hy,oB]
  |some w=>
   cases hn:zbu w with
   |none=>simp[O.res,hx,hy,opv,hn,oB]
   |some n=>
    cases v with
    |f z=>
     cases z with
     |sl es' els=>
      by_cases he:es=es'
      .subst he;cases hel:els[n]? <;>simp[O.res,hx,hy,oB,opv,hn,iaB,hel,okD,zao,zcA,zhb,zea]
      .simp[O.res,hx,hy,oB,opv,hn,iaB,he]
     |_=>simp[O.res,hx,hy,oB,opv,hn,iaB]
    |sl id off m es' lim ex=>
     by_cases he:es=es'/\n<m
     .simp[O.res,hx,hy,oB,opv,hn,iaB,he,okD,zao,zcA,zhb,zea]
     .simp[O.res,hx,hy,oB,opv,hn,iaB,he]
    |_=>simp[O.res,hx,hy,oB,opv,hn,iaB]
def e_bld{z:List F}{ps:List (Nat×Nat×A)}:wpE pr L ((⟨dst,none,.bld z ps⟩,mask)::l) s Q↔oB (zat (fun(p:Nat×Nat×A)=>(zad s.tm p.2.2).map fun d=>(p.1,p.2.1,d)) ps) fun qs=>oB (zdp (z.map D.f) qs) fun cs=>wpE pr (L++[([],[])]) l (s.ue dst (.ag cs)) Q:=by
 have e:zat (fun(p:Nat×Nat×A)=>(zad s.tm p.2.2).map fun d=>(p.1,p.2.1,d)) ps=zat (fun x=>match x with|(o,n,x)=>do some (o,n,<-zad s.tm x)) ps:=by
  congr 1
  funext p
  obtain⟨o,n,x⟩ :=p;simp only;cases zad s.tm x<;>rfl
 rw[e,zcy rfl];simp only[O.res];cases hq:zat (fun x=>match x with|(o,n,x)=>do some (o,n,<-zad s.tm x)) ps with
 |none=>simp[oB]
 |some qs=>cases hf:zdp (z.map D.f) qs<;>simp[oB,opv,hf,okD,zao,zcA,zhb,zea]
def e_new{cs:List F}:wpE pr L ((⟨dst,none,.new cs⟩,mask)::l) s Q↔zcQ mask L [] [s.c]/\wpE pr (L++[([],[s.c])]) l (s.ae dst (.ptr s.c cs.length 0 0) [(s.c,some (.arr cs.length 0 [cs.map D.f]))] (s.c+1)) Q:=by
 rw[zcy rfl];simp[O.res,oB,opv,zao,zcA,Nat.blt_eq]
def e_st{n:Nat}{x v:A}:wpE pr L ((⟨dst,none,.st n x v⟩,mask)::l) s Q↔oB (zad s.tm x) fun p=>oB (zad s.tm v) fun d=>oB (zdQ n s.h.get p d) fun y=>y.1<s.c/\zcQ mask L [y.1] [y.1]/\wpE pr (L++[([y.1],[y.1])]) l (s.ae dst (.f .un) [(y.1,some y.2)] s.c) Q:=by
 rw[zcy rfl];cases hx:zad s.tm x with
 |none=>simp[O.res,hx,oB]
 |some p=>
  cases hv:zad s.tm v with
  |none=>simp[O.res,hx,hv,oB]
  |some d=>
   cases hs:zdQ n s.h.get p d with
   |none=>simp[O.res,hx,hv,oB,opv,hs]
   |some y=>obtain⟨id,ob⟩ :=y;simp[O.res,hx,hv,oB,opv,hs,zao,zcA,Nat.blt_eq]
theorem zGp{f:Nat}{args:List A}:wpE pr L ((⟨dst,none,.callp f args⟩,mask)::l) s Q↔oB (zat (zad s.tm) args) fun ds=>oB (zc7 s.h.get ds) fun y=>∃x,Ans pr f y.1 x/\zao s.c (zaw s.h.get y.2)=true/\
      zcQ mask L y.2 ((zaw s.h.get y.2).map (·.1))/\wpE pr (L++[(y.2,(zaw s.h.get y.2).map (·.1))]) l (s.ae dst x.d (zaw s.h.get y.2) s.c) Q:=by
  simp only[wpE,zbz,zb7,O.res,Z48];cases hm:zat (zad s.tm) args with
  |none=>simp[oB]
  | some ds=>
    simp only[Z47,kindOf,oB];cases hf:zc7 s.h.get ds with
    |none=>exact Iff.rfl
    | some y=>
      obtain⟨fs,rd⟩ :=y;simp only;refine exists_congr fun x=>and_congr_right fun _=> ?_
      simp only[zcS,zcE];cases hw:zao s.c (zaw s.h.get rd)with
      |false=>simp
      |true=>simp only[Bool.not_true,cond_false,true_and];exact Iff.rfl
def asG:D->Option (Option Bool)
 | .f (.b b)=>some (some b)
 | .f .un=>some none
 |_=>none
def asG_b(b:Bool):asG (.f (.b b))=some (some b):=rfl
def zJJ:asG (.f .un)=some none:=rfl
def zia{t:T D}{g:Nat}{w:Bool}:zb7 t (some (g,w))=((t.get g).bind asG).map (· ==some w):=by
  simp only[zb7];cases t.get g with
  |none=>rfl
  | some d=>
    cases d with
    | f x=>
      cases x with
      |b b=>cases b<;>cases w<;>rfl
      |_=>rfl
    |_=>rfl
def zIy{l:List Op}{g:Nat}{w:Bool}{o:O A}:wpO pr (⟨dst,some (g,w),o⟩ ::l) s Q↔oB ((s.tm.get g).bind asG) fun x=>if x==some w then wpO pr (⟨dst,none,o⟩ ::l) s Q else wpO pr l (s.se dst) Q:=by
 cases hx:(s.tm.get g).bind asG with
 |none=>
  have:zb7 s.tm (some (g,w))=none:=by rw[zia,hx];rfl
  simp[wpO,zbz,this,oB]
 |some x=>
  have hw:zb7 s.tm (some (g,w))=some (x==some w):=by rw[zia,hx];rfl
  simp only[oB];cases hb:x==some w with
  |true=>rw[hb]at hw;simp only[wpO,zbz,hw,if_true];exact Iff.rfl
  |false=>rw[hb]at hw;simp only[wpO,zbz,hw];exact Iff.rfl
def zGr{g:Nat}{w:Bool}{o:O A}:wpE pr L ((⟨dst,some (g,w),o⟩,mask)::l) s Q↔oB ((s.tm.get g).bind asG) fun x=>if x==some w then wpE pr L ((⟨dst,none,o⟩,mask)::l) s Q else wpE pr (L++[([],[])]) l (s.se dst) Q:=by
 cases hx:(s.tm.get g).bind asG with
 |none=>
  have:zb7 s.tm (some (g,w))=none:=by rw[zia,hx];rfl
  simp[wpE,zbz,this,oB]
 |some x=>
  have hw:zb7 s.tm (some (g,w))=some (x==some w):=by rw[zia,hx];rfl
  simp only[oB];cases hb:x==some w with
  |true=>rw[hb]at hw;simp only[wpE,zbz,hw,if_true];exact Iff.rfl
  |false=>
   rw[hb]at hw;simp only[wpE,zbz,hw];constructor
   .rintro⟨_,_,h⟩;exact h
   .intro h;exact⟨trivial,(zea _ _).2 trivial,h⟩
end
end Go.Vse
end
section
namespace Go.Vse
variable [Globs]
abbrev EnP:=Nat×List F×F
def za2(pr:Pr)(e:EnP):Prop:=Ans pr e.1 e.2.1 e.2.2
def znd(pr:Pr):List EnP->Prop
 |[]=>True
 |e::l=>za2 pr e/\znd pr l
def zsL(f:Nat)(fs:List F)(l:List EnP):Option F:=
 @List.rec EnP (fun _=>Option F) none (fun p _ ih=>@Bool.rec (fun _=>Option F) ih (@Bool.rec (fun _=>Option F) ih (some p.2.2) (F.zdi p.2.1 fs)) (Nat.beq p.1 f)) l
def zBJ(mask:Nat)(l:List EnP):Orc:=fun f fs=>
 @Bool.rec (fun _=>Option F) none (zsL f fs l) (Nat.beq (Nat.mod (Nat.div mask (Nat.pow 2 f)) 2) 1)
theorem zpN{pr:Pr}{f:Nat}{fs:List F}{x:F}:∀{l:List EnP},znd pr l->zsL f fs l=some x->Ans pr f fs x
 |[],_,h=>by cases h
 |p::l,ha,h=>by
  have e:zsL f fs (p::l)= @Bool.rec (fun _=>Option F) (zsL f fs l) (@Bool.rec (fun _=>Option F) (zsL f fs l) (some p.2.2) (F.zdi p.2.1 fs)) (Nat.beq p.1 f):=rfl;rw[e]at h;cases hb:Nat.beq p.1 f with
  |false=>rw[hb]at h;exact zpN ha.2 h
  |true=>
   rw[hb]at h;cases hq:F.zdi p.2.1 fs with
   |false=>rw[hq]at h;exact zpN ha.2 h
   |true=>
    rw[hq]at h;cases h;rw[<-Nat.eq_of_beq_eq_true hb,<-F.zeL _ _ hq];exact ha.1
def zHf{pr:Pr}{mask:Nat}{l:List EnP}(ha:znd pr l):zhH pr (zBJ mask l):=by
 intro f fs x h;unfold zBJ at h;cases hb:Nat.beq (Nat.mod (Nat.div mask (Nat.pow 2 f)) 2) 1 with
 |false=>rw[hb]at h;cases h
 |true=>rw[hb]at h;exact zpN ha h
def za5{pr:Pr}{mask n:Nat}{l:List EnP}{e:EnP}(ha:znd pr l)(h:zB8 (zBJ mask l) pr n e.1 e.2.1=some e.2.2):za2 pr e:=
 zCd (zHf ha) h
end Go.Vse
end
