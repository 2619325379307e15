/- The evaluator and its soundness. Conditions: none. -/
import Derived.Test.YtlinkhjnihjbaaaGreatDoorVd
import Derived.Test.YtlinkhjnihjbaaaGreatDoorVc
set_option linter.all false
noncomputable section
section
namespace Go.Vse
variable [Globs]
def Rt(tm:TM)(t:T D):Prop:=∀i,getM tm i=t.get i
def Rt.put{tm:TM}{t:T D}(h:Rt tm t)(dst:Option Nat)(d:D):Rt (ziB tm dst d) (zcr t dst d):=by
 intro i;cases dst with
 |none=>exact h i
 |some j=>
  have e:ziB tm (some j) d=zmq tm j (some d):=rfl;rw[e,zrG,h i];simp only[zcr,T.zal]
def F.zyg(x:F):x.dk=x.d:=by cases x<;>rfl
section
variable {tm:TM}{t:T D}
def zaO(h:Rt tm t)(x:A):zdz tm x=zah t x:=by
 cases x with
 |t n=>exact h n
 |k x=>exact congrArg some (F.zyg x)
 |x=>rfl
 |g cs=>rfl
theorem zj2(h:Rt tm t):∀l,zlV tm l=zas (zah t) l
 |[]=>rfl
 |x::l=>by
  have e:zlV tm (x::l)=oL (zdz tm x) fun y=>oL (zlV tm l) fun m=>some (y::m):=rfl
  rw[e,zaO h,zj2 h l,zas];cases zah t x with
  |none=>rfl
  |some y=>cases zas (zah t) l<;>rfl
theorem zwO(h:Rt tm t):∀l,zzw tm l=zas (fun(p:Nat×Nat×A)=>do some (p.1,p.2.1,<-zah t p.2.2)) l
 |[]=>rfl
 |x::l=>by
  have e:zzw tm (x::l)=oL (zdz tm x.2.2) fun y=>oL (zzw tm l) fun m=>some ((x.1,x.2.1,y)::m):=rfl
  rw[e,zaO h,zwO h l,zas];cases zah t x.2.2 with
  |none=>rfl
  |some y=>
   simp only[Z47,Z46];cases zas _ l<;>rfl
theorem zqZ(h:Rt tm t):∀l,zzx tm l=zas (fun(p:Nat×A)=>do some (p.1,<-zah t p.2)) l
 |[]=>rfl
 |x::l=>by
  have e:zzx tm (x::l)=oL (zdz tm x.2) fun y=>oL (zzx tm l) fun m=>some ((x.1,y)::m):=rfl
  rw[e,zaO h,zqZ h l,zas];cases zah t x.2 with
  |none=>rfl
  |some y=>
   simp only[Z47,Z46];cases zas _ l<;>rfl
def zwY(h:Rt tm t)(x:Option A):znZ tm x=zbN (zah t) x:=by
 cases x with
 |none=>rfl
 |some x=>
  have e:znZ tm (some x)=oL (zdz tm x) fun y=>some (some y):=rfl
  rw[e,zaO h,zbN];cases zah t x<;>rfl
def zaB{α:Type}(x:α)(k:α->Option Rs):oK (some x) k=k x:=rfl
def zK9(h:Rt tm t)(hp:Nat->Option Ob)(c:Nat)(o:O A)(hk:kcl o= .n):opK o tm hp c=(o.res (zah t)).bind (opv hp c):=by
 cases o with
 |mv x'=>
  show ra k_mv x' tm hp c=_;unfold ra;simp only[zaO h,O.res,Z47];cases zah t x' with
  |none=>rfl
  |some y=>
   simp only[zaB,Z46];rfl
 |pick q' x' y'=>
  show zq7 zBl q' x' y' tm hp c=_;unfold zq7;simp only[zaO h,O.res,Z47];cases zah t q' with
  |none=>rfl
  |some y=>
   simp only[zaB,Z46];cases zah t x' with
   |none=>rfl
   |some y=>
    simp only[zaB,Z46];cases zah t y' with
    |none=>rfl
    |some y=>
     simp only[zaB,Z46];rfl
 |new cs'=>
  rfl
 |box x'=>
  show ra zFC x' tm hp c=_;unfold ra;simp only[zaO h,O.res,Z47];cases zah t x' with
  |none=>rfl
  |some y=>
   simp only[zaB,Z46];rfl
 |bld z' ps'=>
  show rp (zFA z') ps' tm hp c=_;unfold rp;simp only[zwO h,O.res,Z47];cases zas _ ps' with
  |none=>rfl
  |some y=>
   simp only[zaB,Z46];rfl
 |bsl es' z' m' ps'=>
  show rq (zFE es' z' m') ps' tm hp c=_;unfold rq;simp only[zqZ h,O.res,Z47];cases zas _ ps' with
  |none=>rfl
  |some y=>
   simp only[zaB,Z46];rfl
 |bsf es' z' m' ps'=>
  show rq (zFD es' z' m') ps' tm hp c=_;unfold rq;simp only[zqZ h,O.res,Z47];cases zas _ ps' with
  |none=>rfl
  |some y=>
   simp only[zaB,Z46];rfl
 |ld g' n' x'=>
  show ra (k_ld g' n') x' tm hp c=_;unfold ra;simp only[zaO h,O.res,Z47];cases zah t x' with
  |none=>rfl
  |some y=>
   simp only[zaB,Z46];rfl
 |st n' x' v'=>
  show raa (k_st n') x' v' tm hp c=_;unfold raa;simp only[zaO h,O.res,Z47];cases zah t x' with
  |none=>rfl
  |some y=>
   simp only[zaB,Z46];cases zah t v' with
   |none=>rfl
   |some y=>
    simp only[zaB,Z46];rfl
 |nck x'=>
  show ra zGa x' tm hp c=_;unfold ra;simp only[zaO h,O.res,Z47];cases zah t x' with
  |none=>rfl
  |some y=>
   simp only[zaB,Z46];rfl
 |bin op' x' y'=>
  show raa (zFy op') x' y' tm hp c=_;unfold raa;simp only[zaO h,O.res,Z47];cases zah t x' with
  |none=>rfl
  |some y=>
   simp only[zaB,Z46];cases zah t y' with
   |none=>rfl
   |some y=>
    simp only[zaB,Z46];rfl
 |eqb ne' x' y'=>
  show raa (zFR ne') x' y' tm hp c=_;unfold raa;simp only[zaO h,O.res,Z47];cases zah t x' with
  |none=>rfl
  |some y=>
   simp only[zaB,Z46];cases zah t y' with
   |none=>rfl
   |some y=>
    simp only[zaB,Z46];rfl
 |eqn kd' ne' x' y'=>
  show raa (zFS kd' ne') x' y' tm hp c=_;unfold raa;simp only[zaO h,O.res,Z47];cases zah t x' with
  |none=>rfl
  |some y=>
   simp only[zaB,Z46];cases zah t y' with
   |none=>rfl
   |some y=>
    simp only[zaB,Z46];rfl
 |eqa ks' ne' x' y'=>
  show raa (zFO ks' ne') x' y' tm hp c=_;unfold raa;simp only[zaO h,O.res,Z47];cases zah t x' with
  |none=>rfl
  |some y=>
   simp only[zaB,Z46];cases zah t y' with
   |none=>rfl
   |some y=>
    simp only[zaB,Z46];rfl
 |un op' x'=>
  show ra (k_un op') x' tm hp c=_;unfold ra;simp only[zaO h,O.res,Z47];cases zah t x' with
  |none=>rfl
  |some y=>
   simp only[zaB,Z46];rfl
 |cvi k' x'=>
  show ra (zFM k') x' tm hp c=_;unfold ra;simp only[zaO h,O.res,Z47];cases zah t x' with
  |none=>rfl
  |some y=>
   simp only[zaB,Z46];rfl
 |cvs x'=>
  show ra zFN x' tm hp c=_;unfold ra;simp only[zaO h,O.res,Z47];cases zah t x' with
  |none=>rfl
  |some y=>
   simp only[zaB,Z46];rfl
 |s2b x'=>
  show ra zGc x' tm hp c=_;unfold ra;simp only[zaO h,O.res,Z47];cases zah t x' with
  |none=>rfl
  |some y=>
   simp only[zaB,Z46];rfl
 |b2s x'=>
  show ra zFx x' tm hp c=_;unfold ra;simp only[zaO h,O.res,Z47];cases zah t x' with
  |none=>rfl
  |some y=>
   simp only[zaB,Z46];rfl
 |mkf f' a' b'=>
  show rll (zF3 f') a' b' tm hp c=_;unfold rll;simp only[zj2 h,O.res,Z47];cases zas (zah t) a' with
  |none=>rfl
  |some y=>
   simp only[zaB,Z46];cases zas (zah t) b' with
   |none=>rfl
   |some y=>
    simp only[zaB,Z46];rfl
 |mks es' byt' z' l' m'=>
  show raa (zF6 es' byt' z') l' m' tm hp c=_;unfold raa;simp only[zaO h,O.res,Z47];cases zah t l' with
  |none=>rfl
  |some y=>
   simp only[zaB,Z46];cases zah t m' with
   |none=>rfl
   |some y=>
    simp only[zaB,Z46];rfl
 |sls x' lo' hi'=>
  show zDU zGj x' lo' hi' tm hp c=_;unfold zDU;simp only[zaO h,zwY h,O.res,Z47];cases zah t x' with
  |none=>rfl
  |some y=>
   simp only[zaB,Z46];cases zbN (zah t) lo' with
   |none=>rfl
   |some y=>
    simp only[zaB,Z46];cases zbN (zah t) hi' with
    |none=>rfl
    |some y=>
     simp only[zaB,Z46];rfl
 |slc es' x' lo' hi' mx'=>
  show zzF (zGi es') x' lo' hi' mx' tm hp c=_;unfold zzF;simp only[zaO h,zwY h,O.res,Z47];cases zah t x' with
  |none=>rfl
  |some y=>
   simp only[zaB,Z46];cases zbN (zah t) lo' with
   |none=>rfl
   |some y=>
    simp only[zaB,Z46];cases zbN (zah t) hi' with
    |none=>rfl
    |some y=>
     simp only[zaB,Z46];cases zbN (zah t) mx' with
     |none=>rfl
     |some y=>
      simp only[zaB,Z46];rfl
 |fa off' x'=>
  show ra (k_fa off') x' tm hp c=_;unfold ra;simp only[zaO h,O.res,Z47];cases zah t x' with
  |none=>rfl
  |some y=>
   simp only[zaB,Z46];rfl
 |fld g' off' n' x'=>
  show ra (zFU g' off' n') x' tm hp c=_;unfold ra;simp only[zaO h,O.res,Z47];cases zah t x' with
  |none=>rfl
  |some y=>
   simp only[zaB,Z46];rfl
 |ia es' x' i'=>
  show raa (k_ia es') x' i' tm hp c=_;unfold raa;simp only[zaO h,O.res,Z47];cases zah t x' with
  |none=>rfl
  |some y=>
   simp only[zaB,Z46];cases zah t i' with
   |none=>rfl
   |some y=>
    simp only[zaB,Z46];rfl
 |iaa es' m' x' i'=>
  show raa (zFV es' m') x' i' tm hp c=_;unfold raa;simp only[zaO h,O.res,Z47];cases zah t x' with
  |none=>rfl
  |some y=>
   simp only[zaB,Z46];cases zah t i' with
   |none=>rfl
   |some y=>
    simp only[zaB,Z46];rfl
 |ixs x' i'=>
  show raa zFY x' i' tm hp c=_;unfold raa;simp only[zaO h,O.res,Z47];cases zah t x' with
  |none=>rfl
  |some y=>
   simp only[zaB,Z46];cases zah t i' with
   |none=>rfl
   |some y=>
    simp only[zaB,Z46];rfl
 |ixa g' es' m' x' i'=>
  show raa (zFX g' es' m') x' i' tm hp c=_;unfold raa;simp only[zaO h,O.res,Z47];cases zah t x' with
  |none=>rfl
  |some y=>
   simp only[zaB,Z46];cases zah t i' with
   |none=>rfl
   |some y=>
    simp only[zaB,Z46];rfl
 |ext x' i'=>
  show ra (zFT i') x' tm hp c=_;unfold ra;simp only[zaO h,O.res,Z47];cases zah t x' with
  |none=>rfl
  |some y=>
   simp only[zaB,Z46];rfl
 |app es' byt' s' x'=>
  show raa (zFv es' byt') s' x' tm hp c=_;unfold raa;simp only[zaO h,O.res,Z47];cases zah t s' with
  |none=>rfl
  |some y=>
   simp only[zaB,Z46];cases zah t x' with
   |none=>rfl
   |some y=>
    simp only[zaB,Z46];rfl
 |apz es' byt' z' s' n'=>
  show raa (zFw es' byt' z') s' n' tm hp c=_;unfold raa;simp only[zaO h,O.res,Z47];cases zah t s' with
  |none=>rfl
  |some y=>
   simp only[zaB,Z46];cases zah t n' with
   |none=>rfl
   |some y=>
    simp only[zaB,Z46];rfl
 |cpy es' d' s'=>
  show raa (zFK es') d' s' tm hp c=_;unfold raa;simp only[zaO h,O.res,Z47];cases zah t d' with
  |none=>rfl
  |some y=>
   simp only[zaB,Z46];cases zah t s' with
   |none=>rfl
   |some y=>
    simp only[zaB,Z46];rfl
 |clr es' z' s'=>
  show ra (zFJ es' z') s' tm hp c=_;unfold ra;simp only[zaO h,O.res,Z47];cases zah t s' with
  |none=>rfl
  |some y=>
   simp only[zaB,Z46];rfl
 |len x'=>
  show ra zFZ x' tm hp c=_;unfold ra;simp only[zaO h,O.res,Z47];cases zah t x' with
  |none=>rfl
  |some y=>
   simp only[zaB,Z46];rfl
 |lns x'=>
  show ra zF0 x' tm hp c=_;unfold ra;simp only[zaO h,O.res,Z47];cases zah t x' with
  |none=>rfl
  |some y=>
   simp only[zaB,Z46];rfl
 |mlen x'=>
  show ra zBk x' tm hp c=_;unfold ra;simp only[zaO h,O.res,Z47];cases zah t x' with
  |none=>rfl
  |some y=>
   simp only[zaB,Z46];rfl
 |cap x'=>
  show ra zFG x' tm hp c=_;unfold ra;simp only[zaO h,O.res,Z47];cases zah t x' with
  |none=>rfl
  |some y=>
   simp only[zaB,Z46];rfl
 |mm mx' x' y'=>
  show raa (k_mm mx') x' y' tm hp c=_;unfold raa;simp only[zaO h,O.res,Z47];cases zah t x' with
  |none=>rfl
  |some y=>
   simp only[zaB,Z46];cases zah t y' with
   |none=>rfl
   |some y=>
    simp only[zaB,Z46];rfl
 |mmk=>
  rfl
 |mup kd' m' k' v'=>
  show zq7 (zF9 kd') m' k' v' tm hp c=_;unfold zq7;simp only[zaO h,O.res,Z47];cases zah t m' with
  |none=>rfl
  |some y=>
   simp only[zaB,Z46];cases zah t k' with
   |none=>rfl
   |some y=>
    simp only[zaB,Z46];cases zah t v' with
    |none=>rfl
    |some y=>
     simp only[zaB,Z46];rfl
 |mlk kd' z' ok' m' k'=>
  show raa (zF7 kd' z' ok') m' k' tm hp c=_;unfold raa;simp only[zaO h,O.res,Z47];cases zah t m' with
  |none=>rfl
  |some y=>
   simp only[zaB,Z46];cases zah t k' with
   |none=>rfl
   |some y=>
    simp only[zaB,Z46];rfl
 |callp _ _=>cases hk
 |call _ _=>cases hk
 |callv _ _=>cases hk
def zs4{f:A->Option D}{o:O A}{o':O D}(hk:kcl o= .n)(hr:o.res f=some o'):kindOf o'= .n:=by
 cases o with
 |mv _=>
  simp only[O.res]at hr;obtain⟨_,_,hr⟩ :=zak hr;cases hr;rfl
 |pick _ _ _=>
  simp only[O.res]at hr;obtain⟨_,_,hr⟩ :=zak hr;obtain⟨_,_,hr⟩ :=zak hr;obtain⟨_,_,hr⟩ :=zak hr;cases hr;rfl
 |new _=>
  simp only[O.res]at hr;cases hr;rfl
 |box _=>
  simp only[O.res]at hr;obtain⟨_,_,hr⟩ :=zak hr;cases hr;rfl
 |bld _ _=>
  simp only[O.res]at hr;obtain⟨_,_,hr⟩ :=zak hr;cases hr;rfl
 |bsl _ _ _ _=>
  simp only[O.res]at hr;obtain⟨_,_,hr⟩ :=zak hr;cases hr;rfl
 |bsf _ _ _ _=>
  simp only[O.res]at hr;obtain⟨_,_,hr⟩ :=zak hr;cases hr;rfl
 |ld _ _ _=>
  simp only[O.res]at hr;obtain⟨_,_,hr⟩ :=zak hr;cases hr;rfl
 |st _ _ _=>
  simp only[O.res]at hr;obtain⟨_,_,hr⟩ :=zak hr;obtain⟨_,_,hr⟩ :=zak hr;cases hr;rfl
 |nck _=>
  simp only[O.res]at hr;obtain⟨_,_,hr⟩ :=zak hr;cases hr;rfl
 |bin _ _ _=>
  simp only[O.res]at hr;obtain⟨_,_,hr⟩ :=zak hr;obtain⟨_,_,hr⟩ :=zak hr;cases hr;rfl
 |eqb _ _ _=>
  simp only[O.res]at hr;obtain⟨_,_,hr⟩ :=zak hr;obtain⟨_,_,hr⟩ :=zak hr;cases hr;rfl
 |eqn _ _ _ _=>
  simp only[O.res]at hr;obtain⟨_,_,hr⟩ :=zak hr;obtain⟨_,_,hr⟩ :=zak hr;cases hr;rfl
 |eqa _ _ _ _=>
  simp only[O.res]at hr;obtain⟨_,_,hr⟩ :=zak hr;obtain⟨_,_,hr⟩ :=zak hr;cases hr;rfl
 |un _ _=>
  simp only[O.res]at hr;obtain⟨_,_,hr⟩ :=zak hr;cases hr;rfl
 |cvi _ _=>
  simp only[O.res]at hr;obtain⟨_,_,hr⟩ :=zak hr;cases hr;rfl
 |cvs _=>
  simp only[O.res]at hr;obtain⟨_,_,hr⟩ :=zak hr;cases hr;rfl
 |s2b _=>
  simp only[O.res]at hr;obtain⟨_,_,hr⟩ :=zak hr;cases hr;rfl
 |b2s _=>
  simp only[O.res]at hr;obtain⟨_,_,hr⟩ :=zak hr;cases hr;rfl
 |mkf _ _ _=>
  simp only[O.res]at hr;obtain⟨_,_,hr⟩ :=zak hr;obtain⟨_,_,hr⟩ :=zak hr;cases hr;rfl
 |mks _ _ _ _ _=>
  simp only[O.res]at hr;obtain⟨_,_,hr⟩ :=zak hr;obtain⟨_,_,hr⟩ :=zak hr;cases hr;rfl
 |sls _ _ _=>
  simp only[O.res]at hr;obtain⟨_,_,hr⟩ :=zak hr;obtain⟨_,_,hr⟩ :=zak hr;obtain⟨_,_,hr⟩ :=zak hr;cases hr;rfl
 |slc _ _ _ _ _=>
  simp only[O.res]at hr;obtain⟨_,_,hr⟩ :=zak hr;obtain⟨_,_,hr⟩ :=zak hr;obtain⟨_,_,hr⟩ :=zak hr;obtain⟨_,_,hr⟩ :=zak hr;cases hr;rfl
 |fa _ _=>
  simp only[O.res]at hr;obtain⟨_,_,hr⟩ :=zak hr;cases hr;rfl
 |fld _ _ _ _=>
  simp only[O.res]at hr;obtain⟨_,_,hr⟩ :=zak hr;cases hr;rfl
 |ia _ _ _=>
  simp only[O.res]at hr;obtain⟨_,_,hr⟩ :=zak hr;obtain⟨_,_,hr⟩ :=zak hr;cases hr;rfl
 |iaa _ _ _ _=>
  simp only[O.res]at hr;obtain⟨_,_,hr⟩ :=zak hr;obtain⟨_,_,hr⟩ :=zak hr;cases hr;rfl
 |ixs _ _=>
  simp only[O.res]at hr;obtain⟨_,_,hr⟩ :=zak hr;obtain⟨_,_,hr⟩ :=zak hr;cases hr;rfl
 |ixa _ _ _ _ _=>
  simp only[O.res]at hr;obtain⟨_,_,hr⟩ :=zak hr;obtain⟨_,_,hr⟩ :=zak hr;cases hr;rfl
 |ext _ _=>
  simp only[O.res]at hr;obtain⟨_,_,hr⟩ :=zak hr;cases hr;rfl
 |app _ _ _ _=>
  simp only[O.res]at hr;obtain⟨_,_,hr⟩ :=zak hr;obtain⟨_,_,hr⟩ :=zak hr;cases hr;rfl
 |apz _ _ _ _ _=>
  simp only[O.res]at hr;obtain⟨_,_,hr⟩ :=zak hr;obtain⟨_,_,hr⟩ :=zak hr;cases hr;rfl
 |cpy _ _ _=>
  simp only[O.res]at hr;obtain⟨_,_,hr⟩ :=zak hr;obtain⟨_,_,hr⟩ :=zak hr;cases hr;rfl
 |clr _ _ _=>
  simp only[O.res]at hr;obtain⟨_,_,hr⟩ :=zak hr;cases hr;rfl
 |len _=>
  simp only[O.res]at hr;obtain⟨_,_,hr⟩ :=zak hr;cases hr;rfl
 |lns _=>
  simp only[O.res]at hr;obtain⟨_,_,hr⟩ :=zak hr;cases hr;rfl
 |mlen _=>
  simp only[O.res]at hr;obtain⟨_,_,hr⟩ :=zak hr;cases hr;rfl
 |cap _=>
  simp only[O.res]at hr;obtain⟨_,_,hr⟩ :=zak hr;cases hr;rfl
 |mm _ _ _=>
  simp only[O.res]at hr;obtain⟨_,_,hr⟩ :=zak hr;obtain⟨_,_,hr⟩ :=zak hr;cases hr;rfl
 |mmk=>
  simp only[O.res]at hr;cases hr;rfl
 |mup _ _ _ _=>
  simp only[O.res]at hr;obtain⟨_,_,hr⟩ :=zak hr;obtain⟨_,_,hr⟩ :=zak hr;obtain⟨_,_,hr⟩ :=zak hr;cases hr;rfl
 |mlk _ _ _ _ _=>
  simp only[O.res]at hr;obtain⟨_,_,hr⟩ :=zak hr;obtain⟨_,_,hr⟩ :=zak hr;cases hr;rfl
 |callp _ _=>cases hk
 |call _ _=>cases hk
 |callv _ _=>cases hk
end
end Go.Vse
end
section
namespace Go.Vse
variable [Globs]
def zlM{α:Type}(t:T α):t.gk=t.get:=funext (T.zph t)
structure RS(k:SK)(s:St):Prop where
 tm:Rt k.tm s.tm
 h:k.h=s.h
 c:k.c=s.c
 lw:k.lw=s.lw
 mx:k.mx=s.mx
theorem zri:∀(l:List (Nat×Option Ob)) (h:T Ob),zmz h l=wrT h l
 |[],_=>rfl
 |(id,some ob)::l,h=>by rw[zmz,wrT,zri l,T.zk0];rfl
 |(id,none)::l,h=>by rw[zmz,wrT,zri l,T.zk0];rfl
theorem zr5:∀(l:List (Nat×Option Ob)) (m:Nat),zmy m l=zdi m l
 |[],_=>rfl
 |(id,o)::l,m=>by
  rw[zmy,zdi,zr5 l]
  by_cases hlt:id<m
  .rw[Z51 hlt,show Nat.blt id m=true by simpa [Z79]using hlt]
  .rw[Z49 hlt,show Nat.blt id m=false by
    cases hc:Nat.blt id m with
    |false=>rfl
    |true=>exact absurd (by simpa [Z79]using hc) hlt]
def zIl(a b:Nat):zi4 a b=Nat.max a b:=by
 unfold zi4
 by_cases hle:a<=b
 .rw[show Nat.ble a b=true by simpa [Z150]using hle];exact (Z162 hle).symm
 .rw[show Nat.ble a b=false by
   cases hc:Nat.ble a b with
   |false=>rfl
   |true=>exact absurd (by simpa [Z150]using hc) hle]
  exact (Z169 (Z110 (Z163 hle))).symm
def zAX(tm:TM)(h:T Ob)(c lw mx:Nat)(p:Fp):fin tm h c lw mx p=some (⟨tm,h,c,lw,Nat.max mx (c+1)⟩,p):=by
 unfold fin
 by_cases hle:mx<=c+1
 .rw[show Nat.ble mx (Nat.succ c)=true by simpa [Z150]using hle,show Nat.max mx (c+1)=c+1 from Z162 hle]
 .rw[show Nat.ble mx (Nat.succ c)=false by
   cases hc:Nat.ble mx (Nat.succ c)with
   |false=>rfl
   |true=>exact absurd (by simpa [Z150]using hc) hle,show Nat.max mx (c+1)=mx from Z169 (by omega)]
def zH0(tm:TM)(h:T Ob)(c lw mx:Nat)(p:Fp):fin2 tm h c lw mx p=some (⟨tm,h,c,lw,Nat.max mx (c+1)⟩,p):=by
 unfold fin2;rw[show Nat.ble lw lw=true by simp[Z150],zAX]
section
variable {tm:TM}{t:T D}
theorem zxC(ht:Rt tm t){h:T Ob}{c lw mx:Nat}{dst:Option Nat}{r:Option Rs}{k:SK}{p:Fp}(hs:zoa tm h c lw mx dst r=some (k,p)):
  ∃s,zcI ⟨t,h,c,lw,mx⟩ dst r=some (s,p)/\RS k s:=by
 cases r with
 |none=>cases hs
 |some r=>
  obtain⟨d,rd,wr,c'⟩ :=r;cases wr with
  |nil=>
   have e:zoa tm h c lw mx dst (some ⟨d,rd,[],c'⟩)=fin (ziB tm dst d) h c' lw mx ⟨false,rd,[],c,Nat.succ c',h,h⟩ :=rfl;rw[e,zAX]at hs;cases hs;exact⟨_,rfl,⟨ht.put dst d,rfl,rfl,rfl,rfl⟩⟩
  |cons x wr=>
   have e:zoa tm h c lw mx dst (some ⟨d,rd,x::wr,c'⟩)= @Bool.rec (fun _=>Option (SK×Fp)) none
    (fin2 (ziB tm dst d) (zmz h (x::wr)) c' (zmy lw (x::wr)) mx ⟨false,rd,(x::wr).map (·.1),c,Nat.succ c',h,zmz h (x::wr)⟩) (zat c' (x::wr)):=rfl
   rw[e]at hs;cases hw:zat c' (x::wr)with
   |false=>rw[hw]at hs;cases hs
   |true=>
    rw[hw]at hs;simp only[zH0,zri,zr5,Z45,Z66]at hs;obtain⟨rfl,rfl⟩ :=hs;refine⟨⟨zcr t dst d,wrT h (x::wr),c',zdi lw (x::wr),Nat.max mx (c'+1)⟩,?_,⟨ht.put dst d,rfl,rfl,rfl,rfl⟩⟩;simp only[zcI,hw];rfl
theorem zxE(ht:Rt tm t){h:T Ob}{c lw mx:Nat}{dst:Option Nat}{q:Option CR}{k:SK}{p:Fp}(hs:zoc tm h c lw mx dst q=some (k,p)):
  ∃s,zgc ⟨t,h,c,lw,mx⟩ dst q=some (s,p)/\RS k s:=by
 cases q with
 |none=>cases hs
 |some q=>
  obtain⟨d,h',c',lw',mx'⟩ :=q;have e:zoc tm h c lw mx dst (some ⟨d,h',c',lw',mx'⟩)= @Bool.rec (fun _=>Option (SK×Fp)) none
   (some (⟨ziB tm dst d,h',c',@Bool.rec (fun _=>Nat) lw' lw (Nat.ble lw lw'),zi4 mx mx'⟩,⟨true,[],[],c,mx',h,h'⟩)) (Nat.ble (zi4 mx mx') (zi4 mx mx')):=rfl
  rw[e,show Nat.ble (zi4 mx mx') (zi4 mx mx')=true by simp[Z150]]at hs;cases hs;refine⟨_,rfl,⟨ht.put dst d,rfl,rfl,?_,zIl _ _⟩⟩;simp only
  by_cases hle:lw<=lw'
  .rw[show Nat.ble lw lw'=true by simpa [Z150]using hle];exact (Z73 hle).symm
  .rw[show Nat.ble lw lw'=false by
    cases hc:Nat.ble lw lw' with
    |false=>rfl
    |true=>exact absurd (by simpa [Z150]using hc) hle]
   exact (Z202 (Z110 (Z163 hle))).symm
def zEq(ht:Rt tm t)(g:Option (Nat×Bool)):zzV tm g=zb7 t g:=by
 cases g with
 |none=>rfl
 |some p=>
  obtain⟨s,w⟩ :=p;have e:zzV tm (some (s,w))=oL (getM tm s) (zth w):=rfl;rw[e,ht s];simp only[zb7];cases t.get s with
  |none=>rfl
  |some d=>
   have e2:oL (some d) (zth w)=zth w d:=rfl;rw[e2];cases d with
   |f x=>
    cases x with
    |b x=>cases x<;>cases w<;>rfl
    |_=>rfl
   |_=>rfl
end
def EV(p:Nat->Prop):Prop:=∃N,∀n,N<=n->p n
def EV.and{p q:Nat->Prop}(hp:EV p)(hq:EV q):EV fun n=>p n/\q n:=by
 obtain⟨N,h1⟩ :=hp;obtain⟨M,h2⟩ :=hq;exact⟨N+M,fun n hn=>⟨h1 n (by omega),h2 n (by omega)⟩⟩
def EV.mono{p q:Nat->Prop}(hp:EV p)(h:∀n,p n->q n):EV q:=hp.imp fun _ h1 n hn=>h n (h1 n hn)
def EV.all{p:Nat->Prop}(h:∀n,p n):EV p:=⟨0,fun n _=>h n⟩
def EV.ge(N:Nat):EV fun n=>N<=n:=⟨N,fun _ h=>h⟩
def Con(pr:Pr)(f:Nat)(args:List D)(h:T Ob)(c:Nat)(q:CR):Prop:=EV fun n=>zco pr n f args h c=some q
def Ans(pr:Pr)(f:Nat)(fs:List F)(x:F):Prop:=∃q rd,Con pr f (F.dL fs) .e 0 q/\frz q.h.get 12 q.d=some (x,rd)
section
variable {pr:Pr}{orc:Orc}{clK:Cl}
def zhn(pr:Pr)(orc:Orc):Prop:=∀f fs x,orc f fs=some x->Ans pr f fs x
def zkk(pr:Pr)(clK:Cl):Prop:=∀f args h c q,clK f args h c=some q->Con pr f args h c q
theorem zAt(ho:zhn pr orc)(hc:zkk pr clK){h:Nat->Option Ob}{c f:Nat}{args:List D}{r:Rs}(hs:zlI orc clK h c f args=some r):
  EV fun n=>zej (zco pr n) h c f args=some r:=by
 unfold zlI at hs;split at hs
 .cases hs
 .rename_i fs rd hfz;split at hs
  .rename_i x hx;obtain⟨q,rd',h1,h2⟩ :=ho f fs x hx;refine h1.mono fun n hn=> ?_
   simp only[zej,hfz,hn,h2];rw[<-hs,F.zyg]
  .split at hs
   .cases hs
   .rename_i q hq;split at hs
    .cases hs
    .rename_i x rd' hx;refine (hc _ _ _ _ _ hq).mono fun n hn=> ?_
     rw[zlM]at hx;simp only[zej,hfz,hn,hx];rw[<-hs,F.zyg]
theorem zEj(ho:zhn pr orc)(hc:zkk pr clK){tm:TM}{t:T D}(ht:Rt tm t){o:O A}{gd:Option (Nat×Bool)}{dst:Option Nat}{h:T Ob}{c lw mx:Nat}{k:SK}{p:Fp}
  (hs:zta orc clK o dst tm h c lw mx=some (k,p)):∃s,RS k s/\EV fun n=>step (zco pr n) ⟨t,h,c,lw,mx⟩ ⟨dst,gd,o⟩ =some (s,p):=by
 unfold zta at hs;cases hk:kcl o with
 |p f args=>
  have ho':o= .callp f args:=by cases o<;>simp[kcl]at hk;obtain⟨rfl,rfl⟩ :=hk;rfl
  subst ho';rw[hk]at hs;simp only[zj2 ht]at hs;cases hm:zas (zah t) args with
  |none=>rw[hm]at hs;cases hs
  |some ds=>
   rw[hm]at hs;have hs':zoa tm h c lw mx dst (zlI orc clK h.gk c f ds)=some (k,p):=hs;cases hr:zlI orc clK h.gk c f ds with
   |none=>rw[hr]at hs';cases hs'
   |some r=>
    rw[hr]at hs';obtain⟨s,h1,h2⟩ :=zxC ht hs';refine⟨s,h2,(zAt ho hc hr).mono fun n hn=> ?_⟩;simp only[step,O.res,Z47,hm,Z46,kindOf];rw[zlM]at hn;rw[hn];exact h1
 |q f args=>
  have ho':o= .call f args:=by cases o<;>simp[kcl]at hk;obtain⟨rfl,rfl⟩ :=hk;rfl
  subst ho';rw[hk]at hs;simp only[zj2 ht]at hs;cases hm:zas (zah t) args with
  |none=>rw[hm]at hs;cases hs
  |some ds=>
   rw[hm]at hs;have hs':zoc tm h c lw mx dst (clK f ds h c)=some (k,p):=hs;cases hr:clK f ds h c with
   |none=>rw[hr]at hs';cases hs'
   |some r=>
    rw[hr]at hs';obtain⟨s,h1,h2⟩ :=zxE ht hs';refine⟨s,h2,(hc _ _ _ _ _ hr).mono fun n hn=> ?_⟩;simp only[step,O.res,Z47,hm,Z46,kindOf];rw[hn];exact h1
 |v x args=>
  have ho':o= .callv x args:=by cases o<;>simp[kcl]at hk;obtain⟨rfl,rfl⟩ :=hk;rfl
  subst ho';rw[hk]at hs;simp only[zj2 ht,zaO ht]at hs;cases hx:zah t x with
  |none=>rw[hx]at hs;cases hs
  |some d=>
   rw[hx]at hs;cases hm:zas (zah t) args with
   |none=>rw[hm]at hs;cases hs
   |some ds=>
    rw[hm]at hs;have hs':ztF clK dst ds tm h c lw mx d=some (k,p):=hs;have main:∀f as,kindOf (.callv d ds)= .q f as->zoc tm h c lw mx dst (clK f as h c)=some (k,p)->
      ∃s,RS k s/\EV fun n=>step (zco pr n) ⟨t,h,c,lw,mx⟩ ⟨dst,gd,.callv x args⟩ =some (s,p):=by
     intro f as hkd hs';cases hr:clK f as h c with
     |none=>rw[hr]at hs';cases hs'
     |some r=>
      rw[hr]at hs';obtain⟨s,h1,h2⟩ :=zxE ht hs';refine⟨s,h2,(hc _ _ _ _ _ hr).mono fun n hn=> ?_⟩;simp only[step,O.res,Z47,hm,hx,Z46,hkd];rw[hn];exact h1
    unfold ztF at hs';split at hs'
    .exact main _ _ rfl hs'
    .exact main _ _ rfl hs'
    .cases hs'
 |n=>
  rw[hk]at hs;have hs':zoa tm h c lw mx dst (opK o tm h.gk c)=some (k,p):=hs;rw[zK9 ht _ _ _ hk]at hs';cases hr:o.res (zah t)with
  |none=>rw[hr]at hs';cases hs'
  |some o'=>
   rw[hr]at hs';simp only[Z46]at hs';obtain⟨s,h1,h2⟩ :=zxC ht hs';refine⟨s,h2,EV.all fun n=> ?_⟩;simp only[step,hr,zs4 hk hr];rw[zlM]at h1;exact h1
theorem zwX(ho:zhn pr orc)(hc:zkk pr clK){k k':SK}{s:St}(hr:RS k s){o:Op}{p:Fp}(hs:znY orc clK k o=some (k',p)):
  ∃s',RS k' s'/\EV fun n=>zeE (zco pr n) s o=some (s',p):=by
 obtain⟨tm,h,c,lw,mx⟩ :=k;obtain⟨t,h',c',lw',mx'⟩ :=s;obtain⟨ht,e1,e2,e3,e4⟩ :=hr;simp only at ht e1 e2 e3 e4;subst e1 e2 e3 e4;obtain⟨dst,gd,o⟩ :=o;have hs':zDP orc clK dst gd o tm h c lw mx=some (k',p):=hs;unfold zDP at hs';rw[zEq ht]at hs';cases hw:zb7 t gd with
 |none=>rw[hw]at hs';cases hs'
 |some b=>
  rw[hw]at hs';cases b with
  |true=>
   obtain⟨s,h1,h2⟩ :=zEj (gd:=gd) ho hc ht (show zta orc clK o dst tm h c lw mx=some (k',p)from hs');refine⟨s,h1,h2.mono fun n hn=> ?_⟩;simp only[zeE,hw];exact hn
  |false=>
   have hs2:some (SK.mk (ziB tm dst (.f .un)) h c lw mx,Fp.mk false [] [] c c h h)=some (k',p):=hs';cases hs2;refine⟨⟨zcr t dst (.f .un),h,c,lw,mx⟩,⟨ht.put dst (.f .un),rfl,rfl,rfl,rfl⟩,EV.all fun n=> ?_⟩;simp only[zeE,hw]
theorem zw6(ho:zhn pr orc)(hc:zkk pr clK):∀(l:List Op) (k k':SK) (s:St),RS k s->runK orc clK l k=some k'->∃s',RS k' s'/\EV fun n=>ze2 (zco pr n) l s=some s'
 |[],k,k',s,hr,hs=>by
  cases hs;exact⟨s,hr,EV.all fun n=>rfl⟩
 |o::l,k,k',s,hr,hs=>by
  have e:runK orc clK (o::l) k= @Option.rec (SK×Fp) (fun _=>Option SK) none (fun p=>@Prod.rec SK Fp (fun _=>Option SK) (fun s' _=>runK orc clK l s') p) (znY orc clK k o):=rfl;rw[e]at hs;cases h1:znY orc clK k o with
  |none=>rw[h1]at hs;cases hs
  |some y=>
   obtain⟨k1,p⟩ :=y;rw[h1]at hs;obtain⟨s1,r1,ev1⟩ :=zwX ho hc hr h1;obtain⟨s2,r2,ev2⟩ :=zw6 ho hc l k1 k' s1 r1 hs;refine⟨s2,r2,(ev1.and ev2).mono fun n ⟨a,b⟩ => ?_⟩;simp only[ze2,a];exact b
def zno{p q:Fp}(h:p.ziT=true):q.apart p=true/\p.apart q=true:=by
 obtain⟨all,rd,wr,lo,hi,h1,h2⟩ :=p;obtain⟨all',rd',wr',lo',hi',h1',h2'⟩ :=q;have e:Fp.ziT ⟨all,rd,wr,lo,hi,h1,h2⟩ = @Bool.rec (fun _=>Bool) (@List.rec Nat (fun _=>Bool) (@List.rec Nat (fun _=>Bool) true (fun _ _ _=>false) wr) (fun _ _ _=>false) rd) false all:=rfl;rw[e]at h;cases all with
 |true=>cases h
 |false=>
  cases rd with
  |cons _ _=>cases h
  |nil=>
   cases wr with
   |cons _ _=>cases h
   |nil=>cases all'<;>simp[Fp.apart]
inductive Imp:List Fp->List (Nat×Fp)->Prop where
 |nil:Imp [] []
 |skip {l m p}:Imp l m->p.ziT=true->Imp (l++[p]) m
 |keep {l m p}:Imp l m->Imp (l++[p]) ((l.length,p)::m)
theorem zgN(p:Fp)(mask:Nat):∀(l:List Fp) (q:Fp) (i:Nat),zcf p mask (l++[q]) i=(zcf p mask l i&&(!mask.testBit (i+l.length)||q.apart p))
 |[],q,i=>by simp[zcf]
 |x::l,q,i=>by
  simp only[Z29,zcf,zgN p mask l q (i+1),Z23];rw[show i+1+l.length=i+(l.length+1) by omega,Z155]
def zAm{p:Fp}{mask:Nat}{l:List Fp}{m:List (Nat×Fp)}(hi:Imp l m):zhu p mask m=true->zcf p mask l 0=true:=by
 induction hi with
 |nil=>intro _;rfl
 |skip _ hl ih=>
  intro h;rw[zgN,ih h,(zno (q:=p) hl).2];simp
 | @keep l m q _ ih=>
  intro h;rw[zgN];unfold zhu at h;have hb:mask.testBit l.length=Nat.beq (Nat.mod (Nat.div mask (Nat.pow 2 l.length)) 2) 1:=by
   rw[Z138];have:∀x:Nat,decide (x=1)=Nat.beq x 1:=fun x=>by
    cases hx:Nat.beq x 1 with
    |true=>simpa using Z88 hx
    |false=>simpa using Nat.ne_of_beq_eq_false hx
   exact this _
  rw[Z25,hb];split at h
  .rename_i hbt;split at h
   .rename_i ha;rw[ih h,ha];simp
   .cases h
  .rename_i hbf;rw[ih h,hbf];simp
theorem zrM{p:Fp}(h:p.ziT=true)(mask:Nat):∀(l:List Fp) (i:Nat),zcf p mask l i=true
 |[],_=>rfl
 |q::l,i=>by simp[zcf,(zno (q:=q) h).1,zrM h mask l (i+1)]
theorem zAF(ho:zhn pr orc)(hc:zkk pr clK):∀(l:List (Op×Nat)) (fps:List Fp) (m:List (Nat×Fp)) (k k':SK) (s:St),Imp fps m->RS k s->
  drK orc clK l fps.length m k=some k'->∃s',RS k' s'/\EV fun n=>zeS (zco pr n) l fps s=some s'
 |[],fps,m,k,k',s,_,hr,hs=>by
  cases hs;exact⟨s,hr,EV.all fun n=>rfl⟩
 |(o,mask)::l,fps,m,k,k',s,hm,hr,hs=>by
  have e:drK orc clK ((o,mask)::l) fps.length m k= @Option.rec (SK×Fp) (fun _=>Option SK) none (fun p=>@Prod.rec SK Fp (fun _=>Option SK) (fun s' p=>
   @Bool.rec (fun _=>Option SK) (@Bool.rec (fun _=>Option SK) none (drK orc clK l (Nat.succ fps.length) ((fps.length,p)::m) (zmo s' p.hi)) (zhu p mask m)) (drK orc clK l (Nat.succ fps.length) m (zmo s' p.hi)) p.ziT) p) (znY orc clK k o):=rfl
  rw[e]at hs;cases h1:znY orc clK k o with
  |none=>rw[h1]at hs;cases hs
  |some y=>
   obtain⟨k1,p⟩ :=y;rw[h1]at hs;obtain⟨s1,r1,ev1⟩ :=zwX ho hc hr h1;have hrs:RS (zmo k1 p.hi) {s1 with c:=p.hi}:=by
    obtain⟨tm,h,c,lw,mx⟩ :=k1;exact⟨r1.tm,r1.h,rfl,r1.lw,r1.mx⟩
   have hlen:Nat.succ fps.length=(fps++[p]).length:=by simp
   have fin:∀m',Imp (fps++[p]) m'->zcf p mask fps 0=true->drK orc clK l (Nat.succ fps.length) m' (zmo k1 p.hi)=some k'->∃s',RS k' s'/\EV fun n=>zeS (zco pr n) ((o,mask)::l) fps s=some s':=by
    intro m' hm' ha hd;rw[hlen]at hd;obtain⟨s2,r2,ev2⟩ :=zAF ho hc l (fps++[p]) m' _ k' _ hm' hrs hd;refine⟨s2,r2,(ev1.and ev2).mono fun n ⟨a,b⟩ => ?_⟩;simp only[zeS,a,ha,Z60];exact b
   have hs':@Bool.rec (fun _=>Option SK) (@Bool.rec (fun _=>Option SK) none (drK orc clK l (Nat.succ fps.length) ((fps.length,p)::m) (zmo k1 p.hi)) (zhu p mask m)) (drK orc clK l (Nat.succ fps.length) m (zmo k1 p.hi)) p.ziT=some k':=hs;cases hl:p.ziT with
   |true=>
    rw[hl]at hs';exact fin m (hm.skip hl) (zrM hl mask fps 0) hs'
   |false=>
    rw[hl]at hs';cases ha:zhu p mask m with
    |false=>rw[ha]at hs';cases hs'
    |true=>
     rw[ha]at hs';exact fin _ hm.keep (zAm hm ha) hs'
theorem zqW{body:St->Option (Ex×St)}:∀(n m:Nat) (s:St) (r:Ex×St),n<=m->iter body n s=some r->iter body m s=some r
 |0,_,_,_,_,h=>by cases h
 |n+1,0,_,_,h,_=>by omega
 |n+1,m+1,s,r,hle,h=>by
  simp only[iter]at h|-;cases hb:body s with
  |none=>simp only[hb]at h;cases h
  |some y=>
   obtain⟨x,s'⟩ :=y;cases x with
   |nrm=>
    simp only[hb]at h|-;exact zqW n m s' r (by omega) h
   |exit i=>simp only[hb]at h|-;exact h
   |ret=>simp only[hb]at h|-;exact h
def RX(r:Ex×SK)(r':Ex×St):Prop:=r.1=r'.1/\RS r.2 r'.2
theorem zvv{r:Option (Ex×SK)}{kk:SK->Option (Ex×SK)}{y:Ex×SK}(h:zqh r kk=some y):
  (∃k,r=some (.nrm,k)/\kk k=some y)\/(∃x k,r=some (x,k)/\x≠ .nrm/\y=(x,k)):=by
 cases r with
 |none=>cases h
 |some z=>
  obtain⟨x,k⟩ :=z;cases x with
  |nrm=>exact .inl ⟨k,rfl,h⟩
  |exit i=>cases h;exact .inr ⟨_,_,rfl,by simp,rfl⟩
  |ret=>cases h;exact .inr ⟨_,_,rfl,by simp,rfl⟩
theorem zgQ(ho:zhn pr orc)(hc:zkk pr clK)(lf:Nat):∀(c:C) (k:SK) (s:St) (r:Ex×SK),RS k s->evK orc clK lf c k=some r->
  ∃r',RX r r'/\EV fun n=>evC (zco pr n) n c s=some r'
 | .skip,k,s,r,hr,hs=>by cases hs;exact⟨(.nrm,s),⟨rfl,hr⟩,EV.all fun n=>rfl⟩
 | .exit id,k,s,r,hr,hs=>by cases hs;exact⟨(.exit id,s),⟨rfl,hr⟩,EV.all fun n=>rfl⟩
 | .ret,k,s,r,hr,hs=>by cases hs;exact⟨(.ret,s),⟨rfl,hr⟩,EV.all fun n=>rfl⟩
 | .reg ops,k,s,r,hr,hs=>by
  have hs':zzy (runK orc clK ops k)=some r:=hs;cases h1:runK orc clK ops k with
  |none=>rw[h1]at hs';cases hs'
  |some k1=>
   rw[h1]at hs';cases hs';obtain⟨s1,r1,ev1⟩ :=zw6 ho hc ops k k1 s hr h1;exact⟨(.nrm,s1),⟨rfl,r1⟩,ev1.mono fun n hn=>by simp only[evC,hn]⟩
 | .dreg ops,k,s,r,hr,hs=>by
  have hs':zzy (drK orc clK ops 0 [] k)=some r:=hs;cases h1:drK orc clK ops 0 [] k with
  |none=>rw[h1]at hs';cases hs'
  |some k1=>
   rw[h1]at hs';cases hs';obtain⟨s1,r1,ev1⟩ :=zAF ho hc ops [] [] k k1 s .nil hr h1;exact⟨(.nrm,s1),⟨rfl,r1⟩,ev1.mono fun n hn=>by simp only[evC,hn]⟩
 | .seq a b,k,s,r,hr,hs=>by
  have hs':zqh (evK orc clK lf a k) (evK orc clK lf b)=some r:=hs;rcases zvv hs' with⟨k1,h1,h2⟩ |⟨x,k1,h1,hx,rfl⟩
  .obtain⟨⟨x',s1⟩,⟨e1,r1⟩,ev1⟩ :=zgQ ho hc lf a k s _ hr h1;simp only at e1 r1;subst e1;obtain⟨r2,x2,ev2⟩ :=zgQ ho hc lf b k1 s1 _ r1 h2;exact⟨r2,x2,(ev1.and ev2).mono fun n ⟨p,q⟩ =>by simp only[evC,p];exact q⟩
  .obtain⟨⟨x',s1⟩,⟨e1,r1⟩,ev1⟩ :=zgQ ho hc lf a k s _ hr h1;simp only at e1 r1;subst e1;refine⟨(x,s1),⟨rfl,r1⟩,ev1.mono fun n p=> ?_⟩;simp only[evC,p];cases x<;>simp_all
 | .cond x a b,k,s,r,hr,hs=>by
  have hs':@Option.rec D (fun _=>Option (Ex×SK)) none (fun d=>@Option.rec Bool (fun _=>Option (Ex×SK)) none (fun b'=>@Bool.rec (fun _=>Option (Ex×SK)) (evK orc clK lf b k) (evK orc clK lf a k) b') (zsP d)) (zdz k.tm x)=some r:=hs;rw[zaO hr.tm]at hs';cases hx:zah s.tm x with
  |none=>rw[hx]at hs';cases hs'
  |some d=>
   rw[hx]at hs';cases hd:zsP d with
   |none=>simp only[hd]at hs';cases hs'
   |some b'=>
    simp only[hd]at hs';have hde:d= .f (.b b'):=by
     unfold zsP at hd;split at hd
     .cases hd;rfl
     .cases hd
    subst hde;cases b' with
    |true=>
     obtain⟨r2,x2,ev2⟩ :=zgQ ho hc lf a k s _ hr hs';exact⟨r2,x2,ev2.mono fun n p=>by simp only[evC,hx];exact p⟩
    |false=>
     obtain⟨r2,x2,ev2⟩ :=zgQ ho hc lf b k s _ hr hs';exact⟨r2,x2,ev2.mono fun n p=>by simp only[evC,hx];exact p⟩
 | .blk id c,k,s,r,hr,hs=>by
  have hs':blkK id (evK orc clK lf c k)=some r:=hs;cases h1:evK orc clK lf c k with
  |none=>rw[h1]at hs';cases hs'
  |some y=>
   obtain⟨x,k1⟩ :=y;rw[h1]at hs';obtain⟨⟨x',s1⟩,⟨e1,r1⟩,ev1⟩ :=zgQ ho hc lf c k s _ hr h1;simp only at e1 r1;subst e1;cases x with
   |nrm=>cases hs';exact⟨(.nrm,s1),⟨rfl,r1⟩,ev1.mono fun n p=>by simp only[evC,p]⟩
   |ret=>cases hs';exact⟨(.ret,s1),⟨rfl,r1⟩,ev1.mono fun n p=>by simp only[evC,p]⟩
   |exit i=>
    have hs2:@Bool.rec (fun _=>Option (Ex×SK)) (some (.exit i,k1)) (some (.nrm,k1)) (Nat.beq i id)=some r:=hs';cases hb:Nat.beq i id with
    |true=>
     rw[hb]at hs2;cases hs2;exact⟨(.nrm,s1),⟨rfl,r1⟩,ev1.mono fun n p=>by simp only[evC,p];rw[Z51 (Z88 hb)]⟩
    |false=>
     rw[hb]at hs2;cases hs2;exact⟨(.exit i,s1),⟨rfl,r1⟩,ev1.mono fun n p=>by simp only[evC,p];rw[Z49 (Nat.ne_of_beq_eq_false hb)]⟩
 | .loop c,k,s,r,hr,hs=>by
  have hs':zsY (evK orc clK lf c) lf k=some r:=hs;have key:∀(m:Nat) (k:SK) (s:St),RS k s->zsY (evK orc clK lf c) m k=some r->∃r',RX r r'/\EV fun n=>iter (evC (zco pr n) n c) m s=some r':=by
   intro m
   induction m with
   |zero=>intro k s _ h;cases h
   |succ m ih=>
    intro k s hr h;have h':zqh (evK orc clK lf c k) (zsY (evK orc clK lf c) m)=some r:=h;rcases zvv h' with⟨k1,h1,h2⟩ |⟨x,k1,h1,hx,rfl⟩
    .obtain⟨⟨x',s1⟩,⟨e1,r1⟩,ev1⟩ :=zgQ ho hc lf c k s _ hr h1;simp only at e1 r1;subst e1;obtain⟨r2,x2,ev2⟩ :=ih k1 s1 r1 h2;exact⟨r2,x2,(ev1.and ev2).mono fun n ⟨p,q⟩ =>by simp only[iter,p];exact q⟩
    .obtain⟨⟨x',s1⟩,⟨e1,r1⟩,ev1⟩ :=zgQ ho hc lf c k s _ hr h1;simp only at e1 r1;subst e1;refine⟨(x,s1),⟨rfl,r1⟩,ev1.mono fun n p=> ?_⟩;simp only[iter,p];cases x<;>simp_all
  obtain⟨r',x',ev⟩ :=key lf k s hr hs';exact⟨r',x',(ev.and (EV.ge lf)).mono fun n ⟨p,q⟩ =>by simp only[evC];exact zqW lf n s r' q p⟩
theorem zCt:∀(l:List D) (i:Nat) (tm:TM) (t:T D),Rt tm t->Rt (tmK l i tm) (zax l i t)
 |[],_,_,_,h=>h
 |d::l,i,tm,t,h=>by
  rw[tmK,zax];refine zCt l (i+1) _ _ fun j=> ?_
  rw[zrG,h j,T.zal]
def zDX{k:SK}{s:St}(hr:RS k s)(v:Rv):zzM k v=resV s v:=by
 cases v with
 |t n=>exact hr.tm n
 |cell n g sz=>
  simp only[zzM,resV,hr.tm n,hr.h,zlM];cases s.tm.get n<;>rfl
theorem zu1{k:SK}{s:St}(hr:RS k s):∀l,zs9 k l=zas (resV s) l
 |[]=>rfl
 |x::l=>by
  rw[zs9,zas,zDX hr,zu1 hr l];cases resV s x with
  |none=>rfl
  |some y=>cases zas (resV s) l<;>rfl
def zDW{k:SK}{s:St}(hr:RS k s)(l:List Rv):zzJ k l=resD s l:=by
 unfold zzJ resD;rw[zu1 hr];cases zas (resV s) l with
 |none=>rfl
 |some m=>
  cases m with
  |nil=>rfl
  |cons a m=>cases m<;>rfl
theorem zt9(ho:zhn pr orc):∀n,zkk pr (zsU orc pr n)
 |0=>fun f args h c q hq=>by cases hq
 |n+1=>fun f args h c q hq=>by
  simp only[zsU]at hq;cases hf:pr.fn f with
  |some fn=>
   simp only[hf]at hq;unfold fnK at hq;split at hq
   .cases hq
   .cases hq
   .rename_i x k hne hev;have hr0:RS (SK.mk (tmK args 0 {}) h c c c) (St.mk (zax args 0 .e) h c c c):=⟨zCt args 0 {} .e fun i=>by rw[zDq];rfl,rfl,rfl,rfl,rfl⟩
    obtain⟨⟨x',s⟩,⟨e1,r1⟩,ev1⟩ :=zgQ ho (zt9 ho n) n fn.body _ _ _ hr0 hev;simp only at e1 r1;subst e1;split at hq
    .cases hq
    .rename_i d hd;rw[zDW r1]at hd;have key:EV fun m=>zeu (evC (zco pr m) m) fn args h c=some q:=by
      refine ev1.mono fun m hm=> ?_
      simp only[zeu,hm];have fin:(match resD s fn.res with|none=>none|some d=>if Nat.beq s.lw c&&d.isF then some (CR.mk d h c c s.mx)else some (CR.mk d s.h s.c s.lw s.mx))=some q:=by
       simp only[hd];rw[<-r1.lw,<-r1.mx,<-r1.h,<-r1.c];split at hq
       .rename_i hb;split at hq
        .rename_i hi;rw[hb,hi];simpa using hq
        .rename_i hi;rw[hb,hi];simpa using hq
       .rename_i hb;rw[hb];simpa using hq
      cases x with
      |nrm=>exact fin
      |ret=>exact fin
      |exit i=>exact absurd rfl (hne i)
     obtain⟨N,hN⟩ :=key;refine⟨N+1,fun m hm=> ?_⟩;obtain⟨m,rfl⟩ :∃m',m=m'+1:=⟨m - 1,by omega⟩
     simp only[zco,hf];exact hN m (by omega)
  |none=>
   simp only[hf]at hq;refine⟨1,fun m hm=> ?_⟩;obtain⟨m,rfl⟩ :∃m',m=m'+1:=⟨m - 1,by omega⟩
   simp only[zco,hf];exact hq
end
end Go.Vse
end
section
namespace Go.Vse
variable [Globs]
section
variable (pr:Pr)
def zcW(r:Option (St×Fp))(Q:St->Fp->Prop):Prop:=
 match r with
 |some (s',p)=>Q s' p
 |none=>False
def zbr(o:Op)(s:St)(Q:St->Fp->Prop):Prop:=
 match zb7 s.tm o.gd with
 |none=>False
 |some false=>Q {s with tm:=zcr s.tm o.dst (.f .un)} {all:=false,rd:=[],wr:=[],lo:=s.c,hi:=s.c,h:=s.h,h':=s.h}
 |some true=>match o.o.res (zah s.tm)with
  |none=>False
  |some o'=>match kindOf o' with
   | .p f args=>match zcA s.h.get args with
    |none=>False
    |some (fs,rd)=>∃x,Ans pr f fs x/\zcW (zcI s o.dst (some {d:=x.d,rd,wr:=zaw s.h.get rd,c:=s.c})) Q
   | .q f args=>∃q,Con pr f args s.h s.c q/\zcW (zgc s o.dst (some q)) Q
   | .n=>zcW (zcI s o.dst (opv s.h.get s.c o')) Q
   | .bad=>False
def wpO:List Op->St->(St->Prop)->Prop
 |[],s,Q=>Q s
 |o::l,s,Q=>zbr pr o s fun s' _=>wpO l s' Q
def wpD:List (Op×Nat)->List Fp->St->(St->Prop)->Prop
 |[],_,s,Q=>Q s
 |(o,mask)::l,fps,s,Q=>zbr pr o s fun s' p=>zcf p mask fps 0=true/\wpD l (fps++[p]) {s' with c:=p.hi} Q
def wpC:C->St->(Ex->St->Prop)->Prop
 | .skip,s,Q=>Q .nrm s
 | .reg ops,s,Q=>wpO pr ops s (Q .nrm)
 | .dreg ops,s,Q=>wpD pr ops [] s (Q .nrm)
 | .seq a b,s,Q=>wpC a s fun x s'=>match x with
  | .nrm=>wpC b s' Q
  |x=>Q x s'
 | .cond x a b,s,Q=>match zah s.tm x with
  |some (.f (.b true))=>wpC a s Q
  |some (.f (.b false))=>wpC b s Q
  |_=>False
 | .blk id c,s,Q=>wpC c s fun x s'=>match x with
  | .exit i=>if i=id then Q .nrm s' else Q (.exit i) s'
  |x=>Q x s'
 | .loop c,s,Q=>∃x s' m,Q x s'/\EV fun n=>iter (evC (zco pr n) n c) m s=some (x,s')
 | .exit id,s,Q=>Q (.exit id) s
 | .ret,s,Q=>Q .ret s
variable {pr}
def zvG{o:Op}{s:St}{Q:St->Fp->Prop}(h:zbr pr o s Q):∃s' p,Q s' p/\EV fun n=>zeE (zco pr n) s o=some (s',p):=by
 unfold zbr at h;split at h
 .exact h.elim
 .rename_i hw;exact⟨_,_,h,EV.all fun n=>by simp only[zeE,hw]⟩
 .rename_i hw;split at h
  .exact h.elim
  .rename_i o' hr;split at h
   .rename_i f args hk;split at h
    .exact h.elim
    .rename_i fs rd hfz;obtain⟨x,⟨q,rd',hc,hx⟩,h⟩ :=h;unfold zcW at h;split at h
     .rename_i s' p hst;refine⟨s',p,h,hc.mono fun n hn=> ?_⟩;simp only[zeE,hw,step,hr,hk,zej,hfz,hn,hx];exact hst
     .exact h.elim
   .rename_i f args hk;obtain⟨q,hc,h⟩ :=h;unfold zcW at h;split at h
    .rename_i s' p hst;refine⟨s',p,h,hc.mono fun n hn=> ?_⟩;simp only[zeE,hw,step,hr,hk,hn];exact hst
    .exact h.elim
   .rename_i hk;unfold zcW at h;split at h
    .rename_i s' p hst;refine⟨s',p,h,EV.all fun n=> ?_⟩;simp only[zeE,hw,step,hr,hk];exact hst
    .exact h.elim
   .exact h.elim
theorem zCK:∀(l:List Op) (s:St) (Q:St->Prop),wpO pr l s Q->∃s',Q s'/\EV fun n=>ze2 (zco pr n) l s=some s'
 |[],s,Q,h=>⟨s,h,EV.all fun _=>rfl⟩
 |o::l,s,Q,h=>by
  obtain⟨s1,p,h1,e1⟩ :=zvG h;obtain⟨s2,h2,e2⟩ :=zCK l s1 Q h1;exact⟨s2,h2,(e1.and e2).mono fun n ⟨a,b⟩ =>by simp only[ze2,a];exact b⟩
theorem zCJ:∀(l:List (Op×Nat)) (fps:List Fp) (s:St) (Q:St->Prop),wpD pr l fps s Q->∃s',Q s'/\EV fun n=>zeS (zco pr n) l fps s=some s'
 |[],_,s,Q,h=>⟨s,h,EV.all fun _=>rfl⟩
 |(o,mask)::l,fps,s,Q,h=>by
  obtain⟨s1,p,⟨ha,h1⟩,e1⟩ :=zvG h;obtain⟨s2,h2,e2⟩ :=zCJ l (fps++[p]) {s1 with c:=p.hi} Q h1;exact⟨s2,h2,(e1.and e2).mono fun n ⟨a,b⟩ =>by simp only[zeS,a,ha,Z60];exact b⟩
theorem zex:∀(c:C) (s:St) (Q:Ex->St->Prop),wpC pr c s Q->∃x s',Q x s'/\EV fun n=>evC (zco pr n) n c s=some (x,s')
 | .skip,s,Q,h=>⟨_,s,h,EV.all fun _=>rfl⟩
 | .exit id,s,Q,h=>⟨_,s,h,EV.all fun _=>rfl⟩
 | .ret,s,Q,h=>⟨_,s,h,EV.all fun _=>rfl⟩
 | .reg ops,s,Q,h=>by
  obtain⟨s',h1,e1⟩ :=zCK ops s _ h;exact⟨.nrm,s',h1,e1.mono fun n hn=>by simp only[evC,hn]⟩
 | .dreg ops,s,Q,h=>by
  obtain⟨s',h1,e1⟩ :=zCJ ops [] s _ h;exact⟨.nrm,s',h1,e1.mono fun n hn=>by simp only[evC,hn]⟩
 | .seq a b,s,Q,h=>by
  obtain⟨x,s1,h1,e1⟩ :=zex a s _ h;cases x with
  |nrm=>
   obtain⟨x2,s2,h2,e2⟩ :=zex b s1 Q h1;exact⟨x2,s2,h2,(e1.and e2).mono fun n ⟨p,q⟩ =>by simp only[evC,p];exact q⟩
  |exit i=>exact⟨.exit i,s1,h1,e1.mono fun n p=>by simp only[evC,p]⟩
  |ret=>exact⟨.ret,s1,h1,e1.mono fun n p=>by simp only[evC,p]⟩
 | .cond x a b,s,Q,h=>by
  unfold wpC at h;split at h
  .rename_i hx;obtain⟨x2,s2,h2,e2⟩ :=zex a s Q h;exact⟨x2,s2,h2,e2.mono fun n p=>by simp only[evC,hx];exact p⟩
  .rename_i hx;obtain⟨x2,s2,h2,e2⟩ :=zex b s Q h;exact⟨x2,s2,h2,e2.mono fun n p=>by simp only[evC,hx];exact p⟩
  .exact h.elim
 | .blk id c,s,Q,h=>by
  obtain⟨x,s1,h1,e1⟩ :=zex c s _ h;cases x with
  |nrm=>exact⟨.nrm,s1,h1,e1.mono fun n p=>by simp only[evC,p]⟩
  |ret=>exact⟨.ret,s1,h1,e1.mono fun n p=>by simp only[evC,p]⟩
  |exit i=>
   by_cases hi:i=id
   .simp only[hi,Z60]at h1;exact⟨.nrm,s1,h1,e1.mono fun n p=>by simp only[evC,p,hi,Z60]⟩
   .simp only[hi,Z63]at h1;exact⟨.exit i,s1,h1,e1.mono fun n p=>by simp only[evC,p,hi,Z63]⟩
 | .loop c,s,Q,h=>by
  obtain⟨x,s',m,h1,e1⟩ :=h;exact⟨x,s',h1,(e1.and (EV.ge m)).mono fun n ⟨p,q⟩ =>by simp only[evC];exact zqW m n s _ q p⟩
theorem zMp{c:C}{Q:Ex->St->Prop}(I:Nat->St->Prop)(hstep:∀k s,I k s->wpC pr c s fun x s'=>match x with
  | .nrm=>∃k',k'<k/\I k' s'
  |x=>Q x s'):∀(k:Nat) (s:St),I k s->wpC pr (.loop c) s Q:=by
 intro k
 induction k using Nat.strongRecOn with
 |ind k ih=>
  intro s hI;obtain⟨x,s1,hq,ev⟩ :=zex c s _ (hstep k s hI);cases x with
  |nrm=>
   obtain⟨k',hlt,hI'⟩ :=hq;obtain⟨x2,s2,m,h2,e2⟩ :=ih k' hlt s1 hI';exact⟨x2,s2,m+1,h2,(ev.and e2).mono fun n ⟨p,q⟩ =>by simp only[iter,p];exact q⟩
  |exit i=>exact⟨.exit i,s1,1,hq,ev.mono fun n p=>by simp only[iter,p]⟩
  |ret=>exact⟨.ret,s1,1,hq,ev.mono fun n p=>by simp only[iter,p]⟩
def zDm(res:List Rv)(h:T Ob)(c:Nat)(Q:CR->Prop)(x:Ex)(s:St):Prop:=
 (match x with| .exit _=>False|_=>True)/\∃d,resD s res=some d/\Q (if Nat.beq s.lw c&&d.isF then ⟨d,h,c,c,s.mx⟩else ⟨d,s.h,s.c,s.lw,s.mx⟩)
def st0(args:List D)(h:T Ob)(c:Nat):St:={tm:=zax args 0 .e,h,c,lw:=c,mx:=c}
theorem zrz{f:Nat}{fn:Fn}(hf:pr.fn f=some fn){args:List D}{h:T Ob}{c:Nat}{Q:CR->Prop}(hw:wpC pr fn.body (st0 args h c) (zDm fn.res h c Q)):
  ∃q,Q q/\Con pr f args h c q:=by
 obtain⟨x,s,⟨hx,d,hd,hQ⟩,ev⟩ :=zex _ _ _ hw;refine⟨_,hQ,?_⟩;have key:EV fun m=>zeu (evC (zco pr m) m) fn args h c=some (if Nat.beq s.lw c&&d.isF then ⟨d,h,c,c,s.mx⟩else ⟨d,s.h,s.c,s.lw,s.mx⟩):=by
  refine ev.mono fun m hm=> ?_
  unfold zeu;unfold st0 at hm;rw[hm];cases x with
  |exit i=>exact hx.elim
  |nrm=>simp only[hd];split<;>rfl
  |ret=>simp only[hd];split<;>rfl
 obtain⟨N,hN⟩ :=key;refine⟨N+1,fun m hm=> ?_⟩;obtain⟨m,rfl⟩ :∃m',m=m'+1:=⟨m - 1,by omega⟩
 simp only[zco,hf];exact hN m (by omega)
end
end Go.Vse
end
section
namespace Go.Vse
variable [Globs]
def St.up(s:St)(dst:Option Nat)(d:D):St:={s with tm:=zcr s.tm dst d,mx:=Nat.max s.mx (s.c+1)}
def St.aft(s:St)(dst:Option Nat)(d:D)(wr:List (Nat×Option Ob))(c:Nat):St:=
 {tm:=zcr s.tm dst d,h:=wrT s.h wr,c,lw:=zdi s.lw wr,mx:=Nat.max s.mx (c+1)}
def zgz(t:T D)(i j:Nat)(d:D):(zcr t (some i) d).get j=if j=i then some d else t.get j:=T.zal ..
def zhB(t:T D)(d:D):zcr t none d=t:=rfl
def zbh(s:St)(dst:Option Nat)(d:D):(s.up dst d).tm=zcr s.tm dst d:=rfl
def zbY(s:St)(dst:Option Nat)(d:D):(s.up dst d).h=s.h:=rfl
def zbB(s:St)(dst:Option Nat)(d:D):(s.up dst d).c=s.c:=rfl
def znd(s:St)(dst:Option Nat)(d:D):(s.up dst d).lw=s.lw:=rfl
def za1(s:St)(dst:Option Nat)(d:D)(wr:List (Nat×Option Ob))(c:Nat):(s.aft dst d wr c).tm=zcr s.tm dst d:=rfl
def za9(s:St)(dst:Option Nat)(d:D)(wr:List (Nat×Option Ob))(c:Nat):(s.aft dst d wr c).h=wrT s.h wr:=rfl
def za4(s:St)(dst:Option Nat)(d:D)(wr:List (Nat×Option Ob))(c:Nat):(s.aft dst d wr c).c=c:=rfl
def zjq(s:St)(dst:Option Nat)(d:D)(wr:List (Nat×Option Ob))(c:Nat):(s.aft dst d wr c).lw=zdi s.lw wr:=rfl
section
variable {pr:Pr}{l:List Op}{s:St}{Q:St->Prop}{dst:Option Nat}
theorem zxJ{o:O A}{o':O D}(hr:o.res (zah s.tm)=some o')(hk:kindOf o'= .n){r:Rs}(hv:opv s.h.get s.c o'=some r)(hw:zat r.c r.wr=true)
  {R:St->Fp->Prop}(h:R (s.aft dst r.d r.wr r.c) {all:=false,rd:=r.rd,wr:=r.wr.map (·.1),lo:=s.c,hi:=r.c+1,h:=s.h,h':=wrT s.h r.wr}):
  zbr pr ⟨dst,none,o⟩ s R:=by
 simp only[zbr,zb7,hr,hk,hv,zcW,zcI,hw];exact h
theorem wpO_n{o:O A}{o':O D}(hr:o.res (zah s.tm)=some o')(hk:kindOf o'= .n){r:Rs}(hv:opv s.h.get s.c o'=some r)(hw:zat r.c r.wr=true)
  (h:wpO pr l (s.aft dst r.d r.wr r.c) Q):wpO pr (⟨dst,none,o⟩ ::l) s Q:=zxJ hr hk hv hw h
def zql{o:O A}{o':O D}{d:D}{rd:List Nat}(hr:o.res (zah s.tm)=some o')(hk:kindOf o'= .n)(hv:opv s.h.get s.c o'=some {d,rd,c:=s.c})
  (h:wpO pr l (s.up dst d) Q):wpO pr (⟨dst,none,o⟩ ::l) s Q:=zxJ hr hk hv rfl h
def zMo{q x y:A}(h:∃b d e,zah s.tm q=some (.f (.b b))/\zah s.tm x=some d/\zah s.tm y=some e/\wpO pr l (s.up dst (if b then d else e)) Q):wpO pr (⟨dst,none,.pick q x y⟩ ::l) s Q:=by
 obtain⟨b,d,e,h1,h2,h3,h⟩ :=h;exact zql (o':= .pick (.f (.b b)) d e) (rd:=[]) (by simp[O.res,h1,h2,h3]) rfl rfl h
def w_bin{op:BinOp}{x y:A}(h:∃a b,zah s.tm x=some (.f a)/\zah s.tm y=some (.f b)/\∃z,zbk op a b=some z/\wpO pr l (s.up dst (.f z)) Q):wpO pr (⟨dst,none,.bin op x y⟩ ::l) s Q:=by
 obtain⟨a,b,h1,h2,z,h3,h⟩ :=h;exact zql (o':= .bin op (.f a) (.f b)) (rd:=[]) (by simp[O.res,h1,h2]) rfl (by simp[opv,h3,okF]) h
def w_not{x:A}(h:∃b,zah s.tm x=some (.f (.b b))/\wpO pr l (s.up dst (.f (.b !b))) Q):wpO pr (⟨dst,none,.un .not x⟩ ::l) s Q:=by
 obtain⟨b,h1,h⟩ :=h;exact zql (o':= .un .not (.f (.b b))) (rd:=[]) (by simp[O.res,h1]) rfl rfl h
def zeU{x:A}(h:∃v,zah s.tm x=some v/\∃n,zcE v=some n/\wpO pr l (s.up dst (.f (.i .i64 n))) Q):wpO pr (⟨dst,none,.len x⟩ ::l) s Q:=by
 obtain⟨v,h1,n,h2,h⟩ :=h;exact zql (o':= .len v) (rd:=[]) (by simp[O.res,h1]) rfl (by simp[opv,h2,okF]) h
def faB(off:Nat):D->Option D
 | .ptr id es i j=>some (.ptr id es i (j+off))
 | .fptr cs=>some (.fptr (cs.drop off))
 |_=>none
def iaB(es:Nat)(x:D)(i:Nat):Option D:=
 match x with
 | .f (.sl es' els)=>if es=es' then(els[i]?).map D.fptr else none
 | .sl id off m es' _ _=>if es=es'/\i<m then some (.ptr id es (off+i) 0)else none
 |_=>none
def zgn{es:Nat}{x i:A}(h:∃v w,zah s.tm x=some v/\zah s.tm i=some w/\∃n,zbq w=some n/\∃d,iaB es v n=some d/\wpO pr l (s.up dst d) Q):wpO pr (⟨dst,none,.ia es x i⟩ ::l) s Q:=by
 obtain⟨v,w,h1,h2,n,h3,d,h4,h⟩ :=h;refine zql (o':= .ia es v w) (rd:=[]) (by simp[O.res,h1,h2]) rfl ?_ h;unfold iaB at h4;split at h4
 .rename_i es' els;split at h4
  .rename_i hes;cases he:els[n]? with
   |none=>rw[he]at h4;simp at h4
   |some el=>
    rw[he]at h4;simp only[Z134,Z45]at h4;subst h4;simp[opv,h3,hes,he,okD]
  .cases h4
 .split at h4
  .rename_i hes;cases h4;simp only[opv,h3,okD];rw[Z51 hes]
  .cases h4
 .cases h4
theorem zJK{f:Nat}{args:List A}(h:∃ds,zas (zah s.tm) args=some ds/\∃fs rd,zcA s.h.get ds=some (fs,rd)/\∃x,Ans pr f fs x/\zat s.c (zaw s.h.get rd)=true/\wpO pr l (s.aft dst x.d (zaw s.h.get rd) s.c) Q):
  wpO pr (⟨dst,none,.callp f args⟩ ::l) s Q:=by
 obtain⟨ds,h1,fs,rd,h2,x,h3,h4,h⟩ :=h;simp only[wpO,zbr,zb7,O.res,h1,Z47,Z46,kindOf,h2];refine⟨x,h3,?_⟩;simp only[zcW,zcI,h4];exact h
def St.cal(s:St)(dst:Option Nat)(q:CR):St:={tm:=zcr s.tm dst q.d,h:=q.h,c:=q.c,lw:=Nat.min s.lw q.lw,mx:=Nat.max s.mx q.mx}
def ztE(s:St)(dst:Option Nat)(q:CR):(s.cal dst q).tm=zcr s.tm dst q.d:=rfl
def zyb(s:St)(dst:Option Nat)(q:CR):(s.cal dst q).h=q.h:=rfl
def zya(s:St)(dst:Option Nat)(q:CR):(s.cal dst q).c=q.c:=rfl
def ztC(s:St)(dst:Option Nat)(q:CR):(s.cal dst q).lw=Nat.min s.lw q.lw:=rfl
def zMn{f:Nat}{args:List A}(h:∃ds,zas (zah s.tm) args=some ds/\∃q,Con pr f ds s.h s.c q/\wpO pr l (s.cal dst q) Q):wpO pr (⟨dst,none,.call f args⟩ ::l) s Q:=by
 obtain⟨ds,h1,q,h2,h⟩ :=h;simp only[wpO,zbr,zb7,O.res,h1,Z47,Z46,kindOf];exact⟨q,h2,h⟩
def zx8{ops:List Op}{Q:Ex->St->Prop}:wpC pr (.reg ops) s Q=wpO pr ops s (Q .nrm):=rfl
def zx9{a b:C}{Q:Ex->St->Prop}:wpC pr (.seq a b) s Q=wpC pr a s (fun x s'=>match x with| .nrm=>wpC pr b s' Q|x=>Q x s'):=rfl
def zx7{id:Nat}{c:C}{Q:Ex->St->Prop}:wpC pr (.blk id c) s Q=wpC pr c s (fun x s'=>match x with| .exit i=>if i=id then Q .nrm s' else Q (.exit i) s'|x=>Q x s'):=rfl
def zKs{x:A}{a b:C}{Q:Ex->St->Prop}(h:∃t,zah s.tm x=some (.f (.b t))/\(if t then wpC pr a s Q else wpC pr b s Q)):wpC pr (.cond x a b) s Q:=by
 obtain⟨t,h1,h⟩ :=h;unfold wpC;rw[h1];cases t<;>simpa using h
def zlH{Q:Ex->St->Prop}:wpC pr .skip s Q=Q .nrm s:=rfl
def zlG{id:Nat}{Q:Ex->St->Prop}:wpC pr (.exit id) s Q=Q (.exit id) s:=rfl
def zoM{Q:Ex->St->Prop}:wpC pr .ret s Q=Q .ret s:=rfl
def zl1(t:T D)(n:Nat):zah t (.t n)=t.get n:=rfl
def zlZ(t:T D)(x:F):zah t (.k x)=some x.d:=rfl
def zjH(a b:Int):zbk .lss (.i .i64 a) (.i .i64 b)=some (.b (decide (a<b))):=rfl
def zjF(a b:Int):zbk .leq (.i .i64 a) (.i .i64 b)=some (.b (decide (a<=b))):=rfl
def zjD(a b:Int):zbk .geq (.i .i64 a) (.i .i64 b)=some (.b (decide (a≥b))):=rfl
def zjE(a b:Int):zbk .gtr (.i .i64 a) (.i .i64 b)=some (.b (decide (a>b))):=rfl
def zjA(a b:Int):zbk .eql (.i .i64 a) (.i .i64 b)=some (.b (a==b)):=rfl
def zjK(a b:Int):zbk .neq (.i .i64 a) (.i .i64 b)=some (.b (a != b)):=rfl
def zjw(a b:Int):zbk .add (.i .i64 a) (.i .i64 b)=some (.i .i64 (IntKind.i64.wrap (a+b))):=rfl
def zjL(a b:Int):zbk .sub (.i .i64 a) (.i .i64 b)=some (.i .i64 (IntKind.i64.wrap (a - b))):=rfl
def zHO(a b:Int)(h:b≠0):zbk .rem (.i .i64 a) (.i .i64 b)=some (.i .i64 (a.tmod b)):=by
 simp[zbk,ztB,Go.binOp,Go.Op.intDiv,h,zhU];rfl
def zHL(a b:Int)(h:b≠0):zbk .quo (.i .i64 a) (.i .i64 b)=some (.i .i64 (IntKind.i64.wrap (a.tdiv b))):=by
 simp[zbk,ztB,Go.binOp,Go.Op.intDiv,h,zhU];rfl
end
end Go.Vse
end
section
namespace Go.Vse
variable [Globs]
open Go.RowKit
section
variable {P:Program}{pur:Nat->Bool}{pr:Pr}
def zf8:Mu:=fun _ _=>False
def zqL(H:Array Obj):Prop:=∀n cs,Globs.data n=some cs->za7 H zf8 n 0 cs
def zz7:zaq zf8 (T.e:T Ob).get (fun _=>none)=zf8:=by
 rw[zhA,zgC]
def sim_e(H:Array Obj)(hg:zqL H):Sim zf8 H (T.e:T Ob).get (fun _=>none) (fun _=>False):=
 ⟨fun id ob h=>by simp[T.zkK]at h,fun id b h=>by simp at h,fun id id' b h=>by simp at h,fun id b i h=>by simp at h,fun id ob h=>by simp[T.zkK]at h,fun b i h=>h.elim,fun n cs h=>by rw[zz7];exact hg n cs h⟩
theorem land(hp:znD P pur pr){f:Nat}{fs:List F}{vs:List Value}{w:World}(hgl:zqL w.heap)(hrel:zaR w.heap zf8 fs vs){q:CR}(hc:Con pr f (F.dL fs) .e 0 q){b:Bool}(hd:q.d= .f (.b b)):
  Calls P f ⟨vs⟩ w fun e w'=>e= .returned (.bool b)/\Below w.heap.size w w':=by
 obtain⟨N,hN⟩ :=hc;have ok:=zmR hp N f _ _ _ _ (hN N (Z2 _));obtain⟨_,_,_,h⟩ :=ok;have hargs:zau w.heap (zaq zf8 (T.e:T Ob).get (fun _=>none)) (fun _=>none) (fun _=>False) (F.dL fs) vs:=by
  rw[zz7];exact zaR.dL fs vs hrel
 refine (h zf8 (fun _=>none) (fun _=>False) w vs (sim_e _ hgl) (fun id _ _ h=>h) hargs).mono fun e w' ⟨v,he,hb,ρ',hr,_,hev⟩ => ?_
 rw[hd]at hr;simp only[Rel,zao]at hr;subst hr;subst he;exact⟨rfl,hb.os,hb.tape,hb.output,hev.size,fun k hk=>(hev.blk k hk fun id h=>by simp at h).1⟩
theorem zqa{H:Array Obj}{b:Nat}{k:IntKind}:∀(zs:List Int) (o:Nat),(∀i,i<zs.length->zbR H b (o+i)=some (.int k (zs.getD i 0)))->za7 H zf8 b o (zs.map fun z=> .i k z)
 |[],_,_=>by simp only[Z85,za7]
 |z::zs,o,h=>by
  simp only[Z10,za7,zao];refine⟨⟨fun h=>h,_,?_,rfl,rfl⟩,zqa zs (o+1) fun i hi=> ?_⟩
  .have:=h 0 (by simp);simpa using this
  .have:=h (i+1) (by simp;omega);rw[show o+(i+1)=o+1+i by omega]at this;simpa using this
def zrY{w:World}{g:Nat}{k:IntKind}{zs:List Int}(h:∀i,i<zs.length->w.cell? ⟨g,i,none⟩ =some (.int k (zs.getD i 0))):za7 w.heap zf8 g 0 (zs.map fun z=> .i k z):=
 zqa zs 0 fun i hi=>by rw[Z25,<-zjO];exact h i hi
def zn2(k:IntKind)(isNil:Bool)(len:Nat)(zs:List Int):F:=if isNil then .nils else .sl 1 ((zs.take len).map fun z=>[.i k z])
theorem zqb{H:Array Obj}{b:Nat}{k:IntKind}:∀(zs:List Int) (o:Nat),(∀i,i<zs.length->zbR H b (o+i)=some (.int k (zs.getD i 0)))->zci H zf8 b 1 o (zs.map fun z=>[.i k z])
 |[],_,_=>by simp only[Z85,zci]
 |z::zs,o,h=>by
  simp only[Z10,zci,List.length_singleton,za7,zao];refine⟨trivial,⟨⟨fun h=>h,_,?_,rfl,rfl⟩,trivial⟩,zqb zs (o+1) fun i hi=> ?_⟩
  .have:=h 0 (by simp);simpa using this
  .have:=h (i+1) (by simp;omega);rw[show o+(i+1)=o+1+i by omega]at this;simpa using this
theorem zIt{w:World}{k:IntKind}{a:Option Addr}{len cap:Nat}{zs:List Int}
  (h:(a=none/\len=0/\cap=0/\zs=[])\/∃x,a=some x/\len<=cap/\zs.length=cap/\(∀i,i<zs.length->w.cell? (x.add i)=some (.int k (zs.getD i 0)))):
  zao w.heap zf8 (zn2 k a.isNone len zs) (.slice a len cap):=by
 rcases h with⟨rfl,rfl,rfl,rfl⟩ |⟨x,rfl,hl,hz,hc⟩
 .simp only[zn2,Option.isNone_none,Z60,zao]
 .have hlen:((zs.take len).map fun z=>[F.i k z]).length=len:=by simp;omega
  have e:zn2 k (some x).isNone len zs= .sl 1 ((zs.take len).map fun z=>[.i k z]):=by simp[zn2]
  rw[e];simp only[zao];rw[hlen];have hx:len≠0->x=⟨x.block,x.off,none⟩ :=by
   intro hne;have h0:=hc 0 (by omega);obtain⟨b,o,sp⟩ :=x;cases sp with
   |none=>rfl
   |some s=>
    simp only[World.cell?,Addr.add]at h0;split at h0<;>simp at h0
  refine⟨x,cap,rfl,hl,x.block,x.off,fun hne=>hx (fun e0=>hne (by simp[e0])),?_⟩
  by_cases hne:len=0
  .subst hne;simp only[Z173,Z85,zci]
  .refine zqb _ _ fun i hi=> ?_
   have hi':i<len:=by simp at hi;omega
   have h1:=hc i (by omega);rw[hx hne]at h1;have h2:(⟨x.block,x.off,none⟩ :Addr).add i=⟨x.block,x.off+i,none⟩ :=zcJ _ _ _;rw[h2,zjO]at h1;rw[h1]
   congr 2
   simp only[Z48,Z75,hi',Z60]
end
end Go.Vse
end
section
namespace Go.Vse
variable [Globs]
def zn4(orc:Orc)(pr:Pr)(n f:Nat)(fs:List F):Option F:=
 match zsU orc pr n f (F.dL fs) .e 0 with
 |none=>none
 |some q=>match frz q.h.gk 12 q.d with
  |some (x,_)=>some x
  |none=>none
def zab{orc:Orc}{pr:Pr}(ho:zhn pr orc){n f:Nat}{fs:List F}{x:F}(h:zn4 orc pr n f fs=some x):Ans pr f fs x:=by
 unfold zn4 at h;split at h
 .cases h
 .rename_i q hq;split at h
  .rename_i y rd hy;cases h;rw[zlM]at hy;exact⟨q,rd,zt9 ho n _ _ _ _ _ hq,hy⟩
  .cases h
def orc0:Orc:=fun _ _=>none
def zad(pr:Pr):zhn pr orc0:=fun _ _ _ h=>by cases h
end Go.Vse
end
section
namespace Go.Vse
variable [Globs]
section
variable {pr:Pr}{l:List Op}{s:St}{Q:St->Prop}{dst:Option Nat}
theorem zdD{o:O A}{o':O D}(hr:o.res (zah s.tm)=some o')(hk:kindOf o'= .n):
  wpO pr (⟨dst,none,o⟩ ::l) s Q↔∃r,opv s.h.get s.c o'=some r/\zat r.c r.wr=true/\wpO pr l (s.aft dst r.d r.wr r.c) Q:=by
 constructor
 .intro h;simp only[wpO,zbr,zb7,hr,hk]at h;unfold zcW at h;split at h
  .rename_i s' p hs;cases hv:opv s.h.get s.c o' with
   |none=>rw[hv]at hs;cases hs
   |some r=>
    rw[hv]at hs;simp only[zcI]at hs;cases hw:zat r.c r.wr with
    |false=>rw[hw]at hs;cases hs
    |true=>
     rw[hw]at hs;simp only[Z89,cond_false,Z45,Z66]at hs;obtain⟨rfl,rfl⟩ :=hs;exact⟨r,rfl,hw,h⟩
  .exact h.elim
 .rintro⟨r,hv,hw,h⟩;exact wpO_n hr hk hv hw h
def zdm{o:O A}(hr:o.res (zah s.tm)=none):wpO pr (⟨dst,none,o⟩ ::l) s Q↔False:=by
 simp[wpO,zbr,zb7,hr]
def zfr(d:D):s.aft dst d [] s.c=s.up dst d:=rfl
def zqp:wpO pr [] s Q↔Q s:=Iff.rfl
def x_mv{x:A}:wpO pr (⟨dst,none,.mv x⟩ ::l) s Q↔∃d,zah s.tm x=some d/\wpO pr l (s.up dst d) Q:=by
 cases hx:zah s.tm x with
 |none=>rw[zdm (by simp[O.res,hx])];simp
 |some d=>rw[zdD (o':= .mv d) (by simp[O.res,hx]) rfl];simp[opv,okD,zat,zfr]
def zMv{q x y:A}:wpO pr (⟨dst,none,.pick q x y⟩ ::l) s Q↔∃b,zah s.tm q=some (.f (.b b))/\∃d,zah s.tm x=some d/\∃e,zah s.tm y=some e/\wpO pr l (s.up dst (if b then d else e)) Q:=by
 constructor
 .intro h;cases hq:zah s.tm q with
  |none=>exact ((zdm (by simp[O.res,hq])).1 h).elim
  |some z=>
   cases hx:zah s.tm x with
   |none=>exact ((zdm (by simp[O.res,hq,hx])).1 h).elim
   |some d=>
    cases hy:zah s.tm y with
    |none=>exact ((zdm (by simp[O.res,hq,hx,hy])).1 h).elim
    |some e=>
     obtain⟨r,hv,_,h⟩ :=(zdD (o':= .pick z d e) (by simp[O.res,hq,hx,hy]) rfl).1 h;cases z with
     |f z=>
      cases z with
      |b b=>simp only[opv,okD,Z45]at hv;subst hv;exact⟨b,rfl,d,rfl,e,rfl,h⟩
      |_=>simp[opv]at hv
     |_=>simp[opv]at hv
 .rintro⟨b,h1,d,h2,e,h3,h⟩;exact zMo ⟨b,d,e,h1,h2,h3,h⟩
def x_ld{g:Bool}{n:Nat}{x:A}:wpO pr (⟨dst,none,.ld g n x⟩ ::l) s Q↔∃p,zah s.tm x=some p/\∃y,zcC g n s.h.get p=some y/\wpO pr l (s.up dst y.1) Q:=by
 cases hx:zah s.tm x with
 |none=>rw[zdm (by simp[O.res,hx])];simp
 |some p=>
  rw[zdD (o':= .ld g n p) (by simp[O.res,hx]) rfl];cases hl:zcC g n s.h.get p with
  |none=>simp[opv,hl]
  |some y=>obtain⟨d,rd⟩ :=y;simp[opv,hl,zat,zfr]
def x_bin{op:BinOp}{x y:A}:wpO pr (⟨dst,none,.bin op x y⟩ ::l) s Q↔∃a,zah s.tm x=some (.f a)/\∃b,zah s.tm y=some (.f b)/\∃z,zbk op a b=some z/\wpO pr l (s.up dst (.f z)) Q:=by
 constructor
 .intro h;cases hx:zah s.tm x with
  |none=>exact ((zdm (by simp[O.res,hx])).1 h).elim
  |some d=>
   cases hy:zah s.tm y with
   |none=>exact ((zdm (by simp[O.res,hx,hy])).1 h).elim
   |some e=>
    obtain⟨r,hv,_,h⟩ :=(zdD (o':= .bin op d e) (by simp[O.res,hx,hy]) rfl).1 h;cases d with
    |f a=>
     cases e with
     |f b=>
      cases hz:zbk op a b with
      |none=>simp[opv,hz]at hv
      |some z=>simp only[opv,hz,okF,Z45]at hv;subst hv;exact⟨a,rfl,b,rfl,z,hz,h⟩
     |_=>simp[opv]at hv
    |_=>simp[opv]at hv
 .rintro⟨a,h1,b,h2,z,h3,h⟩;exact w_bin ⟨a,b,h1,h2,z,h3,h⟩
def x_not{x:A}:wpO pr (⟨dst,none,.un .not x⟩ ::l) s Q↔∃b,zah s.tm x=some (.f (.b b))/\wpO pr l (s.up dst (.f (.b !b))) Q:=by
 constructor
 .intro h;cases hx:zah s.tm x with
  |none=>exact ((zdm (by simp[O.res,hx])).1 h).elim
  |some d=>
   obtain⟨r,hv,_,h⟩ :=(zdD (o':= .un .not d) (by simp[O.res,hx]) rfl).1 h;cases d with
   |f z=>
    cases z with
    |b b=>simp only[opv,okF,Z45]at hv;subst hv;exact⟨b,rfl,h⟩
    |i k n=>simp[opv,zhU,Go.Op.unary,Go.stuck]at hv
    |_=>simp[opv]at hv
   |_=>simp[opv]at hv
 .rintro⟨b,h1,h⟩;exact w_not ⟨b,h1,h⟩
def x_len{x:A}:wpO pr (⟨dst,none,.len x⟩ ::l) s Q↔∃v,zah s.tm x=some v/\∃n,zcE v=some n/\wpO pr l (s.up dst (.f (.i .i64 n))) Q:=by
 cases hx:zah s.tm x with
 |none=>rw[zdm (by simp[O.res,hx])];simp
 |some v=>
  rw[zdD (o':= .len v) (by simp[O.res,hx]) rfl];cases hl:zcE v with
  |none=>simp[opv,hl]
  |some n=>simp[opv,hl,okF,zat,zfr]
def x_fa{off:Nat}{x:A}:wpO pr (⟨dst,none,.fa off x⟩ ::l) s Q↔∃v,zah s.tm x=some v/\∃d,faB off v=some d/\wpO pr l (s.up dst d) Q:=by
 cases hx:zah s.tm x with
 |none=>rw[zdm (by simp[O.res,hx])];simp
 |some v=>
  rw[zdD (o':= .fa off v) (by simp[O.res,hx]) rfl];cases v<;>simp[opv,faB,okD,zat,zfr]
def x_ext{x:A}{i:Nat}:wpO pr (⟨dst,none,.ext x i⟩ ::l) s Q↔∃cs,zah s.tm x=some (.tu cs)/\∃d,cs[i]? =some d/\wpO pr l (s.up dst d) Q:=by
 cases hx:zah s.tm x with
 |none=>rw[zdm (by simp[O.res,hx])];simp
 |some v=>
  rw[zdD (o':= .ext v i) (by simp[O.res,hx]) rfl];cases v with
  |tu cs=>
   cases hc:cs[i]? with
   |none=>simp[opv,hc]
   |some d=>simp[opv,hc,okD,zat,zfr]
  |_=>simp[opv]
def x_box{x:A}:wpO pr (⟨dst,none,.box x⟩ ::l) s Q↔∃d,zah s.tm x=some d/\∃cs,d.cells=some cs/\wpO pr l (s.aft dst (.ptr s.c cs.length 0 0) [(s.c,some (.arr cs.length 0 [cs]))] (s.c+1)) Q:=by
 cases hx:zah s.tm x with
 |none=>rw[zdm (by simp[O.res,hx])];simp
 |some d=>
  rw[zdD (o':= .box d) (by simp[O.res,hx]) rfl];cases hc:d.cells with
  |none=>simp[opv,hc]
  |some cs=>simp[opv,hc,zat,Z79]
def zqo{cs:List F}:wpO pr (⟨dst,none,.new cs⟩ ::l) s Q↔wpO pr l (s.aft dst (.ptr s.c cs.length 0 0) [(s.c,some (.arr cs.length 0 [cs.map D.f]))] (s.c+1)) Q:=by
 rw[zdD (o':= .new cs) rfl rfl];simp[opv,zat,Z79]
def x_st{n:Nat}{x v:A}:wpO pr (⟨dst,none,.st n x v⟩ ::l) s Q↔∃p,zah s.tm x=some p/\∃d,zah s.tm v=some d/\∃y,zda n s.h.get p d=some y/\y.1<s.c/\wpO pr l (s.aft dst (.f .un) [(y.1,some y.2)] s.c) Q:=by
 cases hx:zah s.tm x with
 |none=>rw[zdm (by simp[O.res,hx])];simp
 |some p=>
  cases hv:zah s.tm v with
  |none=>rw[zdm (by simp[O.res,hx,hv])];simp
  |some d=>
   rw[zdD (o':= .st n p d) (by simp[O.res,hx,hv]) rfl];cases hs:zda n s.h.get p d with
   |none=>simp[opv,hs]
   |some y=>
    obtain⟨id,ob⟩ :=y;simp[opv,hs,zat,Z79];exact⟨fun h=>⟨id,ob,⟨rfl,rfl⟩,h⟩,fun⟨_,_,⟨e1,e2⟩,h⟩ =>by subst e1 e2;exact h⟩
def x_ia{es:Nat}{x i:A}:wpO pr (⟨dst,none,.ia es x i⟩ ::l) s Q↔∃v,zah s.tm x=some v/\∃w,zah s.tm i=some w/\∃n,zbq w=some n/\∃d,iaB es v n=some d/\wpO pr l (s.up dst d) Q:=by
 cases hx:zah s.tm x with
 |none=>rw[zdm (by simp[O.res,hx])];simp
 |some v=>
  cases hy:zah s.tm i with
  |none=>rw[zdm (by simp[O.res,hx,hy])];simp
  |some w=>
   rw[zdD (o':= .ia es v w) (by simp[O.res,hx,hy]) rfl];cases hn:zbq w with
   |none=>simp[opv,hn]
   |some n=>
    cases v with
    |f z=>
     cases z with
     |sl es' els=>
      by_cases he:es=es'
      .subst he;cases hel:els[n]? with
       |none=>simp[opv,hn,iaB,hel]
       |some el=>simp[opv,hn,iaB,hel,okD,zat,zfr]
      .simp[opv,hn,iaB,he]
     |_=>simp[opv,hn,iaB]
    |sl id off m es' lim ex=>
     by_cases he:es=es'/\n<m
     .simp[opv,hn,iaB,he,okD,zat,zfr]
     .simp[opv,hn,iaB,he]
    |_=>simp[opv,hn,iaB]
def fnD(f:Nat):List D->D
 |[]=> .f (.fn f)
 |y=> .fn f [] y
def x_mkf{f:Nat}{b:List A}:wpO pr (⟨dst,none,.mkf f [] b⟩ ::l) s Q↔∃y,zas (zah s.tm) b=some y/\wpO pr l (s.up dst (fnD f y)) Q:=by
 cases hy:zas (zah s.tm) b with
 |none=>rw[zdm (by simp[O.res,zas,hy])];simp
 |some y=>
  rw[zdD (o':= .mkf f [] y) (by simp[O.res,zas,hy]) rfl];cases y<;>simp[opv,okD,okF,zat,zfr,fnD]
def x_bld{z:List F}{ps:List (Nat×Nat×A)}:wpO pr (⟨dst,none,.bld z ps⟩ ::l) s Q↔∃qs,zas (fun(p:Nat×Nat×A)=>(zah s.tm p.2.2).map fun d=>(p.1,p.2.1,d)) ps=some qs/\∃cs,zc0 (z.map D.f) qs=some cs/\wpO pr l (s.up dst (.ag cs)) Q:=by
 have e:zas (fun(p:Nat×Nat×A)=>(zah s.tm p.2.2).map fun d=>(p.1,p.2.1,d)) ps=zas (fun x=>match x with|(o,n,x)=>do some (o,n,<-zah s.tm x)) ps:=by
  congr 1
  funext p
  obtain⟨o,n,x⟩ :=p;simp only;cases zah s.tm x<;>rfl
 rw[e];cases hq:zas (fun x=>match x with|(o,n,x)=>do some (o,n,<-zah s.tm x)) ps with
 |none=>rw[zdm (by simp only[O.res];rw[hq];rfl)];simp
 |some qs=>
  rw[zdD (o':= .bld z qs) (by simp only[O.res];rw[hq];rfl) rfl];cases hf:zc0 (z.map D.f) qs with
  |none=>simp[opv,hf]
  |some cs=>simp[opv,hf,okD,zat,zfr]
def zJM{f:Nat}{args:List A}:wpO pr (⟨dst,none,.callp f args⟩ ::l) s Q↔∃ds,zas (zah s.tm) args=some ds/\∃y,zcA s.h.get ds=some y/\∃x,Ans pr f y.1 x/\zat s.c (zaw s.h.get y.2)=true/\wpO pr l (s.aft dst x.d (zaw s.h.get y.2) s.c) Q:=by
 constructor
 .intro h;simp only[wpO,zbr,zb7,O.res,Z47]at h;cases hm:zas (zah s.tm) args with
  |none=>simp[hm]at h
  |some ds=>
   simp only[hm,Z46,kindOf]at h;cases hf:zcA s.h.get ds with
   |none=>simp[hf]at h
   |some y=>
    obtain⟨fs,rd⟩ :=y;simp only[hf]at h;obtain⟨x,h1,h2⟩ :=h;refine⟨ds,rfl,(fs,rd),hf,x,h1,?_⟩;unfold zcW at h2;simp only[zcI]at h2;cases hw:zat s.c (zaw s.h.get rd)with
    |false=>simp[hw]at h2
    |true=>simp only[hw,Z89,cond_false]at h2;exact⟨rfl,h2⟩
 .rintro⟨ds,h1,⟨fs,rd⟩,h2,x,h3,h4,h⟩;exact zJK ⟨ds,h1,fs,rd,h2,x,h3,h4,h⟩
def zMt{f:Nat}{args:List A}:wpO pr (⟨dst,none,.call f args⟩ ::l) s Q↔∃ds,zas (zah s.tm) args=some ds/\∃q,Con pr f ds s.h s.c q/\wpO pr l (s.cal dst q) Q:=by
 constructor
 .intro h;simp only[wpO,zbr,zb7,O.res,Z47]at h;cases hm:zas (zah s.tm) args with
  |none=>simp[hm]at h
  |some ds=>
   simp only[hm,Z46,kindOf]at h;obtain⟨q,h1,h2⟩ :=h;exact⟨ds,rfl,q,h1,h2⟩
 .rintro⟨ds,h1,q,h2,h⟩;exact zMn ⟨ds,h1,q,h2,h⟩
def zMu{x:A}{a b:C}{Q:Ex->St->Prop}:wpC pr (.cond x a b) s Q↔∃t,zah s.tm x=some (.f (.b t))/\(if t then wpC pr a s Q else wpC pr b s Q):=by
 constructor
 .intro h;unfold wpC at h;split at h
  .rename_i hx;exact⟨true,hx,by simpa using h⟩
  .rename_i hx;exact⟨false,hx,by simpa using h⟩
  .exact h.elim
 .exact zKs
end
end Go.Vse
end
section
namespace Go.Vse
variable [Globs]
def oB{α:Type}(o:Option α)(k:α->Prop):Prop:=
 match o with
 |some a=>k a
 |none=>False
@[congr] theorem oB_congr{α:Type}{o o':Option α}{k:α->Prop}(h:o=o'):oB o k=oB o' k:=by rw[h]
def zfM{α:Type}(a:α)(k:α->Prop):oB (some a) k=k a:=rfl
def zfg{α:Type}(o:Option α)(k:α->Prop):(∃a,o=some a/\k a)↔oB o k:=by
 cases o with
 |none=>simp[oB]
 |some a=>simp[oB]
def asB:D->Option Bool
 | .f (.b b)=>some b
 |_=>none
def asF:D->Option F
 | .f x=>some x
 |_=>none
def zx4:D->Option (List D)
 | .tu cs=>some cs
 |_=>none
def zug(o:Option D)(k:Bool->Prop):(∃b,o=some (.f (.b b))/\k b)↔oB (o.bind asB) k:=by
 cases o with
 |none=>simp[oB]
 |some d=>
  cases d with
  |f x=>cases x<;>simp[oB,asB]
  |_=>simp[oB,asB]
def zAT(o:Option D)(k:F->Prop):(∃b,o=some (.f b)/\k b)↔oB (o.bind asF) k:=by
 cases o with
 |none=>simp[oB]
 |some d=>cases d<;>simp[oB,asF]
def zHZ(o:Option D)(k:List D->Prop):(∃b,o=some (.tu b)/\k b)↔oB (o.bind zx4) k:=by
 cases o with
 |none=>simp[oB]
 |some d=>cases d<;>simp[oB,zx4]
def zoG(b:Bool):asB (.f (.b b))=some b:=rfl
def zoK(x:F):asF (.f x)=some x:=rfl
def zju(cs:List D):zx4 (.tu cs)=some cs:=rfl
def zum(h:Nat->Option Ob)(x:F):frz h 12 (.f x)=some (x,[]):=rfl
def zuk(h:Nat->Option Ob)(x:F):frz h 11 (.f x)=some (x,[]):=rfl
def zuj(h:Nat->Option Ob)(x:F):frz h 10 (.f x)=some (x,[]):=rfl
def zqP(h:Nat->Option Ob)(cs:List D):frz h 12 (.ag cs)=match za0 (frz h 11) cs with|some (l,r)=>some (.ag l,r)|none=>none:=rfl
def zqN(h:Nat->Option Ob)(cs:List D):frz h 11 (.ag cs)=match za0 (frz h 10) cs with|some (l,r)=>some (.ag l,r)|none=>none:=rfl
def zqT(h:Nat->Option Ob)(cs:List D):frz h 12 (.tu cs)=match za0 (frz h 11) cs with|some (l,r)=>some (.tu l,r)|none=>none:=rfl
theorem zlT{f:D->Option (F×List Nat)}(hf:∀d x rd,d.isF=true->f d=some (x,rd)->rd=[]):∀(ds:List D) (xs:List F) (rd:List Nat),D.zgR ds=true->za0 f ds=some (xs,rd)->rd=[]
 |[],xs,rd,_,h=>by simp[za0]at h;exact h.2
 |d::ds,xs,rd,hi,h=>by
  simp only[D.zgR,Z14]at hi;unfold za0 at h;split at h
  .cases h
  .rename_i x r hx;split at h
   .cases h
   .rename_i m r' hm;simp only[Z45,Z66]at h;rw[<-h.2,hf d x r hi.1 hx,zlT hf ds m r' hi.2 hm];rfl
theorem zmV{h:Nat->Option Ob}:∀(k:Nat) (d:D) (x:F) (rd:List Nat),d.isF=true->frz h k d=some (x,rd)->rd=[]
 |0,_,_,_,_,h=>by simp[frz]at h
 |k+1,d,x,rd,hi,hf=>by
  unfold frz at hf;split at hf
  .simp at hf;exact hf.2
  .split at hf
   .rename_i l r hm;simp only[Z45,Z66]at hf;rw[<-hf.2];exact zlT (zmV k) _ _ _ hi hm
   .cases hf
  .split at hf
   .rename_i l r hm;simp only[Z45,Z66]at hf;rw[<-hf.2];exact zlT (zmV k) _ _ _ hi hm
   .cases hf
  .simp[D.isF]at hi
  .cases hf
def znK(res:List Rv)(y:F)(x:Ex)(s:St):Prop:=
 (match x with| .exit _=>False|_=>True)/\∃d,resD s res=some d/\∃rd,frz s.h.get 12 d=some (y,rd)
def zJL{pr:Pr}{c:C}{s:St}{Q:Ex->St->Prop}{f:Nat}{fn:Fn}(hf:pr.fn f=some fn){fs:List F}{y:F}(hb:fn.body=c)(hs:s=st0 (F.dL fs) .e 0)(hQ:Q=znK fn.res y)(hw:wpC pr c s Q):Ans pr f fs y:=by
 subst hb hs hQ;obtain⟨x,s,⟨hx,d,hd,rd,hz⟩,ev⟩ :=zex _ _ _ hw;refine⟨if Nat.beq s.lw 0&&d.isF then ⟨d,.e,0,0,s.mx⟩else ⟨d,s.h,s.c,s.lw,s.mx⟩,rd,?_,?_⟩
 .have key:EV fun m=>zeu (evC (zco pr m) m) fn (F.dL fs) .e 0=some (if Nat.beq s.lw 0&&d.isF then ⟨d,.e,0,0,s.mx⟩else ⟨d,s.h,s.c,s.lw,s.mx⟩):=by
   refine ev.mono fun m hm=> ?_
   unfold zeu;unfold st0 at hm;rw[hm];cases x with
   |exit i=>exact hx.elim
   |nrm=>simp only[hd];split<;>rfl
   |ret=>simp only[hd];split<;>rfl
  obtain⟨N,hN⟩ :=key;refine⟨N+1,fun m hm=> ?_⟩;obtain⟨m,rfl⟩ :∃m',m=m'+1:=⟨m - 1,by omega⟩
  simp only[zco,hf];exact hN m (by omega)
 .split
  .rename_i hb;simp only[Z14]at hb;have hr:=zmV 12 d y rd hb.2 hz;subst hr;exact zgp 12 d y [] hz fun id hid=>by simp at hid
  .exact hz
def zb6{pr:Pr}{f:Nat}{fn:Fn}(hf:pr.fn f=some fn){fs:List F}{y:F}(hw:wpC pr fn.body (st0 (F.dL fs) .e 0) (znK fn.res y)):Ans pr f fs y:=
 zJL hf rfl rfl rfl hw
section
variable {pr:Pr}{l:List Op}{s:St}{Q:St->Prop}{dst:Option Nat}
def zvL{x:A}:wpO pr (⟨dst,none,.mv x⟩ ::l) s Q↔oB (zah s.tm x) fun d=>wpO pr l (s.up dst d) Q:=by rw[x_mv,zfg]
def zmB{q x y:A}:wpO pr (⟨dst,none,.pick q x y⟩ ::l) s Q↔oB ((zah s.tm q).bind asB) fun b=>oB (zah s.tm x) fun d=>oB (zah s.tm y) fun e=>wpO pr l (s.up dst (if b then d else e)) Q:=by
 rw[zMv,zug];simp only[zfg]
def zvK{g:Bool}{n:Nat}{x:A}:wpO pr (⟨dst,none,.ld g n x⟩ ::l) s Q↔oB (zah s.tm x) fun p=>oB (zcC g n s.h.get p) fun y=>wpO pr l (s.up dst y.1) Q:=by rw[x_ld];simp only[zfg]
def zqr{op:BinOp}{x y:A}:wpO pr (⟨dst,none,.bin op x y⟩ ::l) s Q↔oB ((zah s.tm x).bind asF) fun a=>oB ((zah s.tm y).bind asF) fun b=>oB (zbk op a b) fun z=>wpO pr l (s.up dst (.f z)) Q:=by
 rw[x_bin,zAT];simp only[zAT,zfg]
def zqI{x:A}:wpO pr (⟨dst,none,.un .not x⟩ ::l) s Q↔oB ((zah s.tm x).bind asB) fun b=>wpO pr l (s.up dst (.f (.b !b))) Q:=by rw[x_not,zug]
def zqG{x:A}:wpO pr (⟨dst,none,.len x⟩ ::l) s Q↔oB (zah s.tm x) fun v=>oB (zcE v) fun n=>wpO pr l (s.up dst (.f (.i .i64 n))) Q:=by rw[x_len];simp only[zfg]
def zvI{off:Nat}{x:A}:wpO pr (⟨dst,none,.fa off x⟩ ::l) s Q↔oB (zah s.tm x) fun v=>oB (faB off v) fun d=>wpO pr l (s.up dst d) Q:=by rw[x_fa];simp only[zfg]
def zqx{x:A}{i:Nat}:wpO pr (⟨dst,none,.ext x i⟩ ::l) s Q↔oB ((zah s.tm x).bind zx4) fun cs=>oB cs[i]? fun d=>wpO pr l (s.up dst d) Q:=by rw[x_ext,zHZ];simp only[zfg]
def zqv{x:A}:wpO pr (⟨dst,none,.box x⟩ ::l) s Q↔oB (zah s.tm x) fun d=>oB d.cells fun cs=>wpO pr l (s.aft dst (.ptr s.c cs.length 0 0) [(s.c,some (.arr cs.length 0 [cs]))] (s.c+1)) Q:=by rw[x_box];simp only[zfg]
def zvM{n:Nat}{x v:A}:wpO pr (⟨dst,none,.st n x v⟩ ::l) s Q↔oB (zah s.tm x) fun p=>oB (zah s.tm v) fun d=>oB (zda n s.h.get p d) fun y=>y.1<s.c/\wpO pr l (s.aft dst (.f .un) [(y.1,some y.2)] s.c) Q:=by
 rw[x_st];simp only[zfg]
def zvJ{es:Nat}{x i:A}:wpO pr (⟨dst,none,.ia es x i⟩ ::l) s Q↔oB (zah s.tm x) fun v=>oB (zah s.tm i) fun w=>oB (zbq w) fun n=>oB (iaB es v n) fun d=>wpO pr l (s.up dst d) Q:=by rw[x_ia];simp only[zfg]
def zqH{f:Nat}{b:List A}:wpO pr (⟨dst,none,.mkf f [] b⟩ ::l) s Q↔oB (zas (zah s.tm) b) fun y=>wpO pr l (s.up dst (fnD f y)) Q:=by rw[x_mkf,zfg]
def zqu{z:List F}{ps:List (Nat×Nat×A)}:wpO pr (⟨dst,none,.bld z ps⟩ ::l) s Q↔oB (zas (fun(p:Nat×Nat×A)=>(zah s.tm p.2.2).map fun d=>(p.1,p.2.1,d)) ps) fun qs=>oB (zc0 (z.map D.f) qs) fun cs=>wpO pr l (s.up dst (.ag cs)) Q:=by
 rw[x_bld];simp only[zfg]
def znk{f:Nat}{args:List A}:wpO pr (⟨dst,none,.callp f args⟩ ::l) s Q↔oB (zas (zah s.tm) args) fun ds=>oB (zcA s.h.get ds) fun y=>∃x,Ans pr f y.1 x/\zat s.c (zaw s.h.get y.2)=true/\wpO pr l (s.aft dst x.d (zaw s.h.get y.2) s.c) Q:=by
 rw[zJM];simp only[zfg]
def zqw{f:Nat}{args:List A}:wpO pr (⟨dst,none,.call f args⟩ ::l) s Q↔oB (zas (zah s.tm) args) fun ds=>∃q,Con pr f ds s.h s.c q/\wpO pr l (s.cal dst q) Q:=by rw[zMt,zfg]
def zfd:D->Option (Nat×List D×List D)
 | .fn f a b=>some (f,a,b)
 | .f (.fn f)=>some (f,[],[])
 |_=>none
def zjt(f:Nat)(a b:List D):zfd (.fn f a b)=some (f,a,b):=rfl
def zlC(f:Nat):zfd (.f (.fn f))=some (f,[],[]):=rfl
def znl{x:A}{args:List A}:wpO pr (⟨dst,none,.callv x args⟩ ::l) s Q↔oB ((zah s.tm x).bind zfd) fun g=>oB (zas (zah s.tm) args) fun ds=>∃q,Con pr g.1 (g.2.1++ds++g.2.2) s.h s.c q/\wpO pr l (s.cal dst q) Q:=by
 cases hx:zah s.tm x with
 |none=>simp[wpO,zbr,zb7,O.res,hx,oB]
 |some d=>
  cases hm:zas (zah s.tm) args with
  |none=>cases d with
   |f y=>cases y<;>simp[wpO,zbr,zb7,O.res,hx,hm,oB,zfd]
   |_=>simp[wpO,zbr,zb7,O.res,hx,hm,oB,zfd]
  |some ds=>
   cases d with
   |f y=>
    cases y with
    |fn f=>simp only[wpO,zbr,zb7,O.res,hx,hm,Z47,Z46,kindOf,oB,zfd,Z28,Z22];exact Iff.rfl
    |_=>simp[wpO,zbr,zb7,O.res,hx,hm,oB,zfd,kindOf]
   |fn f a b=>simp only[wpO,zbr,zb7,O.res,hx,hm,Z47,Z46,kindOf,oB,zfd];exact Iff.rfl
   |_=>simp[wpO,zbr,zb7,O.res,hx,hm,oB,zfd,kindOf]
def zmA{x:A}{a b:C}{Q:Ex->St->Prop}:wpC pr (.cond x a b) s Q↔oB ((zah s.tm x).bind asB) fun t=>if t then wpC pr a s Q else wpC pr b s Q:=by rw[zMu,zug]
end
end Go.Vse
end
section
namespace Go.Vse
variable [Globs]
def zcG(a b:List Nat):Prop:=∀x∈a,x∉b
section
variable (pr:Pr)
def zcx:Nat->List (List Nat×List Nat)->List Nat->List Nat->Prop
 |_,[],_,_=>True
 |m,(r,w)::L,rd,wr=>(m%2=1->zcG rd w/\zcG wr w/\zcG wr r)/\zcx (m/2) L rd wr
def wpE:List (List Nat×List Nat)->List (Op×Nat)->St->(St->Prop)->Prop
 |_,[],s,Q=>Q s
 |L,(o,mask)::l,s,Q=>zbr pr o s fun s' p=>p.all=false/\zcx mask L p.rd p.wr/\wpE (L++[(p.rd,p.wr)]) l {s' with c:=p.hi} Q
variable {pr}
def zqm{o:Op}{s:St}{Q Q':St->Fp->Prop}(hQ:∀s p,Q s p->Q' s p)(h:zbr pr o s Q):zbr pr o s Q':=by
 have m0:∀r,zcW r Q->zcW r Q':=by
  intro r h;unfold zcW at h|-;split
  .exact hQ _ _ h
  .exact h
 unfold zbr at h|-;split
 .simp_all
 .rename_i hw;simp only[hw]at h;exact hQ _ _ h
 .rename_i hw;simp only[hw]at h;split
  .simp_all
  .rename_i o' hr;simp only[hr]at h;split
   .rename_i hk;simp only[hk]at h;split
    .simp_all
    .rename_i hf;simp only[hf]at h;obtain⟨x,h1,h2⟩ :=h;exact⟨x,h1,m0 _ h2⟩
   .rename_i hk;simp only[hk]at h;obtain⟨q,h1,h2⟩ :=h;exact⟨q,h1,m0 _ h2⟩
   .rename_i hk;simp only[hk]at h;exact m0 _ h
   .rename_i hk;simp only[hk]at h
theorem zcX:∀(m:Nat) (L:List (List Nat×List Nat)),zcx m L [] []↔True
 |_,[]=>Iff.rfl
 |m,(r,w)::L=>by simp[zcx,zcG,zcX (m/2) L]
theorem zoS{p:Fp}(hp:p.all=false){mask:Nat}:∀(fps:List Fp) (i:Nat),(∀q∈fps,q.all=false)->zcx (mask/2 ^ i) (fps.map fun q=>(q.rd,q.wr)) p.rd p.wr->zcf p mask fps i=true
 |[],_,_,_=>rfl
 |q::l,i,hf,h=>by
  simp only[Z10,zcx]at h;have h2:=zoS hp l (i+1) (fun x hx=>hf x (by simp[hx])) (by rw[Z195,<-Nat.div_div_eq_div_mul];exact h.2);simp only[zcf,h2,Z187,Z115,Z80];cases hb:mask.testBit i with
  |false=>exact .inl rfl
  |true=>
   right;rw[Z138]at hb;obtain⟨d1,d2,d3⟩ :=h.1 (of_decide_eq_true hb);have q1:=hf q (by simp);simp only[Fp.apart,q1,hp,Z14,Z50,Z80,Z114,Z65];exact⟨⟨fun x hx hm=>d1 x hx hm,fun x hx hm=>d3 x hm hx⟩,fun x hx hm=>d2 x hm hx⟩
theorem zHp:∀(l:List (Op×Nat)) (fps:List Fp) (s:St) (Q:St->Prop),(∀q∈fps,q.all=false)->wpE pr (fps.map fun q=>(q.rd,q.wr)) l s Q->wpD pr l fps s Q
 |[],_,_,_,_,h=>h
 |(o,mask)::l,fps,s,Q,hf,h=>by
  refine zqm (fun s' p ⟨h1,h2,h3⟩ =>⟨?_,zHp l (fps++[p]) _ Q ?_ (by simpa using h3)⟩) h
  .exact zoS h1 fps 0 hf (by simpa using h2)
  .intro q hq;rcases Z4.1 hq with hq|hq
   .exact hf q hq
   .simp only[Z31]at hq;subst hq;exact h1
def zAs{ops:List (Op×Nat)}{s:St}{Q:Ex->St->Prop}(h:wpE pr [] ops s (Q .nrm)):wpC pr (.dreg ops) s Q:=
 zHp ops [] s _ (fun q hq=>by simp at hq) h
def St.ue(s:St)(dst:Option Nat)(d:D):St:={s with tm:=zcr s.tm dst d,c:=s.c+1,mx:=Nat.max s.mx (s.c+1)}
def St.ae(s:St)(dst:Option Nat)(d:D)(wr:List (Nat×Option Ob))(c:Nat):St:=
 {tm:=zcr s.tm dst d,h:=wrT s.h wr,c:=c+1,lw:=zdi s.lw wr,mx:=Nat.max s.mx (c+1)}
def St.se(s:St)(dst:Option Nat):St:={s with tm:=zcr s.tm dst (.f .un)}
def zbf(s:St)(dst:Option Nat)(d:D):(s.ue dst d).tm=zcr s.tm dst d:=rfl
def zbX(s:St)(dst:Option Nat)(d:D):(s.ue dst d).h=s.h:=rfl
def zbO(s:St)(dst:Option Nat)(d:D):(s.ue dst d).c=s.c+1:=rfl
def zna(s:St)(dst:Option Nat)(d:D):(s.ue dst d).lw=s.lw:=rfl
def za8(s:St)(dst:Option Nat)(d:D)(wr:List (Nat×Option Ob))(c:Nat):(s.ae dst d wr c).tm=zcr s.tm dst d:=rfl
def zbS(s:St)(dst:Option Nat)(d:D)(wr:List (Nat×Option Ob))(c:Nat):(s.ae dst d wr c).h=wrT s.h wr:=rfl
def zbD(s:St)(dst:Option Nat)(d:D)(wr:List (Nat×Option Ob))(c:Nat):(s.ae dst d wr c).c=c+1:=rfl
def zmE(s:St)(dst:Option Nat)(d:D)(wr:List (Nat×Option Ob))(c:Nat):(s.ae dst d wr c).lw=zdi s.lw wr:=rfl
def zbd(s:St)(dst:Option Nat):(s.se dst).tm=zcr s.tm dst (.f .un):=rfl
def zbW(s:St)(dst:Option Nat):(s.se dst).h=s.h:=rfl
def zbU(s:St)(dst:Option Nat):(s.se dst).c=s.c:=rfl
def zm7(s:St)(dst:Option Nat):(s.se dst).lw=s.lw:=rfl
variable {l:List (Op×Nat)}{s:St}{Q:St->Prop}{dst:Option Nat}{L:List (List Nat×List Nat)}{mask:Nat}
def zix(b:List Nat):zcG [] b↔True:=by simp[zcG]
def zhv(x:Nat)(a b:List Nat):zcG (x::a) b↔x∉b/\zcG a b:=by simp[zcG]
def zo3:wpE pr L [] s Q↔Q s:=Iff.rfl
def zgM(d:D):s.ae dst d [] s.c=s.ue dst d:=rfl
theorem zct{o:O A}(hk:kcl o= .n):wpE pr L ((⟨dst,none,o⟩,mask)::l) s Q↔oB ((o.res (zah s.tm)).bind (opv s.h.get s.c)) fun r=>zat r.c r.wr=true/\
    zcx mask L r.rd (r.wr.map (·.1))/\wpE pr (L++[(r.rd,r.wr.map (·.1))]) l (s.ae dst r.d r.wr r.c) Q:=by
  simp only[wpE,zbr,zb7];cases hr:o.res (zah s.tm)with
  |none=>exact Iff.rfl
  | some o'=>
    simp only[Z46,zs4 hk hr];cases hv:opv s.h.get s.c o' with
    |none=>exact Iff.rfl
    | some r=>
      simp only[zcW,zcI,oB];cases hw:zat r.c r.wr with
      |false=>simp
      |true=>simp only[Z89,cond_false,true_and];exact Iff.rfl
def zdg{l:List Op}{o:O A}(hk:kcl o= .n):wpO pr (⟨dst,none,o⟩ ::l) s Q↔oB ((o.res (zah s.tm)).bind (opv s.h.get s.c)) fun r=>zat r.c r.wr=true/\wpO pr l (s.aft dst r.d r.wr r.c) Q:=by
 simp only[wpO,zbr,zb7];cases hr:o.res (zah s.tm)with
 |none=>exact Iff.rfl
 |some o'=>
  simp only[Z46,zs4 hk hr];cases hv:opv s.h.get s.c o' with
  |none=>exact Iff.rfl
  |some r=>
   simp only[zcW,zcI,oB];cases hw:zat r.c r.wr with
   |false=>simp
   |true=>simp only[Z89,cond_false,true_and];exact Iff.rfl
def ztO{x:A}:wpE pr L ((⟨dst,none,.mv x⟩,mask)::l) s Q↔oB (zah s.tm x) fun d=>wpE pr (L++[([],[])]) l (s.ue dst d) Q:=by
 rw[zct rfl];cases hx:zah s.tm x<;>simp[O.res,hx,opv,okD,oB,zat,zcG,zgM,zcX]
def ztN{g:Bool}{n:Nat}{x:A}:wpE pr L ((⟨dst,none,.ld g n x⟩,mask)::l) s Q↔oB (zah s.tm x) fun p=>oB (zcC g n s.h.get p) fun y=>zcx mask L y.2 []/\wpE pr (L++[(y.2,[])]) l (s.ue dst y.1) Q:=by
 rw[zct rfl];cases hx:zah s.tm x with
 |none=>simp[O.res,hx,oB]
 |some p=>
  cases hl:zcC g n s.h.get p with
  |none=>simp[O.res,hx,opv,hl,oB]
  |some y=>obtain⟨d,rd⟩ :=y;simp[O.res,hx,opv,hl,oB,zat,zcG,zgM,zcX]
def zoW{op:BinOp}{x y:A}:wpE pr L ((⟨dst,none,.bin op x y⟩,mask)::l) s Q↔oB ((zah s.tm x).bind asF) fun a=>oB ((zah s.tm y).bind asF) fun b=>oB (zbk op a b) fun z=>wpE pr (L++[([],[])]) l (s.ue dst (.f z)) Q:=by
 rw[zct rfl];cases hx:zah s.tm x with
 |none=>simp[O.res,hx,oB]
 |some d=>
  cases hy:zah s.tm y with
  |none=>cases d<;>simp[O.res,hx,hy,oB,asF]
  |some e=>
   cases d with
   |f a=>
    cases e with
    |f b=>
     cases hz:zbk op a b<;>simp[O.res,hx,hy,oB,asF,opv,hz,okF,zat,zcG,zgM,zcX]
    |_=>simp[O.res,hx,hy,oB,asF,opv]
   |_=>simp[O.res,hx,hy,oB,asF,opv]
def zlK{q x y:A}:wpE pr L ((⟨dst,none,.pick q x y⟩,mask)::l) s Q↔oB ((zah s.tm q).bind asB) fun b=>oB (zah s.tm x) fun d=>oB (zah s.tm y) fun e=>wpE pr (L++[([],[])]) l (s.ue dst (if b then d else e)) Q:=by
 rw[zct rfl];cases hq:zah s.tm q with
 |none=>simp[O.res,hq,oB]
 |some z=>
  cases hx:zah s.tm x with
  |none=>
   cases z with
   |f z=>cases z<;>simp[O.res,hq,hx,oB,asB]
   |_=>simp[O.res,hq,hx,oB,asB]
  |some d=>
   cases hy:zah s.tm y with
   |none=>
    cases z with
    |f z=>cases z<;>simp[O.res,hq,hx,hy,oB,asB]
    |_=>simp[O.res,hq,hx,hy,oB,asB]
   |some e=>
    cases z with
    |f z=>cases z<;>simp[O.res,hq,hx,hy,oB,asB,opv,okD,zat,zcG,zgM,zcX]
    |_=>simp[O.res,hq,hx,hy,oB,asB,opv]
def zo1{ne:Bool}{x y:A}:wpE pr L ((⟨dst,none,.eqb ne x y⟩,mask)::l) s Q↔oB ((zah s.tm x).bind asB) fun a=>oB ((zah s.tm y).bind asB) fun b=>wpE pr (L++[([],[])]) l (s.ue dst (.f (.b (if ne then !(a==b)else a==b)))) Q:=by
 rw[zct rfl];cases hx:zah s.tm x with
 |none=>simp[O.res,hx,oB]
 |some d=>
  cases hy:zah s.tm y with
  |none=>
   cases d with
   |f z=>cases z<;>simp[O.res,hx,hy,oB,asB]
   |_=>simp[O.res,hx,hy,oB,asB]
  |some e=>
   cases d with
   |f z=>
    cases z with
    |b a=>
     cases e with
     |f z'=>cases z'<;>simp[O.res,hx,hy,oB,asB,opv,okF,zat,zcG,zgM,zcX]
     |_=>simp[O.res,hx,hy,oB,asB,opv]
    |_=>simp[O.res,hx,hy,oB,asB,opv]
   |_=>simp[O.res,hx,hy,oB,asB,opv]
def e_len{x:A}:wpE pr L ((⟨dst,none,.len x⟩,mask)::l) s Q↔oB (zah s.tm x) fun v=>oB (zcE v) fun n=>wpE pr (L++[([],[])]) l (s.ue dst (.f (.i .i64 n))) Q:=by
 rw[zct rfl];cases hx:zah s.tm x with
 |none=>simp[O.res,hx,oB]
 |some v=>cases hl:zcE v<;>simp[O.res,hx,oB,opv,hl,okF,zat,zcG,zgM,zcX]
def ztL{off:Nat}{x:A}:wpE pr L ((⟨dst,none,.fa off x⟩,mask)::l) s Q↔oB (zah s.tm x) fun v=>oB (faB off v) fun d=>wpE pr (L++[([],[])]) l (s.ue dst d) Q:=by
 rw[zct rfl];cases hx:zah s.tm x with
 |none=>simp[O.res,hx,oB]
 |some v=>cases v<;>simp[O.res,hx,oB,opv,faB,okD,zat,zcG,zgM,zcX]
def ztM{es:Nat}{x i:A}:wpE pr L ((⟨dst,none,.ia es x i⟩,mask)::l) s Q↔oB (zah s.tm x) fun v=>oB (zah s.tm i) fun w=>oB (zbq w) fun n=>oB (iaB es v n) fun d=>wpE pr (L++[([],[])]) l (s.ue dst d) Q:=by
 rw[zct rfl];cases hx:zah s.tm x with
 |none=>simp[O.res,hx,oB]
 |some v=>
  cases hy:zah s.tm i with
  |none=>simp[O.res,hx,hy,oB]
  |some w=>
   cases hn:zbq w with
   |none=>simp[O.res,hx,hy,opv,hn,oB]
   |some n=>
    cases v with
    |f z=>
     cases z with
     |sl es' els=>
      by_cases he:es=es'
      .subst he;cases hel:els[n]? <;>simp[O.res,hx,hy,oB,opv,hn,iaB,hel,okD,zat,zcG,zgM,zcX]
      .simp[O.res,hx,hy,oB,opv,hn,iaB,he]
     |_=>simp[O.res,hx,hy,oB,opv,hn,iaB]
    |sl id off m es' lim ex=>
     by_cases he:es=es'/\n<m
     .simp[O.res,hx,hy,oB,opv,hn,iaB,he,okD,zat,zcG,zgM,zcX]
     .simp[O.res,hx,hy,oB,opv,hn,iaB,he]
    |_=>simp[O.res,hx,hy,oB,opv,hn,iaB]
def zoX{z:List F}{ps:List (Nat×Nat×A)}:wpE pr L ((⟨dst,none,.bld z ps⟩,mask)::l) s Q↔oB (zas (fun(p:Nat×Nat×A)=>(zah s.tm p.2.2).map fun d=>(p.1,p.2.1,d)) ps) fun qs=>oB (zc0 (z.map D.f) qs) fun cs=>wpE pr (L++[([],[])]) l (s.ue dst (.ag cs)) Q:=by
 have e:zas (fun(p:Nat×Nat×A)=>(zah s.tm p.2.2).map fun d=>(p.1,p.2.1,d)) ps=zas (fun x=>match x with|(o,n,x)=>do some (o,n,<-zah s.tm x)) ps:=by
  congr 1
  funext p
  obtain⟨o,n,x⟩ :=p;simp only;cases zah s.tm x<;>rfl
 rw[e,zct rfl];simp only[O.res];cases hq:zas (fun x=>match x with|(o,n,x)=>do some (o,n,<-zah s.tm x)) ps with
 |none=>simp[oB]
 |some qs=>cases hf:zc0 (z.map D.f) qs<;>simp[oB,opv,hf,okD,zat,zcG,zgM,zcX]
def zo2{cs:List F}:wpE pr L ((⟨dst,none,.new cs⟩,mask)::l) s Q↔zcx mask L [] [s.c]/\wpE pr (L++[([],[s.c])]) l (s.ae dst (.ptr s.c cs.length 0 0) [(s.c,some (.arr cs.length 0 [cs.map D.f]))] (s.c+1)) Q:=by
 rw[zct rfl];simp[O.res,oB,opv,zat,zcG,Z79]
def ztP{n:Nat}{x v:A}:wpE pr L ((⟨dst,none,.st n x v⟩,mask)::l) s Q↔oB (zah s.tm x) fun p=>oB (zah s.tm v) fun d=>oB (zda n s.h.get p d) fun y=>y.1<s.c/\zcx mask L [y.1] [y.1]/\wpE pr (L++[([y.1],[y.1])]) l (s.ae dst (.f .un) [(y.1,some y.2)] s.c) Q:=by
 rw[zct rfl];cases hx:zah s.tm x with
 |none=>simp[O.res,hx,oB]
 |some p=>
  cases hv:zah s.tm v with
  |none=>simp[O.res,hx,hv,oB]
  |some d=>
   cases hs:zda n s.h.get p d with
   |none=>simp[O.res,hx,hv,oB,opv,hs]
   |some y=>obtain⟨id,ob⟩ :=y;simp[O.res,hx,hv,oB,opv,hs,zat,zcG,Z79]
theorem zmM{f:Nat}{args:List A}:wpE pr L ((⟨dst,none,.callp f args⟩,mask)::l) s Q↔oB (zas (zah s.tm) args) fun ds=>oB (zcA s.h.get ds) fun y=>∃x,Ans pr f y.1 x/\zat s.c (zaw s.h.get y.2)=true/\
      zcx mask L y.2 ((zaw s.h.get y.2).map (·.1))/\wpE pr (L++[(y.2,(zaw s.h.get y.2).map (·.1))]) l (s.ae dst x.d (zaw s.h.get y.2) s.c) Q:=by
  simp only[wpE,zbr,zb7,O.res,Z47];cases hm:zas (zah s.tm) args with
  |none=>simp[oB]
  | some ds=>
    simp only[Z46,kindOf,oB];cases hf:zcA s.h.get ds with
    |none=>exact Iff.rfl
    | some y=>
      obtain⟨fs,rd⟩ :=y;simp only;refine exists_congr fun x=>and_congr_right fun _=> ?_
      simp only[zcW,zcI];cases hw:zat s.c (zaw s.h.get rd)with
      |false=>simp
      |true=>simp only[Z89,cond_false,true_and];exact Iff.rfl
def asG:D->Option (Option Bool)
 | .f (.b b)=>some (some b)
 | .f .un=>some none
 |_=>none
def zoL(b:Bool):asG (.f (.b b))=some (some b):=rfl
def zlD:asG (.f .un)=some none:=rfl
def zih{t:T D}{g:Nat}{w:Bool}:zb7 t (some (g,w))=((t.get g).bind asG).map (· ==some w):=by
  simp only[zb7];cases t.get g with
  |none=>rfl
  | some d=>
    cases d with
    | f x=>
      cases x with
      |b b=>cases b<;>cases w<;>rfl
      |_=>rfl
    |_=>rfl
def zkj{l:List Op}{g:Nat}{w:Bool}{o:O A}:wpO pr (⟨dst,some (g,w),o⟩ ::l) s Q↔oB ((s.tm.get g).bind asG) fun x=>if x==some w then wpO pr (⟨dst,none,o⟩ ::l) s Q else wpO pr l (s.se dst) Q:=by
 cases hx:(s.tm.get g).bind asG with
 |none=>
  have:zb7 s.tm (some (g,w))=none:=by rw[zih,hx];rfl
  simp[wpO,zbr,this,oB]
 |some x=>
  have hw:zb7 s.tm (some (g,w))=some (x==some w):=by rw[zih,hx];rfl
  simp only[oB];cases hb:x==some w with
  |true=>rw[hb]at hw;simp only[wpO,zbr,hw,Z60];exact Iff.rfl
  |false=>rw[hb]at hw;simp only[wpO,zbr,hw];exact Iff.rfl
def zjS{g:Nat}{w:Bool}{o:O A}:wpE pr L ((⟨dst,some (g,w),o⟩,mask)::l) s Q↔oB ((s.tm.get g).bind asG) fun x=>if x==some w then wpE pr L ((⟨dst,none,o⟩,mask)::l) s Q else wpE pr (L++[([],[])]) l (s.se dst) Q:=by
 cases hx:(s.tm.get g).bind asG with
 |none=>
  have:zb7 s.tm (some (g,w))=none:=by rw[zih,hx];rfl
  simp[wpE,zbr,this,oB]
 |some x=>
  have hw:zb7 s.tm (some (g,w))=some (x==some w):=by rw[zih,hx];rfl
  simp only[oB];cases hb:x==some w with
  |true=>rw[hb]at hw;simp only[wpE,zbr,hw,Z60];exact Iff.rfl
  |false=>
   rw[hb]at hw;simp only[wpE,zbr,hw];constructor
   .rintro⟨_,_,h⟩;exact h
   .intro h;exact⟨trivial,(zcX _ _).2 trivial,h⟩
end
end Go.Vse
end
section
namespace Go.Vse
variable [Globs]
abbrev EnP:=Nat×List F×F
def zav(pr:Pr)(e:EnP):Prop:=Ans pr e.1 e.2.1 e.2.2
def zeW(pr:Pr):List EnP->Prop
 |[]=>True
 |e::l=>zav pr e/\zeW pr l
def zuS(f:Nat)(fs:List F)(l:List EnP):Option F:=
 @List.rec EnP (fun _=>Option F) none (fun p _ ih=>@Bool.rec (fun _=>Option F) ih (@Bool.rec (fun _=>Option F) ih (some p.2.2) (F.zdn p.2.1 fs)) (Nat.beq p.1 f)) l
def zuU(mask:Nat)(l:List EnP):Orc:=fun f fs=>
 @Bool.rec (fun _=>Option F) none (zuS f fs l) (Nat.beq (Nat.mod (Nat.div mask (Nat.pow 2 f)) 2) 1)
theorem zq4{pr:Pr}{f:Nat}{fs:List F}{x:F}:∀{l:List EnP},zeW pr l->zuS f fs l=some x->Ans pr f fs x
 |[],_,h=>by cases h
 |p::l,ha,h=>by
  have e:zuS f fs (p::l)= @Bool.rec (fun _=>Option F) (zuS f fs l) (@Bool.rec (fun _=>Option F) (zuS f fs l) (some p.2.2) (F.zdn p.2.1 fs)) (Nat.beq p.1 f):=rfl;rw[e]at h;cases hb:Nat.beq p.1 f with
  |false=>rw[hb]at h;exact zq4 ha.2 h
  |true=>
   rw[hb]at h;cases hq:F.zdn p.2.1 fs with
   |false=>rw[hq]at h;exact zq4 ha.2 h
   |true=>
    rw[hq]at h;cases h;rw[<-Z88 hb,<-F.zeF _ _ hq];exact ha.1
def zwZ{pr:Pr}{mask:Nat}{l:List EnP}(ha:zeW pr l):zhn pr (zuU mask l):=by
 intro f fs x h;unfold zuU at h;cases hb:Nat.beq (Nat.mod (Nat.div mask (Nat.pow 2 f)) 2) 1 with
 |false=>rw[hb]at h;cases h
 |true=>rw[hb]at h;exact zq4 ha h
def zdw{pr:Pr}{mask n:Nat}{l:List EnP}{e:EnP}(ha:zeW pr l)(h:zn4 (zuU mask l) pr n e.1 e.2.1=some e.2.2):zav pr e:=
 zab (zwZ ha) h
end Go.Vse
end
section
namespace Go.Vse
variable [Globs]
section
variable (K:Nat->Option Nat)(spq:O A->Bool)
def okS(i:Nat):Bool:=match K i with
 |some _=>false
 |none=>true
def okD':Option Nat->Bool
 |some i=>okS K i
 |none=>true
end
def zDO{K:Nat->Option Nat}{i:Nat}(h:okS K i=true):K i=none:=by
 unfold okS at h;split at h
 .cases h
 .assumption
def Inn(K:Nat->Option Nat)(u u':Nat->D)(t t':T D):Prop:=
 ∀i k,K i=some k->t.get i=t'.get i\/(t.get i=some (u k)/\t'.get i=some (u' k))
structure Ag(K:Nat->Option Nat)(u u':Nat->D)(s s':St):Prop where
 out:∀n,K n=none->s.tm.get n=s'.tm.get n
 inn:Inn K u u' s.tm s'.tm
 h:s.h=s'.h
 c:s.c=s'.c
 lw:s.lw=s'.lw
 mx:s.mx=s'.mx
section
variable {K:Nat->Option Nat}{spq:O A->Bool}{u u':Nat->D}{cl:Cl}
def zm2{t:T D}{dst:Option Nat}{d:D}(n:Nat):(zcr t dst d).get n=if dst=some n then some d else t.get n:=by
 cases dst with
 |none=>simp[zcr]
 |some i=>
  simp only[zcr,T.zal,Z45]
  by_cases h:n=i
  .subst h;simp
  .rw[Z49 h,Z49 (fun e=>h e.symm)]
theorem Ag.put{s s':St}(a:Ag K u u' s s'){dst:Option Nat}(hd:okD' K dst=true)(d:D)(h:T Ob)(c lw mx:Nat):
  Ag K u u' {tm:=zcr s.tm dst d,h,c,lw,mx} {tm:=zcr s'.tm dst d,h,c,lw,mx}:=by
 refine⟨fun n hn=> ?_,fun n k hn=> ?_,rfl,rfl,rfl,rfl⟩
 .simp only[zm2];split
  .rfl
  .exact a.out n hn
 .simp only[zm2];have:dst≠some n:=by
   rintro rfl;have:=zDO hd;rw[hn]at this;cases this
  rw[Z49 this,Z49 this];exact a.inn n k hn
theorem Ag.ziB{s s':St}(a:Ag K u u' s s'){j k:Nat}(hj:K j=some k)(h:T Ob)(c lw mx:Nat):
  Ag K u u' {tm:=zcr s.tm (some j) (u k),h,c,lw,mx} {tm:=zcr s'.tm (some j) (u' k),h,c,lw,mx}:=by
 refine⟨fun n hn=> ?_,fun n m hn=> ?_,rfl,rfl,rfl,rfl⟩
 .simp only[zm2];have:¬(some j=some n):=by
   intro e;cases e;rw[hj]at hn;cases hn
  rw[Z49 this,Z49 this];exact a.out n hn
 .simp only[zm2]
  by_cases e:some j=some n
  .cases e;rw[hj]at hn;cases hn;simp
  .rw[Z49 e,Z49 e];exact a.inn n m hn
end
end Go.Vse
end
section
namespace Go.Vse
open Go.RowKit
open Go (BinOp IntKind UnOp)
set_option maxRecDepth 100000
set_option maxHeartbeats 4000000
set_option linter.unusedSimpArgs false
def znP(es byt:Nat)(z:List F)(fo fr:Nat):Fn:=⟨95,[.t 6],.seq (.reg [⟨(some 6),none,.mv (.k (.nils))⟩])
 (.seq (.reg [⟨(some 10),none,.mv (.t 0)⟩,⟨(some 11),none,.mv (.t 1)⟩,⟨(some 12),none,.slc es (.t 10) (some (.t 11)) none none⟩])
 (.seq (.reg [⟨(some 13),none,.mv (.t 2)⟩,⟨(some 14),none,.len (.t 13)⟩,⟨(some 7),none,.mv (.t 14)⟩])
 (.seq (.seq (.reg [⟨(some 15),none,.mv (.t 7)⟩,⟨(some 16),none,.bin .eql (.t 15) (.k (.i .i64 0))⟩])
 (.cond (.t 16) (.seq (.reg [⟨(some 17),none,.mv (.t 0)⟩,⟨(some 6),none,.mv (.t 17)⟩])
 (.ret)) (.skip)))
 (.seq (.reg [⟨(some 18),none,.mv (.t 0)⟩,⟨(some 19),none,.len (.t 18)⟩,⟨(some 8),none,.mv (.t 19)⟩])
 (.seq (.seq (.reg [⟨(some 20),none,.mv (.t 1)⟩,⟨(some 21),none,.mv (.t 8)⟩,⟨(some 22),none,.bin .eql (.t 20) (.t 21)⟩])
 (.cond (.t 22) (.seq (.reg [⟨(some 23),none,.mv (.t 0)⟩,⟨(some 24),none,.mv (.t 2)⟩,⟨(some 25),none,.app es byt (.t 23) (.t 24)⟩,⟨(some 6),none,.mv (.t 25)⟩])
 (.ret)) (.skip)))
 (.seq (.seq (.reg [⟨(some 26),none,.mv (.t 8)⟩,⟨(some 27),none,.mv (.t 7)⟩,⟨(some 28),none,.bin .add (.t 26) (.t 27)⟩,⟨(some 29),none,.mv (.t 0)⟩,⟨(some 30),none,.cap (.t 29)⟩,⟨(some 31),none,.bin .gtr (.t 28) (.t 30)⟩])
 (.cond (.t 31) (.seq (.reg [⟨(some 32),none,.mv (.t 0)⟩,⟨(some 33),none,.mv (.t 1)⟩,⟨(some 34),none,.slc es (.t 32) none (some (.t 33)) none⟩,⟨(some 35),none,.mv (.t 8)⟩,⟨(some 36),none,.mv (.t 7)⟩,⟨(some 37),none,.bin .add (.t 35) (.t 36)⟩,⟨(some 38),none,.mv (.t 1)⟩,⟨(some 39),none,.bin .sub (.t 37) (.t 38)⟩,⟨(some 40),none,.apz es byt z (.t 34) (.t 39)⟩,⟨(some 9),none,.mv (.t 40)⟩])
 (.seq (.reg [⟨(some 41),none,.mv (.t 9)⟩,⟨(some 42),none,.mv (.t 1)⟩,⟨(some 43),none,.slc es (.t 41) (some (.t 42)) none none⟩,⟨(some 44),none,.mv (.t 2)⟩,⟨(some 45),none,.cpy es (.t 43) (.t 44)⟩])
 (.seq (.dreg [(⟨(some 46),none,.mv (.t 9)⟩,0),(⟨(some 47),none,.mv (.t 1)⟩,1),(⟨(some 48),none,.mv (.t 7)⟩,3),(⟨(some 49),none,.bin .add (.t 47) (.t 48)⟩,1),(⟨(some 50),none,.slc es (.t 46) (some (.t 49)) none none⟩,0),(⟨(some 51),none,.mv (.t 0)⟩,31),(⟨(some 52),none,.mv (.t 1)⟩,63),(⟨(some 53),none,.slc es (.t 51) (some (.t 52)) none none⟩,31),(⟨(some 54),none,.cpy es (.t 50) (.t 53)⟩,0)])
 (.seq (.reg [⟨(some 55),none,.mv (.t 9)⟩,⟨(some 6),none,.mv (.t 55)⟩])
 (.ret))))) (.skip)))
 (.seq (.reg [⟨(some 56),none,.mv (.t 0)⟩,⟨(some 57),none,.mv (.t 8)⟩,⟨(some 58),none,.mv (.t 7)⟩,⟨(some 59),none,.bin .add (.t 57) (.t 58)⟩,⟨(some 60),none,.slc es (.t 56) none (some (.t 59)) none⟩,⟨(some 0),none,.mv (.t 60)⟩])
 (.seq (.seq (.reg [⟨(some 61),none,.mv (.t 2)⟩,⟨(some 62),none,.mv (.t 0)⟩,⟨(some 63),none,.mv (.t 1)⟩,⟨(some 64),none,.mv (.t 7)⟩,⟨(some 65),none,.bin .add (.t 63) (.t 64)⟩,⟨(some 66),none,.slc es (.t 62) (some (.t 65)) none none⟩,⟨(some 67),none,.call fo [(.t 61),(.t 66)]⟩,⟨(some 68),none,.un .not (.t 67)⟩])
 (.cond (.t 68) (.seq (.dreg [(⟨(some 69),none,.mv (.t 0)⟩,0),(⟨(some 70),none,.mv (.t 1)⟩,1),(⟨(some 71),none,.mv (.t 7)⟩,3),(⟨(some 72),none,.bin .add (.t 70) (.t 71)⟩,1),(⟨(some 73),none,.slc es (.t 69) (some (.t 72)) none none⟩,0),(⟨(some 74),none,.mv (.t 0)⟩,31),(⟨(some 75),none,.mv (.t 1)⟩,63),(⟨(some 76),none,.slc es (.t 74) (some (.t 75)) none none⟩,31),(⟨(some 77),none,.cpy es (.t 73) (.t 76)⟩,0)])
 (.seq (.reg [⟨(some 78),none,.mv (.t 0)⟩,⟨(some 79),none,.mv (.t 1)⟩,⟨(some 80),none,.slc es (.t 78) (some (.t 79)) none none⟩,⟨(some 81),none,.mv (.t 2)⟩,⟨(some 82),none,.cpy es (.t 80) (.t 81)⟩])
 (.seq (.reg [⟨(some 83),none,.mv (.t 0)⟩,⟨(some 6),none,.mv (.t 83)⟩])
 (.ret)))) (.skip)))
 (.seq (.reg [⟨(some 84),none,.mv (.t 0)⟩,⟨(some 85),none,.mv (.t 8)⟩,⟨(some 86),none,.slc es (.t 84) (some (.t 85)) none none⟩,⟨(some 87),none,.mv (.t 2)⟩,⟨(some 88),none,.cpy es (.t 86) (.t 87)⟩])
 (.seq (.reg [⟨(some 89),none,.mv (.t 0)⟩,⟨(some 90),none,.mv (.t 1)⟩,⟨(some 91),none,.slc es (.t 89) (some (.t 90)) none none⟩,⟨(some 92),none,.mv (.t 7)⟩,⟨(some 93),none,.call fr [(.t 91),(.t 92)]⟩])
 (.seq (.reg [⟨(some 94),none,.mv (.t 0)⟩,⟨(some 6),none,.mv (.t 94)⟩])
 (.ret))))))))))))⟩
section
variable [Globs]
variable {pr:Pr}{s:St}{Q:St->Prop}{dst:Option Nat}{L:List (List Nat×List Nat)}{mask:Nat}
theorem zz2{l:List Op}{es:Nat}{x:A}{lo hi mx:Option A}:wpO pr (⟨dst,none,.slc es x lo hi mx⟩ ::l) s Q↔oB (zah s.tm x) fun d=>oB (zbN (zah s.tm) lo) fun a=>oB (zbN (zah s.tm) hi) fun b=>
  oB (zbN (zah s.tm) mx) fun m=>oB (sliceB es s.h.get d a b m) fun y=>wpO pr l (s.up dst y.1) Q:=by
 rw[zdg rfl];cases hx:zah s.tm x with
 |none=>simp[O.res,hx,oB]
 |some d=>
  cases ha:zbN (zah s.tm) lo with
  |none=>simp[O.res,hx,ha,oB]
  |some a=>
   cases hb:zbN (zah s.tm) hi with
   |none=>simp[O.res,hx,ha,hb,oB]
   |some b=>
    cases hm:zbN (zah s.tm) mx with
    |none=>simp[O.res,hx,ha,hb,hm,oB]
    |some m=>
     cases hs:sliceB es s.h.get d a b m with
     |none=>simp[O.res,hx,ha,hb,hm,hs,opv,oB]
     |some y=>obtain⟨y1,y2⟩ :=y;simp[O.res,hx,ha,hb,hm,hs,opv,oB,zat,zfr]
theorem zAG{l:List (Op×Nat)}{es:Nat}{x:A}{lo hi mx:Option A}:wpE pr L ((⟨dst,none,.slc es x lo hi mx⟩,mask)::l) s Q↔oB (zah s.tm x) fun d=>oB (zbN (zah s.tm) lo) fun a=>oB (zbN (zah s.tm) hi) fun b=>
  oB (zbN (zah s.tm) mx) fun m=>oB (sliceB es s.h.get d a b m) fun y=>zcx mask L y.2 []/\wpE pr (L++[(y.2,[])]) l (s.ue dst y.1) Q:=by
 rw[zct rfl];cases hx:zah s.tm x with
 |none=>simp[O.res,hx,oB]
 |some d=>
  cases ha:zbN (zah s.tm) lo with
  |none=>simp[O.res,hx,ha,oB]
  |some a=>
   cases hb:zbN (zah s.tm) hi with
   |none=>simp[O.res,hx,ha,hb,oB]
   |some b=>
    cases hm:zbN (zah s.tm) mx with
    |none=>simp[O.res,hx,ha,hb,hm,oB]
    |some m=>
     cases hs:sliceB es s.h.get d a b m with
     |none=>simp[O.res,hx,ha,hb,hm,hs,opv,oB]
     |some y=>obtain⟨y1,y2⟩ :=y;simp[O.res,hx,ha,hb,hm,hs,opv,oB,zat,zgM]
def zz0{l:List Op}{x:A}:wpO pr (⟨dst,none,.cap x⟩ ::l) s Q↔oB (zah s.tm x) fun d=>oB (zkC d) fun n=>wpO pr l (s.up dst (.f (.i .i64 n))) Q:=by
 rw[zdg rfl];cases hx:zah s.tm x with
 |none=>simp[O.res,hx,oB]
 |some d=>
  cases hs:zkC d with
  |none=>simp[O.res,hx,hs,opv,oB]
  |some y=>simp[O.res,hx,hs,opv,okF,oB,zat,zfr]
theorem zHr{l:List Op}{es byt:Nat}{z:List F}{x k:A}:wpO pr (⟨dst,none,.apz es byt z x k⟩ ::l) s Q↔oB (zah s.tm x) fun d=>oB (zah s.tm k) fun e=>oB (opv s.h.get s.c (.apz es byt z d e)) fun r=>
  zat r.c r.wr=true/\wpO pr l (s.aft dst r.d r.wr r.c) Q:=by
 rw[zdg rfl];cases hx:zah s.tm x with
 |none=>simp[O.res,hx,oB]
 |some d=>
  cases hk:zah s.tm k with
  |none=>simp[O.res,hx,hk,oB]
  |some e=>simp[O.res,hx,hk,zfM]
theorem zHu{l:List Op}{es:Nat}{x k:A}:wpO pr (⟨dst,none,.cpy es x k⟩ ::l) s Q↔oB (zah s.tm x) fun d=>oB (zah s.tm k) fun e=>oB (opv s.h.get s.c (.cpy es d e)) fun r=>
  zat r.c r.wr=true/\wpO pr l (s.aft dst r.d r.wr r.c) Q:=by
 rw[zdg rfl];cases hx:zah s.tm x with
 |none=>simp[O.res,hx,oB]
 |some d=>
  cases hk:zah s.tm k with
  |none=>simp[O.res,hx,hk,oB]
  |some e=>simp[O.res,hx,hk,zfM]
theorem zEO{l:List (Op×Nat)}{es:Nat}{x k:A}:wpE pr L ((⟨dst,none,.cpy es x k⟩,mask)::l) s Q↔oB (zah s.tm x) fun d=>oB (zah s.tm k) fun e=>oB (opv s.h.get s.c (.cpy es d e)) fun r=>
    zat r.c r.wr=true/\zcx mask L r.rd (r.wr.map (·.1))/\wpE pr (L++[(r.rd,r.wr.map (·.1))]) l (s.ae dst r.d r.wr r.c) Q:=by
  rw[zct rfl];cases hx:zah s.tm x with
  |none=>simp[O.res,hx,oB]
  | some d=>
    cases hk:zah s.tm k with
    |none=>simp[O.res,hx,hk,oB]
    |some e=>simp[O.res,hx,hk,zfM]
def zG9(s:St)(dst:Option Nat)(d:D):(s.up dst d).mx=max s.mx (s.c+1):=rfl
def zAd(s:St)(dst:Option Nat)(d:D)(wr:List (Nat×Option Ob))(c:Nat):(s.aft dst d wr c).mx=max s.mx (c+1):=rfl
def ue_mx(s:St)(dst:Option Nat)(d:D):(s.ue dst d).mx=max s.mx (s.c+1):=rfl
def ae_mx(s:St)(dst:Option Nat)(d:D)(wr:List (Nat×Option Ob))(c:Nat):(s.ae dst d wr c).mx=max s.mx (c+1):=rfl
theorem zKq{h:Nat->Option Ob}{c es byt id lim:Nat}{z:List F}{els:List (List D)}{ro:Nat}{k:Nat}(ho:h id=some (.arr es ro els))(hk:0<k)(hl:lim<k)(hb:k*byt<=zaC)(hm:k<=zaC):
  opv h c (.apz es byt z (.sl id 0 0 es lim true) (.f (.i .i64 (k:Int))))=
   some {d:= .sl c 0 k es k false,rd:=[id],wr:=[(c,some (.arr es 0 (List.replicate k (z.map D.f))))],c:=c+1}:=by
 have h1:¬k=0:=by omega
 have h2:¬k<=lim:=by omega
 simp only[opv,zbq];unfold zbv;simp[hm,hb,h1,h2,ho]
theorem zAA{h:Nat->Option Ob}{c es id off m lim:Nat}{ex:Bool}{e:D}{els old:List (List D)}{len ro:Nat}{rd:List Nat}(hs:zgX es h m e=some (els,len,rd))(ho:h id=some (.arr es ro old))(hle:off<=old.length)(hro:ro<=off)
  (hk:zc1 old (old.take off++els.take (Nat.min len m)++old.drop (off+Nat.min len m))=true):
  opv h c (.cpy es (.sl id off m es lim ex) e)=some {d:= .f (.i .i64 (Nat.min len m)),rd:=id::rd,wr:=[(id,some (.arr es ro (old.take off++els.take (Nat.min len m)++old.drop (off+Nat.min len m))))],c}:=by
 simp only[opv,hs,ho];rw[Z51 ⟨trivial,trivial,hle,.inl hro,hk⟩]
def zBy(e:List D)(a b:List (List D)):zc1 (e::a) (e::b)=true:=by
 unfold zc1 hd8;split<;>simp_all
theorem zxA{h:Nat->Option Ob}{es id off len m lim ro:Nat}{ex:Bool}{els:List (List D)}(ho:h id=some (.arr es ro els))(hle:off+len<=els.length):
  zgX es h m (.sl id off len es lim ex)=some ((els.drop off).take len,((els.drop off).take len).length,[id]):=by
 simp only[zgX,elemsOf,ho];rw[Z51 ⟨trivial,trivial,hle⟩]
theorem zDJ{pr:Pr}{f es byt:Nat}{z:List F}{fo fr:Nat}(hf:pr.fn f=some (znP es byt z fo fr))(hb:2*byt<=zaC){h:T Ob}{id vid voff vlim n:Nat}{vex:Bool}{x y:List D}{vro:Nat}{vels:List (List D)}
  (ho:h.get id=some (.arr es 0 [x]))(hv:h.get vid=some (.arr es vro vels))(hy:vels[voff]? =some y)(hid:id<n)(hvid:vid≠n)(hz:hd8 [z.map D.f]=false):
  ∃q,(q.d= .sl n 0 2 es 2 false/\(∀i,q.h.get i=if i=n then some (.arr es 0 [y,x])else h.get i)/\q.c=n+10/\q.lw=n/\q.mx=n+11)/\
   Con pr f [.sl id 0 1 es 1 true,.f (.i .i64 0),.sl vid voff 1 es vlim vex] h n q:=by
 refine zrz hf ?_;have hlt:=(Z8.1 hy).1;have hy':=(Z8.1 hy).2;have hw1:IntKind.i64.wrap 1=1:=rfl;have hw2:IntKind.i64.wrap 2=2:=rfl;obtain⟨zz,hzz⟩ :∃zz,zz=z.map D.f:=⟨_,rfl⟩
 rw[<-hzz]at hz;have hne1:¬id=n:=by omega
 have hne2:¬vid=n:=hvid;have hdy:(vels.drop voff).take 1=[y]:=by
  rw[Z55 hlt,hy'];rfl
 have hok:∀l,zc1 [zz,zz] l=true:=fun l=>by
  have:hd8 [zz,zz]=false:=by unfold hd8 at hz|-;split<;>simp_all
  simp[zc1,this]
 have hA:opv h.get n (.apz es byt z (.sl id 0 0 es 1 true) (.f (.i .i64 2)))=some {d:= .sl n 0 2 es 2 false,rd:=[id],wr:=[(n,some (.arr es 0 [zz,zz]))],c:=n+1}:=by
  have:=zKq (h:=h.get) (c:=n) (byt:=byt) (z:=z) (k:=2) (lim:=1) ho (by decide) (by decide) hb (by decide);rw[<-hzz]at this;exact this
 have hB:opv (h.set n (.arr es 0 [zz,zz])).get (n+1) (.cpy es (.sl n 0 2 es 2 false) (.sl vid voff 1 es vlim vex))=some {d:= .f (.i .i64 1),rd:=[n,vid],wr:=[(n,some (.arr es 0 [y,zz]))],c:=n+1}:=by
  have e1:(h.set n (.arr es 0 [zz,zz])).get vid=some (.arr es vro vels):=by rw[T.zal,Z49 hne2];exact hv
  have e2:(h.set n (.arr es 0 [zz,zz])).get n=some (.arr es 0 [zz,zz]):=by rw[T.zal,Z51 rfl]
  have:=zAA (c:=n+1) (off:=0) (m:=2) (lim:=2) (ex:=false) (zxA (m:=2) (off:=voff) (lim:=vlim) (ex:=vex) e1 (len:=1) (by omega)) e2 (Z61 _) (Z2 _) (hok _);rw[hdy]at this;exact this
 have hC:opv ((h.set n (.arr es 0 [zz,zz])).set n (.arr es 0 [y,zz])).get (n+9) (.cpy es (.sl n 1 1 es 2 false) (.sl id 0 1 es 1 true))=some {d:= .f (.i .i64 1),rd:=[n,id],wr:=[(n,some (.arr es 0 [y,x]))],c:=n+9}:=by
  have e1:((h.set n (.arr es 0 [zz,zz])).set n (.arr es 0 [y,zz])).get id=some (.arr es 0 [x]):=by rw[T.zal,Z49 hne1,T.zal,Z49 hne1];exact ho
  have e2:((h.set n (.arr es 0 [zz,zz])).set n (.arr es 0 [y,zz])).get n=some (.arr es 0 [y,zz]):=by rw[T.zal,Z51 rfl]
  have:=zAA (c:=n+9) (off:=1) (m:=1) (lim:=2) (ex:=false) (zxA (m:=1) (off:=0) (lim:=1) (ex:=true) e1 (len:=1) (by simp)) e2 (by simp) (by decide) (zBy y _ _);exact this
 unfold znP;simp (maxSteps:=1000000) [zx9,zx8,zoM,zx7,zlH,zlG,zqp,zqo,zvL,zmB,zvK,zqr,zqI,zqG,zvI,zqx,zqv,zvM,zvJ,zqH,zqu,znk,zqw,znl,zmA,zkj,zo3,ztO,zlK,ztN,zoW,zo1,e_len,ztL,ztM,zoX,zo2,ztP,zmM,zjS,zoL,zlD,zix,zhv,zcx,zcX,zbf,zbX,zbO,zna,za8,zbS,zbD,zmE,zbd,zbW,zbU,zm7,zfM,zl1,zlZ,zoK,zoG,zjt,zlC,zju,Z46,fnD,zbh,zbY,zbB,znd,za1,za9,za4,zjq,ztE,zyb,zya,ztC,zgz,zhB,F.d,zbq,iaB,faB,zcE,zcC,zda,over,zgT,zcy,zas,D.cells,zc0,wrT,T.zal,T.zbj,T.zkK,zcA,za0,zum,zuk,zuj,zqP,zqN,zqT,zaw,zat,zjH,zjF,zjD,zjE,zjA,zjK,zjw,zjL,zz2,zz0,zHr,zHu,zAG,zEO,sliceB,zkC,zbu,zbN,st0,zax,ho,hv,hw1,hw2,hA,hB,hC];refine zAs ?_
 simp (maxSteps:=1000000) [zx9,zx8,zoM,zx7,zlH,zlG,zqp,zqo,zvL,zmB,zvK,zqr,zqI,zqG,zvI,zqx,zqv,zvM,zvJ,zqH,zqu,znk,zqw,znl,zmA,zkj,zo3,ztO,zlK,ztN,zoW,zo1,e_len,ztL,ztM,zoX,zo2,ztP,zmM,zjS,zoL,zlD,zix,zhv,zcx,zcX,zbf,zbX,zbO,zna,za8,zbS,zbD,zmE,zbd,zbW,zbU,zm7,zfM,zl1,zlZ,zoK,zoG,zjt,zlC,zju,Z46,fnD,zbh,zbY,zbB,znd,za1,za9,za4,zjq,ztE,zyb,zya,ztC,zgz,zhB,F.d,zbq,iaB,faB,zcE,zcC,zda,over,zgT,zcy,zas,D.cells,zc0,wrT,T.zal,T.zbj,T.zkK,zcA,za0,zum,zuk,zuj,zqP,zqN,zqT,zaw,zat,zjH,zjF,zjD,zjE,zjA,zjK,zjw,zjL,zz2,zz0,zHr,zHu,zAG,zEO,sliceB,zkC,zbu,zbN,st0,zax,ho,hv,hw1,hw2,hA,hB,hC,hne1,hne2,zDm,znK,resD,resV,zas,zdi,D.isF,D.zgR];refine⟨fun i=> ?_,?_⟩
 .by_cases hi:i=n
  .rw[Z51 hi,Z51 hi]
  .rw[Z49 hi,Z49 hi,Z49 hi,Z49 hi]
 .simp only[zG9,zAd,ue_mx,ae_mx,zbB,za4,zbO,zbD];simp[Nat.max_def]
end
end Go.Vse
end
section
namespace Go.Vse
open Go.RowKit
open Go (BinOp IntKind UnOp)
set_option maxRecDepth 100000
set_option maxHeartbeats 4000000
section
variable [Globs]
variable {P:Program}{amb:Mu}{ρ:Nat->Option Nat}{c:Nat->Prop}{h:Hp}
theorem zBe{w:World}(s:Sim amb w.heap h ρ c){td ty e:TypeId}{es:Nat}(hu:P.underlying td=some (.slice e))(hn:zaT P e=some es)
  {id vid vro voff vlim lim n:Nat}{ex vex:Bool}{x y:List D}{vels:List (List D)}
  (ho:h id=some (.arr es 0 [x]))(hv:h vid=some (.arr es vro vels))(hy:vels[voff]? =some y)(hne:id≠vid)(hx8:hd8 [x]=false)(hcn:¬c n)
  {a:Addr}{C:Nat}(hC:2<=C)(hr:Rel w.heap (zaq amb h ρ) ρ c (.sl id 0 1 es lim ex) (.slice (some a) 1 C)){uv:Value}(hrv:Rel w.heap (zaq amb h ρ) ρ c (.sl vid voff 1 es vlim vex) uv):
  ∃b w1 w2,ρ id=some b/\a=⟨b,0,none⟩/\
   (Builtin.copy_ #[td,td] ty #[.slice (some ⟨b,es,none⟩) 1 (C - 1),.slice (some ⟨b,0,none⟩) 2 C]).run P w.drew= .ok (.int .i64 1) w1/\
   (Builtin.copy_ #[td,td] ty #[.slice (some ⟨b,0,none⟩) 2 C,uv]).run P w1= .ok (.int .i64 1) w2/\Base w w2/\
   ∃ρ',Rel w2.heap (zaq amb (upd (upd h id none) n (some (.arr es 0 [y,x]))) ρ') ρ' (fun i=>c i\/i=n) (.sl n 0 2 es 2 false) (.slice (some ⟨b,0,none⟩) 2 C)/\
    Sim amb w2.heap (upd (upd h id none) n (some (.arr es 0 [y,x]))) ρ' (fun i=>c i\/i=n)/\
    Evo amb (fun i=>i=id) w.heap h ρ c w2.heap (upd (upd h id none) n (some (.arr es 0 [y,x]))) ρ' (fun i=>c i\/i=n):=by
 simp only[Rel]at hr;obtain⟨hc,a',cap,e0,q1,q2,q3,q4⟩ :=hr;simp only[Value.slice.injEq,Z45,true_and]at e0;obtain⟨rfl,rfl⟩ :=e0;obtain⟨b,cs,elem,fr,hb,b1,b2,b3,b4,b5⟩ :=s.row ho;obtain⟨k1,e3,bn,k2,k3⟩ :=q4 b hb;have ha:=k1 (by omega);rw[Z109]at ha;subst ha;have hCs:(0+C)*es<=bn:=k3;have hsame:∀b',ρ id=some b'->b'=b:=fun b' h'=>by rw[hb]at h';exact (Z53 h').symm
 have hsrc:Rel w.heap (zaq amb h ρ) ρ c (.sl id 0 2 es 0 false) (.slice (some ⟨b,0,none⟩) 2 C):=by
  simp only[Rel];refine⟨hc,⟨b,0,none⟩,C,rfl,hC,by omega,by simp,fun b' hb'=> ?_⟩;have:=hsame b' hb';subst this;exact⟨fun _=>by rw[Z109],e3,bn,k2,k3⟩
 have hdst:Rel w.heap (zaq amb h ρ) ρ c (.sl id 1 1 es 0 false) (.slice (some ⟨b,es,none⟩) 1 (C - 1)):=by
  simp only[Rel];refine⟨hc,⟨b,es,none⟩,C - 1,rfl,by omega,by omega,by simp,fun b' hb'=> ?_⟩;have:=hsame b' hb';subst this;refine⟨fun _=>by rw[Z177],e3,bn,k2,?_⟩;rw[show 1+(C - 1)=0+C by omega];exact k3
 have hd8x:∀l,hd8 (x::l)=false:=by
  intro l;rw[<-hx8];rcases x with _|⟨d,_|⟨d',t⟩⟩
  .rfl
  .cases d with
   |f z=>cases z with
    |i k n=>cases k<;>rfl
    |_=>rfl
   |_=>rfl
  .cases d with
   |f z=>cases z with
    |i k n=>cases k<;>rfl
    |_=>rfl
   |_=>rfl
 have hs1:zgX es h 1 (.sl id 0 2 es 0 false)=some ([x],2,[id]):=by
  simp only[zgX,elemsOf,ho];simp
 obtain⟨hm1,vs1,E1⟩ :=zn9 (P:=P) (w:=w.drew) s hsrc hs1;obtain⟨w1,r1,p1⟩ :=zra (P:=P) (w:=w.drew) (n:=n) (td:=td) (ts':=td) (ty:=ty) s hu hn E1 hdst ho (by simp) (.inl (Z61 _)) hm1 (by unfold zc1;rw[hd8x];rfl) [];have hmin1:Nat.min 2 1=1:=rfl;rw[hmin1]at r1;obtain⟨ρ1,_,s1,v1⟩ :=p1.ex;have hB1:Base w w1:=Base.trans (b:=w.drew) ⟨rfl,rfl,rfl,Z128 _⟩ p1.base;simp only[zdR]at s1 v1;have hh1:zbQ h [(id,some (Ob.arr es 0 (List.take 1 [x]++List.take (Nat.min 2 1) [x]++List.drop (1+Nat.min 2 1) [x])))]=upd h id (some (.arr es 0 [x,x])):=rfl;rw[hh1]at s1 v1;have ho1:upd h id (some (.arr es 0 [x,x])) id=some (.arr es 0 [x,x]):=by simp
 have hv1:upd h id (some (.arr es 0 [x,x])) vid=some (.arr es vro vels):=by rw[upd_ne _ _ _ (Ne.symm hne)];exact hv
 have hd1:=Rel.keep v1.keep _ _ hsrc;have hrv1:=Rel.keep v1.keep _ _ hrv;have hlt:=(Z8.1 hy).1;have hy':=(Z8.1 hy).2;have hdy:(vels.drop voff).take 1=[y]:=by rw[Z55 hlt,hy'];rfl
 have hs2:zgX es (upd h id (some (.arr es 0 [x,x]))) 2 (.sl vid voff 1 es vlim vex)=some ([y],1,[vid]):=by
  simp only[zgX,elemsOf,hv1];rw[Z51 ⟨trivial,trivial,by omega⟩];simp[hdy]
 obtain⟨hm2,vs2,E2⟩ :=zn9 (P:=P) (w:=w1) s1 hrv1 hs2;obtain⟨w2,r2,p2⟩ :=zra (P:=P) (w:=w1) (n:=n) (td:=td) (ts':=td) (ty:=ty) s1 hu hn E2 hd1 ho1 (by simp) (.inl (Z61 _)) hm2 (by unfold zc1;rw[hd8x];rfl) [];have hmin2:Nat.min 1 2=1:=rfl;rw[hmin2]at r2;obtain⟨ρ2,_,s2,v2⟩ :=p2.ex;simp only[zdR]at s2 v2;have hh2:zbQ (upd h id (some (.arr es 0 [x,x]))) [(id,some (Ob.arr es 0 (List.take 0 [x,x]++List.take (Nat.min 1 2) [y]++List.drop (0+Nat.min 1 2) [x,x])))]=upd (upd h id (some (.arr es 0 [x,x]))) id (some (.arr es 0 [y,x])):=rfl;rw[hh2,znh]at s2 v2;have ho2:upd h id (some (.arr es 0 [y,x])) id=some (.arr es 0 [y,x]):=by simp
 obtain⟨b2',hb2,_⟩ :=s2.obj id _ ho2;have hb2e:b2'=b:=hsame _ (v1.keep.rho id b2' hc (v2.keep.rho id b2' hc hb2));subst hb2e;obtain⟨s3,v3⟩ :=s2.rename hcn (fun i=>i=id) rfl ho2 hb2;have hh3:upd (upd (upd h id (some (.arr es 0 [y,x]))) id none) n (some (.arr es 0 [y,x]))=upd (upd h id none) n (some (.arr es 0 [y,x])):=by rw[znh]
 rw[hh3]at s3 v3;have v12:=(v1.mono (W':=fun i=>i=id) fun i _ hi=>by simpa using hi).trans (v2.mono (W':=fun i=>i=id) fun i _ hi=>by simpa using hi);have v13:=v12.trans v3;refine⟨b2',w1,w2,hb,rfl,r1,r2,hB1.trans p2.base,_,?_,s3,v13⟩;simp only[Rel];refine⟨.inr trivial,⟨b2',0,none⟩,C,rfl,hC,by omega,by simp,fun b' hb'=> ?_⟩;simp at hb';subst hb';exact⟨fun _=>by rw[Z109],e3,bn,v13.keep.shape _ _ k2,k3⟩
end
end Go.Vse
end
section
namespace Go.Vse
open Go.RowKit
open Go (BinOp IntKind UnOp)
set_option maxRecDepth 100000
set_option maxHeartbeats 4000000
set_option linter.unusedSimpArgs false
section
variable [Globs]
variable {pr:Pr}{s:St}{Q:St->Prop}{dst:Option Nat}{L:List (List Nat×List Nat)}{mask:Nat}
theorem y_app{l:List Op}{es byt:Nat}{x k:A}:wpO pr (⟨dst,none,.app es byt x k⟩ ::l) s Q↔oB (zah s.tm x) fun d=>oB (zah s.tm k) fun e=>oB (opv s.h.get s.c (.app es byt d e)) fun r=>
  zat r.c r.wr=true/\wpO pr l (s.aft dst r.d r.wr r.c) Q:=by
 rw[zdg rfl];cases hx:zah s.tm x with
 |none=>simp[O.res,hx,oB]
 |some d=>
  cases hk:zah s.tm k with
  |none=>simp[O.res,hx,hk,oB]
  |some e=>simp[O.res,hx,hk,zfM]
theorem zCZ{h:Nat->Option Ob}{c es byt vid voff vlim vro:Nat}{vex:Bool}{y:List D}{vels:List (List D)}(hv:h vid=some (.arr es vro vels))(hy:vels[voff]? =some y)(hb:byt<=zaC):
  opv h c (.app es byt (.f .nils) (.sl vid voff 1 es vlim vex))=some {d:= .sl c 0 1 es 1 false,rd:=[vid],wr:=[(c,some (.arr es 0 [y]))],c:=c+1}:=by
 have hlt:=(Z8.1 hy).1;have hy':=(Z8.1 hy).2;have hdy:(vels.drop voff).take 1=[y]:=by
  rw[Z55 hlt,hy'];rfl
 simp only[opv,elemsOf,hv];rw[Z51 ⟨trivial,trivial,by omega⟩,hdy];unfold zbv;simp[hb,zaC];exact hb
theorem zIh{pr:Pr}{f es byt:Nat}{z:List F}{fo fr:Nat}(hf:pr.fn f=some (znP es byt z fo fr))(hb:byt<=zaC){h:T Ob}{vid voff vlim n:Nat}{vex:Bool}{y:List D}{vro:Nat}{vels:List (List D)}
  (hv:h.get vid=some (.arr es vro vels))(hy:vels[voff]? =some y):
  ∃q,(q.d= .sl n 0 1 es 1 false/\(∀i,q.h.get i=if i=n then some (.arr es 0 [y])else h.get i)/\q.c=n+1/\q.lw=n/\q.mx=n+2)/\
   Con pr f [.f .nils,.f (.i .i64 0),.sl vid voff 1 es vlim vex] h n q:=by
 refine zrz hf ?_;have hA:=fun c=>zCZ (h:=h.get) (c:=c) (byt:=byt) (vlim:=vlim) (vex:=vex) hv hy hb
 unfold znP;simp (maxSteps:=1000000) [zx9,zx8,zoM,zx7,zlH,zlG,zqp,zqo,zvL,zmB,zvK,zqr,zqI,zqG,zvI,zqx,zqv,zvM,zvJ,zqH,zqu,znk,zqw,znl,zmA,zkj,zo3,ztO,zlK,ztN,zoW,zo1,e_len,ztL,ztM,zoX,zo2,ztP,zmM,zjS,zoL,zlD,zix,zhv,zcx,zcX,zbf,zbX,zbO,zna,za8,zbS,zbD,zmE,zbd,zbW,zbU,zm7,zfM,zl1,zlZ,zoK,zoG,zjt,zlC,zju,Z46,fnD,zbh,zbY,zbB,znd,za1,za9,za4,zjq,ztE,zyb,zya,ztC,zgz,zhB,F.d,zbq,iaB,faB,zcE,zcC,zda,over,zgT,zcy,zas,D.cells,zc0,wrT,T.zal,T.zbj,T.zkK,zcA,za0,zum,zuk,zuj,zqP,zqN,zqT,zaw,zat,zjH,zjF,zjD,zjE,zjA,zjK,zjw,zjL,zz2,zz0,y_app,sliceB,zkC,zbu,zbN,st0,zax,hv,hA,zDm,znK,resD,resV,zas,zdi,D.isF,D.zgR];simp only[zG9,zAd,zbB,za4];simp[Nat.max_def]
end
end Go.Vse
end
section
namespace Go.Vse
open Go.RowKit
open Go (BinOp IntKind UnOp)
set_option maxRecDepth 100000
set_option maxHeartbeats 4000000
def insN(es:Nat)(args:List D)(h:T Ob)(n:Nat):Option CR:=
 match args with
 |[.f .nils,.f (.i k z),.sl vid voff vlen es2 _ _]=>match h.get vid with
  |some (.arr eb _ vels)=>match vels[voff]? with
   | some y=>if k= .i64/\z=0/\vlen=1/\es2=es/\eb=es then
     some {d:= .sl n 0 1 es 1 false,h:=h.set n (.arr es 0 [y]),c:=n+1,lw:=n,mx:=n+2}
    else none
   |none=>none
  |_=>none
 |_=>none
def zqV(es:Nat)(args:List D)(h:T Ob)(n:Nat):Option CR:=
 match insN es args h n with
 |some q=>some q
 |none=>insQ es args h n
section
variable [Globs]
variable {P:Program}{pur:Nat->Bool}
def zfi.same{f:Nat}{args:List D}{h:T Ob}{n:Nat}{q q':CR}(hq:zfi P f args h n q)(hd:q'.d=q.d)(hh:∀i,q'.h.get i=q.h.get i)(hc:q'.c=q.c)(hl:q'.lw=q.lw)(hm:q'.mx=q.mx):zfi P f args h n q':=by
 obtain⟨h1,h2,h3,h4⟩ :=hq;refine⟨h1,by omega,by omega,fun amb ρ c w vs hs hf ha=> ?_⟩;rw[hm]at hf;refine (h4 amb ρ c w vs hs hf ha).mono ?_;rintro e w' ⟨v,he,hb,ρ',k1,k2,k3⟩;have hg:q'.h.get=q.h.get:=funext hh;refine⟨v,he,hb,ρ',?_,?_,?_⟩
 .rw[hd,hg,hc];exact k1
 .rw[hg,hc];exact k2
 .rw[hg,hc,hl,hm];exact k3
def zfi.zBv{pr:Pr}(hp:znD P pur pr){f:Nat}{args:List D}{h:T Ob}{n:Nat}{q:CR}(hq:Con pr f args h n q):zfi P f args h n q:=by
 obtain⟨N,hN⟩ :=hq;exact zmR hp N f args h n q (hN N (Z2 _))
structure Apart(w:World)(b bv ov:Nat):Prop where
 ne:bv≠b
 sh:∃tA kA tB kB,w.shape? bv=some (tA,kA)/\w.shape? b=some (tB,kB)/\kB≠0/\w.frozen? ⟨bv,ov,none⟩ =false/\w.frozen? ⟨bv,kA,none⟩ =false
def InPlace(P:Program)(f es:Nat)(td:TypeId):Prop:=∀(w w1 w2:World) (b bv ov C Cv:Nat),2<=C->Apart w b bv ov->
 (Builtin.copy_ #[td,td] 3 #[.slice (some ⟨b,es,none⟩) 1 (C - 1),.slice (some ⟨b,0,none⟩) 2 C]).run P w.drew= .ok (.int .i64 1) w1->
 (Builtin.copy_ #[td,td] 3 #[.slice (some ⟨b,0,none⟩) 2 C,.slice (some ⟨bv,ov,none⟩) 1 Cv]).run P w1= .ok (.int .i64 1) w2->
 Calls P f #[.slice (some ⟨b,0,none⟩) 1 C,.int .i64 0,.slice (some ⟨bv,ov,none⟩) 1 Cv] w fun e w'=>e= .returned (.slice (some ⟨b,0,none⟩) 2 C)/\w'=w2
theorem zuD{pr:Pr}(hp:znD P pur pr){f es byt:Nat}{z:List F}{fo fr:Nat}(hf:pr.fn f=some (znP es byt z fo fr))(hb:2*byt<=zaC)(hz:hd8 [z.map D.f]=false)(hes:es≠0)
  {td e:TypeId}(hu:P.underlying td=some (.slice e))(hn:zaT P e=some es)(hpl:InPlace P f es td):
  ∀args h n q,zqV es args h n=some q->zfi P f args h n q:=by
 intro args h n q hq;unfold zqV at hq;split at hq
 .rename_i q' hq';cases hq;unfold insN at hq';split at hq'
  .rename_i k zz vid voff vlen es2 vlim vex;split at hq'
   .rename_i eb vro vels hv;split at hq'
    .rename_i y hy;split at hq'
     .rename_i hc;obtain⟨rfl,rfl,rfl,rfl,rfl⟩ :=hc;simp only[Z45]at hq';subst hq';obtain⟨q,⟨e1,e2,e3,e4,e5⟩,hcon⟩ :=zIh (n:=n) (vlim:=vlim) (vex:=vex) hf (by omega) hv hy;refine (zfi.zBv hp hcon).same e1.symm (fun i=> ?_) e3.symm e4.symm e5.symm;rw[e2,T.zal]
     .simp at hq'
    .simp at hq'
   .simp at hq'
  .simp at hq'
 .unfold insQ at hq;split at hq
  .rename_i id off len es1 lim ex k zz vid voff vlen es2 vlim vex _;split at hq
   .rename_i ea ro els eb vro vels ho hv;split at hq
    .rename_i x y hy;split at hq
     .rename_i hc;obtain⟨rfl,rfl,rfl,rfl,rfl,rfl,rfl,rfl,rfl,rfl,hne,hlt,hx8,hv8⟩ :=hc;simp only[Z45]at hq;subst hq;have hen:zf0 P f:=by
       obtain⟨F,h1,h2,pu,h3⟩ :=hp.fn f _ hf;refine⟨F,h1,?_,h2⟩;unfold zae at h3;split at h3
       .simp at h3
       .rename_i code hbody;simp[hbody]
      refine⟨hen,by simp,by simp,fun amb ρ c w vs hs hfree hargs=> ?_⟩;simp only[zau]at hargs;obtain⟨v0,_,rfl,r0,v1,_,rfl,r1,v2,_,rfl,r2,rfl⟩ :=hargs;have hcn:¬c n:=hfree n (Z2 _) (by simp);have r0':=r0;simp only[Rel]at r0';obtain⟨hcid,a,C,rfl,k1,k2,k3,k4⟩ :=r0';have r2':=r2;simp only[Rel]at r2';obtain⟨hcv,a2,Cv,rfl,m1,m2,m3,m4⟩ :=r2';simp only[Rel,zao]at r1;subst r1;obtain⟨bv,cs,elem,fr',hbv,b1,b2,b3,b4,b5⟩ :=hs.row hv;obtain⟨ma,e2,n2,ms,mn⟩ :=m4 bv hbv;have hA:=ma (by omega);subst hA;have hvl:=(Z8.1 hy).1
      by_cases hC:2<=C
      .obtain⟨b,w1,w2,hb',rfl,c1,c2,hB,ρ',p1,p2,p3⟩ :=zBe (P:=P) (ty:=3) (td:=td) hs hu hn ho hv hy hne hx8 hcn hC r0 r2;have hap:Apart w b bv (voff*eb):=by
        refine⟨fun e=>hne (hs.inj id vid b hb' (e▸hbv)),?_⟩;obtain⟨b',cs',elem',fr'',hbb,d1,d2,d3,d4,d5⟩ :=hs.row ho;rw[hb']at hbb;cases hbb;have hin:voff*eb<cs.size:=by
         have:(voff+1)*eb<=vels.length*eb:=Z9 _ hvl;rw[Z35,Z177]at this;omega
        refine⟨elem,cs.size,elem',cs'.size,?_,?_,?_,?_,?_⟩
        .unfold World.shape?;rw[b1]
        .unfold World.shape?;rw[d1]
        .simp at d3;omega
        .unfold World.frozen?;simp only[b1];have:=b2.1 _ hin;simp only[Z147,Z65];omega
        .unfold World.frozen?;simp only[b1];have:¬(fr'.1<=cs.size/\cs.size<fr'.2):=fun hx=>by
          have:=b2.2 hx;rw[hv8]at this;cases this
         simp only[Z147,Z65];omega
       have hg:((h.del id).set n (Ob.arr eb 0 [y,x])).get=upd (upd h.get id none) n (some (.arr eb 0 [y,x])):=by
        funext i
        simp[T.zal,T.zbj,upd]
       have hw:∀i,(c i\/i=n)->UX c n (n+10) i:=fun i hi=>hi.elim .inl fun e=> .inr ⟨by omega,by omega⟩
       refine (hpl w w1 w2 b bv _ C Cv hC hap c1 c2).mono ?_;rintro e w' ⟨rfl,rfl⟩;refine⟨_,rfl,hB,ρ',?_,?_,?_⟩
       .rw[hg];exact Rel.keep ⟨fun _ _ _ h e=>⟨e,h⟩,fun _ _ _ h=>h,fun _ _ h=>h,hw⟩ _ _ p1
       .rw[hg];exact p2.widen hw
       .rw[hg];exact (p3.widen hw).mono fun i _ hi=>by subst hi;exact⟨Z2 _,by simp;omega⟩
      .have hC1:C=1:=by omega
       subst hC1;have r0x:Rel w.heap (zaq amb h.get ρ) ρ c (.sl id 0 1 eb 1 true) (.slice (some a) 1 1):=by
        simp only[Rel];exact⟨hcid,a,1,rfl,by omega,by omega,fun _=>by omega,k4⟩
       have hvn:vid≠n:=fun e=>hcn (e▸hcv)
       obtain⟨q,⟨e1,e2,e3,e4,e5⟩,hcon⟩ :=zDJ (n:=n) (vlim:=vlim) (vex:=vex) hf hb ho hv hy hlt hvn hz;obtain⟨_,_,_,h4⟩ :=zfi.zBv hp hcon;refine (h4 amb ρ c w _ hs (by rw[e5];exact hfree) (by simp only[zau];exact⟨_,_,rfl,r0x,_,_,rfl,by simp only[Rel,zao],_,_,rfl,r2,rfl⟩)).mono ?_;rintro e w' ⟨v,he,hB,ρ',p1,p2,p3⟩;obtain⟨s2,v2⟩ :=p2.drop id (fun i=>i=id) rfl;have hg:((h.del id).set n (Ob.arr eb 0 [y,x])).get=upd q.h.get id none:=by
        funext i
        have hni:¬n=id:=by omega
        by_cases hi:i=n
        .subst hi;rw[T.zal,Z51 rfl,upd_ne _ _ _ (by omega),e2,Z51 rfl]
        .rw[T.zal,Z49 hi,T.zbj]
         by_cases hi2:i=id
         .subst hi2;simp
         .rw[Z49 hi2,upd_ne _ _ _ hi2,e2,Z49 hi]
       rw[e3]at p1 s2 v2 p3;rw[e1]at p1;rw[e4,e5]at p3;refine⟨v,he,hB,upd ρ' id none,?_,?_,?_⟩
       .rw[hg];exact Rel.keep v2.keep _ _ p1
       .rw[hg];exact s2
       .rw[hg];exact (p3.mono fun i _ hi=>⟨by simp;omega,hi.2⟩).trans (v2.mono fun i _ hi=>by subst hi;exact⟨Z2 _,by simp;omega⟩)
     .simp at hq
    .simp at hq
   .simp at hq
  .simp at hq
end
end Go.Vse
end
