/- The evaluator and its soundness. Conditions: none. -/
import Derived.Test.YtkcnnkncapiohaaGreatDoorVd
import Derived.Test.YtkcnnkncapiohaaGreatDoorVc
set_option linter.all false
noncomputable section
section
namespace Go.Vse
variable [Globs]
def Rt(tm:TM)(t:T D):Prop:=∀i,getM tm i=t.get i
def Rt.put{tm:TM}{t:T D}(h:Rt tm t)(dst:Option Nat)(d:D):Rt (zjE tm dst d) (zcI t dst d):=by
 intro i;cases dst with
 |none=>exact h i
 |some j=>
  have e:zjE tm (some j) d=znF tm j (some d):=rfl;rw[e,ztM,h i];simp only[zcI,T.zah]
def F.zA3(x:F):x.dk=x.d:=by cases x<;>rfl
section
variable {tm:TM}{t:T D}
def zaS(h:Rt tm t)(x:A):zei tm x=zae t x:=by
 cases x with
 |t n=>exact h n
 |k x=>exact congrArg some (F.zA3 x)
 |x=>rfl
 |g cs=>rfl
theorem zk6(h:Rt tm t):∀l,znh tm l=zay (zae t) l
 |[]=>rfl
 |x::l=>by
  have e:znh tm (x::l)=oL (zei tm x) fun y=>oL (znh tm l) fun m=>some (y::m):=rfl
  rw[e,zaS h,zk6 h l,zay];cases zae t x with
  |none=>rfl
  |some y=>cases zay (zae t) l<;>rfl
theorem zzo(h:Rt tm t):∀l,zCq tm l=zay (fun(p:Nat×Nat×A)=>do some (p.1,p.2.1,<-zae t p.2.2)) l
 |[]=>rfl
 |x::l=>by
  have e:zCq tm (x::l)=oL (zei tm x.2.2) fun y=>oL (zCq tm l) fun m=>some ((x.1,x.2.1,y)::m):=rfl
  rw[e,zaS h,zzo h l,zay];cases zae t x.2.2 with
  |none=>rfl
  |some y=>
   simp only[Z47,Z46];cases zay _ l<;>rfl
theorem zsY(h:Rt tm t):∀l,zCr tm l=zay (fun(p:Nat×A)=>do some (p.1,<-zae t p.2)) l
 |[]=>rfl
 |x::l=>by
  have e:zCr tm (x::l)=oL (zei tm x.2) fun y=>oL (zCr tm l) fun m=>some ((x.1,y)::m):=rfl
  rw[e,zaS h,zsY h l,zay];cases zae t x.2 with
  |none=>rfl
  |some y=>
   simp only[Z47,Z46];cases zay _ l<;>rfl
def zzD(h:Rt tm t)(x:Option A):zo9 tm x=zcW (zae t) x:=by
 cases x with
 |none=>rfl
 |some x=>
  have e:zo9 tm (some x)=oL (zei tm x) fun y=>some (some y):=rfl
  rw[e,zaS h,zcW];cases zae t x<;>rfl
def zaL{α:Type}(x:α)(k:α->Option Rs):oK (some x) k=k x:=rfl
def zSD(h:Rt tm t)(hp:Nat->Option Ob)(c:Nat)(o:O A)(hk:kcl o= .n):opK o tm hp c=(o.res (zae t)).bind (opv hp c):=by
 cases o with
 |mv x'=>
  show ra k_mv x' tm hp c=_;unfold ra;simp only[zaS h,O.res,Z47];cases zae t x' with
  |none=>rfl
  |some y=>
   simp only[zaL,Z46];rfl
 |pick q' x' y'=>
  show zta zFb q' x' y' tm hp c=_;unfold zta;simp only[zaS h,O.res,Z47];cases zae t q' with
  |none=>rfl
  |some y=>
   simp only[zaL,Z46];cases zae t x' with
   |none=>rfl
   |some y=>
    simp only[zaL,Z46];cases zae t y' with
    |none=>rfl
    |some y=>
     simp only[zaL,Z46];rfl
 |new cs'=>
  rfl
 |box x'=>
  show ra zKL x' tm hp c=_;unfold ra;simp only[zaS h,O.res,Z47];cases zae t x' with
  |none=>rfl
  |some y=>
   simp only[zaL,Z46];rfl
 |bld z' ps'=>
  show rp (zKJ z') ps' tm hp c=_;unfold rp;simp only[zzo h,O.res,Z47];cases zay _ ps' with
  |none=>rfl
  |some y=>
   simp only[zaL,Z46];rfl
 |bsl es' z' m' ps'=>
  show rq (zKN es' z' m') ps' tm hp c=_;unfold rq;simp only[zsY h,O.res,Z47];cases zay _ ps' with
  |none=>rfl
  |some y=>
   simp only[zaL,Z46];rfl
 |bsf es' z' m' ps'=>
  show rq (zKM es' z' m') ps' tm hp c=_;unfold rq;simp only[zsY h,O.res,Z47];cases zay _ ps' with
  |none=>rfl
  |some y=>
   simp only[zaL,Z46];rfl
 |ld g' n' x'=>
  show ra (k_ld g' n') x' tm hp c=_;unfold ra;simp only[zaS h,O.res,Z47];cases zae t x' with
  |none=>rfl
  |some y=>
   simp only[zaL,Z46];rfl
 |st n' x' v'=>
  show raa (k_st n') x' v' tm hp c=_;unfold raa;simp only[zaS h,O.res,Z47];cases zae t x' with
  |none=>rfl
  |some y=>
   simp only[zaL,Z46];cases zae t v' with
   |none=>rfl
   |some y=>
    simp only[zaL,Z46];rfl
 |nck x'=>
  show ra zLA x' tm hp c=_;unfold ra;simp only[zaS h,O.res,Z47];cases zae t x' with
  |none=>rfl
  |some y=>
   simp only[zaL,Z46];rfl
 |bin op' x' y'=>
  show raa (zKI op') x' y' tm hp c=_;unfold raa;simp only[zaS h,O.res,Z47];cases zae t x' with
  |none=>rfl
  |some y=>
   simp only[zaL,Z46];cases zae t y' with
   |none=>rfl
   |some y=>
    simp only[zaL,Z46];rfl
 |eqb ne' x' y'=>
  show raa (zK5 ne') x' y' tm hp c=_;unfold raa;simp only[zaS h,O.res,Z47];cases zae t x' with
  |none=>rfl
  |some y=>
   simp only[zaL,Z46];cases zae t y' with
   |none=>rfl
   |some y=>
    simp only[zaL,Z46];rfl
 |eqn kd' ne' x' y'=>
  show raa (zK7 kd' ne') x' y' tm hp c=_;unfold raa;simp only[zaS h,O.res,Z47];cases zae t x' with
  |none=>rfl
  |some y=>
   simp only[zaL,Z46];cases zae t y' with
   |none=>rfl
   |some y=>
    simp only[zaL,Z46];rfl
 |eqa ks' ne' x' y'=>
  show raa (zK1 ks' ne') x' y' tm hp c=_;unfold raa;simp only[zaS h,O.res,Z47];cases zae t x' with
  |none=>rfl
  |some y=>
   simp only[zaL,Z46];cases zae t y' with
   |none=>rfl
   |some y=>
    simp only[zaL,Z46];rfl
 |un op' x'=>
  show ra (k_un op') x' tm hp c=_;unfold ra;simp only[zaS h,O.res,Z47];cases zae t x' with
  |none=>rfl
  |some y=>
   simp only[zaL,Z46];rfl
 |cvi k' x'=>
  show ra (zKU k') x' tm hp c=_;unfold ra;simp only[zaS h,O.res,Z47];cases zae t x' with
  |none=>rfl
  |some y=>
   simp only[zaL,Z46];rfl
 |cvs x'=>
  show ra zKX x' tm hp c=_;unfold ra;simp only[zaS h,O.res,Z47];cases zae t x' with
  |none=>rfl
  |some y=>
   simp only[zaL,Z46];rfl
 |s2b x'=>
  show ra zLB x' tm hp c=_;unfold ra;simp only[zaS h,O.res,Z47];cases zae t x' with
  |none=>rfl
  |some y=>
   simp only[zaL,Z46];rfl
 |b2s x'=>
  show ra zKH x' tm hp c=_;unfold ra;simp only[zaS h,O.res,Z47];cases zae t x' with
  |none=>rfl
  |some y=>
   simp only[zaL,Z46];rfl
 |mkf f' a' b'=>
  show rll (zLq f') a' b' tm hp c=_;unfold rll;simp only[zk6 h,O.res,Z47];cases zay (zae t) a' with
  |none=>rfl
  |some y=>
   simp only[zaL,Z46];cases zay (zae t) b' with
   |none=>rfl
   |some y=>
    simp only[zaL,Z46];rfl
 |mks es' byt' z' l' m'=>
  show raa (zLr es' byt' z') l' m' tm hp c=_;unfold raa;simp only[zaS h,O.res,Z47];cases zae t l' with
  |none=>rfl
  |some y=>
   simp only[zaL,Z46];cases zae t m' with
   |none=>rfl
   |some y=>
    simp only[zaL,Z46];rfl
 |sls x' lo' hi'=>
  show zH8 zLF x' lo' hi' tm hp c=_;unfold zH8;simp only[zaS h,zzD h,O.res,Z47];cases zae t x' with
  |none=>rfl
  |some y=>
   simp only[zaL,Z46];cases zcW (zae t) lo' with
   |none=>rfl
   |some y=>
    simp only[zaL,Z46];cases zcW (zae t) hi' with
    |none=>rfl
    |some y=>
     simp only[zaL,Z46];rfl
 |slc es' x' lo' hi' mx'=>
  show zCU (zLE es') x' lo' hi' mx' tm hp c=_;unfold zCU;simp only[zaS h,zzD h,O.res,Z47];cases zae t x' with
  |none=>rfl
  |some y=>
   simp only[zaL,Z46];cases zcW (zae t) lo' with
   |none=>rfl
   |some y=>
    simp only[zaL,Z46];cases zcW (zae t) hi' with
    |none=>rfl
    |some y=>
     simp only[zaL,Z46];cases zcW (zae t) mx' with
     |none=>rfl
     |some y=>
      simp only[zaL,Z46];rfl
 |fa off' x'=>
  show ra (k_fa off') x' tm hp c=_;unfold ra;simp only[zaS h,O.res,Z47];cases zae t x' with
  |none=>rfl
  |some y=>
   simp only[zaL,Z46];rfl
 |fld g' off' n' x'=>
  show ra (zLc g' off' n') x' tm hp c=_;unfold ra;simp only[zaS h,O.res,Z47];cases zae t x' with
  |none=>rfl
  |some y=>
   simp only[zaL,Z46];rfl
 |ia es' x' i'=>
  show raa (k_ia es') x' i' tm hp c=_;unfold raa;simp only[zaS h,O.res,Z47];cases zae t x' with
  |none=>rfl
  |some y=>
   simp only[zaL,Z46];cases zae t i' with
   |none=>rfl
   |some y=>
    simp only[zaL,Z46];rfl
 |iaa es' m' x' i'=>
  show raa (zLe es' m') x' i' tm hp c=_;unfold raa;simp only[zaS h,O.res,Z47];cases zae t x' with
  |none=>rfl
  |some y=>
   simp only[zaL,Z46];cases zae t i' with
   |none=>rfl
   |some y=>
    simp only[zaL,Z46];rfl
 |ixs x' i'=>
  show raa zLk x' i' tm hp c=_;unfold raa;simp only[zaS h,O.res,Z47];cases zae t x' with
  |none=>rfl
  |some y=>
   simp only[zaL,Z46];cases zae t i' with
   |none=>rfl
   |some y=>
    simp only[zaL,Z46];rfl
 |ixa g' es' m' x' i'=>
  show raa (zLh g' es' m') x' i' tm hp c=_;unfold raa;simp only[zaS h,O.res,Z47];cases zae t x' with
  |none=>rfl
  |some y=>
   simp only[zaL,Z46];cases zae t i' with
   |none=>rfl
   |some y=>
    simp only[zaL,Z46];rfl
 |ext x' i'=>
  show ra (zK9 i') x' tm hp c=_;unfold ra;simp only[zaS h,O.res,Z47];cases zae t x' with
  |none=>rfl
  |some y=>
   simp only[zaL,Z46];rfl
 |app es' byt' s' x'=>
  show raa (zKF es' byt') s' x' tm hp c=_;unfold raa;simp only[zaS h,O.res,Z47];cases zae t s' with
  |none=>rfl
  |some y=>
   simp only[zaL,Z46];cases zae t x' with
   |none=>rfl
   |some y=>
    simp only[zaL,Z46];rfl
 |apz es' byt' z' s' n'=>
  show raa (zKG es' byt' z') s' n' tm hp c=_;unfold raa;simp only[zaS h,O.res,Z47];cases zae t s' with
  |none=>rfl
  |some y=>
   simp only[zaL,Z46];cases zae t n' with
   |none=>rfl
   |some y=>
    simp only[zaL,Z46];rfl
 |cpy es' d' s'=>
  show raa (zKS es') d' s' tm hp c=_;unfold raa;simp only[zaS h,O.res,Z47];cases zae t d' with
  |none=>rfl
  |some y=>
   simp only[zaL,Z46];cases zae t s' with
   |none=>rfl
   |some y=>
    simp only[zaL,Z46];rfl
 |clr es' z' s'=>
  show ra (zKR es' z') s' tm hp c=_;unfold ra;simp only[zaS h,O.res,Z47];cases zae t s' with
  |none=>rfl
  |some y=>
   simp only[zaL,Z46];rfl
 |len x'=>
  show ra zLo x' tm hp c=_;unfold ra;simp only[zaS h,O.res,Z47];cases zae t x' with
  |none=>rfl
  |some y=>
   simp only[zaL,Z46];rfl
 |lns x'=>
  show ra zLp x' tm hp c=_;unfold ra;simp only[zaS h,O.res,Z47];cases zae t x' with
  |none=>rfl
  |some y=>
   simp only[zaL,Z46];rfl
 |mlen x'=>
  show ra zFa x' tm hp c=_;unfold ra;simp only[zaS h,O.res,Z47];cases zae t x' with
  |none=>rfl
  |some y=>
   simp only[zaL,Z46];rfl
 |cap x'=>
  show ra zKO x' tm hp c=_;unfold ra;simp only[zaS h,O.res,Z47];cases zae t x' with
  |none=>rfl
  |some y=>
   simp only[zaL,Z46];rfl
 |mm mx' x' y'=>
  show raa (k_mm mx') x' y' tm hp c=_;unfold raa;simp only[zaS h,O.res,Z47];cases zae t x' with
  |none=>rfl
  |some y=>
   simp only[zaL,Z46];cases zae t y' with
   |none=>rfl
   |some y=>
    simp only[zaL,Z46];rfl
 |mmk=>
  rfl
 |mup kd' m' k' v'=>
  show zta (zLx kd') m' k' v' tm hp c=_;unfold zta;simp only[zaS h,O.res,Z47];cases zae t m' with
  |none=>rfl
  |some y=>
   simp only[zaL,Z46];cases zae t k' with
   |none=>rfl
   |some y=>
    simp only[zaL,Z46];cases zae t v' with
    |none=>rfl
    |some y=>
     simp only[zaL,Z46];rfl
 |mlk kd' z' ok' m' k'=>
  show raa (zLs kd' z' ok') m' k' tm hp c=_;unfold raa;simp only[zaS h,O.res,Z47];cases zae t m' with
  |none=>rfl
  |some y=>
   simp only[zaL,Z46];cases zae t k' with
   |none=>rfl
   |some y=>
    simp only[zaL,Z46];rfl
 |callp _ _=>cases hk
 |call _ _=>cases hk
 |callv _ _=>cases hk
def zvu{f:A->Option D}{o:O A}{o':O D}(hk:kcl o= .n)(hr:o.res f=some o'):kindOf o'= .n:=by
 cases o with
 |mv _=>
  simp only[O.res]at hr;obtain⟨_,_,hr⟩ :=zaj hr;cases hr;rfl
 |pick _ _ _=>
  simp only[O.res]at hr;obtain⟨_,_,hr⟩ :=zaj hr;obtain⟨_,_,hr⟩ :=zaj hr;obtain⟨_,_,hr⟩ :=zaj hr;cases hr;rfl
 |new _=>
  simp only[O.res]at hr;cases hr;rfl
 |box _=>
  simp only[O.res]at hr;obtain⟨_,_,hr⟩ :=zaj hr;cases hr;rfl
 |bld _ _=>
  simp only[O.res]at hr;obtain⟨_,_,hr⟩ :=zaj hr;cases hr;rfl
 |bsl _ _ _ _=>
  simp only[O.res]at hr;obtain⟨_,_,hr⟩ :=zaj hr;cases hr;rfl
 |bsf _ _ _ _=>
  simp only[O.res]at hr;obtain⟨_,_,hr⟩ :=zaj hr;cases hr;rfl
 |ld _ _ _=>
  simp only[O.res]at hr;obtain⟨_,_,hr⟩ :=zaj hr;cases hr;rfl
 |st _ _ _=>
  simp only[O.res]at hr;obtain⟨_,_,hr⟩ :=zaj hr;obtain⟨_,_,hr⟩ :=zaj hr;cases hr;rfl
 |nck _=>
  simp only[O.res]at hr;obtain⟨_,_,hr⟩ :=zaj hr;cases hr;rfl
 |bin _ _ _=>
  simp only[O.res]at hr;obtain⟨_,_,hr⟩ :=zaj hr;obtain⟨_,_,hr⟩ :=zaj hr;cases hr;rfl
 |eqb _ _ _=>
  simp only[O.res]at hr;obtain⟨_,_,hr⟩ :=zaj hr;obtain⟨_,_,hr⟩ :=zaj hr;cases hr;rfl
 |eqn _ _ _ _=>
  simp only[O.res]at hr;obtain⟨_,_,hr⟩ :=zaj hr;obtain⟨_,_,hr⟩ :=zaj hr;cases hr;rfl
 |eqa _ _ _ _=>
  simp only[O.res]at hr;obtain⟨_,_,hr⟩ :=zaj hr;obtain⟨_,_,hr⟩ :=zaj hr;cases hr;rfl
 |un _ _=>
  simp only[O.res]at hr;obtain⟨_,_,hr⟩ :=zaj hr;cases hr;rfl
 |cvi _ _=>
  simp only[O.res]at hr;obtain⟨_,_,hr⟩ :=zaj hr;cases hr;rfl
 |cvs _=>
  simp only[O.res]at hr;obtain⟨_,_,hr⟩ :=zaj hr;cases hr;rfl
 |s2b _=>
  simp only[O.res]at hr;obtain⟨_,_,hr⟩ :=zaj hr;cases hr;rfl
 |b2s _=>
  simp only[O.res]at hr;obtain⟨_,_,hr⟩ :=zaj hr;cases hr;rfl
 |mkf _ _ _=>
  simp only[O.res]at hr;obtain⟨_,_,hr⟩ :=zaj hr;obtain⟨_,_,hr⟩ :=zaj hr;cases hr;rfl
 |mks _ _ _ _ _=>
  simp only[O.res]at hr;obtain⟨_,_,hr⟩ :=zaj hr;obtain⟨_,_,hr⟩ :=zaj hr;cases hr;rfl
 |sls _ _ _=>
  simp only[O.res]at hr;obtain⟨_,_,hr⟩ :=zaj hr;obtain⟨_,_,hr⟩ :=zaj hr;obtain⟨_,_,hr⟩ :=zaj hr;cases hr;rfl
 |slc _ _ _ _ _=>
  simp only[O.res]at hr;obtain⟨_,_,hr⟩ :=zaj hr;obtain⟨_,_,hr⟩ :=zaj hr;obtain⟨_,_,hr⟩ :=zaj hr;obtain⟨_,_,hr⟩ :=zaj hr;cases hr;rfl
 |fa _ _=>
  simp only[O.res]at hr;obtain⟨_,_,hr⟩ :=zaj hr;cases hr;rfl
 |fld _ _ _ _=>
  simp only[O.res]at hr;obtain⟨_,_,hr⟩ :=zaj hr;cases hr;rfl
 |ia _ _ _=>
  simp only[O.res]at hr;obtain⟨_,_,hr⟩ :=zaj hr;obtain⟨_,_,hr⟩ :=zaj hr;cases hr;rfl
 |iaa _ _ _ _=>
  simp only[O.res]at hr;obtain⟨_,_,hr⟩ :=zaj hr;obtain⟨_,_,hr⟩ :=zaj hr;cases hr;rfl
 |ixs _ _=>
  simp only[O.res]at hr;obtain⟨_,_,hr⟩ :=zaj hr;obtain⟨_,_,hr⟩ :=zaj hr;cases hr;rfl
 |ixa _ _ _ _ _=>
  simp only[O.res]at hr;obtain⟨_,_,hr⟩ :=zaj hr;obtain⟨_,_,hr⟩ :=zaj hr;cases hr;rfl
 |ext _ _=>
  simp only[O.res]at hr;obtain⟨_,_,hr⟩ :=zaj hr;cases hr;rfl
 |app _ _ _ _=>
  simp only[O.res]at hr;obtain⟨_,_,hr⟩ :=zaj hr;obtain⟨_,_,hr⟩ :=zaj hr;cases hr;rfl
 |apz _ _ _ _ _=>
  simp only[O.res]at hr;obtain⟨_,_,hr⟩ :=zaj hr;obtain⟨_,_,hr⟩ :=zaj hr;cases hr;rfl
 |cpy _ _ _=>
  simp only[O.res]at hr;obtain⟨_,_,hr⟩ :=zaj hr;obtain⟨_,_,hr⟩ :=zaj hr;cases hr;rfl
 |clr _ _ _=>
  simp only[O.res]at hr;obtain⟨_,_,hr⟩ :=zaj hr;cases hr;rfl
 |len _=>
  simp only[O.res]at hr;obtain⟨_,_,hr⟩ :=zaj hr;cases hr;rfl
 |lns _=>
  simp only[O.res]at hr;obtain⟨_,_,hr⟩ :=zaj hr;cases hr;rfl
 |mlen _=>
  simp only[O.res]at hr;obtain⟨_,_,hr⟩ :=zaj hr;cases hr;rfl
 |cap _=>
  simp only[O.res]at hr;obtain⟨_,_,hr⟩ :=zaj hr;cases hr;rfl
 |mm _ _ _=>
  simp only[O.res]at hr;obtain⟨_,_,hr⟩ :=zaj hr;obtain⟨_,_,hr⟩ :=zaj hr;cases hr;rfl
 |mmk=>
  simp only[O.res]at hr;cases hr;rfl
 |mup _ _ _ _=>
  simp only[O.res]at hr;obtain⟨_,_,hr⟩ :=zaj hr;obtain⟨_,_,hr⟩ :=zaj hr;obtain⟨_,_,hr⟩ :=zaj hr;cases hr;rfl
 |mlk _ _ _ _ _=>
  simp only[O.res]at hr;obtain⟨_,_,hr⟩ :=zaj hr;obtain⟨_,_,hr⟩ :=zaj hr;cases hr;rfl
 |callp _ _=>cases hk
 |call _ _=>cases hk
 |callv _ _=>cases hk
end
end Go.Vse
end
section
namespace Go.Vse
variable [Globs]
def zm2{α:Type}(t:T α):t.gk=t.get:=funext (T.zqu t)
structure RS(k:SK)(s:St):Prop where
 tm:Rt k.tm s.tm
 h:k.h=s.h
 c:k.c=s.c
 lw:k.lw=s.lw
 mx:k.mx=s.mx
theorem ztk:∀(l:List (Nat×Option Ob)) (h:T Ob),znP h l=wrT h l
 |[],_=>rfl
 |(id,some ob)::l,h=>by rw[znP,wrT,ztk l,T.zlL];rfl
 |(id,none)::l,h=>by rw[znP,wrT,ztk l,T.zlL];rfl
theorem zut:∀(l:List (Nat×Option Ob)) (m:Nat),znN m l=zfd m l
 |[],_=>rfl
 |(id,o)::l,m=>by
  rw[znN,zfd,zut l]
  by_cases hlt:id<m
  .rw[Z51 hlt,show Nat.blt id m=true by simpa [Z79]using hlt]
  .rw[Z49 hlt,show Nat.blt id m=false by
    cases hc:Nat.blt id m with
    |false=>rfl
    |true=>exact absurd (by simpa [Z79]using hc) hlt]
def zOs(a b:Nat):zkF a b=Nat.max a b:=by
 unfold zkF
 by_cases hle:a<=b
 .rw[show Nat.ble a b=true by simpa [Z150]using hle];exact (Z162 hle).symm
 .rw[show Nat.ble a b=false by
   cases hc:Nat.ble a b with
   |false=>rfl
   |true=>exact absurd (by simpa [Z150]using hc) hle]
  exact (Z169 (Z110 (Z163 hle))).symm
def zEM(tm:TM)(h:T Ob)(c lw mx:Nat)(p:Fp):fin tm h c lw mx p=some (⟨tm,h,c,lw,Nat.max mx (c+1)⟩,p):=by
 unfold fin
 by_cases hle:mx<=c+1
 .rw[show Nat.ble mx (Nat.succ c)=true by simpa [Z150]using hle,show Nat.max mx (c+1)=c+1 from Z162 hle]
 .rw[show Nat.ble mx (Nat.succ c)=false by
   cases hc:Nat.ble mx (Nat.succ c)with
   |false=>rfl
   |true=>exact absurd (by simpa [Z150]using hc) hle,show Nat.max mx (c+1)=mx from Z169 (by omega)]
def zNV(tm:TM)(h:T Ob)(c lw mx:Nat)(p:Fp):fin2 tm h c lw mx p=some (⟨tm,h,c,lw,Nat.max mx (c+1)⟩,p):=by
 unfold fin2;rw[show Nat.ble lw lw=true by simp[Z150],zEM]
section
variable {tm:TM}{t:T D}
theorem zz0(ht:Rt tm t){h:T Ob}{c lw mx:Nat}{dst:Option Nat}{r:Option Rs}{k:SK}{p:Fp}(hs:zpm tm h c lw mx dst r=some (k,p)):
  ∃s,zcZ ⟨t,h,c,lw,mx⟩ dst r=some (s,p)/\RS k s:=by
 cases r with
 |none=>cases hs
 |some r=>
  obtain⟨d,rd,wr,c'⟩ :=r;cases wr with
  |nil=>
   have e:zpm tm h c lw mx dst (some ⟨d,rd,[],c'⟩)=fin (zjE tm dst d) h c' lw mx ⟨false,rd,[],c,Nat.succ c',h,h⟩ :=rfl;rw[e,zEM]at hs;cases hs;exact⟨_,rfl,⟨ht.put dst d,rfl,rfl,rfl,rfl⟩⟩
  |cons x wr=>
   have e:zpm tm h c lw mx dst (some ⟨d,rd,x::wr,c'⟩)= @Bool.rec (fun _=>Option (SK×Fp)) none
    (fin2 (zjE tm dst d) (znP h (x::wr)) c' (znN lw (x::wr)) mx ⟨false,rd,(x::wr).map (·.1),c,Nat.succ c',h,znP h (x::wr)⟩) (zaC c' (x::wr)):=rfl
   rw[e]at hs;cases hw:zaC c' (x::wr)with
   |false=>rw[hw]at hs;cases hs
   |true=>
    rw[hw]at hs;simp only[zNV,ztk,zut,Z45,Z66]at hs;obtain⟨rfl,rfl⟩ :=hs;refine⟨⟨zcI t dst d,wrT h (x::wr),c',zfd lw (x::wr),Nat.max mx (c'+1)⟩,?_,⟨ht.put dst d,rfl,rfl,rfl,rfl⟩⟩;simp only[zcZ,hw];rfl
theorem zz3(ht:Rt tm t){h:T Ob}{c lw mx:Nat}{dst:Option Nat}{q:Option CR}{k:SK}{p:Fp}(hs:zpp tm h c lw mx dst q=some (k,p)):
  ∃s,zgH ⟨t,h,c,lw,mx⟩ dst q=some (s,p)/\RS k s:=by
 cases q with
 |none=>cases hs
 |some q=>
  obtain⟨d,h',c',lw',mx'⟩ :=q;have e:zpp tm h c lw mx dst (some ⟨d,h',c',lw',mx'⟩)= @Bool.rec (fun _=>Option (SK×Fp)) none
   (some (⟨zjE tm dst d,h',c',@Bool.rec (fun _=>Nat) lw' lw (Nat.ble lw lw'),zkF mx mx'⟩,⟨true,[],[],c,mx',h,h'⟩)) (Nat.ble (zkF mx mx') (zkF mx mx')):=rfl
  rw[e,show Nat.ble (zkF mx mx') (zkF mx mx')=true by simp[Z150]]at hs;cases hs;refine⟨_,rfl,⟨ht.put dst d,rfl,rfl,?_,zOs _ _⟩⟩;simp only
  by_cases hle:lw<=lw'
  .rw[show Nat.ble lw lw'=true by simpa [Z150]using hle];exact (Z73 hle).symm
  .rw[show Nat.ble lw lw'=false by
    cases hc:Nat.ble lw lw' with
    |false=>rfl
    |true=>exact absurd (by simpa [Z150]using hc) hle]
   exact (Z202 (Z110 (Z163 hle))).symm
def zIE(ht:Rt tm t)(g:Option (Nat×Bool)):zDq tm g=zb7 t g:=by
 cases g with
 |none=>rfl
 |some p=>
  obtain⟨s,w⟩ :=p;have e:zDq tm (some (s,w))=oL (getM tm s) (zvK w):=rfl;rw[e,ht s];simp only[zb7];cases t.get s with
  |none=>rfl
  |some d=>
   have e2:oL (some d) (zvK w)=zvK w d:=rfl;rw[e2];cases d with
   |f x=>
    cases x with
    |b x=>cases x<;>cases w<;>rfl
    |_=>rfl
   |_=>rfl
end
def EV(p:Nat->Prop):Prop:=∃N,∀n,N<=n->p n
def EV.and{p q:Nat->Prop}(hp:EV p)(hq:EV q):EV fun n=>p n/\q n:=by
 obtain⟨N,h1⟩ :=hp;obtain⟨M,h2⟩ :=hq;exact⟨N+M,fun n hn=>⟨h1 n (by omega),h2 n (by omega)⟩⟩
def EV.mono{p q:Nat->Prop}(hp:EV p)(h:∀n,p n->q n):EV q:=hp.imp fun _ h1 n hn=>h n (h1 n hn)
def EV.all{p:Nat->Prop}(h:∀n,p n):EV p:=⟨0,fun n _=>h n⟩
def EV.ge(N:Nat):EV fun n=>N<=n:=⟨N,fun _ h=>h⟩
def Con(pr:Pr)(f:Nat)(args:List D)(h:T Ob)(c:Nat)(q:CR):Prop:=EV fun n=>zdf pr n f args h c=some q
def Ans(pr:Pr)(f:Nat)(fs:List F)(x:F):Prop:=∃q rd,Con pr f (F.dL fs) .e 0 q/\frz q.h.get 12 q.d=some (x,rd)
section
variable {pr:Pr}{orc:Orc}{clK:Cl}
def zih(pr:Pr)(orc:Orc):Prop:=∀f fs x,orc f fs=some x->Ans pr f fs x
def zlc(pr:Pr)(clK:Cl):Prop:=∀f args h c q,clK f args h c=some q->Con pr f args h c q
theorem zEe(ho:zih pr orc)(hc:zlc pr clK){h:Nat->Option Ob}{c f:Nat}{args:List D}{r:Rs}(hs:zmJ orc clK h c f args=some r):
  EV fun n=>zeS (zdf pr n) h c f args=some r:=by
 unfold zmJ at hs;split at hs
 .cases hs
 .rename_i fs rd hfz;split at hs
  .rename_i x hx;obtain⟨q,rd',h1,h2⟩ :=ho f fs x hx;refine h1.mono fun n hn=> ?_
   simp only[zeS,hfz,hn,h2];rw[<-hs,F.zA3]
  .split at hs
   .cases hs
   .rename_i q hq;split at hs
    .cases hs
    .rename_i x rd' hx;refine (hc _ _ _ _ _ hq).mono fun n hn=> ?_
     rw[zm2]at hx;simp only[zeS,hfz,hn,hx];rw[<-hs,F.zA3]
theorem zIt(ho:zih pr orc)(hc:zlc pr clK){tm:TM}{t:T D}(ht:Rt tm t){o:O A}{gd:Option (Nat×Bool)}{dst:Option Nat}{h:T Ob}{c lw mx:Nat}{k:SK}{p:Fp}
  (hs:zvE orc clK o dst tm h c lw mx=some (k,p)):∃s,RS k s/\EV fun n=>step (zdf pr n) ⟨t,h,c,lw,mx⟩ ⟨dst,gd,o⟩ =some (s,p):=by
 unfold zvE at hs;cases hk:kcl o with
 |p f args=>
  have ho':o= .callp f args:=by cases o<;>simp[kcl]at hk;obtain⟨rfl,rfl⟩ :=hk;rfl
  subst ho';rw[hk]at hs;simp only[zk6 ht]at hs;cases hm:zay (zae t) args with
  |none=>rw[hm]at hs;cases hs
  |some ds=>
   rw[hm]at hs;have hs':zpm tm h c lw mx dst (zmJ orc clK h.gk c f ds)=some (k,p):=hs;cases hr:zmJ orc clK h.gk c f ds with
   |none=>rw[hr]at hs';cases hs'
   |some r=>
    rw[hr]at hs';obtain⟨s,h1,h2⟩ :=zz0 ht hs';refine⟨s,h2,(zEe ho hc hr).mono fun n hn=> ?_⟩;simp only[step,O.res,Z47,hm,Z46,kindOf];rw[zm2]at hn;rw[hn];exact h1
 |q f args=>
  have ho':o= .call f args:=by cases o<;>simp[kcl]at hk;obtain⟨rfl,rfl⟩ :=hk;rfl
  subst ho';rw[hk]at hs;simp only[zk6 ht]at hs;cases hm:zay (zae t) args with
  |none=>rw[hm]at hs;cases hs
  |some ds=>
   rw[hm]at hs;have hs':zpp tm h c lw mx dst (clK f ds h c)=some (k,p):=hs;cases hr:clK f ds h c with
   |none=>rw[hr]at hs';cases hs'
   |some r=>
    rw[hr]at hs';obtain⟨s,h1,h2⟩ :=zz3 ht hs';refine⟨s,h2,(hc _ _ _ _ _ hr).mono fun n hn=> ?_⟩;simp only[step,O.res,Z47,hm,Z46,kindOf];rw[hn];exact h1
 |v x args=>
  have ho':o= .callv x args:=by cases o<;>simp[kcl]at hk;obtain⟨rfl,rfl⟩ :=hk;rfl
  subst ho';rw[hk]at hs;simp only[zk6 ht,zaS ht]at hs;cases hx:zae t x with
  |none=>rw[hx]at hs;cases hs
  |some d=>
   rw[hx]at hs;cases hm:zay (zae t) args with
   |none=>rw[hm]at hs;cases hs
   |some ds=>
    rw[hm]at hs;have hs':zwv clK dst ds tm h c lw mx d=some (k,p):=hs;have main:∀f as,kindOf (.callv d ds)= .q f as->zpp tm h c lw mx dst (clK f as h c)=some (k,p)->
      ∃s,RS k s/\EV fun n=>step (zdf pr n) ⟨t,h,c,lw,mx⟩ ⟨dst,gd,.callv x args⟩ =some (s,p):=by
     intro f as hkd hs';cases hr:clK f as h c with
     |none=>rw[hr]at hs';cases hs'
     |some r=>
      rw[hr]at hs';obtain⟨s,h1,h2⟩ :=zz3 ht hs';refine⟨s,h2,(hc _ _ _ _ _ hr).mono fun n hn=> ?_⟩;simp only[step,O.res,Z47,hm,hx,Z46,hkd];rw[hn];exact h1
    unfold zwv at hs';split at hs'
    .exact main _ _ rfl hs'
    .exact main _ _ rfl hs'
    .cases hs'
 |n=>
  rw[hk]at hs;have hs':zpm tm h c lw mx dst (opK o tm h.gk c)=some (k,p):=hs;rw[zSD ht _ _ _ hk]at hs';cases hr:o.res (zae t)with
  |none=>rw[hr]at hs';cases hs'
  |some o'=>
   rw[hr]at hs';simp only[Z46]at hs';obtain⟨s,h1,h2⟩ :=zz0 ht hs';refine⟨s,h2,EV.all fun n=> ?_⟩;simp only[step,hr,zvu hk hr];rw[zm2]at h1;exact h1
theorem zzz(ho:zih pr orc)(hc:zlc pr clK){k k':SK}{s:St}(hr:RS k s){o:Op}{p:Fp}(hs:zo8 orc clK k o=some (k',p)):
  ∃s',RS k' s'/\EV fun n=>zfc (zdf pr n) s o=some (s',p):=by
 obtain⟨tm,h,c,lw,mx⟩ :=k;obtain⟨t,h',c',lw',mx'⟩ :=s;obtain⟨ht,e1,e2,e3,e4⟩ :=hr;simp only at ht e1 e2 e3 e4;subst e1 e2 e3 e4;obtain⟨dst,gd,o⟩ :=o;have hs':zHW orc clK dst gd o tm h c lw mx=some (k',p):=hs;unfold zHW at hs';rw[zIE ht]at hs';cases hw:zb7 t gd with
 |none=>rw[hw]at hs';cases hs'
 |some b=>
  rw[hw]at hs';cases b with
  |true=>
   obtain⟨s,h1,h2⟩ :=zIt (gd:=gd) ho hc ht (show zvE orc clK o dst tm h c lw mx=some (k',p)from hs');refine⟨s,h1,h2.mono fun n hn=> ?_⟩;simp only[zfc,hw];exact hn
  |false=>
   have hs2:some (SK.mk (zjE tm dst (.f .un)) h c lw mx,Fp.mk false [] [] c c h h)=some (k',p):=hs';cases hs2;refine⟨⟨zcI t dst (.f .un),h,c,lw,mx⟩,⟨ht.put dst (.f .un),rfl,rfl,rfl,rfl⟩,EV.all fun n=> ?_⟩;simp only[zfc,hw]
theorem zzI(ho:zih pr orc)(hc:zlc pr clK):∀(l:List Op) (k k':SK) (s:St),RS k s->runK orc clK l k=some k'->∃s',RS k' s'/\EV fun n=>zfy (zdf pr n) l s=some s'
 |[],k,k',s,hr,hs=>by
  cases hs;exact⟨s,hr,EV.all fun n=>rfl⟩
 |o::l,k,k',s,hr,hs=>by
  have e:runK orc clK (o::l) k= @Option.rec (SK×Fp) (fun _=>Option SK) none (fun p=>@Prod.rec SK Fp (fun _=>Option SK) (fun s' _=>runK orc clK l s') p) (zo8 orc clK k o):=rfl;rw[e]at hs;cases h1:zo8 orc clK k o with
  |none=>rw[h1]at hs;cases hs
  |some y=>
   obtain⟨k1,p⟩ :=y;rw[h1]at hs;obtain⟨s1,r1,ev1⟩ :=zzz ho hc hr h1;obtain⟨s2,r2,ev2⟩ :=zzI ho hc l k1 k' s1 r1 hs;refine⟨s2,r2,(ev1.and ev2).mono fun n ⟨a,b⟩ => ?_⟩;simp only[zfy,a];exact b
def zou{p q:Fp}(h:p.zkg=true):q.apart p=true/\p.apart q=true:=by
 obtain⟨all,rd,wr,lo,hi,h1,h2⟩ :=p;obtain⟨all',rd',wr',lo',hi',h1',h2'⟩ :=q;have e:Fp.zkg ⟨all,rd,wr,lo,hi,h1,h2⟩ = @Bool.rec (fun _=>Bool) (@List.rec Nat (fun _=>Bool) (@List.rec Nat (fun _=>Bool) true (fun _ _ _=>false) wr) (fun _ _ _=>false) rd) false all:=rfl;rw[e]at h;cases all with
 |true=>cases h
 |false=>
  cases rd with
  |cons _ _=>cases h
  |nil=>
   cases wr with
   |cons _ _=>cases h
   |nil=>cases all'<;>simp[Fp.apart]
inductive Imp:List Fp->List (Nat×Fp)->Prop where
 |nil:Imp [] []
 |skip {l m p}:Imp l m->p.zkg=true->Imp (l++[p]) m
 |keep {l m p}:Imp l m->Imp (l++[p]) ((l.length,p)::m)
theorem zhH(p:Fp)(mask:Nat):∀(l:List Fp) (q:Fp) (i:Nat),zci p mask (l++[q]) i=(zci p mask l i&&(!mask.testBit (i+l.length)||q.apart p))
 |[],q,i=>by simp[zci]
 |x::l,q,i=>by
  simp only[Z29,zci,zhH p mask l q (i+1),Z23];rw[show i+1+l.length=i+(l.length+1) by omega,Z155]
def zDT{p:Fp}{mask:Nat}{l:List Fp}{m:List (Nat×Fp)}(hi:Imp l m):ziq p mask m=true->zci p mask l 0=true:=by
 induction hi with
 |nil=>intro _;rfl
 |skip _ hl ih=>
  intro h;rw[zhH,ih h,(zou (q:=p) hl).2];simp
 | @keep l m q _ ih=>
  intro h;rw[zhH];unfold ziq at h;have hb:mask.testBit l.length=Nat.beq (Nat.mod (Nat.div mask (Nat.pow 2 l.length)) 2) 1:=by
   rw[Z138];have:∀x:Nat,decide (x=1)=Nat.beq x 1:=fun x=>by
    cases hx:Nat.beq x 1 with
    |true=>simpa using Z88 hx
    |false=>simpa using Nat.ne_of_beq_eq_false hx
   exact this _
  rw[Z25,hb];split at h
  .rename_i hbt;split at h
   .rename_i ha;rw[ih h,ha];simp
   .cases h
  .rename_i hbf;rw[ih h,hbf];simp
theorem ztN{p:Fp}(h:p.zkg=true)(mask:Nat):∀(l:List Fp) (i:Nat),zci p mask l i=true
 |[],_=>rfl
 |q::l,i=>by simp[zci,(zou (q:=q) h).1,ztN h mask l (i+1)]
theorem zEx(ho:zih pr orc)(hc:zlc pr clK):∀(l:List (Op×Nat)) (fps:List Fp) (m:List (Nat×Fp)) (k k':SK) (s:St),Imp fps m->RS k s->
  drK orc clK l fps.length m k=some k'->∃s',RS k' s'/\EV fun n=>zfw (zdf pr n) l fps s=some s'
 |[],fps,m,k,k',s,_,hr,hs=>by
  cases hs;exact⟨s,hr,EV.all fun n=>rfl⟩
 |(o,mask)::l,fps,m,k,k',s,hm,hr,hs=>by
  have e:drK orc clK ((o,mask)::l) fps.length m k= @Option.rec (SK×Fp) (fun _=>Option SK) none (fun p=>@Prod.rec SK Fp (fun _=>Option SK) (fun s' p=>
   @Bool.rec (fun _=>Option SK) (@Bool.rec (fun _=>Option SK) none (drK orc clK l (Nat.succ fps.length) ((fps.length,p)::m) (znE s' p.hi)) (ziq p mask m)) (drK orc clK l (Nat.succ fps.length) m (znE s' p.hi)) p.zkg) p) (zo8 orc clK k o):=rfl
  rw[e]at hs;cases h1:zo8 orc clK k o with
  |none=>rw[h1]at hs;cases hs
  |some y=>
   obtain⟨k1,p⟩ :=y;rw[h1]at hs;obtain⟨s1,r1,ev1⟩ :=zzz ho hc hr h1;have hrs:RS (znE k1 p.hi) {s1 with c:=p.hi}:=by
    obtain⟨tm,h,c,lw,mx⟩ :=k1;exact⟨r1.tm,r1.h,rfl,r1.lw,r1.mx⟩
   have hlen:Nat.succ fps.length=(fps++[p]).length:=by simp
   have fin:∀m',Imp (fps++[p]) m'->zci p mask fps 0=true->drK orc clK l (Nat.succ fps.length) m' (znE k1 p.hi)=some k'->∃s',RS k' s'/\EV fun n=>zfw (zdf pr n) ((o,mask)::l) fps s=some s':=by
    intro m' hm' ha hd;rw[hlen]at hd;obtain⟨s2,r2,ev2⟩ :=zEx ho hc l (fps++[p]) m' _ k' _ hm' hrs hd;refine⟨s2,r2,(ev1.and ev2).mono fun n ⟨a,b⟩ => ?_⟩;simp only[zfw,a,ha,Z60];exact b
   have hs':@Bool.rec (fun _=>Option SK) (@Bool.rec (fun _=>Option SK) none (drK orc clK l (Nat.succ fps.length) ((fps.length,p)::m) (znE k1 p.hi)) (ziq p mask m)) (drK orc clK l (Nat.succ fps.length) m (znE k1 p.hi)) p.zkg=some k':=hs;cases hl:p.zkg with
   |true=>
    rw[hl]at hs';exact fin m (hm.skip hl) (ztN hl mask fps 0) hs'
   |false=>
    rw[hl]at hs';cases ha:ziq p mask m with
    |false=>rw[ha]at hs';cases hs'
    |true=>
     rw[ha]at hs';exact fin _ hm.keep (zDT hm ha) hs'
theorem zsV{body:St->Option (Ex×St)}:∀(n m:Nat) (s:St) (r:Ex×St),n<=m->iter body n s=some r->iter body m s=some r
 |0,_,_,_,_,h=>by cases h
 |n+1,0,_,_,h,_=>by omega
 |n+1,m+1,s,r,hle,h=>by
  simp only[iter]at h|-;cases hb:body s with
  |none=>simp only[hb]at h;cases h
  |some y=>
   obtain⟨x,s'⟩ :=y;cases x with
   |nrm=>
    simp only[hb]at h|-;exact zsV n m s' r (by omega) h
   |exit i=>simp only[hb]at h|-;exact h
   |ret=>simp only[hb]at h|-;exact h
def RX(r:Ex×SK)(r':Ex×St):Prop:=r.1=r'.1/\RS r.2 r'.2
theorem zx0{r:Option (Ex×SK)}{kk:SK->Option (Ex×SK)}{y:Ex×SK}(h:zrD r kk=some y):
  (∃k,r=some (.nrm,k)/\kk k=some y)\/(∃x k,r=some (x,k)/\x≠ .nrm/\y=(x,k)):=by
 cases r with
 |none=>cases h
 |some z=>
  obtain⟨x,k⟩ :=z;cases x with
  |nrm=>exact .inl ⟨k,rfl,h⟩
  |exit i=>cases h;exact .inr ⟨_,_,rfl,by simp,rfl⟩
  |ret=>cases h;exact .inr ⟨_,_,rfl,by simp,rfl⟩
theorem zhL(ho:zih pr orc)(hc:zlc pr clK)(lf:Nat):∀(c:C) (k:SK) (s:St) (r:Ex×SK),RS k s->evK orc clK lf c k=some r->
  ∃r',RX r r'/\EV fun n=>evC (zdf pr n) n c s=some r'
 | .skip,k,s,r,hr,hs=>by cases hs;exact⟨(.nrm,s),⟨rfl,hr⟩,EV.all fun n=>rfl⟩
 | .exit id,k,s,r,hr,hs=>by cases hs;exact⟨(.exit id,s),⟨rfl,hr⟩,EV.all fun n=>rfl⟩
 | .ret,k,s,r,hr,hs=>by cases hs;exact⟨(.ret,s),⟨rfl,hr⟩,EV.all fun n=>rfl⟩
 | .reg ops,k,s,r,hr,hs=>by
  have hs':zCx (runK orc clK ops k)=some r:=hs;cases h1:runK orc clK ops k with
  |none=>rw[h1]at hs';cases hs'
  |some k1=>
   rw[h1]at hs';cases hs';obtain⟨s1,r1,ev1⟩ :=zzI ho hc ops k k1 s hr h1;exact⟨(.nrm,s1),⟨rfl,r1⟩,ev1.mono fun n hn=>by simp only[evC,hn]⟩
 | .dreg ops,k,s,r,hr,hs=>by
  have hs':zCx (drK orc clK ops 0 [] k)=some r:=hs;cases h1:drK orc clK ops 0 [] k with
  |none=>rw[h1]at hs';cases hs'
  |some k1=>
   rw[h1]at hs';cases hs';obtain⟨s1,r1,ev1⟩ :=zEx ho hc ops [] [] k k1 s .nil hr h1;exact⟨(.nrm,s1),⟨rfl,r1⟩,ev1.mono fun n hn=>by simp only[evC,hn]⟩
 | .seq a b,k,s,r,hr,hs=>by
  have hs':zrD (evK orc clK lf a k) (evK orc clK lf b)=some r:=hs;rcases zx0 hs' with⟨k1,h1,h2⟩ |⟨x,k1,h1,hx,rfl⟩
  .obtain⟨⟨x',s1⟩,⟨e1,r1⟩,ev1⟩ :=zhL ho hc lf a k s _ hr h1;simp only at e1 r1;subst e1;obtain⟨r2,x2,ev2⟩ :=zhL ho hc lf b k1 s1 _ r1 h2;exact⟨r2,x2,(ev1.and ev2).mono fun n ⟨p,q⟩ =>by simp only[evC,p];exact q⟩
  .obtain⟨⟨x',s1⟩,⟨e1,r1⟩,ev1⟩ :=zhL ho hc lf a k s _ hr h1;simp only at e1 r1;subst e1;refine⟨(x,s1),⟨rfl,r1⟩,ev1.mono fun n p=> ?_⟩;simp only[evC,p];cases x<;>simp_all
 | .cond x a b,k,s,r,hr,hs=>by
  have hs':@Option.rec D (fun _=>Option (Ex×SK)) none (fun d=>@Option.rec Bool (fun _=>Option (Ex×SK)) none (fun b'=>@Bool.rec (fun _=>Option (Ex×SK)) (evK orc clK lf b k) (evK orc clK lf a k) b') (zvg d)) (zei k.tm x)=some r:=hs;rw[zaS hr.tm]at hs';cases hx:zae s.tm x with
  |none=>rw[hx]at hs';cases hs'
  |some d=>
   rw[hx]at hs';cases hd:zvg d with
   |none=>simp only[hd]at hs';cases hs'
   |some b'=>
    simp only[hd]at hs';have hde:d= .f (.b b'):=by
     unfold zvg at hd;split at hd
     .cases hd;rfl
     .cases hd
    subst hde;cases b' with
    |true=>
     obtain⟨r2,x2,ev2⟩ :=zhL ho hc lf a k s _ hr hs';exact⟨r2,x2,ev2.mono fun n p=>by simp only[evC,hx];exact p⟩
    |false=>
     obtain⟨r2,x2,ev2⟩ :=zhL ho hc lf b k s _ hr hs';exact⟨r2,x2,ev2.mono fun n p=>by simp only[evC,hx];exact p⟩
 | .blk id c,k,s,r,hr,hs=>by
  have hs':blkK id (evK orc clK lf c k)=some r:=hs;cases h1:evK orc clK lf c k with
  |none=>rw[h1]at hs';cases hs'
  |some y=>
   obtain⟨x,k1⟩ :=y;rw[h1]at hs';obtain⟨⟨x',s1⟩,⟨e1,r1⟩,ev1⟩ :=zhL ho hc lf c k s _ hr h1;simp only at e1 r1;subst e1;cases x with
   |nrm=>cases hs';exact⟨(.nrm,s1),⟨rfl,r1⟩,ev1.mono fun n p=>by simp only[evC,p]⟩
   |ret=>cases hs';exact⟨(.ret,s1),⟨rfl,r1⟩,ev1.mono fun n p=>by simp only[evC,p]⟩
   |exit i=>
    have hs2:@Bool.rec (fun _=>Option (Ex×SK)) (some (.exit i,k1)) (some (.nrm,k1)) (Nat.beq i id)=some r:=hs';cases hb:Nat.beq i id with
    |true=>
     rw[hb]at hs2;cases hs2;exact⟨(.nrm,s1),⟨rfl,r1⟩,ev1.mono fun n p=>by simp only[evC,p];rw[Z51 (Z88 hb)]⟩
    |false=>
     rw[hb]at hs2;cases hs2;exact⟨(.exit i,s1),⟨rfl,r1⟩,ev1.mono fun n p=>by simp only[evC,p];rw[Z49 (Nat.ne_of_beq_eq_false hb)]⟩
 | .loop c,k,s,r,hr,hs=>by
  have hs':zvs (evK orc clK lf c) lf k=some r:=hs;have key:∀(m:Nat) (k:SK) (s:St),RS k s->zvs (evK orc clK lf c) m k=some r->∃r',RX r r'/\EV fun n=>iter (evC (zdf pr n) n c) m s=some r':=by
   intro m
   induction m with
   |zero=>intro k s _ h;cases h
   |succ m ih=>
    intro k s hr h;have h':zrD (evK orc clK lf c k) (zvs (evK orc clK lf c) m)=some r:=h;rcases zx0 h' with⟨k1,h1,h2⟩ |⟨x,k1,h1,hx,rfl⟩
    .obtain⟨⟨x',s1⟩,⟨e1,r1⟩,ev1⟩ :=zhL ho hc lf c k s _ hr h1;simp only at e1 r1;subst e1;obtain⟨r2,x2,ev2⟩ :=ih k1 s1 r1 h2;exact⟨r2,x2,(ev1.and ev2).mono fun n ⟨p,q⟩ =>by simp only[iter,p];exact q⟩
    .obtain⟨⟨x',s1⟩,⟨e1,r1⟩,ev1⟩ :=zhL ho hc lf c k s _ hr h1;simp only at e1 r1;subst e1;refine⟨(x,s1),⟨rfl,r1⟩,ev1.mono fun n p=> ?_⟩;simp only[iter,p];cases x<;>simp_all
  obtain⟨r',x',ev⟩ :=key lf k s hr hs';exact⟨r',x',(ev.and (EV.ge lf)).mono fun n ⟨p,q⟩ =>by simp only[evC];exact zsV lf n s r' q p⟩
theorem zGr:∀(l:List D) (i:Nat) (tm:TM) (t:T D),Rt tm t->Rt (tmK l i tm) (zal l i t)
 |[],_,_,_,h=>h
 |d::l,i,tm,t,h=>by
  rw[tmK,zal];refine zGr l (i+1) _ _ fun j=> ?_
  rw[ztM,h j,T.zah]
def zIb{k:SK}{s:St}(hr:RS k s)(v:Rv):zC3 k v=resV s v:=by
 cases v with
 |t n=>exact hr.tm n
 |cell n g sz=>
  simp only[zC3,resV,hr.tm n,hr.h,zm2];cases s.tm.get n<;>rfl
theorem zxu{k:SK}{s:St}(hr:RS k s):∀l,zvD k l=zay (resV s) l
 |[]=>rfl
 |x::l=>by
  rw[zvD,zay,zIb hr,zxu hr l];cases resV s x with
  |none=>rfl
  |some y=>cases zay (resV s) l<;>rfl
def zIa{k:SK}{s:St}(hr:RS k s)(l:List Rv):zC0 k l=resD s l:=by
 unfold zC0 resD;rw[zxu hr];cases zay (resV s) l with
 |none=>rfl
 |some m=>
  cases m with
  |nil=>rfl
  |cons a m=>cases m<;>rfl
theorem zwQ(ho:zih pr orc):∀n,zlc pr (zvi orc pr n)
 |0=>fun f args h c q hq=>by cases hq
 |n+1=>fun f args h c q hq=>by
  simp only[zvi]at hq;cases hf:pr.fn f with
  |some fn=>
   simp only[hf]at hq;unfold fnK at hq;split at hq
   .cases hq
   .cases hq
   .rename_i x k hne hev;have hr0:RS (SK.mk (tmK args 0 {}) h c c c) (St.mk (zal args 0 .e) h c c c):=⟨zGr args 0 {} .e fun i=>by rw[zHq];rfl,rfl,rfl,rfl,rfl⟩
    obtain⟨⟨x',s⟩,⟨e1,r1⟩,ev1⟩ :=zhL ho (zwQ ho n) n fn.body _ _ _ hr0 hev;simp only at e1 r1;subst e1;split at hq
    .cases hq
    .rename_i d hd;rw[zIa r1]at hd;have key:EV fun m=>zgj (evC (zdf pr m) m) fn args h c=some q:=by
      refine ev1.mono fun m hm=> ?_
      simp only[zgj,hm];have fin:(match resD s fn.res with|none=>none|some d=>if Nat.beq s.lw c&&d.isF then some (CR.mk d h c c s.mx)else some (CR.mk d s.h s.c s.lw s.mx))=some q:=by
       simp only[hd];rw[<-r1.lw,<-r1.mx,<-r1.h,<-r1.c];split at hq
       .rename_i hb;split at hq
        .rename_i hi;rw[hb,hi];simpa using hq
        .rename_i hi;rw[hb,hi];simpa using hq
       .rename_i hb;rw[hb];simpa using hq
      cases x with
      |nrm=>exact fin
      |ret=>exact fin
      |exit i=>exact absurd rfl (hne i)
     obtain⟨N,hN⟩ :=key;refine⟨N+1,fun m hm=> ?_⟩;obtain⟨m,rfl⟩ :∃m',m=m'+1:=⟨m - 1,by omega⟩
     simp only[zdf,hf];exact hN m (by omega)
  |none=>
   simp only[hf]at hq;refine⟨1,fun m hm=> ?_⟩;obtain⟨m,rfl⟩ :∃m',m=m'+1:=⟨m - 1,by omega⟩
   simp only[zdf,hf];exact hq
end
end Go.Vse
end
section
namespace Go.Vse
variable [Globs]
section
variable (pr:Pr)
def zdg(r:Option (St×Fp))(Q:St->Fp->Prop):Prop:=
 match r with
 |some (s',p)=>Q s' p
 |none=>False
def zbv(o:Op)(s:St)(Q:St->Fp->Prop):Prop:=
 match zb7 s.tm o.gd with
 |none=>False
 |some false=>Q {s with tm:=zcI s.tm o.dst (.f .un)} {all:=false,rd:=[],wr:=[],lo:=s.c,hi:=s.c,h:=s.h,h':=s.h}
 |some true=>match o.o.res (zae s.tm)with
  |none=>False
  |some o'=>match kindOf o' with
   | .p f args=>match zdm s.h.get args with
    |none=>False
    |some (fs,rd)=>∃x,Ans pr f fs x/\zdg (zcZ s o.dst (some {d:=x.d,rd,wr:=zat s.h.get rd,c:=s.c})) Q
   | .q f args=>∃q,Con pr f args s.h s.c q/\zdg (zgH s o.dst (some q)) Q
   | .n=>zdg (zcZ s o.dst (opv s.h.get s.c o')) Q
   | .bad=>False
def wpO:List Op->St->(St->Prop)->Prop
 |[],s,Q=>Q s
 |o::l,s,Q=>zbv pr o s fun s' _=>wpO l s' Q
def wpD:List (Op×Nat)->List Fp->St->(St->Prop)->Prop
 |[],_,s,Q=>Q s
 |(o,mask)::l,fps,s,Q=>zbv pr o s fun s' p=>zci p mask fps 0=true/\wpD l (fps++[p]) {s' with c:=p.hi} Q
def wpC:C->St->(Ex->St->Prop)->Prop
 | .skip,s,Q=>Q .nrm s
 | .reg ops,s,Q=>wpO pr ops s (Q .nrm)
 | .dreg ops,s,Q=>wpD pr ops [] s (Q .nrm)
 | .seq a b,s,Q=>wpC a s fun x s'=>match x with
  | .nrm=>wpC b s' Q
  |x=>Q x s'
 | .cond x a b,s,Q=>match zae s.tm x with
  |some (.f (.b true))=>wpC a s Q
  |some (.f (.b false))=>wpC b s Q
  |_=>False
 | .blk id c,s,Q=>wpC c s fun x s'=>match x with
  | .exit i=>if i=id then Q .nrm s' else Q (.exit i) s'
  |x=>Q x s'
 | .loop c,s,Q=>∃x s' m,Q x s'/\EV fun n=>iter (evC (zdf pr n) n c) m s=some (x,s')
 | .exit id,s,Q=>Q (.exit id) s
 | .ret,s,Q=>Q .ret s
variable {pr}
def zyb{o:Op}{s:St}{Q:St->Fp->Prop}(h:zbv pr o s Q):∃s' p,Q s' p/\EV fun n=>zfc (zdf pr n) s o=some (s',p):=by
 unfold zbv at h;split at h
 .exact h.elim
 .rename_i hw;exact⟨_,_,h,EV.all fun n=>by simp only[zfc,hw]⟩
 .rename_i hw;split at h
  .exact h.elim
  .rename_i o' hr;split at h
   .rename_i f args hk;split at h
    .exact h.elim
    .rename_i fs rd hfz;obtain⟨x,⟨q,rd',hc,hx⟩,h⟩ :=h;unfold zdg at h;split at h
     .rename_i s' p hst;refine⟨s',p,h,hc.mono fun n hn=> ?_⟩;simp only[zfc,hw,step,hr,hk,zeS,hfz,hn,hx];exact hst
     .exact h.elim
   .rename_i f args hk;obtain⟨q,hc,h⟩ :=h;unfold zdg at h;split at h
    .rename_i s' p hst;refine⟨s',p,h,hc.mono fun n hn=> ?_⟩;simp only[zfc,hw,step,hr,hk,hn];exact hst
    .exact h.elim
   .rename_i hk;unfold zdg at h;split at h
    .rename_i s' p hst;refine⟨s',p,h,EV.all fun n=> ?_⟩;simp only[zfc,hw,step,hr,hk];exact hst
    .exact h.elim
   .exact h.elim
theorem zGA:∀(l:List Op) (s:St) (Q:St->Prop),wpO pr l s Q->∃s',Q s'/\EV fun n=>zfy (zdf pr n) l s=some s'
 |[],s,Q,h=>⟨s,h,EV.all fun _=>rfl⟩
 |o::l,s,Q,h=>by
  obtain⟨s1,p,h1,e1⟩ :=zyb h;obtain⟨s2,h2,e2⟩ :=zGA l s1 Q h1;exact⟨s2,h2,(e1.and e2).mono fun n ⟨a,b⟩ =>by simp only[zfy,a];exact b⟩
theorem zGy:∀(l:List (Op×Nat)) (fps:List Fp) (s:St) (Q:St->Prop),wpD pr l fps s Q->∃s',Q s'/\EV fun n=>zfw (zdf pr n) l fps s=some s'
 |[],_,s,Q,h=>⟨s,h,EV.all fun _=>rfl⟩
 |(o,mask)::l,fps,s,Q,h=>by
  obtain⟨s1,p,⟨ha,h1⟩,e1⟩ :=zyb h;obtain⟨s2,h2,e2⟩ :=zGy l (fps++[p]) {s1 with c:=p.hi} Q h1;exact⟨s2,h2,(e1.and e2).mono fun n ⟨a,b⟩ =>by simp only[zfw,a,ha,Z60];exact b⟩
theorem zfz:∀(c:C) (s:St) (Q:Ex->St->Prop),wpC pr c s Q->∃x s',Q x s'/\EV fun n=>evC (zdf pr n) n c s=some (x,s')
 | .skip,s,Q,h=>⟨_,s,h,EV.all fun _=>rfl⟩
 | .exit id,s,Q,h=>⟨_,s,h,EV.all fun _=>rfl⟩
 | .ret,s,Q,h=>⟨_,s,h,EV.all fun _=>rfl⟩
 | .reg ops,s,Q,h=>by
  obtain⟨s',h1,e1⟩ :=zGA ops s _ h;exact⟨.nrm,s',h1,e1.mono fun n hn=>by simp only[evC,hn]⟩
 | .dreg ops,s,Q,h=>by
  obtain⟨s',h1,e1⟩ :=zGy ops [] s _ h;exact⟨.nrm,s',h1,e1.mono fun n hn=>by simp only[evC,hn]⟩
 | .seq a b,s,Q,h=>by
  obtain⟨x,s1,h1,e1⟩ :=zfz a s _ h;cases x with
  |nrm=>
   obtain⟨x2,s2,h2,e2⟩ :=zfz b s1 Q h1;exact⟨x2,s2,h2,(e1.and e2).mono fun n ⟨p,q⟩ =>by simp only[evC,p];exact q⟩
  |exit i=>exact⟨.exit i,s1,h1,e1.mono fun n p=>by simp only[evC,p]⟩
  |ret=>exact⟨.ret,s1,h1,e1.mono fun n p=>by simp only[evC,p]⟩
 | .cond x a b,s,Q,h=>by
  unfold wpC at h;split at h
  .rename_i hx;obtain⟨x2,s2,h2,e2⟩ :=zfz a s Q h;exact⟨x2,s2,h2,e2.mono fun n p=>by simp only[evC,hx];exact p⟩
  .rename_i hx;obtain⟨x2,s2,h2,e2⟩ :=zfz b s Q h;exact⟨x2,s2,h2,e2.mono fun n p=>by simp only[evC,hx];exact p⟩
  .exact h.elim
 | .blk id c,s,Q,h=>by
  obtain⟨x,s1,h1,e1⟩ :=zfz c s _ h;cases x with
  |nrm=>exact⟨.nrm,s1,h1,e1.mono fun n p=>by simp only[evC,p]⟩
  |ret=>exact⟨.ret,s1,h1,e1.mono fun n p=>by simp only[evC,p]⟩
  |exit i=>
   by_cases hi:i=id
   .simp only[hi,Z60]at h1;exact⟨.nrm,s1,h1,e1.mono fun n p=>by simp only[evC,p,hi,Z60]⟩
   .simp only[hi,Z63]at h1;exact⟨.exit i,s1,h1,e1.mono fun n p=>by simp only[evC,p,hi,Z63]⟩
 | .loop c,s,Q,h=>by
  obtain⟨x,s',m,h1,e1⟩ :=h;exact⟨x,s',h1,(e1.and (EV.ge m)).mono fun n ⟨p,q⟩ =>by simp only[evC];exact zsV m n s _ q p⟩
theorem zTL{c:C}{Q:Ex->St->Prop}(I:Nat->St->Prop)(hstep:∀k s,I k s->wpC pr c s fun x s'=>match x with
  | .nrm=>∃k',k'<k/\I k' s'
  |x=>Q x s'):∀(k:Nat) (s:St),I k s->wpC pr (.loop c) s Q:=by
 intro k
 induction k using Nat.strongRecOn with
 |ind k ih=>
  intro s hI;obtain⟨x,s1,hq,ev⟩ :=zfz c s _ (hstep k s hI);cases x with
  |nrm=>
   obtain⟨k',hlt,hI'⟩ :=hq;obtain⟨x2,s2,m,h2,e2⟩ :=ih k' hlt s1 hI';exact⟨x2,s2,m+1,h2,(ev.and e2).mono fun n ⟨p,q⟩ =>by simp only[iter,p];exact q⟩
  |exit i=>exact⟨.exit i,s1,1,hq,ev.mono fun n p=>by simp only[iter,p]⟩
  |ret=>exact⟨.ret,s1,1,hq,ev.mono fun n p=>by simp only[iter,p]⟩
def st0(args:List D)(h:T Ob)(c:Nat):St:={tm:=zal args 0 .e,h,c,lw:=c,mx:=c}
end
end Go.Vse
end
section
namespace Go.Vse
variable [Globs]
def St.up(s:St)(dst:Option Nat)(d:D):St:={s with tm:=zcI s.tm dst d,mx:=Nat.max s.mx (s.c+1)}
def St.aft(s:St)(dst:Option Nat)(d:D)(wr:List (Nat×Option Ob))(c:Nat):St:=
 {tm:=zcI s.tm dst d,h:=wrT s.h wr,c,lw:=zfd s.lw wr,mx:=Nat.max s.mx (c+1)}
def zuj(t:T D)(i j:Nat)(d:D):(zcI t (some i) d).get j=if j=i then some d else t.get j:=T.zah ..
def zuh(t:T D)(d:D):zcI t none d=t:=rfl
def zbu(s:St)(dst:Option Nat)(d:D):(s.up dst d).tm=zcI s.tm dst d:=rfl
def zcs(s:St)(dst:Option Nat)(d:D):(s.up dst d).h=s.h:=rfl
def zcr(s:St)(dst:Option Nat)(d:D):(s.up dst d).c=s.c:=rfl
def zDm(s:St)(dst:Option Nat)(d:D):(s.up dst d).lw=s.lw:=rfl
def za4(s:St)(dst:Option Nat)(d:D)(wr:List (Nat×Option Ob))(c:Nat):(s.aft dst d wr c).tm=zcI s.tm dst d:=rfl
def zbn(s:St)(dst:Option Nat)(d:D)(wr:List (Nat×Option Ob))(c:Nat):(s.aft dst d wr c).h=wrT s.h wr:=rfl
def zbl(s:St)(dst:Option Nat)(d:D)(wr:List (Nat×Option Ob))(c:Nat):(s.aft dst d wr c).c=c:=rfl
def zv5(s:St)(dst:Option Nat)(d:D)(wr:List (Nat×Option Ob))(c:Nat):(s.aft dst d wr c).lw=zfd s.lw wr:=rfl
section
variable {pr:Pr}{l:List Op}{s:St}{Q:St->Prop}{dst:Option Nat}
theorem zAb{o:O A}{o':O D}(hr:o.res (zae s.tm)=some o')(hk:kindOf o'= .n){r:Rs}(hv:opv s.h.get s.c o'=some r)(hw:zaC r.c r.wr=true)
  {R:St->Fp->Prop}(h:R (s.aft dst r.d r.wr r.c) {all:=false,rd:=r.rd,wr:=r.wr.map (·.1),lo:=s.c,hi:=r.c+1,h:=s.h,h':=wrT s.h r.wr}):
  zbv pr ⟨dst,none,o⟩ s R:=by
 simp only[zbv,zb7,hr,hk,hv,zdg,zcZ,hw];exact h
theorem wpO_n{o:O A}{o':O D}(hr:o.res (zae s.tm)=some o')(hk:kindOf o'= .n){r:Rs}(hv:opv s.h.get s.c o'=some r)(hw:zaC r.c r.wr=true)
  (h:wpO pr l (s.aft dst r.d r.wr r.c) Q):wpO pr (⟨dst,none,o⟩ ::l) s Q:=zAb hr hk hv hw h
def zrL{o:O A}{o':O D}{d:D}{rd:List Nat}(hr:o.res (zae s.tm)=some o')(hk:kindOf o'= .n)(hv:opv s.h.get s.c o'=some {d,rd,c:=s.c})
  (h:wpO pr l (s.up dst d) Q):wpO pr (⟨dst,none,o⟩ ::l) s Q:=zAb hr hk hv rfl h
def zTJ{q x y:A}(h:∃b d e,zae s.tm q=some (.f (.b b))/\zae s.tm x=some d/\zae s.tm y=some e/\wpO pr l (s.up dst (if b then d else e)) Q):wpO pr (⟨dst,none,.pick q x y⟩ ::l) s Q:=by
 obtain⟨b,d,e,h1,h2,h3,h⟩ :=h;exact zrL (o':= .pick (.f (.b b)) d e) (rd:=[]) (by simp[O.res,h1,h2,h3]) rfl rfl h
def w_bin{op:BinOp}{x y:A}(h:∃a b,zae s.tm x=some (.f a)/\zae s.tm y=some (.f b)/\∃z,zaN op a b=some z/\wpO pr l (s.up dst (.f z)) Q):wpO pr (⟨dst,none,.bin op x y⟩ ::l) s Q:=by
 obtain⟨a,b,h1,h2,z,h3,h⟩ :=h;exact zrL (o':= .bin op (.f a) (.f b)) (rd:=[]) (by simp[O.res,h1,h2]) rfl (by simp[opv,h3,okF]) h
def w_not{x:A}(h:∃b,zae s.tm x=some (.f (.b b))/\wpO pr l (s.up dst (.f (.b !b))) Q):wpO pr (⟨dst,none,.un .not x⟩ ::l) s Q:=by
 obtain⟨b,h1,h⟩ :=h;exact zrL (o':= .un .not (.f (.b b))) (rd:=[]) (by simp[O.res,h1]) rfl rfl h
def zrJ{x:A}(h:∃v,zae s.tm x=some v/\∃n,zbj v=some n/\wpO pr l (s.up dst (.f (.i .i64 n))) Q):wpO pr (⟨dst,none,.len x⟩ ::l) s Q:=by
 obtain⟨v,h1,n,h2,h⟩ :=h;exact zrL (o':= .len v) (rd:=[]) (by simp[O.res,h1]) rfl (by simp[opv,h2,okF]) h
def faB(off:Nat):D->Option D
 | .ptr id es i j=>some (.ptr id es i (j+off))
 | .fptr cs=>some (.fptr (cs.drop off))
 |_=>none
def iaB(es:Nat)(x:D)(i:Nat):Option D:=
 match x with
 | .f (.sl es' els)=>if es=es' then(els[i]?).map D.fptr else none
 | .sl id off m es' _ _=>if es=es'/\i<m then some (.ptr id es (off+i) 0)else none
 |_=>none
def znL{es:Nat}{x i:A}(h:∃v w,zae s.tm x=some v/\zae s.tm i=some w/\∃n,zbR w=some n/\∃d,iaB es v n=some d/\wpO pr l (s.up dst d) Q):wpO pr (⟨dst,none,.ia es x i⟩ ::l) s Q:=by
 obtain⟨v,w,h1,h2,n,h3,d,h4,h⟩ :=h;refine zrL (o':= .ia es v w) (rd:=[]) (by simp[O.res,h1,h2]) rfl ?_ h;unfold iaB at h4;split at h4
 .rename_i es' els;split at h4
  .rename_i hes;cases he:els[n]? with
   |none=>rw[he]at h4;simp at h4
   |some el=>
    rw[he]at h4;simp only[Z134,Z45]at h4;subst h4;simp[opv,h3,hes,he,okD]
  .cases h4
 .split at h4
  .rename_i hes;cases h4;simp only[opv,h3,okD];rw[Z51 hes]
  .cases h4
 .cases h4
theorem zPF{f:Nat}{args:List A}(h:∃ds,zay (zae s.tm) args=some ds/\∃fs rd,zdm s.h.get ds=some (fs,rd)/\∃x,Ans pr f fs x/\zaC s.c (zat s.h.get rd)=true/\wpO pr l (s.aft dst x.d (zat s.h.get rd) s.c) Q):
  wpO pr (⟨dst,none,.callp f args⟩ ::l) s Q:=by
 obtain⟨ds,h1,fs,rd,h2,x,h3,h4,h⟩ :=h;simp only[wpO,zbv,zb7,O.res,h1,Z47,Z46,kindOf,h2];refine⟨x,h3,?_⟩;simp only[zdg,zcZ,h4];exact h
def St.cal(s:St)(dst:Option Nat)(q:CR):St:={tm:=zcI s.tm dst q.d,h:=q.h,c:=q.c,lw:=Nat.min s.lw q.lw,mx:=Nat.max s.mx q.mx}
def zTI{f:Nat}{args:List A}(h:∃ds,zay (zae s.tm) args=some ds/\∃q,Con pr f ds s.h s.c q/\wpO pr l (s.cal dst q) Q):wpO pr (⟨dst,none,.call f args⟩ ::l) s Q:=by
 obtain⟨ds,h1,q,h2,h⟩ :=h;simp only[wpO,zbv,zb7,O.res,h1,Z47,Z46,kindOf];exact⟨q,h2,h⟩
def zRH{x:A}{a b:C}{Q:Ex->St->Prop}(h:∃t,zae s.tm x=some (.f (.b t))/\(if t then wpC pr a s Q else wpC pr b s Q)):wpC pr (.cond x a b) s Q:=by
 obtain⟨t,h1,h⟩ :=h;unfold wpC;rw[h1];cases t<;>simpa using h
def zEc{Q:Ex->St->Prop}:wpC pr .skip s Q=Q .nrm s:=rfl
def zEb{id:Nat}{Q:Ex->St->Prop}:wpC pr (.exit id) s Q=Q (.exit id) s:=rfl
def zJD{Q:Ex->St->Prop}:wpC pr .ret s Q=Q .ret s:=rfl
def zFu(t:T D)(n:Nat):zae t (.t n)=t.get n:=rfl
def zFs(t:T D)(x:F):zae t (.k x)=some x.d:=rfl
def zyO(a b:Int):zaN .lss (.i .i64 a) (.i .i64 b)=some (.b (decide (a<b))):=rfl
def zyN(a b:Int):zaN .leq (.i .i64 a) (.i .i64 b)=some (.b (decide (a<=b))):=rfl
def zyL(a b:Int):zaN .geq (.i .i64 a) (.i .i64 b)=some (.b (decide (a≥b))):=rfl
def zyM(a b:Int):zaN .gtr (.i .i64 a) (.i .i64 b)=some (.b (decide (a>b))):=rfl
def zyK(a b:Int):zaN .eql (.i .i64 a) (.i .i64 b)=some (.b (a==b)):=rfl
def zyP(a b:Int):zaN .neq (.i .i64 a) (.i .i64 b)=some (.b (a != b)):=rfl
def zyI(a b:Int):zaN .add (.i .i64 a) (.i .i64 b)=some (.i .i64 (IntKind.i64.wrap (a+b))):=rfl
def zyU(a b:Int):zaN .sub (.i .i64 a) (.i .i64 b)=some (.i .i64 (IntKind.i64.wrap (a - b))):=rfl
def zNm(a b:Int)(h:b≠0):zaN .rem (.i .i64 a) (.i .i64 b)=some (.i .i64 (a.tmod b)):=by
 simp[zaN,zoT,Go.binOp,Go.Op.intDiv,h,ziQ];rfl
def zNl(a b:Int)(h:b≠0):zaN .quo (.i .i64 a) (.i .i64 b)=some (.i .i64 (IntKind.i64.wrap (a.tdiv b))):=by
 simp[zaN,zoT,Go.binOp,Go.Op.intDiv,h,ziQ];rfl
end
end Go.Vse
end
section
namespace Go.Vse
variable [Globs]
open Go.RowKit
section
variable {P:Program}{pur:Nat->Bool}{pr:Pr}
def zgC:Mu:=fun _ _=>False
def zrR(H:Array Obj):Prop:=∀n cs,Globs.data n=some cs->za8 H zgC n 0 cs
def zDy:zau zgC (T.e:T Ob).get (fun _=>none)=zgC:=by
 rw[ziz,zhm]
def sim_e(H:Array Obj)(hg:zrR H):Sim zgC H (T.e:T Ob).get (fun _=>none) (fun _=>False):=
 ⟨fun id ob h=>by simp[T.zvq]at h,fun id b h=>by simp at h,fun id id' b h=>by simp at h,fun id b i h=>by simp at h,fun id ob h=>by simp[T.zvq]at h,fun b i h=>h.elim,fun n cs h=>by rw[zDy];exact hg n cs h⟩
theorem land(hp:zAi P pur pr){f:Nat}{fs:List F}{vs:List Value}{w:World}(hgl:zrR w.heap)(hrel:zaT w.heap zgC fs vs){q:CR}(hc:Con pr f (F.dL fs) .e 0 q){b:Bool}(hd:q.d= .f (.b b)):
  Calls P f ⟨vs⟩ w fun e w'=>e= .returned (.bool b)/\Below w.heap.size w w':=by
 obtain⟨N,hN⟩ :=hc;have ok:=zsL hp N f _ _ _ _ (hN N (Z2 _));obtain⟨_,_,_,h⟩ :=ok;have hargs:zaw w.heap (zau zgC (T.e:T Ob).get (fun _=>none)) (fun _=>none) (fun _=>False) (F.dL fs) vs:=by
  rw[zDy];exact zaT.dL fs vs hrel
 refine (h zgC (fun _=>none) (fun _=>False) w vs (sim_e _ hgl) (fun id _ _ h=>h) hargs).mono fun e w' ⟨v,he,hb,ρ',hr,_,hev⟩ => ?_
 rw[hd]at hr;simp only[Rel,zao]at hr;subst hr;subst he;exact⟨rfl,hb.os,hb.tape,hb.output,hev.size,fun k hk=>(hev.blk k hk fun id h=>by simp at h).1⟩
theorem zrv{H:Array Obj}{b:Nat}{k:IntKind}:∀(zs:List Int) (o:Nat),(∀i,i<zs.length->zbO H b (o+i)=some (.int k (zs.getD i 0)))->za8 H zgC b o (zs.map fun z=> .i k z)
 |[],_,_=>by simp only[Z85,za8]
 |z::zs,o,h=>by
  simp only[Z10,za8,zao];refine⟨⟨fun h=>h,_,?_,rfl,rfl⟩,zrv zs (o+1) fun i hi=> ?_⟩
  .have:=h 0 (by simp);simpa using this
  .have:=h (i+1) (by simp;omega);rw[show o+(i+1)=o+1+i by omega]at this;simpa using this
def zuk{w:World}{g:Nat}{k:IntKind}{zs:List Int}(h:∀i,i<zs.length->w.cell? ⟨g,i,none⟩ =some (.int k (zs.getD i 0))):za8 w.heap zgC g 0 (zs.map fun z=> .i k z):=
 zrv zs 0 fun i hi=>by rw[Z25,<-zkX];exact h i hi
def zph(k:IntKind)(isNil:Bool)(len:Nat)(zs:List Int):F:=if isNil then .nils else .sl 1 ((zs.take len).map fun z=>[.i k z])
theorem zry{H:Array Obj}{b:Nat}{k:IntKind}:∀(zs:List Int) (o:Nat),(∀i,i<zs.length->zbO H b (o+i)=some (.int k (zs.getD i 0)))->zcy H zgC b 1 o (zs.map fun z=>[.i k z])
 |[],_,_=>by simp only[Z85,zcy]
 |z::zs,o,h=>by
  simp only[Z10,zcy,List.length_singleton,za8,zao];refine⟨trivial,⟨⟨fun h=>h,_,?_,rfl,rfl⟩,trivial⟩,zry zs (o+1) fun i hi=> ?_⟩
  .have:=h 0 (by simp);simpa using this
  .have:=h (i+1) (by simp;omega);rw[show o+(i+1)=o+1+i by omega]at this;simpa using this
theorem zOz{w:World}{k:IntKind}{a:Option Addr}{len cap:Nat}{zs:List Int}
  (h:(a=none/\len=0/\cap=0/\zs=[])\/∃x,a=some x/\len<=cap/\zs.length=cap/\(∀i,i<zs.length->w.cell? (x.add i)=some (.int k (zs.getD i 0)))):
  zao w.heap zgC (zph k a.isNone len zs) (.slice a len cap):=by
 rcases h with⟨rfl,rfl,rfl,rfl⟩ |⟨x,rfl,hl,hz,hc⟩
 .simp only[zph,Option.isNone_none,Z60,zao]
 .have hlen:((zs.take len).map fun z=>[F.i k z]).length=len:=by simp;omega
  have e:zph k (some x).isNone len zs= .sl 1 ((zs.take len).map fun z=>[.i k z]):=by simp[zph]
  rw[e];simp only[zao];rw[hlen];have hx:len≠0->x=⟨x.block,x.off,none⟩ :=by
   intro hne;have h0:=hc 0 (by omega);obtain⟨b,o,sp⟩ :=x;cases sp with
   |none=>rfl
   |some s=>
    simp only[World.cell?,Addr.add]at h0;split at h0<;>simp at h0
  refine⟨x,cap,rfl,hl,x.block,x.off,fun hne=>hx (fun e0=>hne (by simp[e0])),?_⟩
  by_cases hne:len=0
  .subst hne;simp only[Z173,Z85,zcy]
  .refine zry _ _ fun i hi=> ?_
   have hi':i<len:=by simp at hi;omega
   have h1:=hc i (by omega);rw[hx hne]at h1;have h2:(⟨x.block,x.off,none⟩ :Addr).add i=⟨x.block,x.off+i,none⟩ :=zc3 _ _ _;rw[h2,zkX]at h1;rw[h1]
   congr 2
   simp only[Z48,Z75,hi',Z60]
end
end Go.Vse
end
section
namespace Go.Vse
variable [Globs]
def zC7(orc:Orc)(pr:Pr)(n f:Nat)(fs:List F):Option F:=
 match zvi orc pr n f (F.dL fs) .e 0 with
 |none=>none
 |some q=>match frz q.h.gk 12 q.d with
  |some (x,_)=>some x
  |none=>none
def zaF{orc:Orc}{pr:Pr}(ho:zih pr orc){n f:Nat}{fs:List F}{x:F}(h:zC7 orc pr n f fs=some x):Ans pr f fs x:=by
 unfold zC7 at h;split at h
 .cases h
 .rename_i q hq;split at h
  .rename_i y rd hy;cases h;rw[zm2]at hy;exact⟨q,rd,zwQ ho n _ _ _ _ _ hq,hy⟩
  .cases h
def orc0:Orc:=fun _ _=>none
def zaM(pr:Pr):zih pr orc0:=fun _ _ _ h=>by cases h
end Go.Vse
end
section
namespace Go.Vse
variable [Globs]
section
variable {pr:Pr}{l:List Op}{s:St}{Q:St->Prop}{dst:Option Nat}
theorem zej{o:O A}{o':O D}(hr:o.res (zae s.tm)=some o')(hk:kindOf o'= .n):
  wpO pr (⟨dst,none,o⟩ ::l) s Q↔∃r,opv s.h.get s.c o'=some r/\zaC r.c r.wr=true/\wpO pr l (s.aft dst r.d r.wr r.c) Q:=by
 constructor
 .intro h;simp only[wpO,zbv,zb7,hr,hk]at h;unfold zdg at h;split at h
  .rename_i s' p hs;cases hv:opv s.h.get s.c o' with
   |none=>rw[hv]at hs;cases hs
   |some r=>
    rw[hv]at hs;simp only[zcZ]at hs;cases hw:zaC r.c r.wr with
    |false=>rw[hw]at hs;cases hs
    |true=>
     rw[hw]at hs;simp only[Z89,cond_false,Z45,Z66]at hs;obtain⟨rfl,rfl⟩ :=hs;exact⟨r,rfl,hw,h⟩
  .exact h.elim
 .rintro⟨r,hv,hw,h⟩;exact wpO_n hr hk hv hw h
def zdw{o:O A}(hr:o.res (zae s.tm)=none):wpO pr (⟨dst,none,o⟩ ::l) s Q↔False:=by
 simp[wpO,zbv,zb7,hr]
def zhB(d:D):s.aft dst d [] s.c=s.up dst d:=rfl
def zML:wpO pr [] s Q↔Q s:=Iff.rfl
def x_mv{x:A}:wpO pr (⟨dst,none,.mv x⟩ ::l) s Q↔∃d,zae s.tm x=some d/\wpO pr l (s.up dst d) Q:=by
 cases hx:zae s.tm x with
 |none=>rw[zdw (by simp[O.res,hx])];simp
 |some d=>rw[zej (o':= .mv d) (by simp[O.res,hx]) rfl];simp[opv,okD,zaC,zhB]
def zTS{q x y:A}:wpO pr (⟨dst,none,.pick q x y⟩ ::l) s Q↔∃b,zae s.tm q=some (.f (.b b))/\∃d,zae s.tm x=some d/\∃e,zae s.tm y=some e/\wpO pr l (s.up dst (if b then d else e)) Q:=by
 constructor
 .intro h;cases hq:zae s.tm q with
  |none=>exact ((zdw (by simp[O.res,hq])).1 h).elim
  |some z=>
   cases hx:zae s.tm x with
   |none=>exact ((zdw (by simp[O.res,hq,hx])).1 h).elim
   |some d=>
    cases hy:zae s.tm y with
    |none=>exact ((zdw (by simp[O.res,hq,hx,hy])).1 h).elim
    |some e=>
     obtain⟨r,hv,_,h⟩ :=(zej (o':= .pick z d e) (by simp[O.res,hq,hx,hy]) rfl).1 h;cases z with
     |f z=>
      cases z with
      |b b=>simp only[opv,okD,Z45]at hv;subst hv;exact⟨b,rfl,d,rfl,e,rfl,h⟩
      |_=>simp[opv]at hv
     |_=>simp[opv]at hv
 .rintro⟨b,h1,d,h2,e,h3,h⟩;exact zTJ ⟨b,d,e,h1,h2,h3,h⟩
def x_ld{g:Bool}{n:Nat}{x:A}:wpO pr (⟨dst,none,.ld g n x⟩ ::l) s Q↔∃p,zae s.tm x=some p/\∃y,zcb g n s.h.get p=some y/\wpO pr l (s.up dst y.1) Q:=by
 cases hx:zae s.tm x with
 |none=>rw[zdw (by simp[O.res,hx])];simp
 |some p=>
  rw[zej (o':= .ld g n p) (by simp[O.res,hx]) rfl];cases hl:zcb g n s.h.get p with
  |none=>simp[opv,hl]
  |some y=>obtain⟨d,rd⟩ :=y;simp[opv,hl,zaC,zhB]
def x_bin{op:BinOp}{x y:A}:wpO pr (⟨dst,none,.bin op x y⟩ ::l) s Q↔∃a,zae s.tm x=some (.f a)/\∃b,zae s.tm y=some (.f b)/\∃z,zaN op a b=some z/\wpO pr l (s.up dst (.f z)) Q:=by
 constructor
 .intro h;cases hx:zae s.tm x with
  |none=>exact ((zdw (by simp[O.res,hx])).1 h).elim
  |some d=>
   cases hy:zae s.tm y with
   |none=>exact ((zdw (by simp[O.res,hx,hy])).1 h).elim
   |some e=>
    obtain⟨r,hv,_,h⟩ :=(zej (o':= .bin op d e) (by simp[O.res,hx,hy]) rfl).1 h;cases d with
    |f a=>
     cases e with
     |f b=>
      cases hz:zaN op a b with
      |none=>simp[opv,hz]at hv
      |some z=>simp only[opv,hz,okF,Z45]at hv;subst hv;exact⟨a,rfl,b,rfl,z,hz,h⟩
     |_=>simp[opv]at hv
    |_=>simp[opv]at hv
 .rintro⟨a,h1,b,h2,z,h3,h⟩;exact w_bin ⟨a,b,h1,h2,z,h3,h⟩
def x_not{x:A}:wpO pr (⟨dst,none,.un .not x⟩ ::l) s Q↔∃b,zae s.tm x=some (.f (.b b))/\wpO pr l (s.up dst (.f (.b !b))) Q:=by
 constructor
 .intro h;cases hx:zae s.tm x with
  |none=>exact ((zdw (by simp[O.res,hx])).1 h).elim
  |some d=>
   obtain⟨r,hv,_,h⟩ :=(zej (o':= .un .not d) (by simp[O.res,hx]) rfl).1 h;cases d with
   |f z=>
    cases z with
    |b b=>simp only[opv,okF,Z45]at hv;subst hv;exact⟨b,rfl,h⟩
    |i k n=>simp[opv,ziQ,Go.Op.unary,Go.stuck]at hv
    |_=>simp[opv]at hv
   |_=>simp[opv]at hv
 .rintro⟨b,h1,h⟩;exact w_not ⟨b,h1,h⟩
def x_len{x:A}:wpO pr (⟨dst,none,.len x⟩ ::l) s Q↔∃v,zae s.tm x=some v/\∃n,zbj v=some n/\wpO pr l (s.up dst (.f (.i .i64 n))) Q:=by
 cases hx:zae s.tm x with
 |none=>rw[zdw (by simp[O.res,hx])];simp
 |some v=>
  rw[zej (o':= .len v) (by simp[O.res,hx]) rfl];cases hl:zbj v with
  |none=>simp[opv,hl]
  |some n=>simp[opv,hl,okF,zaC,zhB]
def x_fa{off:Nat}{x:A}:wpO pr (⟨dst,none,.fa off x⟩ ::l) s Q↔∃v,zae s.tm x=some v/\∃d,faB off v=some d/\wpO pr l (s.up dst d) Q:=by
 cases hx:zae s.tm x with
 |none=>rw[zdw (by simp[O.res,hx])];simp
 |some v=>
  rw[zej (o':= .fa off v) (by simp[O.res,hx]) rfl];cases v<;>simp[opv,faB,okD,zaC,zhB]
def x_ext{x:A}{i:Nat}:wpO pr (⟨dst,none,.ext x i⟩ ::l) s Q↔∃cs,zae s.tm x=some (.tu cs)/\∃d,cs[i]? =some d/\wpO pr l (s.up dst d) Q:=by
 cases hx:zae s.tm x with
 |none=>rw[zdw (by simp[O.res,hx])];simp
 |some v=>
  rw[zej (o':= .ext v i) (by simp[O.res,hx]) rfl];cases v with
  |tu cs=>
   cases hc:cs[i]? with
   |none=>simp[opv,hc]
   |some d=>simp[opv,hc,okD,zaC,zhB]
  |_=>simp[opv]
def x_box{x:A}:wpO pr (⟨dst,none,.box x⟩ ::l) s Q↔∃d,zae s.tm x=some d/\∃cs,d.cells=some cs/\wpO pr l (s.aft dst (.ptr s.c cs.length 0 0) [(s.c,some (.arr cs.length 0 [cs]))] (s.c+1)) Q:=by
 cases hx:zae s.tm x with
 |none=>rw[zdw (by simp[O.res,hx])];simp
 |some d=>
  rw[zej (o':= .box d) (by simp[O.res,hx]) rfl];cases hc:d.cells with
  |none=>simp[opv,hc]
  |some cs=>simp[opv,hc,zaC,Z79]
def zMK{cs:List F}:wpO pr (⟨dst,none,.new cs⟩ ::l) s Q↔wpO pr l (s.aft dst (.ptr s.c cs.length 0 0) [(s.c,some (.arr cs.length 0 [cs.map D.f]))] (s.c+1)) Q:=by
 rw[zej (o':= .new cs) rfl rfl];simp[opv,zaC,Z79]
def x_st{n:Nat}{x v:A}:wpO pr (⟨dst,none,.st n x v⟩ ::l) s Q↔∃p,zae s.tm x=some p/\∃d,zae s.tm v=some d/\∃y,zer n s.h.get p d=some y/\y.1<s.c/\wpO pr l (s.aft dst (.f .un) [(y.1,some y.2)] s.c) Q:=by
 cases hx:zae s.tm x with
 |none=>rw[zdw (by simp[O.res,hx])];simp
 |some p=>
  cases hv:zae s.tm v with
  |none=>rw[zdw (by simp[O.res,hx,hv])];simp
  |some d=>
   rw[zej (o':= .st n p d) (by simp[O.res,hx,hv]) rfl];cases hs:zer n s.h.get p d with
   |none=>simp[opv,hs]
   |some y=>
    obtain⟨id,ob⟩ :=y;simp[opv,hs,zaC,Z79];exact⟨fun h=>⟨id,ob,⟨rfl,rfl⟩,h⟩,fun⟨_,_,⟨e1,e2⟩,h⟩ =>by subst e1 e2;exact h⟩
def x_ia{es:Nat}{x i:A}:wpO pr (⟨dst,none,.ia es x i⟩ ::l) s Q↔∃v,zae s.tm x=some v/\∃w,zae s.tm i=some w/\∃n,zbR w=some n/\∃d,iaB es v n=some d/\wpO pr l (s.up dst d) Q:=by
 cases hx:zae s.tm x with
 |none=>rw[zdw (by simp[O.res,hx])];simp
 |some v=>
  cases hy:zae s.tm i with
  |none=>rw[zdw (by simp[O.res,hx,hy])];simp
  |some w=>
   rw[zej (o':= .ia es v w) (by simp[O.res,hx,hy]) rfl];cases hn:zbR w with
   |none=>simp[opv,hn]
   |some n=>
    cases v with
    |f z=>
     cases z with
     |sl es' els=>
      by_cases he:es=es'
      .subst he;cases hel:els[n]? with
       |none=>simp[opv,hn,iaB,hel]
       |some el=>simp[opv,hn,iaB,hel,okD,zaC,zhB]
      .simp[opv,hn,iaB,he]
     |_=>simp[opv,hn,iaB]
    |sl id off m es' lim ex=>
     by_cases he:es=es'/\n<m
     .simp[opv,hn,iaB,he,okD,zaC,zhB]
     .simp[opv,hn,iaB,he]
    |_=>simp[opv,hn,iaB]
def fnD(f:Nat):List D->D
 |[]=> .f (.fn f)
 |y=> .fn f [] y
def x_mkf{f:Nat}{b:List A}:wpO pr (⟨dst,none,.mkf f [] b⟩ ::l) s Q↔∃y,zay (zae s.tm) b=some y/\wpO pr l (s.up dst (fnD f y)) Q:=by
 cases hy:zay (zae s.tm) b with
 |none=>rw[zdw (by simp[O.res,zay,hy])];simp
 |some y=>
  rw[zej (o':= .mkf f [] y) (by simp[O.res,zay,hy]) rfl];cases y<;>simp[opv,okD,okF,zaC,zhB,fnD]
def x_bld{z:List F}{ps:List (Nat×Nat×A)}:wpO pr (⟨dst,none,.bld z ps⟩ ::l) s Q↔∃qs,zay (fun(p:Nat×Nat×A)=>(zae s.tm p.2.2).map fun d=>(p.1,p.2.1,d)) ps=some qs/\∃cs,zdQ (z.map D.f) qs=some cs/\wpO pr l (s.up dst (.ag cs)) Q:=by
 have e:zay (fun(p:Nat×Nat×A)=>(zae s.tm p.2.2).map fun d=>(p.1,p.2.1,d)) ps=zay (fun x=>match x with|(o,n,x)=>do some (o,n,<-zae s.tm x)) ps:=by
  congr 1
  funext p
  obtain⟨o,n,x⟩ :=p;simp only;cases zae s.tm x<;>rfl
 rw[e];cases hq:zay (fun x=>match x with|(o,n,x)=>do some (o,n,<-zae s.tm x)) ps with
 |none=>rw[zdw (by simp only[O.res];rw[hq];rfl)];simp
 |some qs=>
  rw[zej (o':= .bld z qs) (by simp only[O.res];rw[hq];rfl) rfl];cases hf:zdQ (z.map D.f) qs with
  |none=>simp[opv,hf]
  |some cs=>simp[opv,hf,okD,zaC,zhB]
def zPV{f:Nat}{args:List A}:wpO pr (⟨dst,none,.callp f args⟩ ::l) s Q↔∃ds,zay (zae s.tm) args=some ds/\∃y,zdm s.h.get ds=some y/\∃x,Ans pr f y.1 x/\zaC s.c (zat s.h.get y.2)=true/\wpO pr l (s.aft dst x.d (zat s.h.get y.2) s.c) Q:=by
 constructor
 .intro h;simp only[wpO,zbv,zb7,O.res,Z47]at h;cases hm:zay (zae s.tm) args with
  |none=>simp[hm]at h
  |some ds=>
   simp only[hm,Z46,kindOf]at h;cases hf:zdm s.h.get ds with
   |none=>simp[hf]at h
   |some y=>
    obtain⟨fs,rd⟩ :=y;simp only[hf]at h;obtain⟨x,h1,h2⟩ :=h;refine⟨ds,rfl,(fs,rd),hf,x,h1,?_⟩;unfold zdg at h2;simp only[zcZ]at h2;cases hw:zaC s.c (zat s.h.get rd)with
    |false=>simp[hw]at h2
    |true=>simp only[hw,Z89,cond_false]at h2;exact⟨rfl,h2⟩
 .rintro⟨ds,h1,⟨fs,rd⟩,h2,x,h3,h4,h⟩;exact zPF ⟨ds,h1,fs,rd,h2,x,h3,h4,h⟩
def zTQ{f:Nat}{args:List A}:wpO pr (⟨dst,none,.call f args⟩ ::l) s Q↔∃ds,zay (zae s.tm) args=some ds/\∃q,Con pr f ds s.h s.c q/\wpO pr l (s.cal dst q) Q:=by
 constructor
 .intro h;simp only[wpO,zbv,zb7,O.res,Z47]at h;cases hm:zay (zae s.tm) args with
  |none=>simp[hm]at h
  |some ds=>
   simp only[hm,Z46,kindOf]at h;obtain⟨q,h1,h2⟩ :=h;exact⟨ds,rfl,q,h1,h2⟩
 .rintro⟨ds,h1,q,h2,h⟩;exact zTI ⟨ds,h1,q,h2,h⟩
def zTR{x:A}{a b:C}{Q:Ex->St->Prop}:wpC pr (.cond x a b) s Q↔∃t,zae s.tm x=some (.f (.b t))/\(if t then wpC pr a s Q else wpC pr b s Q):=by
 constructor
 .intro h;unfold wpC at h;split at h
  .rename_i hx;exact⟨true,hx,by simpa using h⟩
  .rename_i hx;exact⟨false,hx,by simpa using h⟩
  .exact h.elim
 .exact zRH
end
end Go.Vse
end
section
namespace Go.Vse
variable [Globs]
def oB{α:Type}(o:Option α)(k:α->Prop):Prop:=
 match o with
 |some a=>k a
 |none=>False
@[congr] theorem oB_congr{α:Type}{o o':Option α}{k:α->Prop}(h:o=o'):oB o k=oB o' k:=by rw[h]
def zzx{α:Type}(a:α)(k:α->Prop):oB (some a) k=k a:=rfl
def zfN{α:Type}(o:Option α)(k:α->Prop):(∃a,o=some a/\k a)↔oB o k:=by
 cases o with
 |none=>simp[oB]
 |some a=>simp[oB]
def asB:D->Option Bool
 | .f (.b b)=>some b
 |_=>none
def asF:D->Option F
 | .f x=>some x
 |_=>none
def zAO:D->Option (List D)
 | .tu cs=>some cs
 |_=>none
def zwT(o:Option D)(k:Bool->Prop):(∃b,o=some (.f (.b b))/\k b)↔oB (o.bind asB) k:=by
 cases o with
 |none=>simp[oB]
 |some d=>
  cases d with
  |f x=>cases x<;>simp[oB,asB]
  |_=>simp[oB,asB]
def zEK(o:Option D)(k:F->Prop):(∃b,o=some (.f b)/\k b)↔oB (o.bind asF) k:=by
 cases o with
 |none=>simp[oB]
 |some d=>cases d<;>simp[oB,asF]
def zNU(o:Option D)(k:List D->Prop):(∃b,o=some (.tu b)/\k b)↔oB (o.bind zAO) k:=by
 cases o with
 |none=>simp[oB]
 |some d=>cases d<;>simp[oB,zAO]
def zJw(b:Bool):asB (.f (.b b))=some b:=rfl
def zJx(x:F):asF (.f x)=some x:=rfl
def zyA(cs:List D):zAO (.tu cs)=some cs:=rfl
theorem zna{f:D->Option (F×List Nat)}(hf:∀d x rd,d.isF=true->f d=some (x,rd)->rd=[]):∀(ds:List D) (xs:List F) (rd:List Nat),D.ziG ds=true->za3 f ds=some (xs,rd)->rd=[]
 |[],xs,rd,_,h=>by simp[za3]at h;exact h.2
 |d::ds,xs,rd,hi,h=>by
  simp only[D.ziG,Z14]at hi;unfold za3 at h;split at h
  .cases h
  .rename_i x r hx;split at h
   .cases h
   .rename_i m r' hm;simp only[Z45,Z66]at h;rw[<-h.2,hf d x r hi.1 hx,zna hf ds m r' hi.2 hm];rfl
theorem zn3{h:Nat->Option Ob}:∀(k:Nat) (d:D) (x:F) (rd:List Nat),d.isF=true->frz h k d=some (x,rd)->rd=[]
 |0,_,_,_,_,h=>by simp[frz]at h
 |k+1,d,x,rd,hi,hf=>by
  unfold frz at hf;split at hf
  .simp at hf;exact hf.2
  .split at hf
   .rename_i l r hm;simp only[Z45,Z66]at hf;rw[<-hf.2];exact zna (zn3 k) _ _ _ hi hm
   .cases hf
  .split at hf
   .rename_i l r hm;simp only[Z45,Z66]at hf;rw[<-hf.2];exact zna (zn3 k) _ _ _ hi hm
   .cases hf
  .simp[D.isF]at hi
  .cases hf
def zwO(res:List Rv)(y:F)(x:Ex)(s:St):Prop:=
 (match x with| .exit _=>False|_=>True)/\∃d,resD s res=some d/\∃rd,frz s.h.get 12 d=some (y,rd)
def zPT{pr:Pr}{c:C}{s:St}{Q:Ex->St->Prop}{f:Nat}{fn:Fn}(hf:pr.fn f=some fn){fs:List F}{y:F}(hb:fn.body=c)(hs:s=st0 (F.dL fs) .e 0)(hQ:Q=zwO fn.res y)(hw:wpC pr c s Q):Ans pr f fs y:=by
 subst hb hs hQ;obtain⟨x,s,⟨hx,d,hd,rd,hz⟩,ev⟩ :=zfz _ _ _ hw;refine⟨if Nat.beq s.lw 0&&d.isF then ⟨d,.e,0,0,s.mx⟩else ⟨d,s.h,s.c,s.lw,s.mx⟩,rd,?_,?_⟩
 .have key:EV fun m=>zgj (evC (zdf pr m) m) fn (F.dL fs) .e 0=some (if Nat.beq s.lw 0&&d.isF then ⟨d,.e,0,0,s.mx⟩else ⟨d,s.h,s.c,s.lw,s.mx⟩):=by
   refine ev.mono fun m hm=> ?_
   unfold zgj;unfold st0 at hm;rw[hm];cases x with
   |exit i=>exact hx.elim
   |nrm=>simp only[hd];split<;>rfl
   |ret=>simp only[hd];split<;>rfl
  obtain⟨N,hN⟩ :=key;refine⟨N+1,fun m hm=> ?_⟩;obtain⟨m,rfl⟩ :∃m',m=m'+1:=⟨m - 1,by omega⟩
  simp only[zdf,hf];exact hN m (by omega)
 .split
  .rename_i hb;simp only[Z14]at hb;have hr:=zn3 12 d y rd hb.2 hz;subst hr;exact zgW 12 d y [] hz fun id hid=>by simp at hid
  .exact hz
def zbN{pr:Pr}{f:Nat}{fn:Fn}(hf:pr.fn f=some fn){fs:List F}{y:F}(hw:wpC pr fn.body (st0 (F.dL fs) .e 0) (zwO fn.res y)):Ans pr f fs y:=
 zPT hf rfl rfl rfl hw
section
variable {pr:Pr}{l:List Op}{s:St}{Q:St->Prop}{dst:Option Nat}
def y_mv{x:A}:wpO pr (⟨dst,none,.mv x⟩ ::l) s Q↔oB (zae s.tm x) fun d=>wpO pr l (s.up dst d) Q:=by rw[x_mv,zfN]
def zGC{q x y:A}:wpO pr (⟨dst,none,.pick q x y⟩ ::l) s Q↔oB ((zae s.tm q).bind asB) fun b=>oB (zae s.tm x) fun d=>oB (zae s.tm y) fun e=>wpO pr l (s.up dst (if b then d else e)) Q:=by
 rw[zTS,zwT];simp only[zfN]
def y_ld{g:Bool}{n:Nat}{x:A}:wpO pr (⟨dst,none,.ld g n x⟩ ::l) s Q↔oB (zae s.tm x) fun p=>oB (zcb g n s.h.get p) fun y=>wpO pr l (s.up dst y.1) Q:=by rw[x_ld];simp only[zfN]
def zMN{op:BinOp}{x y:A}:wpO pr (⟨dst,none,.bin op x y⟩ ::l) s Q↔oB ((zae s.tm x).bind asF) fun a=>oB ((zae s.tm y).bind asF) fun b=>oB (zaN op a b) fun z=>wpO pr l (s.up dst (.f z)) Q:=by
 rw[x_bin,zEK];simp only[zEK,zfN]
def zMZ{x:A}:wpO pr (⟨dst,none,.un .not x⟩ ::l) s Q↔oB ((zae s.tm x).bind asB) fun b=>wpO pr l (s.up dst (.f (.b !b))) Q:=by rw[x_not,zwT]
def zMV{x:A}:wpO pr (⟨dst,none,.len x⟩ ::l) s Q↔oB (zae s.tm x) fun v=>oB (zbj v) fun n=>wpO pr l (s.up dst (.f (.i .i64 n))) Q:=by rw[x_len];simp only[zfN]
def y_fa{off:Nat}{x:A}:wpO pr (⟨dst,none,.fa off x⟩ ::l) s Q↔oB (zae s.tm x) fun v=>oB (faB off v) fun d=>wpO pr l (s.up dst d) Q:=by rw[x_fa];simp only[zfN]
def zMT{x:A}{i:Nat}:wpO pr (⟨dst,none,.ext x i⟩ ::l) s Q↔oB ((zae s.tm x).bind zAO) fun cs=>oB cs[i]? fun d=>wpO pr l (s.up dst d) Q:=by rw[x_ext,zNU];simp only[zfN]
def zMR{x:A}:wpO pr (⟨dst,none,.box x⟩ ::l) s Q↔oB (zae s.tm x) fun d=>oB d.cells fun cs=>wpO pr l (s.aft dst (.ptr s.c cs.length 0 0) [(s.c,some (.arr cs.length 0 [cs]))] (s.c+1)) Q:=by rw[x_box];simp only[zfN]
def y_st{n:Nat}{x v:A}:wpO pr (⟨dst,none,.st n x v⟩ ::l) s Q↔oB (zae s.tm x) fun p=>oB (zae s.tm v) fun d=>oB (zer n s.h.get p d) fun y=>y.1<s.c/\wpO pr l (s.aft dst (.f .un) [(y.1,some y.2)] s.c) Q:=by
 rw[x_st];simp only[zfN]
def y_ia{es:Nat}{x i:A}:wpO pr (⟨dst,none,.ia es x i⟩ ::l) s Q↔oB (zae s.tm x) fun v=>oB (zae s.tm i) fun w=>oB (zbR w) fun n=>oB (iaB es v n) fun d=>wpO pr l (s.up dst d) Q:=by rw[x_ia];simp only[zfN]
def zMW{f:Nat}{b:List A}:wpO pr (⟨dst,none,.mkf f [] b⟩ ::l) s Q↔oB (zay (zae s.tm) b) fun y=>wpO pr l (s.up dst (fnD f y)) Q:=by rw[x_mkf,zfN]
def zMO{z:List F}{ps:List (Nat×Nat×A)}:wpO pr (⟨dst,none,.bld z ps⟩ ::l) s Q↔oB (zay (fun(p:Nat×Nat×A)=>(zae s.tm p.2.2).map fun d=>(p.1,p.2.1,d)) ps) fun qs=>oB (zdQ (z.map D.f) qs) fun cs=>wpO pr l (s.up dst (.ag cs)) Q:=by
 rw[x_bld];simp only[zfN]
def zPW{f:Nat}{args:List A}:wpO pr (⟨dst,none,.callp f args⟩ ::l) s Q↔oB (zay (zae s.tm) args) fun ds=>oB (zdm s.h.get ds) fun y=>∃x,Ans pr f y.1 x/\zaC s.c (zat s.h.get y.2)=true/\wpO pr l (s.aft dst x.d (zat s.h.get y.2) s.c) Q:=by
 rw[zPV];simp only[zfN]
def zTT{f:Nat}{args:List A}:wpO pr (⟨dst,none,.call f args⟩ ::l) s Q↔oB (zay (zae s.tm) args) fun ds=>∃q,Con pr f ds s.h s.c q/\wpO pr l (s.cal dst q) Q:=by rw[zTQ,zfN]
def zfL:D->Option (Nat×List D×List D)
 | .fn f a b=>some (f,a,b)
 | .f (.fn f)=>some (f,[],[])
 |_=>none
def zyz(f:Nat)(a b:List D):zfL (.fn f a b)=some (f,a,b):=rfl
def zDU(f:Nat):zfL (.f (.fn f))=some (f,[],[]):=rfl
def zP1{x:A}{args:List A}:wpO pr (⟨dst,none,.callv x args⟩ ::l) s Q↔oB ((zae s.tm x).bind zfL) fun g=>oB (zay (zae s.tm) args) fun ds=>∃q,Con pr g.1 (g.2.1++ds++g.2.2) s.h s.c q/\wpO pr l (s.cal dst q) Q:=by
 cases hx:zae s.tm x with
 |none=>simp[wpO,zbv,zb7,O.res,hx,oB]
 |some d=>
  cases hm:zay (zae s.tm) args with
  |none=>cases d with
   |f y=>cases y<;>simp[wpO,zbv,zb7,O.res,hx,hm,oB,zfL]
   |_=>simp[wpO,zbv,zb7,O.res,hx,hm,oB,zfL]
  |some ds=>
   cases d with
   |f y=>
    cases y with
    |fn f=>simp only[wpO,zbv,zb7,O.res,hx,hm,Z47,Z46,kindOf,oB,zfL,Z28,Z22];exact Iff.rfl
    |_=>simp[wpO,zbv,zb7,O.res,hx,hm,oB,zfL,kindOf]
   |fn f a b=>simp only[wpO,zbv,zb7,O.res,hx,hm,Z47,Z46,kindOf,oB,zfL];exact Iff.rfl
   |_=>simp[wpO,zbv,zb7,O.res,hx,hm,oB,zfL,kindOf]
def zGB{x:A}{a b:C}{Q:Ex->St->Prop}:wpC pr (.cond x a b) s Q↔oB ((zae s.tm x).bind asB) fun t=>if t then wpC pr a s Q else wpC pr b s Q:=by rw[zTR,zwT]
end
end Go.Vse
end
section
namespace Go.Vse
variable [Globs]
def zdd(a b:List Nat):Prop:=∀x∈a,x∉b
section
variable (pr:Pr)
def zda:Nat->List (List Nat×List Nat)->List Nat->List Nat->Prop
 |_,[],_,_=>True
 |m,(r,w)::L,rd,wr=>(m%2=1->zdd rd w/\zdd wr w/\zdd wr r)/\zda (m/2) L rd wr
def wpE:List (List Nat×List Nat)->List (Op×Nat)->St->(St->Prop)->Prop
 |_,[],s,Q=>Q s
 |L,(o,mask)::l,s,Q=>zbv pr o s fun s' p=>p.all=false/\zda mask L p.rd p.wr/\wpE (L++[(p.rd,p.wr)]) l {s' with c:=p.hi} Q
variable {pr}
def zrM{o:Op}{s:St}{Q Q':St->Fp->Prop}(hQ:∀s p,Q s p->Q' s p)(h:zbv pr o s Q):zbv pr o s Q':=by
 have m0:∀r,zdg r Q->zdg r Q':=by
  intro r h;unfold zdg at h|-;split
  .exact hQ _ _ h
  .exact h
 unfold zbv at h|-;split
 .simp_all
 .rename_i hw;simp only[hw]at h;exact hQ _ _ h
 .rename_i hw;simp only[hw]at h;split
  .simp_all
  .rename_i o' hr;simp only[hr]at h;split
   .rename_i hk;simp only[hk]at h;split
    .simp_all
    .rename_i hf;simp only[hf]at h;obtain⟨x,h1,h2⟩ :=h;exact⟨x,h1,m0 _ h2⟩
   .rename_i hk;simp only[hk]at h;obtain⟨q,h1,h2⟩ :=h;exact⟨q,h1,m0 _ h2⟩
   .rename_i hk;simp only[hk]at h;exact m0 _ h
   .rename_i hk;simp only[hk]at h
theorem zd8:∀(m:Nat) (L:List (List Nat×List Nat)),zda m L [] []↔True
 |_,[]=>Iff.rfl
 |m,(r,w)::L=>by simp[zda,zdd,zd8 (m/2) L]
theorem zpZ{p:Fp}(hp:p.all=false){mask:Nat}:∀(fps:List Fp) (i:Nat),(∀q∈fps,q.all=false)->zda (mask/2 ^ i) (fps.map fun q=>(q.rd,q.wr)) p.rd p.wr->zci p mask fps i=true
 |[],_,_,_=>rfl
 |q::l,i,hf,h=>by
  simp only[Z10,zda]at h;have h2:=zpZ hp l (i+1) (fun x hx=>hf x (by simp[hx])) (by rw[Z195,<-Nat.div_div_eq_div_mul];exact h.2);simp only[zci,h2,Z187,Z115,Z80];cases hb:mask.testBit i with
  |false=>exact .inl rfl
  |true=>
   right;rw[Z138]at hb;obtain⟨d1,d2,d3⟩ :=h.1 (of_decide_eq_true hb);have q1:=hf q (by simp);simp only[Fp.apart,q1,hp,Z14,Z50,Z80,Z114,Z65];exact⟨⟨fun x hx hm=>d1 x hx hm,fun x hx hm=>d3 x hm hx⟩,fun x hx hm=>d2 x hm hx⟩
theorem zMI:∀(l:List (Op×Nat)) (fps:List Fp) (s:St) (Q:St->Prop),(∀q∈fps,q.all=false)->wpE pr (fps.map fun q=>(q.rd,q.wr)) l s Q->wpD pr l fps s Q
 |[],_,_,_,_,h=>h
 |(o,mask)::l,fps,s,Q,hf,h=>by
  refine zrM (fun s' p ⟨h1,h2,h3⟩ =>⟨?_,zMI l (fps++[p]) _ Q ?_ (by simpa using h3)⟩) h
  .exact zpZ h1 fps 0 hf (by simpa using h2)
  .intro q hq;rcases Z4.1 hq with hq|hq
   .exact hf q hq
   .simp only[Z31]at hq;subst hq;exact h1
def zRI{ops:List (Op×Nat)}{s:St}{Q:Ex->St->Prop}(h:wpE pr [] ops s (Q .nrm)):wpC pr (.dreg ops) s Q:=
 zMI ops [] s _ (fun q hq=>by simp at hq) h
def St.ue(s:St)(dst:Option Nat)(d:D):St:={s with tm:=zcI s.tm dst d,c:=s.c+1,mx:=Nat.max s.mx (s.c+1)}
def St.ae(s:St)(dst:Option Nat)(d:D)(wr:List (Nat×Option Ob))(c:Nat):St:=
 {tm:=zcI s.tm dst d,h:=wrT s.h wr,c:=c+1,lw:=zfd s.lw wr,mx:=Nat.max s.mx (c+1)}
def St.se(s:St)(dst:Option Nat):St:={s with tm:=zcI s.tm dst (.f .un)}
def zbt(s:St)(dst:Option Nat)(d:D):(s.ue dst d).tm=zcI s.tm dst d:=rfl
def zcp(s:St)(dst:Option Nat)(d:D):(s.ue dst d).h=s.h:=rfl
def zco(s:St)(dst:Option Nat)(d:D):(s.ue dst d).c=s.c+1:=rfl
def zDk(s:St)(dst:Option Nat)(d:D):(s.ue dst d).lw=s.lw:=rfl
def zbk(s:St)(dst:Option Nat)(d:D)(wr:List (Nat×Option Ob))(c:Nat):(s.ae dst d wr c).tm=zcI s.tm dst d:=rfl
def zcf(s:St)(dst:Option Nat)(d:D)(wr:List (Nat×Option Ob))(c:Nat):(s.ae dst d wr c).h=wrT s.h wr:=rfl
def zcc(s:St)(dst:Option Nat)(d:D)(wr:List (Nat×Option Ob))(c:Nat):(s.ae dst d wr c).c=c+1:=rfl
def zAC(s:St)(dst:Option Nat)(d:D)(wr:List (Nat×Option Ob))(c:Nat):(s.ae dst d wr c).lw=zfd s.lw wr:=rfl
def zbr(s:St)(dst:Option Nat):(s.se dst).tm=zcI s.tm dst (.f .un):=rfl
def zcn(s:St)(dst:Option Nat):(s.se dst).h=s.h:=rfl
def zcm(s:St)(dst:Option Nat):(s.se dst).c=s.c:=rfl
def zDb(s:St)(dst:Option Nat):(s.se dst).lw=s.lw:=rfl
variable {l:List (Op×Nat)}{s:St}{Q:St->Prop}{dst:Option Nat}{L:List (List Nat×List Nat)}{mask:Nat}
def zwE(b:List Nat):zdd [] b↔True:=by simp[zdd]
def zty(x:Nat)(a b:List Nat):zdd (x::a) b↔x∉b/\zdd a b:=by simp[zdd]
def zKm:wpE pr L [] s Q↔Q s:=Iff.rfl
def zij(d:D):s.ae dst d [] s.c=s.ue dst d:=rfl
theorem zcN{o:O A}(hk:kcl o= .n):wpE pr L ((⟨dst,none,o⟩,mask)::l) s Q↔oB ((o.res (zae s.tm)).bind (opv s.h.get s.c)) fun r=>zaC r.c r.wr=true/\
    zda mask L r.rd (r.wr.map (·.1))/\wpE pr (L++[(r.rd,r.wr.map (·.1))]) l (s.ae dst r.d r.wr r.c) Q:=by
  simp only[wpE,zbv,zb7];cases hr:o.res (zae s.tm)with
  |none=>exact Iff.rfl
  | some o'=>
    simp only[Z46,zvu hk hr];cases hv:opv s.h.get s.c o' with
    |none=>exact Iff.rfl
    | some r=>
      simp only[zdg,zcZ,oB];cases hw:zaC r.c r.wr with
      |false=>simp
      |true=>simp only[Z89,cond_false,true_and];exact Iff.rfl
def zey{l:List Op}{o:O A}(hk:kcl o= .n):wpO pr (⟨dst,none,o⟩ ::l) s Q↔oB ((o.res (zae s.tm)).bind (opv s.h.get s.c)) fun r=>zaC r.c r.wr=true/\wpO pr l (s.aft dst r.d r.wr r.c) Q:=by
 simp only[wpO,zbv,zb7];cases hr:o.res (zae s.tm)with
 |none=>exact Iff.rfl
 |some o'=>
  simp only[Z46,zvu hk hr];cases hv:opv s.h.get s.c o' with
  |none=>exact Iff.rfl
  |some r=>
   simp only[zdg,zcZ,oB];cases hw:zaC r.c r.wr with
   |false=>simp
   |true=>simp only[Z89,cond_false,true_and];exact Iff.rfl
def e_mv{x:A}:wpE pr L ((⟨dst,none,.mv x⟩,mask)::l) s Q↔oB (zae s.tm x) fun d=>wpE pr (L++[([],[])]) l (s.ue dst d) Q:=by
 rw[zcN rfl];cases hx:zae s.tm x<;>simp[O.res,hx,opv,okD,oB,zaC,zdd,zij,zd8]
def e_ld{g:Bool}{n:Nat}{x:A}:wpE pr L ((⟨dst,none,.ld g n x⟩,mask)::l) s Q↔oB (zae s.tm x) fun p=>oB (zcb g n s.h.get p) fun y=>zda mask L y.2 []/\wpE pr (L++[(y.2,[])]) l (s.ue dst y.1) Q:=by
 rw[zcN rfl];cases hx:zae s.tm x with
 |none=>simp[O.res,hx,oB]
 |some p=>
  cases hl:zcb g n s.h.get p with
  |none=>simp[O.res,hx,opv,hl,oB]
  |some y=>obtain⟨d,rd⟩ :=y;simp[O.res,hx,opv,hl,oB,zaC,zdd,zij,zd8]
def zJ0{op:BinOp}{x y:A}:wpE pr L ((⟨dst,none,.bin op x y⟩,mask)::l) s Q↔oB ((zae s.tm x).bind asF) fun a=>oB ((zae s.tm y).bind asF) fun b=>oB (zaN op a b) fun z=>wpE pr (L++[([],[])]) l (s.ue dst (.f z)) Q:=by
 rw[zcN rfl];cases hx:zae s.tm x with
 |none=>simp[O.res,hx,oB]
 |some d=>
  cases hy:zae s.tm y with
  |none=>cases d<;>simp[O.res,hx,hy,oB,asF]
  |some e=>
   cases d with
   |f a=>
    cases e with
    |f b=>
     cases hz:zaN op a b<;>simp[O.res,hx,hy,oB,asF,opv,hz,okF,zaC,zdd,zij,zd8]
    |_=>simp[O.res,hx,hy,oB,asF,opv]
   |_=>simp[O.res,hx,hy,oB,asF,opv]
def zEz{q x y:A}:wpE pr L ((⟨dst,none,.pick q x y⟩,mask)::l) s Q↔oB ((zae s.tm q).bind asB) fun b=>oB (zae s.tm x) fun d=>oB (zae s.tm y) fun e=>wpE pr (L++[([],[])]) l (s.ue dst (if b then d else e)) Q:=by
 rw[zcN rfl];cases hq:zae s.tm q with
 |none=>simp[O.res,hq,oB]
 |some z=>
  cases hx:zae s.tm x with
  |none=>
   cases z with
   |f z=>cases z<;>simp[O.res,hq,hx,oB,asB]
   |_=>simp[O.res,hq,hx,oB,asB]
  |some d=>
   cases hy:zae s.tm y with
   |none=>
    cases z with
    |f z=>cases z<;>simp[O.res,hq,hx,hy,oB,asB]
    |_=>simp[O.res,hq,hx,hy,oB,asB]
   |some e=>
    cases z with
    |f z=>cases z<;>simp[O.res,hq,hx,hy,oB,asB,opv,okD,zaC,zdd,zij,zd8]
    |_=>simp[O.res,hq,hx,hy,oB,asB,opv]
def zJ8{ne:Bool}{x y:A}:wpE pr L ((⟨dst,none,.eqb ne x y⟩,mask)::l) s Q↔oB ((zae s.tm x).bind asB) fun a=>oB ((zae s.tm y).bind asB) fun b=>wpE pr (L++[([],[])]) l (s.ue dst (.f (.b (if ne then !(a==b)else a==b)))) Q:=by
 rw[zcN rfl];cases hx:zae s.tm x with
 |none=>simp[O.res,hx,oB]
 |some d=>
  cases hy:zae s.tm y with
  |none=>
   cases d with
   |f z=>cases z<;>simp[O.res,hx,hy,oB,asB]
   |_=>simp[O.res,hx,hy,oB,asB]
  |some e=>
   cases d with
   |f z=>
    cases z with
    |b a=>
     cases e with
     |f z'=>cases z'<;>simp[O.res,hx,hy,oB,asB,opv,okF,zaC,zdd,zij,zd8]
     |_=>simp[O.res,hx,hy,oB,asB,opv]
    |_=>simp[O.res,hx,hy,oB,asB,opv]
   |_=>simp[O.res,hx,hy,oB,asB,opv]
def e_len{x:A}:wpE pr L ((⟨dst,none,.len x⟩,mask)::l) s Q↔oB (zae s.tm x) fun v=>oB (zbj v) fun n=>wpE pr (L++[([],[])]) l (s.ue dst (.f (.i .i64 n))) Q:=by
 rw[zcN rfl];cases hx:zae s.tm x with
 |none=>simp[O.res,hx,oB]
 |some v=>cases hl:zbj v<;>simp[O.res,hx,oB,opv,hl,okF,zaC,zdd,zij,zd8]
def e_fa{off:Nat}{x:A}:wpE pr L ((⟨dst,none,.fa off x⟩,mask)::l) s Q↔oB (zae s.tm x) fun v=>oB (faB off v) fun d=>wpE pr (L++[([],[])]) l (s.ue dst d) Q:=by
 rw[zcN rfl];cases hx:zae s.tm x with
 |none=>simp[O.res,hx,oB]
 |some v=>cases v<;>simp[O.res,hx,oB,opv,faB,okD,zaC,zdd,zij,zd8]
def e_ia{es:Nat}{x i:A}:wpE pr L ((⟨dst,none,.ia es x i⟩,mask)::l) s Q↔oB (zae s.tm x) fun v=>oB (zae s.tm i) fun w=>oB (zbR w) fun n=>oB (iaB es v n) fun d=>wpE pr (L++[([],[])]) l (s.ue dst d) Q:=by
 rw[zcN rfl];cases hx:zae s.tm x with
 |none=>simp[O.res,hx,oB]
 |some v=>
  cases hy:zae s.tm i with
  |none=>simp[O.res,hx,hy,oB]
  |some w=>
   cases hn:zbR w with
   |none=>simp[O.res,hx,hy,opv,hn,oB]
   |some n=>
    cases v with
    |f z=>
     cases z with
     |sl es' els=>
      by_cases he:es=es'
      .subst he;cases hel:els[n]? <;>simp[O.res,hx,hy,oB,opv,hn,iaB,hel,okD,zaC,zdd,zij,zd8]
      .simp[O.res,hx,hy,oB,opv,hn,iaB,he]
     |_=>simp[O.res,hx,hy,oB,opv,hn,iaB]
    |sl id off m es' lim ex=>
     by_cases he:es=es'/\n<m
     .simp[O.res,hx,hy,oB,opv,hn,iaB,he,okD,zaC,zdd,zij,zd8]
     .simp[O.res,hx,hy,oB,opv,hn,iaB,he]
    |_=>simp[O.res,hx,hy,oB,opv,hn,iaB]
def zJ1{z:List F}{ps:List (Nat×Nat×A)}:wpE pr L ((⟨dst,none,.bld z ps⟩,mask)::l) s Q↔oB (zay (fun(p:Nat×Nat×A)=>(zae s.tm p.2.2).map fun d=>(p.1,p.2.1,d)) ps) fun qs=>oB (zdQ (z.map D.f) qs) fun cs=>wpE pr (L++[([],[])]) l (s.ue dst (.ag cs)) Q:=by
 have e:zay (fun(p:Nat×Nat×A)=>(zae s.tm p.2.2).map fun d=>(p.1,p.2.1,d)) ps=zay (fun x=>match x with|(o,n,x)=>do some (o,n,<-zae s.tm x)) ps:=by
  congr 1
  funext p
  obtain⟨o,n,x⟩ :=p;simp only;cases zae s.tm x<;>rfl
 rw[e,zcN rfl];simp only[O.res];cases hq:zay (fun x=>match x with|(o,n,x)=>do some (o,n,<-zae s.tm x)) ps with
 |none=>simp[oB]
 |some qs=>cases hf:zdQ (z.map D.f) qs<;>simp[oB,opv,hf,okD,zaC,zdd,zij,zd8]
def zKj{cs:List F}:wpE pr L ((⟨dst,none,.new cs⟩,mask)::l) s Q↔zda mask L [] [s.c]/\wpE pr (L++[([],[s.c])]) l (s.ae dst (.ptr s.c cs.length 0 0) [(s.c,some (.arr cs.length 0 [cs.map D.f]))] (s.c+1)) Q:=by
 rw[zcN rfl];simp[O.res,oB,opv,zaC,zdd,Z79]
def e_st{n:Nat}{x v:A}:wpE pr L ((⟨dst,none,.st n x v⟩,mask)::l) s Q↔oB (zae s.tm x) fun p=>oB (zae s.tm v) fun d=>oB (zer n s.h.get p d) fun y=>y.1<s.c/\zda mask L [y.1] [y.1]/\wpE pr (L++[([y.1],[y.1])]) l (s.ae dst (.f .un) [(y.1,some y.2)] s.c) Q:=by
 rw[zcN rfl];cases hx:zae s.tm x with
 |none=>simp[O.res,hx,oB]
 |some p=>
  cases hv:zae s.tm v with
  |none=>simp[O.res,hx,hv,oB]
  |some d=>
   cases hs:zer n s.h.get p d with
   |none=>simp[O.res,hx,hv,oB,opv,hs]
   |some y=>obtain⟨id,ob⟩ :=y;simp[O.res,hx,hv,oB,opv,hs,zaC,zdd,Z79]
theorem zNL{f:Nat}{args:List A}:wpE pr L ((⟨dst,none,.callp f args⟩,mask)::l) s Q↔oB (zay (zae s.tm) args) fun ds=>oB (zdm s.h.get ds) fun y=>∃x,Ans pr f y.1 x/\zaC s.c (zat s.h.get y.2)=true/\
      zda mask L y.2 ((zat s.h.get y.2).map (·.1))/\wpE pr (L++[(y.2,(zat s.h.get y.2).map (·.1))]) l (s.ae dst x.d (zat s.h.get y.2) s.c) Q:=by
  simp only[wpE,zbv,zb7,O.res,Z47];cases hm:zay (zae s.tm) args with
  |none=>simp[oB]
  | some ds=>
    simp only[Z46,kindOf,oB];cases hf:zdm s.h.get ds with
    |none=>exact Iff.rfl
    | some y=>
      obtain⟨fs,rd⟩ :=y;simp only;refine exists_congr fun x=>and_congr_right fun _=> ?_
      simp only[zdg,zcZ];cases hw:zaC s.c (zat s.h.get rd)with
      |false=>simp
      |true=>simp only[Z89,cond_false,true_and];exact Iff.rfl
def asG:D->Option (Option Bool)
 | .f (.b b)=>some (some b)
 | .f .un=>some none
 |_=>none
def zJA(b:Bool):asG (.f (.b b))=some (some b):=rfl
def zDW:asG (.f .un)=some none:=rfl
def zi7{t:T D}{g:Nat}{w:Bool}:zb7 t (some (g,w))=((t.get g).bind asG).map (· ==some w):=by
  simp only[zb7];cases t.get g with
  |none=>rfl
  | some d=>
    cases d with
    | f x=>
      cases x with
      |b b=>cases b<;>cases w<;>rfl
      |_=>rfl
    |_=>rfl
def zAd{l:List Op}{g:Nat}{w:Bool}{o:O A}:wpO pr (⟨dst,some (g,w),o⟩ ::l) s Q↔oB ((s.tm.get g).bind asG) fun x=>if x==some w then wpO pr (⟨dst,none,o⟩ ::l) s Q else wpO pr l (s.se dst) Q:=by
 cases hx:(s.tm.get g).bind asG with
 |none=>
  have:zb7 s.tm (some (g,w))=none:=by rw[zi7,hx];rfl
  simp[wpO,zbv,this,oB]
 |some x=>
  have hw:zb7 s.tm (some (g,w))=some (x==some w):=by rw[zi7,hx];rfl
  simp only[oB];cases hb:x==some w with
  |true=>rw[hb]at hw;simp only[wpO,zbv,hw,Z60];exact Iff.rfl
  |false=>rw[hb]at hw;simp only[wpO,zbv,hw];exact Iff.rfl
def zy2{g:Nat}{w:Bool}{o:O A}:wpE pr L ((⟨dst,some (g,w),o⟩,mask)::l) s Q↔oB ((s.tm.get g).bind asG) fun x=>if x==some w then wpE pr L ((⟨dst,none,o⟩,mask)::l) s Q else wpE pr (L++[([],[])]) l (s.se dst) Q:=by
 cases hx:(s.tm.get g).bind asG with
 |none=>
  have:zb7 s.tm (some (g,w))=none:=by rw[zi7,hx];rfl
  simp[wpE,zbv,this,oB]
 |some x=>
  have hw:zb7 s.tm (some (g,w))=some (x==some w):=by rw[zi7,hx];rfl
  simp only[oB];cases hb:x==some w with
  |true=>rw[hb]at hw;simp only[wpE,zbv,hw,Z60];exact Iff.rfl
  |false=>
   rw[hb]at hw;simp only[wpE,zbv,hw];constructor
   .rintro⟨_,_,h⟩;exact h
   .intro h;exact⟨trivial,(zd8 _ _).2 trivial,h⟩
end
end Go.Vse
end
section
namespace Go.Vse
variable [Globs]
abbrev EnP:=Nat×List F×F
def zas(pr:Pr)(e:EnP):Prop:=Ans pr e.1 e.2.1 e.2.2
def zlT(pr:Pr):List EnP->Prop
 |[]=>True
 |e::l=>zas pr e/\zlT pr l
def zxi(f:Nat)(fs:List F)(l:List EnP):Option F:=
 @List.rec EnP (fun _=>Option F) none (fun p _ ih=>@Bool.rec (fun _=>Option F) ih (@Bool.rec (fun _=>Option F) ih (some p.2.2) (F.zdx p.2.1 fs)) (Nat.beq p.1 f)) l
def zCG(mask:Nat)(l:List EnP):Orc:=fun f fs=>
 @Bool.rec (fun _=>Option F) none (zxi f fs l) (Nat.beq (Nat.mod (Nat.div mask (Nat.pow 2 f)) 2) 1)
theorem zs8{pr:Pr}{f:Nat}{fs:List F}{x:F}:∀{l:List EnP},zlT pr l->zxi f fs l=some x->Ans pr f fs x
 |[],_,h=>by cases h
 |p::l,ha,h=>by
  have e:zxi f fs (p::l)= @Bool.rec (fun _=>Option F) (zxi f fs l) (@Bool.rec (fun _=>Option F) (zxi f fs l) (some p.2.2) (F.zdx p.2.1 fs)) (Nat.beq p.1 f):=rfl;rw[e]at h;cases hb:Nat.beq p.1 f with
  |false=>rw[hb]at h;exact zs8 ha.2 h
  |true=>
   rw[hb]at h;cases hq:F.zdx p.2.1 fs with
   |false=>rw[hq]at h;exact zs8 ha.2 h
   |true=>
    rw[hq]at h;cases h;rw[<-Z88 hb,<-F.zfj _ _ hq];exact ha.1
def zOw{pr:Pr}{mask:Nat}{l:List EnP}(ha:zlT pr l):zih pr (zCG mask l):=by
 intro f fs x h;unfold zCG at h;cases hb:Nat.beq (Nat.mod (Nat.div mask (Nat.pow 2 f)) 2) 1 with
 |false=>rw[hb]at h;cases h
 |true=>rw[hb]at h;exact zs8 ha h
def runE{pr:Pr}{mask n:Nat}{l:List EnP}{e:EnP}(ha:zlT pr l)(h:zC7 (zCG mask l) pr n e.1 e.2.1=some e.2.2):zas pr e:=
 zaF (zOw ha) h
end Go.Vse
end
section
namespace Go.Vse
variable [Globs]
section
variable (K:Nat->Option Nat)(spq:O A->Bool)
def okS(i:Nat):Bool:=match K i with
 |some _=>false
 |none=>true
def okD':Option Nat->Bool
 |some i=>okS K i
 |none=>true
end
def zHV{K:Nat->Option Nat}{i:Nat}(h:okS K i=true):K i=none:=by
 unfold okS at h;split at h
 .cases h
 .assumption
def Inn(K:Nat->Option Nat)(u u':Nat->D)(t t':T D):Prop:=
 ∀i k,K i=some k->t.get i=t'.get i\/(t.get i=some (u k)/\t'.get i=some (u' k))
structure Ag(K:Nat->Option Nat)(u u':Nat->D)(s s':St):Prop where
 out:∀n,K n=none->s.tm.get n=s'.tm.get n
 inn:Inn K u u' s.tm s'.tm
 h:s.h=s'.h
 c:s.c=s'.c
 lw:s.lw=s'.lw
 mx:s.mx=s'.mx
section
variable {K:Nat->Option Nat}{spq:O A->Bool}{u u':Nat->D}{cl:Cl}
def zoh{t:T D}{dst:Option Nat}{d:D}(n:Nat):(zcI t dst d).get n=if dst=some n then some d else t.get n:=by
 cases dst with
 |none=>simp[zcI]
 |some i=>
  simp only[zcI,T.zah,Z45]
  by_cases h:n=i
  .subst h;simp
  .rw[Z49 h,Z49 (fun e=>h e.symm)]
theorem Ag.put{s s':St}(a:Ag K u u' s s'){dst:Option Nat}(hd:okD' K dst=true)(d:D)(h:T Ob)(c lw mx:Nat):
  Ag K u u' {tm:=zcI s.tm dst d,h,c,lw,mx} {tm:=zcI s'.tm dst d,h,c,lw,mx}:=by
 refine⟨fun n hn=> ?_,fun n k hn=> ?_,rfl,rfl,rfl,rfl⟩
 .simp only[zoh];split
  .rfl
  .exact a.out n hn
 .simp only[zoh];have:dst≠some n:=by
   rintro rfl;have:=zHV hd;rw[hn]at this;cases this
  rw[Z49 this,Z49 this];exact a.inn n k hn
theorem Ag.zjE{s s':St}(a:Ag K u u' s s'){j k:Nat}(hj:K j=some k)(h:T Ob)(c lw mx:Nat):
  Ag K u u' {tm:=zcI s.tm (some j) (u k),h,c,lw,mx} {tm:=zcI s'.tm (some j) (u' k),h,c,lw,mx}:=by
 refine⟨fun n hn=> ?_,fun n m hn=> ?_,rfl,rfl,rfl,rfl⟩
 .simp only[zoh];have:¬(some j=some n):=by
   intro e;cases e;rw[hj]at hn;cases hn
  rw[Z49 this,Z49 this];exact a.out n hn
 .simp only[zoh]
  by_cases e:some j=some n
  .cases e;rw[hj]at hn;cases hn;simp
  .rw[Z49 e,Z49 e];exact a.inn n m hn
end
end Go.Vse
end
