/- The evaluator and its soundness. Conditions: none. -/
import Derived.Test.YthcehnaehljnfaaGreatDoorVd
import Derived.Test.YthcehnaehljnfaaGreatDoorVc
set_option linter.all false
noncomputable section
section
namespace Go.Vse
variable [Globs]
def Rt(tm:TM)(t:T D):Prop:=∀i,getM tm i=t.get i
def Rt.put{tm:TM}{t:T D}(h:Rt tm t)(dst:Option Nat)(d:D):Rt (zjq tm dst d) (zbR t dst d):=by
 intro i;cases dst with
 |none=>exact h i
 |some j=>
  have e:zjq tm (some j) d=znK tm j (some d):=rfl;rw[e,zsU,h i];simp only[zbR,T.zae]
def F.zC9(x:F):x.dk=x.d:=by cases x<;>rfl
section
variable {tm:TM}{t:T D}
def zaK(h:Rt tm t)(x:A):zdz tm x=zah t x:=by
 cases x with
 |t n=>exact h n
 |k x=>exact congrArg some (F.zC9 x)
 |x=>rfl
 |g cs=>rfl
theorem zk6(h:Rt tm t):∀l,znr tm l=zat (zah t) l
 |[]=>rfl
 |x::l=>by
  have e:znr tm (x::l)=oL (zdz tm x) fun y=>oL (znr tm l) fun m=>some (y::m):=rfl
  rw[e,zaK h,zk6 h l,zat];cases zah t x with
  |none=>rfl
  |some y=>cases zat (zah t) l<;>rfl
theorem zAT(h:Rt tm t):∀l,zDU tm l=zat (fun(p:Nat×Nat×A)=>do some (p.1,p.2.1,<-zah t p.2.2)) l
 |[]=>rfl
 |x::l=>by
  have e:zDU tm (x::l)=oL (zdz tm x.2.2) fun y=>oL (zDU tm l) fun m=>some ((x.1,x.2.1,y)::m):=rfl
  rw[e,zaK h,zAT h l,zat];cases zah t x.2.2 with
  |none=>rfl
  |some y=>
   simp only[Z47,Z46];cases zat _ l<;>rfl
theorem zsa(h:Rt tm t):∀l,zDW tm l=zat (fun(p:Nat×A)=>do some (p.1,<-zah t p.2)) l
 |[]=>rfl
 |x::l=>by
  have e:zDW tm (x::l)=oL (zdz tm x.2) fun y=>oL (zDW tm l) fun m=>some ((x.1,y)::m):=rfl
  rw[e,zaK h,zsa h l,zat];cases zah t x.2 with
  |none=>rfl
  |some y=>
   simp only[Z47,Z46];cases zat _ l<;>rfl
def zA9(h:Rt tm t)(x:Option A):zpp tm x=zcx (zah t) x:=by
 cases x with
 |none=>rfl
 |some x=>
  have e:zpp tm (some x)=oL (zdz tm x) fun y=>some (some y):=rfl
  rw[e,zaK h,zcx];cases zah t x<;>rfl
def zax{α:Type}(x:α)(k:α->Option Rs):oK (some x) k=k x:=rfl
def z2x(h:Rt tm t)(hp:Nat->Option Ob)(c:Nat)(o:O A)(hk:kcl o= .n):opK o tm hp c=(o.res (zah t)).bind (opv hp c):=by
 cases o with
 |mv x'=>
  show ra k_mv x' tm hp c=_;unfold ra;simp only[zaK h,O.res,Z47];cases zah t x' with
  |none=>rfl
  |some y=>
   simp only[zax,Z46];rfl
 |pick q' x' y'=>
  show zsk zHJ q' x' y' tm hp c=_;unfold zsk;simp only[zaK h,O.res,Z47];cases zah t q' with
  |none=>rfl
  |some y=>
   simp only[zax,Z46];cases zah t x' with
   |none=>rfl
   |some y=>
    simp only[zax,Z46];cases zah t y' with
    |none=>rfl
    |some y=>
     simp only[zax,Z46];rfl
 |new cs'=>
  rfl
 |box x'=>
  show ra zPF x' tm hp c=_;unfold ra;simp only[zaK h,O.res,Z47];cases zah t x' with
  |none=>rfl
  |some y=>
   simp only[zax,Z46];rfl
 |bld z' ps'=>
  show rp (zPE z') ps' tm hp c=_;unfold rp;simp only[zAT h,O.res,Z47];cases zat _ ps' with
  |none=>rfl
  |some y=>
   simp only[zax,Z46];rfl
 |bsl es' z' m' ps'=>
  show rq (zPN es' z' m') ps' tm hp c=_;unfold rq;simp only[zsa h,O.res,Z47];cases zat _ ps' with
  |none=>rfl
  |some y=>
   simp only[zax,Z46];rfl
 |bsf es' z' m' ps'=>
  show rq (zPH es' z' m') ps' tm hp c=_;unfold rq;simp only[zsa h,O.res,Z47];cases zat _ ps' with
  |none=>rfl
  |some y=>
   simp only[zax,Z46];rfl
 |ld g' n' x'=>
  show ra (k_ld g' n') x' tm hp c=_;unfold ra;simp only[zaK h,O.res,Z47];cases zah t x' with
  |none=>rfl
  |some y=>
   simp only[zax,Z46];rfl
 |st n' x' v'=>
  show raa (k_st n') x' v' tm hp c=_;unfold raa;simp only[zaK h,O.res,Z47];cases zah t x' with
  |none=>rfl
  |some y=>
   simp only[zax,Z46];cases zah t v' with
   |none=>rfl
   |some y=>
    simp only[zax,Z46];rfl
 |nck x'=>
  show ra zQi x' tm hp c=_;unfold ra;simp only[zaK h,O.res,Z47];cases zah t x' with
  |none=>rfl
  |some y=>
   simp only[zax,Z46];rfl
 |bin op' x' y'=>
  show raa (zPD op') x' y' tm hp c=_;unfold raa;simp only[zaK h,O.res,Z47];cases zah t x' with
  |none=>rfl
  |some y=>
   simp only[zax,Z46];cases zah t y' with
   |none=>rfl
   |some y=>
    simp only[zax,Z46];rfl
 |eqb ne' x' y'=>
  show raa (zP1 ne') x' y' tm hp c=_;unfold raa;simp only[zaK h,O.res,Z47];cases zah t x' with
  |none=>rfl
  |some y=>
   simp only[zax,Z46];cases zah t y' with
   |none=>rfl
   |some y=>
    simp only[zax,Z46];rfl
 |eqn kd' ne' x' y'=>
  show raa (zP2 kd' ne') x' y' tm hp c=_;unfold raa;simp only[zaK h,O.res,Z47];cases zah t x' with
  |none=>rfl
  |some y=>
   simp only[zax,Z46];cases zah t y' with
   |none=>rfl
   |some y=>
    simp only[zax,Z46];rfl
 |eqa ks' ne' x' y'=>
  show raa (zPW ks' ne') x' y' tm hp c=_;unfold raa;simp only[zaK h,O.res,Z47];cases zah t x' with
  |none=>rfl
  |some y=>
   simp only[zax,Z46];cases zah t y' with
   |none=>rfl
   |some y=>
    simp only[zax,Z46];rfl
 |un op' x'=>
  show ra (k_un op') x' tm hp c=_;unfold ra;simp only[zaK h,O.res,Z47];cases zah t x' with
  |none=>rfl
  |some y=>
   simp only[zax,Z46];rfl
 |cvi k' x'=>
  show ra (zPU k') x' tm hp c=_;unfold ra;simp only[zaK h,O.res,Z47];cases zah t x' with
  |none=>rfl
  |some y=>
   simp only[zax,Z46];rfl
 |cvs x'=>
  show ra zPV x' tm hp c=_;unfold ra;simp only[zaK h,O.res,Z47];cases zah t x' with
  |none=>rfl
  |some y=>
   simp only[zax,Z46];rfl
 |s2b x'=>
  show ra zQo x' tm hp c=_;unfold ra;simp only[zaK h,O.res,Z47];cases zah t x' with
  |none=>rfl
  |some y=>
   simp only[zax,Z46];rfl
 |b2s x'=>
  show ra zPC x' tm hp c=_;unfold ra;simp only[zaK h,O.res,Z47];cases zah t x' with
  |none=>rfl
  |some y=>
   simp only[zax,Z46];rfl
 |mkf f' a' b'=>
  show rll (zQc f') a' b' tm hp c=_;unfold rll;simp only[zk6 h,O.res,Z47];cases zat (zah t) a' with
  |none=>rfl
  |some y=>
   simp only[zax,Z46];cases zat (zah t) b' with
   |none=>rfl
   |some y=>
    simp only[zax,Z46];rfl
 |mks es' byt' z' l' m'=>
  show raa (zQd es' byt' z') l' m' tm hp c=_;unfold raa;simp only[zaK h,O.res,Z47];cases zah t l' with
  |none=>rfl
  |some y=>
   simp only[zax,Z46];cases zah t m' with
   |none=>rfl
   |some y=>
    simp only[zax,Z46];rfl
 |sls x' lo' hi'=>
  show zKj zQt x' lo' hi' tm hp c=_;unfold zKj;simp only[zaK h,zA9 h,O.res,Z47];cases zah t x' with
  |none=>rfl
  |some y=>
   simp only[zax,Z46];cases zcx (zah t) lo' with
   |none=>rfl
   |some y=>
    simp only[zax,Z46];cases zcx (zah t) hi' with
    |none=>rfl
    |some y=>
     simp only[zax,Z46];rfl
 |slc es' x' lo' hi' mx'=>
  show zEk (zQs es') x' lo' hi' mx' tm hp c=_;unfold zEk;simp only[zaK h,zA9 h,O.res,Z47];cases zah t x' with
  |none=>rfl
  |some y=>
   simp only[zax,Z46];cases zcx (zah t) lo' with
   |none=>rfl
   |some y=>
    simp only[zax,Z46];cases zcx (zah t) hi' with
    |none=>rfl
    |some y=>
     simp only[zax,Z46];cases zcx (zah t) mx' with
     |none=>rfl
     |some y=>
      simp only[zax,Z46];rfl
 |fa off' x'=>
  show ra (k_fa off') x' tm hp c=_;unfold ra;simp only[zaK h,O.res,Z47];cases zah t x' with
  |none=>rfl
  |some y=>
   simp only[zax,Z46];rfl
 |fld g' off' n' x'=>
  show ra (zP4 g' off' n') x' tm hp c=_;unfold ra;simp only[zaK h,O.res,Z47];cases zah t x' with
  |none=>rfl
  |some y=>
   simp only[zax,Z46];rfl
 |ia es' x' i'=>
  show raa (k_ia es') x' i' tm hp c=_;unfold raa;simp only[zaK h,O.res,Z47];cases zah t x' with
  |none=>rfl
  |some y=>
   simp only[zax,Z46];cases zah t i' with
   |none=>rfl
   |some y=>
    simp only[zax,Z46];rfl
 |iaa es' m' x' i'=>
  show raa (zP5 es' m') x' i' tm hp c=_;unfold raa;simp only[zaK h,O.res,Z47];cases zah t x' with
  |none=>rfl
  |some y=>
   simp only[zax,Z46];cases zah t i' with
   |none=>rfl
   |some y=>
    simp only[zax,Z46];rfl
 |ixs x' i'=>
  show raa zP7 x' i' tm hp c=_;unfold raa;simp only[zaK h,O.res,Z47];cases zah t x' with
  |none=>rfl
  |some y=>
   simp only[zax,Z46];cases zah t i' with
   |none=>rfl
   |some y=>
    simp only[zax,Z46];rfl
 |ixa g' es' m' x' i'=>
  show raa (zP6 g' es' m') x' i' tm hp c=_;unfold raa;simp only[zaK h,O.res,Z47];cases zah t x' with
  |none=>rfl
  |some y=>
   simp only[zax,Z46];cases zah t i' with
   |none=>rfl
   |some y=>
    simp only[zax,Z46];rfl
 |ext x' i'=>
  show ra (zP3 i') x' tm hp c=_;unfold ra;simp only[zaK h,O.res,Z47];cases zah t x' with
  |none=>rfl
  |some y=>
   simp only[zax,Z46];rfl
 |app es' byt' s' x'=>
  show raa (zPw es' byt') s' x' tm hp c=_;unfold raa;simp only[zaK h,O.res,Z47];cases zah t s' with
  |none=>rfl
  |some y=>
   simp only[zax,Z46];cases zah t x' with
   |none=>rfl
   |some y=>
    simp only[zax,Z46];rfl
 |apz es' byt' z' s' n'=>
  show raa (zPx es' byt' z') s' n' tm hp c=_;unfold raa;simp only[zaK h,O.res,Z47];cases zah t s' with
  |none=>rfl
  |some y=>
   simp only[zax,Z46];cases zah t n' with
   |none=>rfl
   |some y=>
    simp only[zax,Z46];rfl
 |cpy es' d' s'=>
  show raa (zPT es') d' s' tm hp c=_;unfold raa;simp only[zaK h,O.res,Z47];cases zah t d' with
  |none=>rfl
  |some y=>
   simp only[zax,Z46];cases zah t s' with
   |none=>rfl
   |some y=>
    simp only[zax,Z46];rfl
 |clr es' z' s'=>
  show ra (zPQ es' z') s' tm hp c=_;unfold ra;simp only[zaK h,O.res,Z47];cases zah t s' with
  |none=>rfl
  |some y=>
   simp only[zax,Z46];rfl
 |len x'=>
  show ra zP8 x' tm hp c=_;unfold ra;simp only[zaK h,O.res,Z47];cases zah t x' with
  |none=>rfl
  |some y=>
   simp only[zax,Z46];rfl
 |lns x'=>
  show ra zQa x' tm hp c=_;unfold ra;simp only[zaK h,O.res,Z47];cases zah t x' with
  |none=>rfl
  |some y=>
   simp only[zax,Z46];rfl
 |mlen x'=>
  show ra zHI x' tm hp c=_;unfold ra;simp only[zaK h,O.res,Z47];cases zah t x' with
  |none=>rfl
  |some y=>
   simp only[zax,Z46];rfl
 |cap x'=>
  show ra zPO x' tm hp c=_;unfold ra;simp only[zaK h,O.res,Z47];cases zah t x' with
  |none=>rfl
  |some y=>
   simp only[zax,Z46];rfl
 |mm mx' x' y'=>
  show raa (k_mm mx') x' y' tm hp c=_;unfold raa;simp only[zaK h,O.res,Z47];cases zah t x' with
  |none=>rfl
  |some y=>
   simp only[zax,Z46];cases zah t y' with
   |none=>rfl
   |some y=>
    simp only[zax,Z46];rfl
 |mmk=>
  rfl
 |mup kd' m' k' v'=>
  show zsk (zQg kd') m' k' v' tm hp c=_;unfold zsk;simp only[zaK h,O.res,Z47];cases zah t m' with
  |none=>rfl
  |some y=>
   simp only[zax,Z46];cases zah t k' with
   |none=>rfl
   |some y=>
    simp only[zax,Z46];cases zah t v' with
    |none=>rfl
    |some y=>
     simp only[zax,Z46];rfl
 |mlk kd' z' ok' m' k'=>
  show raa (zQf kd' z' ok') m' k' tm hp c=_;unfold raa;simp only[zaK h,O.res,Z47];cases zah t m' with
  |none=>rfl
  |some y=>
   simp only[zax,Z46];cases zah t k' with
   |none=>rfl
   |some y=>
    simp only[zax,Z46];rfl
 |callp _ _=>cases hk
 |call _ _=>cases hk
 |callv _ _=>cases hk
def zuv{f:A->Option D}{o:O A}{o':O D}(hk:kcl o= .n)(hr:o.res f=some o'):kindOf o'= .n:=by
 cases o with
 |mv _=>
  simp only[O.res]at hr;obtain⟨_,_,hr⟩ :=zaj hr;cases hr;rfl
 |pick _ _ _=>
  simp only[O.res]at hr;obtain⟨_,_,hr⟩ :=zaj hr;obtain⟨_,_,hr⟩ :=zaj hr;obtain⟨_,_,hr⟩ :=zaj hr;cases hr;rfl
 |new _=>
  simp only[O.res]at hr;cases hr;rfl
 |box _=>
  simp only[O.res]at hr;obtain⟨_,_,hr⟩ :=zaj hr;cases hr;rfl
 |bld _ _=>
  simp only[O.res]at hr;obtain⟨_,_,hr⟩ :=zaj hr;cases hr;rfl
 |bsl _ _ _ _=>
  simp only[O.res]at hr;obtain⟨_,_,hr⟩ :=zaj hr;cases hr;rfl
 |bsf _ _ _ _=>
  simp only[O.res]at hr;obtain⟨_,_,hr⟩ :=zaj hr;cases hr;rfl
 |ld _ _ _=>
  simp only[O.res]at hr;obtain⟨_,_,hr⟩ :=zaj hr;cases hr;rfl
 |st _ _ _=>
  simp only[O.res]at hr;obtain⟨_,_,hr⟩ :=zaj hr;obtain⟨_,_,hr⟩ :=zaj hr;cases hr;rfl
 |nck _=>
  simp only[O.res]at hr;obtain⟨_,_,hr⟩ :=zaj hr;cases hr;rfl
 |bin _ _ _=>
  simp only[O.res]at hr;obtain⟨_,_,hr⟩ :=zaj hr;obtain⟨_,_,hr⟩ :=zaj hr;cases hr;rfl
 |eqb _ _ _=>
  simp only[O.res]at hr;obtain⟨_,_,hr⟩ :=zaj hr;obtain⟨_,_,hr⟩ :=zaj hr;cases hr;rfl
 |eqn _ _ _ _=>
  simp only[O.res]at hr;obtain⟨_,_,hr⟩ :=zaj hr;obtain⟨_,_,hr⟩ :=zaj hr;cases hr;rfl
 |eqa _ _ _ _=>
  simp only[O.res]at hr;obtain⟨_,_,hr⟩ :=zaj hr;obtain⟨_,_,hr⟩ :=zaj hr;cases hr;rfl
 |un _ _=>
  simp only[O.res]at hr;obtain⟨_,_,hr⟩ :=zaj hr;cases hr;rfl
 |cvi _ _=>
  simp only[O.res]at hr;obtain⟨_,_,hr⟩ :=zaj hr;cases hr;rfl
 |cvs _=>
  simp only[O.res]at hr;obtain⟨_,_,hr⟩ :=zaj hr;cases hr;rfl
 |s2b _=>
  simp only[O.res]at hr;obtain⟨_,_,hr⟩ :=zaj hr;cases hr;rfl
 |b2s _=>
  simp only[O.res]at hr;obtain⟨_,_,hr⟩ :=zaj hr;cases hr;rfl
 |mkf _ _ _=>
  simp only[O.res]at hr;obtain⟨_,_,hr⟩ :=zaj hr;obtain⟨_,_,hr⟩ :=zaj hr;cases hr;rfl
 |mks _ _ _ _ _=>
  simp only[O.res]at hr;obtain⟨_,_,hr⟩ :=zaj hr;obtain⟨_,_,hr⟩ :=zaj hr;cases hr;rfl
 |sls _ _ _=>
  simp only[O.res]at hr;obtain⟨_,_,hr⟩ :=zaj hr;obtain⟨_,_,hr⟩ :=zaj hr;obtain⟨_,_,hr⟩ :=zaj hr;cases hr;rfl
 |slc _ _ _ _ _=>
  simp only[O.res]at hr;obtain⟨_,_,hr⟩ :=zaj hr;obtain⟨_,_,hr⟩ :=zaj hr;obtain⟨_,_,hr⟩ :=zaj hr;obtain⟨_,_,hr⟩ :=zaj hr;cases hr;rfl
 |fa _ _=>
  simp only[O.res]at hr;obtain⟨_,_,hr⟩ :=zaj hr;cases hr;rfl
 |fld _ _ _ _=>
  simp only[O.res]at hr;obtain⟨_,_,hr⟩ :=zaj hr;cases hr;rfl
 |ia _ _ _=>
  simp only[O.res]at hr;obtain⟨_,_,hr⟩ :=zaj hr;obtain⟨_,_,hr⟩ :=zaj hr;cases hr;rfl
 |iaa _ _ _ _=>
  simp only[O.res]at hr;obtain⟨_,_,hr⟩ :=zaj hr;obtain⟨_,_,hr⟩ :=zaj hr;cases hr;rfl
 |ixs _ _=>
  simp only[O.res]at hr;obtain⟨_,_,hr⟩ :=zaj hr;obtain⟨_,_,hr⟩ :=zaj hr;cases hr;rfl
 |ixa _ _ _ _ _=>
  simp only[O.res]at hr;obtain⟨_,_,hr⟩ :=zaj hr;obtain⟨_,_,hr⟩ :=zaj hr;cases hr;rfl
 |ext _ _=>
  simp only[O.res]at hr;obtain⟨_,_,hr⟩ :=zaj hr;cases hr;rfl
 |app _ _ _ _=>
  simp only[O.res]at hr;obtain⟨_,_,hr⟩ :=zaj hr;obtain⟨_,_,hr⟩ :=zaj hr;cases hr;rfl
 |apz _ _ _ _ _=>
  simp only[O.res]at hr;obtain⟨_,_,hr⟩ :=zaj hr;obtain⟨_,_,hr⟩ :=zaj hr;cases hr;rfl
 |cpy _ _ _=>
  simp only[O.res]at hr;obtain⟨_,_,hr⟩ :=zaj hr;obtain⟨_,_,hr⟩ :=zaj hr;cases hr;rfl
 |clr _ _ _=>
  simp only[O.res]at hr;obtain⟨_,_,hr⟩ :=zaj hr;cases hr;rfl
 |len _=>
  simp only[O.res]at hr;obtain⟨_,_,hr⟩ :=zaj hr;cases hr;rfl
 |lns _=>
  simp only[O.res]at hr;obtain⟨_,_,hr⟩ :=zaj hr;cases hr;rfl
 |mlen _=>
  simp only[O.res]at hr;obtain⟨_,_,hr⟩ :=zaj hr;cases hr;rfl
 |cap _=>
  simp only[O.res]at hr;obtain⟨_,_,hr⟩ :=zaj hr;cases hr;rfl
 |mm _ _ _=>
  simp only[O.res]at hr;obtain⟨_,_,hr⟩ :=zaj hr;obtain⟨_,_,hr⟩ :=zaj hr;cases hr;rfl
 |mmk=>
  simp only[O.res]at hr;cases hr;rfl
 |mup _ _ _ _=>
  simp only[O.res]at hr;obtain⟨_,_,hr⟩ :=zaj hr;obtain⟨_,_,hr⟩ :=zaj hr;obtain⟨_,_,hr⟩ :=zaj hr;cases hr;rfl
 |mlk _ _ _ _ _=>
  simp only[O.res]at hr;obtain⟨_,_,hr⟩ :=zaj hr;obtain⟨_,_,hr⟩ :=zaj hr;cases hr;rfl
 |callp _ _=>cases hk
 |call _ _=>cases hk
 |callv _ _=>cases hk
end
end Go.Vse
end
section
namespace Go.Vse
variable [Globs]
def zni{α:Type}(t:T α):t.gk=t.get:=funext (T.zra t)
structure RS(k:SK)(s:St):Prop where
 tm:Rt k.tm s.tm
 h:k.h=s.h
 c:k.c=s.c
 lw:k.lw=s.lw
 mx:k.mx=s.mx
theorem zsA:∀(l:List (Nat×Option Ob)) (h:T Ob),znT h l=wrT h l
 |[],_=>rfl
 |(id,some ob)::l,h=>by rw[znT,wrT,zsA l,T.zlZ];rfl
 |(id,none)::l,h=>by rw[znT,wrT,zsA l,T.zlZ];rfl
theorem zty:∀(l:List (Nat×Option Ob)) (m:Nat),znS m l=zdq m l
 |[],_=>rfl
 |(id,o)::l,m=>by
  rw[znS,zdq,zty l]
  by_cases hlt:id<m
  .rw[Z51 hlt,show Nat.blt id m=true by simpa [Z79]using hlt]
  .rw[Z49 hlt,show Nat.blt id m=false by
    cases hc:Nat.blt id m with
    |false=>rfl
    |true=>exact absurd (by simpa [Z79]using hc) hlt]
def zSV(a b:Nat):zkw a b=Nat.max a b:=by
 unfold zkw
 by_cases hle:a<=b
 .rw[show Nat.ble a b=true by simpa [Z150]using hle];exact (Z162 hle).symm
 .rw[show Nat.ble a b=false by
   cases hc:Nat.ble a b with
   |false=>rfl
   |true=>exact absurd (by simpa [Z150]using hc) hle]
  exact (Z169 (Z110 (Z163 hle))).symm
def zHr(tm:TM)(h:T Ob)(c lw mx:Nat)(p:Fp):fin tm h c lw mx p=some (⟨tm,h,c,lw,Nat.max mx (c+1)⟩,p):=by
 unfold fin
 by_cases hle:mx<=c+1
 .rw[show Nat.ble mx (Nat.succ c)=true by simpa [Z150]using hle,show Nat.max mx (c+1)=c+1 from Z162 hle]
 .rw[show Nat.ble mx (Nat.succ c)=false by
   cases hc:Nat.ble mx (Nat.succ c)with
   |false=>rfl
   |true=>exact absurd (by simpa [Z150]using hc) hle,show Nat.max mx (c+1)=mx from Z169 (by omega)]
def zSn(tm:TM)(h:T Ob)(c lw mx:Nat)(p:Fp):fin2 tm h c lw mx p=some (⟨tm,h,c,lw,Nat.max mx (c+1)⟩,p):=by
 unfold fin2;rw[show Nat.ble lw lw=true by simp[Z150],zHr]
section
variable {tm:TM}{t:T D}
theorem zBC(ht:Rt tm t){h:T Ob}{c lw mx:Nat}{dst:Option Nat}{r:Option Rs}{k:SK}{p:Fp}(hs:zpC tm h c lw mx dst r=some (k,p)):
  ∃s,zcc ⟨t,h,c,lw,mx⟩ dst r=some (s,p)/\RS k s:=by
 cases r with
 |none=>cases hs
 |some r=>
  obtain⟨d,rd,wr,c'⟩ :=r;cases wr with
  |nil=>
   have e:zpC tm h c lw mx dst (some ⟨d,rd,[],c'⟩)=fin (zjq tm dst d) h c' lw mx ⟨false,rd,[],c,Nat.succ c',h,h⟩ :=rfl;rw[e,zHr]at hs;cases hs;exact⟨_,rfl,⟨ht.put dst d,rfl,rfl,rfl,rfl⟩⟩
  |cons x wr=>
   have e:zpC tm h c lw mx dst (some ⟨d,rd,x::wr,c'⟩)= @Bool.rec (fun _=>Option (SK×Fp)) none
    (fin2 (zjq tm dst d) (znT h (x::wr)) c' (znS lw (x::wr)) mx ⟨false,rd,(x::wr).map (·.1),c,Nat.succ c',h,znT h (x::wr)⟩) (zau c' (x::wr)):=rfl
   rw[e]at hs;cases hw:zau c' (x::wr)with
   |false=>rw[hw]at hs;cases hs
   |true=>
    rw[hw]at hs;simp only[zSn,zsA,zty,Z45,Z66]at hs;obtain⟨rfl,rfl⟩ :=hs;refine⟨⟨zbR t dst d,wrT h (x::wr),c',zdq lw (x::wr),Nat.max mx (c'+1)⟩,?_,⟨ht.put dst d,rfl,rfl,rfl,rfl⟩⟩;simp only[zcc,hw];rfl
theorem zBD(ht:Rt tm t){h:T Ob}{c lw mx:Nat}{dst:Option Nat}{q:Option CR}{k:SK}{p:Fp}(hs:zpF tm h c lw mx dst q=some (k,p)):
  ∃s,zeN ⟨t,h,c,lw,mx⟩ dst q=some (s,p)/\RS k s:=by
 cases q with
 |none=>cases hs
 |some q=>
  obtain⟨d,h',c',lw',mx'⟩ :=q;have e:zpF tm h c lw mx dst (some ⟨d,h',c',lw',mx'⟩)= @Bool.rec (fun _=>Option (SK×Fp)) none
   (some (⟨zjq tm dst d,h',c',@Bool.rec (fun _=>Nat) lw' lw (Nat.ble lw lw'),zkw mx mx'⟩,⟨true,[],[],c,mx',h,h'⟩)) (Nat.ble (zkw mx mx') (zkw mx mx')):=rfl
  rw[e,show Nat.ble (zkw mx mx') (zkw mx mx')=true by simp[Z150]]at hs;cases hs;refine⟨_,rfl,⟨ht.put dst d,rfl,rfl,?_,zSV _ _⟩⟩;simp only
  by_cases hle:lw<=lw'
  .rw[show Nat.ble lw lw'=true by simpa [Z150]using hle];exact (Z73 hle).symm
  .rw[show Nat.ble lw lw'=false by
    cases hc:Nat.ble lw lw' with
    |false=>rfl
    |true=>exact absurd (by simpa [Z150]using hc) hle]
   exact (Z202 (Z110 (Z163 hle))).symm
def zLp(ht:Rt tm t)(g:Option (Nat×Bool)):zEz tm g=zbN t g:=by
 cases g with
 |none=>rfl
 |some p=>
  obtain⟨s,w⟩ :=p;have e:zEz tm (some (s,w))=oL (getM tm s) (zuJ w):=rfl;rw[e,ht s];simp only[zbN];cases t.get s with
  |none=>rfl
  |some d=>
   have e2:oL (some d) (zuJ w)=zuJ w d:=rfl;rw[e2];cases d with
   |f x=>
    cases x with
    |b x=>cases x<;>cases w<;>rfl
    |_=>rfl
   |_=>rfl
end
def EV(p:Nat->Prop):Prop:=∃N,∀n,N<=n->p n
def EV.and{p q:Nat->Prop}(hp:EV p)(hq:EV q):EV fun n=>p n/\q n:=by
 obtain⟨N,h1⟩ :=hp;obtain⟨M,h2⟩ :=hq;exact⟨N+M,fun n hn=>⟨h1 n (by omega),h2 n (by omega)⟩⟩
def EV.mono{p q:Nat->Prop}(hp:EV p)(h:∀n,p n->q n):EV q:=hp.imp fun _ h1 n hn=>h n (h1 n hn)
def EV.all{p:Nat->Prop}(h:∀n,p n):EV p:=⟨0,fun n _=>h n⟩
def EV.ge(N:Nat):EV fun n=>N<=n:=⟨N,fun _ h=>h⟩
def Con(pr:Pr)(f:Nat)(args:List D)(h:T Ob)(c:Nat)(q:CR):Prop:=EV fun n=>zb8 pr n f args h c=some q
def Ans(pr:Pr)(f:Nat)(fs:List F)(x:F):Prop:=∃q rd,Con pr f (F.dL fs) .e 0 q/\frz q.h.get 12 q.d=some (x,rd)
section
variable {pr:Pr}{orc:Orc}{clK:Cl}
def zh0(pr:Pr)(orc:Orc):Prop:=∀f fs x,orc f fs=some x->Ans pr f fs x
def zlb(pr:Pr)(clK:Cl):Prop:=∀f args h c q,clK f args h c=some q->Con pr f args h c q
theorem zGZ(ho:zh0 pr orc)(hc:zlb pr clK){h:Nat->Option Ob}{c f:Nat}{args:List D}{r:Rs}(hs:zm5 orc clK h c f args=some r):
  EV fun n=>zeh (zb8 pr n) h c f args=some r:=by
 unfold zm5 at hs;split at hs
 .cases hs
 .rename_i fs rd hfz;split at hs
  .rename_i x hx;obtain⟨q,rd',h1,h2⟩ :=ho f fs x hx;refine h1.mono fun n hn=> ?_
   simp only[zeh,hfz,hn,h2];rw[<-hs,F.zC9]
  .split at hs
   .cases hs
   .rename_i q hq;split at hs
    .cases hs
    .rename_i x rd' hx;refine (hc _ _ _ _ _ hq).mono fun n hn=> ?_
     rw[zni]at hx;simp only[zeh,hfz,hn,hx];rw[<-hs,F.zC9]
theorem zLc(ho:zh0 pr orc)(hc:zlb pr clK){tm:TM}{t:T D}(ht:Rt tm t){o:O A}{gd:Option (Nat×Bool)}{dst:Option Nat}{h:T Ob}{c lw mx:Nat}{k:SK}{p:Fp}
  (hs:zuC orc clK o dst tm h c lw mx=some (k,p)):∃s,RS k s/\EV fun n=>step (zb8 pr n) ⟨t,h,c,lw,mx⟩ ⟨dst,gd,o⟩ =some (s,p):=by
 unfold zuC at hs;cases hk:kcl o with
 |p f args=>
  have ho':o= .callp f args:=by cases o<;>simp[kcl]at hk;obtain⟨rfl,rfl⟩ :=hk;rfl
  subst ho';rw[hk]at hs;simp only[zk6 ht]at hs;cases hm:zat (zah t) args with
  |none=>rw[hm]at hs;cases hs
  |some ds=>
   rw[hm]at hs;have hs':zpC tm h c lw mx dst (zm5 orc clK h.gk c f ds)=some (k,p):=hs;cases hr:zm5 orc clK h.gk c f ds with
   |none=>rw[hr]at hs';cases hs'
   |some r=>
    rw[hr]at hs';obtain⟨s,h1,h2⟩ :=zBC ht hs';refine⟨s,h2,(zGZ ho hc hr).mono fun n hn=> ?_⟩;simp only[step,O.res,Z47,hm,Z46,kindOf];rw[zni]at hn;rw[hn];exact h1
 |q f args=>
  have ho':o= .call f args:=by cases o<;>simp[kcl]at hk;obtain⟨rfl,rfl⟩ :=hk;rfl
  subst ho';rw[hk]at hs;simp only[zk6 ht]at hs;cases hm:zat (zah t) args with
  |none=>rw[hm]at hs;cases hs
  |some ds=>
   rw[hm]at hs;have hs':zpF tm h c lw mx dst (clK f ds h c)=some (k,p):=hs;cases hr:clK f ds h c with
   |none=>rw[hr]at hs';cases hs'
   |some r=>
    rw[hr]at hs';obtain⟨s,h1,h2⟩ :=zBD ht hs';refine⟨s,h2,(hc _ _ _ _ _ hr).mono fun n hn=> ?_⟩;simp only[step,O.res,Z47,hm,Z46,kindOf];rw[hn];exact h1
 |v x args=>
  have ho':o= .callv x args:=by cases o<;>simp[kcl]at hk;obtain⟨rfl,rfl⟩ :=hk;rfl
  subst ho';rw[hk]at hs;simp only[zk6 ht,zaK ht]at hs;cases hx:zah t x with
  |none=>rw[hx]at hs;cases hs
  |some d=>
   rw[hx]at hs;cases hm:zat (zah t) args with
   |none=>rw[hm]at hs;cases hs
   |some ds=>
    rw[hm]at hs;have hs':zyk clK dst ds tm h c lw mx d=some (k,p):=hs;have main:∀f as,kindOf (.callv d ds)= .q f as->zpF tm h c lw mx dst (clK f as h c)=some (k,p)->
      ∃s,RS k s/\EV fun n=>step (zb8 pr n) ⟨t,h,c,lw,mx⟩ ⟨dst,gd,.callv x args⟩ =some (s,p):=by
     intro f as hkd hs';cases hr:clK f as h c with
     |none=>rw[hr]at hs';cases hs'
     |some r=>
      rw[hr]at hs';obtain⟨s,h1,h2⟩ :=zBD ht hs';refine⟨s,h2,(hc _ _ _ _ _ hr).mono fun n hn=> ?_⟩;simp only[step,O.res,Z47,hm,hx,Z46,hkd];rw[hn];exact h1
    unfold zyk at hs';split at hs'
    .exact main _ _ rfl hs'
    .exact main _ _ rfl hs'
    .cases hs'
 |n=>
  rw[hk]at hs;have hs':zpC tm h c lw mx dst (opK o tm h.gk c)=some (k,p):=hs;rw[z2x ht _ _ _ hk]at hs';cases hr:o.res (zah t)with
  |none=>rw[hr]at hs';cases hs'
  |some o'=>
   rw[hr]at hs';simp only[Z46]at hs';obtain⟨s,h1,h2⟩ :=zBC ht hs';refine⟨s,h2,EV.all fun n=> ?_⟩;simp only[step,hr,zuv hk hr];rw[zni]at h1;exact h1
theorem zA7(ho:zh0 pr orc)(hc:zlb pr clK){k k':SK}{s:St}(hr:RS k s){o:Op}{p:Fp}(hs:zpm orc clK k o=some (k',p)):
  ∃s',RS k' s'/\EV fun n=>zdx (zb8 pr n) s o=some (s',p):=by
 obtain⟨tm,h,c,lw,mx⟩ :=k;obtain⟨t,h',c',lw',mx'⟩ :=s;obtain⟨ht,e1,e2,e3,e4⟩ :=hr;simp only at ht e1 e2 e3 e4;subst e1 e2 e3 e4;obtain⟨dst,gd,o⟩ :=o;have hs':zJU orc clK dst gd o tm h c lw mx=some (k',p):=hs;unfold zJU at hs';rw[zLp ht]at hs';cases hw:zbN t gd with
 |none=>rw[hw]at hs';cases hs'
 |some b=>
  rw[hw]at hs';cases b with
  |true=>
   obtain⟨s,h1,h2⟩ :=zLc (gd:=gd) ho hc ht (show zuC orc clK o dst tm h c lw mx=some (k',p)from hs');refine⟨s,h1,h2.mono fun n hn=> ?_⟩;simp only[zdx,hw];exact hn
  |false=>
   have hs2:some (SK.mk (zjq tm dst (.f .un)) h c lw mx,Fp.mk false [] [] c c h h)=some (k',p):=hs';cases hs2;refine⟨⟨zbR t dst (.f .un),h,c,lw,mx⟩,⟨ht.put dst (.f .un),rfl,rfl,rfl,rfl⟩,EV.all fun n=> ?_⟩;simp only[zdx,hw]
theorem zBl(ho:zh0 pr orc)(hc:zlb pr clK):∀(l:List Op) (k k':SK) (s:St),RS k s->runK orc clK l k=some k'->∃s',RS k' s'/\EV fun n=>zeA (zb8 pr n) l s=some s'
 |[],k,k',s,hr,hs=>by
  cases hs;exact⟨s,hr,EV.all fun n=>rfl⟩
 |o::l,k,k',s,hr,hs=>by
  have e:runK orc clK (o::l) k= @Option.rec (SK×Fp) (fun _=>Option SK) none (fun p=>@Prod.rec SK Fp (fun _=>Option SK) (fun s' _=>runK orc clK l s') p) (zpm orc clK k o):=rfl;rw[e]at hs;cases h1:zpm orc clK k o with
  |none=>rw[h1]at hs;cases hs
  |some y=>
   obtain⟨k1,p⟩ :=y;rw[h1]at hs;obtain⟨s1,r1,ev1⟩ :=zA7 ho hc hr h1;obtain⟨s2,r2,ev2⟩ :=zBl ho hc l k1 k' s1 r1 hs;refine⟨s2,r2,(ev1.and ev2).mono fun n ⟨a,b⟩ => ?_⟩;simp only[zeA,a];exact b
def zoF{p q:Fp}(h:p.zj6=true):q.apart p=true/\p.apart q=true:=by
 obtain⟨all,rd,wr,lo,hi,h1,h2⟩ :=p;obtain⟨all',rd',wr',lo',hi',h1',h2'⟩ :=q;have e:Fp.zj6 ⟨all,rd,wr,lo,hi,h1,h2⟩ = @Bool.rec (fun _=>Bool) (@List.rec Nat (fun _=>Bool) (@List.rec Nat (fun _=>Bool) true (fun _ _ _=>false) wr) (fun _ _ _=>false) rd) false all:=rfl;rw[e]at h;cases all with
 |true=>cases h
 |false=>
  cases rd with
  |cons _ _=>cases h
  |nil=>
   cases wr with
   |cons _ _=>cases h
   |nil=>cases all'<;>simp[Fp.apart]
inductive Imp:List Fp->List (Nat×Fp)->Prop where
 |nil:Imp [] []
 |skip {l m p}:Imp l m->p.zj6=true->Imp (l++[p]) m
 |keep {l m p}:Imp l m->Imp (l++[p]) ((l.length,p)::m)
theorem zg7(p:Fp)(mask:Nat):∀(l:List Fp) (q:Fp) (i:Nat),zbX p mask (l++[q]) i=(zbX p mask l i&&(!mask.testBit (i+l.length)||q.apart p))
 |[],q,i=>by simp[zbX]
 |x::l,q,i=>by
  simp only[Z29,zbX,zg7 p mask l q (i+1),Z23];rw[show i+1+l.length=i+(l.length+1) by omega,Z155]
def zGT{p:Fp}{mask:Nat}{l:List Fp}{m:List (Nat×Fp)}(hi:Imp l m):zij p mask m=true->zbX p mask l 0=true:=by
 induction hi with
 |nil=>intro _;rfl
 |skip _ hl ih=>
  intro h;rw[zg7,ih h,(zoF (q:=p) hl).2];simp
 | @keep l m q _ ih=>
  intro h;rw[zg7];unfold zij at h;have hb:mask.testBit l.length=Nat.beq (Nat.mod (Nat.div mask (Nat.pow 2 l.length)) 2) 1:=by
   rw[Z138];have:∀x:Nat,decide (x=1)=Nat.beq x 1:=fun x=>by
    cases hx:Nat.beq x 1 with
    |true=>simpa using Z88 hx
    |false=>simpa using Nat.ne_of_beq_eq_false hx
   exact this _
  rw[Z25,hb];split at h
  .rename_i hbt;split at h
   .rename_i ha;rw[ih h,ha];simp
   .cases h
  .rename_i hbf;rw[ih h,hbf];simp
theorem zsV{p:Fp}(h:p.zj6=true)(mask:Nat):∀(l:List Fp) (i:Nat),zbX p mask l i=true
 |[],_=>rfl
 |q::l,i=>by simp[zbX,(zoF (q:=q) h).1,zsV h mask l (i+1)]
theorem zG9(ho:zh0 pr orc)(hc:zlb pr clK):∀(l:List (Op×Nat)) (fps:List Fp) (m:List (Nat×Fp)) (k k':SK) (s:St),Imp fps m->RS k s->
  drK orc clK l fps.length m k=some k'->∃s',RS k' s'/\EV fun n=>zez (zb8 pr n) l fps s=some s'
 |[],fps,m,k,k',s,_,hr,hs=>by
  cases hs;exact⟨s,hr,EV.all fun n=>rfl⟩
 |(o,mask)::l,fps,m,k,k',s,hm,hr,hs=>by
  have e:drK orc clK ((o,mask)::l) fps.length m k= @Option.rec (SK×Fp) (fun _=>Option SK) none (fun p=>@Prod.rec SK Fp (fun _=>Option SK) (fun s' p=>
   @Bool.rec (fun _=>Option SK) (@Bool.rec (fun _=>Option SK) none (drK orc clK l (Nat.succ fps.length) ((fps.length,p)::m) (znJ s' p.hi)) (zij p mask m)) (drK orc clK l (Nat.succ fps.length) m (znJ s' p.hi)) p.zj6) p) (zpm orc clK k o):=rfl
  rw[e]at hs;cases h1:zpm orc clK k o with
  |none=>rw[h1]at hs;cases hs
  |some y=>
   obtain⟨k1,p⟩ :=y;rw[h1]at hs;obtain⟨s1,r1,ev1⟩ :=zA7 ho hc hr h1;have hrs:RS (znJ k1 p.hi) {s1 with c:=p.hi}:=by
    obtain⟨tm,h,c,lw,mx⟩ :=k1;exact⟨r1.tm,r1.h,rfl,r1.lw,r1.mx⟩
   have hlen:Nat.succ fps.length=(fps++[p]).length:=by simp
   have fin:∀m',Imp (fps++[p]) m'->zbX p mask fps 0=true->drK orc clK l (Nat.succ fps.length) m' (znJ k1 p.hi)=some k'->∃s',RS k' s'/\EV fun n=>zez (zb8 pr n) ((o,mask)::l) fps s=some s':=by
    intro m' hm' ha hd;rw[hlen]at hd;obtain⟨s2,r2,ev2⟩ :=zG9 ho hc l (fps++[p]) m' _ k' _ hm' hrs hd;refine⟨s2,r2,(ev1.and ev2).mono fun n ⟨a,b⟩ => ?_⟩;simp only[zez,a,ha,Z60];exact b
   have hs':@Bool.rec (fun _=>Option SK) (@Bool.rec (fun _=>Option SK) none (drK orc clK l (Nat.succ fps.length) ((fps.length,p)::m) (znJ k1 p.hi)) (zij p mask m)) (drK orc clK l (Nat.succ fps.length) m (znJ k1 p.hi)) p.zj6=some k':=hs;cases hl:p.zj6 with
   |true=>
    rw[hl]at hs';exact fin m (hm.skip hl) (zsV hl mask fps 0) hs'
   |false=>
    rw[hl]at hs';cases ha:zij p mask m with
    |false=>rw[ha]at hs';cases hs'
    |true=>
     rw[ha]at hs';exact fin _ hm.keep (zGT hm ha) hs'
theorem zr9{body:St->Option (Ex×St)}:∀(n m:Nat) (s:St) (r:Ex×St),n<=m->iter body n s=some r->iter body m s=some r
 |0,_,_,_,_,h=>by cases h
 |n+1,0,_,_,h,_=>by omega
 |n+1,m+1,s,r,hle,h=>by
  simp only[iter]at h|-;cases hb:body s with
  |none=>simp only[hb]at h;cases h
  |some y=>
   obtain⟨x,s'⟩ :=y;cases x with
   |nrm=>
    simp only[hb]at h|-;exact zr9 n m s' r (by omega) h
   |exit i=>simp only[hb]at h|-;exact h
   |ret=>simp only[hb]at h|-;exact h
def RX(r:Ex×SK)(r':Ex×St):Prop:=r.1=r'.1/\RS r.2 r'.2
theorem zz3{r:Option (Ex×SK)}{kk:SK->Option (Ex×SK)}{y:Ex×SK}(h:zrL r kk=some y):
  (∃k,r=some (.nrm,k)/\kk k=some y)\/(∃x k,r=some (x,k)/\x≠ .nrm/\y=(x,k)):=by
 cases r with
 |none=>cases h
 |some z=>
  obtain⟨x,k⟩ :=z;cases x with
  |nrm=>exact .inl ⟨k,rfl,h⟩
  |exit i=>cases h;exact .inr ⟨_,_,rfl,by simp,rfl⟩
  |ret=>cases h;exact .inr ⟨_,_,rfl,by simp,rfl⟩
theorem zhm(ho:zh0 pr orc)(hc:zlb pr clK)(lf:Nat):∀(c:C) (k:SK) (s:St) (r:Ex×SK),RS k s->evK orc clK lf c k=some r->
  ∃r',RX r r'/\EV fun n=>evC (zb8 pr n) n c s=some r'
 | .skip,k,s,r,hr,hs=>by cases hs;exact⟨(.nrm,s),⟨rfl,hr⟩,EV.all fun n=>rfl⟩
 | .exit id,k,s,r,hr,hs=>by cases hs;exact⟨(.exit id,s),⟨rfl,hr⟩,EV.all fun n=>rfl⟩
 | .ret,k,s,r,hr,hs=>by cases hs;exact⟨(.ret,s),⟨rfl,hr⟩,EV.all fun n=>rfl⟩
 | .reg ops,k,s,r,hr,hs=>by
  have hs':zDZ (runK orc clK ops k)=some r:=hs;cases h1:runK orc clK ops k with
  |none=>rw[h1]at hs';cases hs'
  |some k1=>
   rw[h1]at hs';cases hs';obtain⟨s1,r1,ev1⟩ :=zBl ho hc ops k k1 s hr h1;exact⟨(.nrm,s1),⟨rfl,r1⟩,ev1.mono fun n hn=>by simp only[evC,hn]⟩
 | .dreg ops,k,s,r,hr,hs=>by
  have hs':zDZ (drK orc clK ops 0 [] k)=some r:=hs;cases h1:drK orc clK ops 0 [] k with
  |none=>rw[h1]at hs';cases hs'
  |some k1=>
   rw[h1]at hs';cases hs';obtain⟨s1,r1,ev1⟩ :=zG9 ho hc ops [] [] k k1 s .nil hr h1;exact⟨(.nrm,s1),⟨rfl,r1⟩,ev1.mono fun n hn=>by simp only[evC,hn]⟩
 | .seq a b,k,s,r,hr,hs=>by
  have hs':zrL (evK orc clK lf a k) (evK orc clK lf b)=some r:=hs;rcases zz3 hs' with⟨k1,h1,h2⟩ |⟨x,k1,h1,hx,rfl⟩
  .obtain⟨⟨x',s1⟩,⟨e1,r1⟩,ev1⟩ :=zhm ho hc lf a k s _ hr h1;simp only at e1 r1;subst e1;obtain⟨r2,x2,ev2⟩ :=zhm ho hc lf b k1 s1 _ r1 h2;exact⟨r2,x2,(ev1.and ev2).mono fun n ⟨p,q⟩ =>by simp only[evC,p];exact q⟩
  .obtain⟨⟨x',s1⟩,⟨e1,r1⟩,ev1⟩ :=zhm ho hc lf a k s _ hr h1;simp only at e1 r1;subst e1;refine⟨(x,s1),⟨rfl,r1⟩,ev1.mono fun n p=> ?_⟩;simp only[evC,p];cases x<;>simp_all
 | .cond x a b,k,s,r,hr,hs=>by
  have hs':@Option.rec D (fun _=>Option (Ex×SK)) none (fun d=>@Option.rec Bool (fun _=>Option (Ex×SK)) none (fun b'=>@Bool.rec (fun _=>Option (Ex×SK)) (evK orc clK lf b k) (evK orc clK lf a k) b') (zum d)) (zdz k.tm x)=some r:=hs;rw[zaK hr.tm]at hs';cases hx:zah s.tm x with
  |none=>rw[hx]at hs';cases hs'
  |some d=>
   rw[hx]at hs';cases hd:zum d with
   |none=>simp only[hd]at hs';cases hs'
   |some b'=>
    simp only[hd]at hs';have hde:d= .f (.b b'):=by
     unfold zum at hd;split at hd
     .cases hd;rfl
     .cases hd
    subst hde;cases b' with
    |true=>
     obtain⟨r2,x2,ev2⟩ :=zhm ho hc lf a k s _ hr hs';exact⟨r2,x2,ev2.mono fun n p=>by simp only[evC,hx];exact p⟩
    |false=>
     obtain⟨r2,x2,ev2⟩ :=zhm ho hc lf b k s _ hr hs';exact⟨r2,x2,ev2.mono fun n p=>by simp only[evC,hx];exact p⟩
 | .blk id c,k,s,r,hr,hs=>by
  have hs':blkK id (evK orc clK lf c k)=some r:=hs;cases h1:evK orc clK lf c k with
  |none=>rw[h1]at hs';cases hs'
  |some y=>
   obtain⟨x,k1⟩ :=y;rw[h1]at hs';obtain⟨⟨x',s1⟩,⟨e1,r1⟩,ev1⟩ :=zhm ho hc lf c k s _ hr h1;simp only at e1 r1;subst e1;cases x with
   |nrm=>cases hs';exact⟨(.nrm,s1),⟨rfl,r1⟩,ev1.mono fun n p=>by simp only[evC,p]⟩
   |ret=>cases hs';exact⟨(.ret,s1),⟨rfl,r1⟩,ev1.mono fun n p=>by simp only[evC,p]⟩
   |exit i=>
    have hs2:@Bool.rec (fun _=>Option (Ex×SK)) (some (.exit i,k1)) (some (.nrm,k1)) (Nat.beq i id)=some r:=hs';cases hb:Nat.beq i id with
    |true=>
     rw[hb]at hs2;cases hs2;exact⟨(.nrm,s1),⟨rfl,r1⟩,ev1.mono fun n p=>by simp only[evC,p];rw[Z51 (Z88 hb)]⟩
    |false=>
     rw[hb]at hs2;cases hs2;exact⟨(.exit i,s1),⟨rfl,r1⟩,ev1.mono fun n p=>by simp only[evC,p];rw[Z49 (Nat.ne_of_beq_eq_false hb)]⟩
 | .loop c,k,s,r,hr,hs=>by
  have hs':zuu (evK orc clK lf c) lf k=some r:=hs;have key:∀(m:Nat) (k:SK) (s:St),RS k s->zuu (evK orc clK lf c) m k=some r->∃r',RX r r'/\EV fun n=>iter (evC (zb8 pr n) n c) m s=some r':=by
   intro m
   induction m with
   |zero=>intro k s _ h;cases h
   |succ m ih=>
    intro k s hr h;have h':zrL (evK orc clK lf c k) (zuu (evK orc clK lf c) m)=some r:=h;rcases zz3 h' with⟨k1,h1,h2⟩ |⟨x,k1,h1,hx,rfl⟩
    .obtain⟨⟨x',s1⟩,⟨e1,r1⟩,ev1⟩ :=zhm ho hc lf c k s _ hr h1;simp only at e1 r1;subst e1;obtain⟨r2,x2,ev2⟩ :=ih k1 s1 r1 h2;exact⟨r2,x2,(ev1.and ev2).mono fun n ⟨p,q⟩ =>by simp only[iter,p];exact q⟩
    .obtain⟨⟨x',s1⟩,⟨e1,r1⟩,ev1⟩ :=zhm ho hc lf c k s _ hr h1;simp only at e1 r1;subst e1;refine⟨(x,s1),⟨rfl,r1⟩,ev1.mono fun n p=> ?_⟩;simp only[iter,p];cases x<;>simp_all
  obtain⟨r',x',ev⟩ :=key lf k s hr hs';exact⟨r',x',(ev.and (EV.ge lf)).mono fun n ⟨p,q⟩ =>by simp only[evC];exact zr9 lf n s r' q p⟩
theorem zIr:∀(l:List D) (i:Nat) (tm:TM) (t:T D),Rt tm t->Rt (tmK l i tm) (zay l i t)
 |[],_,_,_,h=>h
 |d::l,i,tm,t,h=>by
  rw[tmK,zay];refine zIr l (i+1) _ _ fun j=> ?_
  rw[zsU,h j,T.zae]
def zKp{k:SK}{s:St}(hr:RS k s)(v:Rv):zEq k v=resV s v:=by
 cases v with
 |t n=>exact hr.tm n
 |cell n g sz=>
  simp only[zEq,resV,hr.tm n,hr.h,zni];cases s.tm.get n<;>rfl
theorem zy9{k:SK}{s:St}(hr:RS k s):∀l,zuz k l=zat (resV s) l
 |[]=>rfl
 |x::l=>by
  rw[zuz,zat,zKp hr,zy9 hr l];cases resV s x with
  |none=>rfl
  |some y=>cases zat (resV s) l<;>rfl
def zKo{k:SK}{s:St}(hr:RS k s)(l:List Rv):zEo k l=resD s l:=by
 unfold zEo resD;rw[zy9 hr];cases zat (resV s) l with
 |none=>rfl
 |some m=>
  cases m with
  |nil=>rfl
  |cons a m=>cases m<;>rfl
theorem zyz(ho:zh0 pr orc):∀n,zlb pr (zuo orc pr n)
 |0=>fun f args h c q hq=>by cases hq
 |n+1=>fun f args h c q hq=>by
  simp only[zuo]at hq;cases hf:pr.fn f with
  |some fn=>
   simp only[hf]at hq;unfold fnK at hq;split at hq
   .cases hq
   .cases hq
   .rename_i x k hne hev;have hr0:RS (SK.mk (tmK args 0 {}) h c c c) (St.mk (zay args 0 .e) h c c c):=⟨zIr args 0 {} .e fun i=>by rw[zJB];rfl,rfl,rfl,rfl,rfl⟩
    obtain⟨⟨x',s⟩,⟨e1,r1⟩,ev1⟩ :=zhm ho (zyz ho n) n fn.body _ _ _ hr0 hev;simp only at e1 r1;subst e1;split at hq
    .cases hq
    .rename_i d hd;rw[zKo r1]at hd;have key:EV fun m=>zfx (evC (zb8 pr m) m) fn args h c=some q:=by
      refine ev1.mono fun m hm=> ?_
      simp only[zfx,hm];have fin:(match resD s fn.res with|none=>none|some d=>if Nat.beq s.lw c&&d.isF then some (CR.mk d h c c s.mx)else some (CR.mk d s.h s.c s.lw s.mx))=some q:=by
       simp only[hd];rw[<-r1.lw,<-r1.mx,<-r1.h,<-r1.c];split at hq
       .rename_i hb;split at hq
        .rename_i hi;rw[hb,hi];simpa using hq
        .rename_i hi;rw[hb,hi];simpa using hq
       .rename_i hb;rw[hb];simpa using hq
      cases x with
      |nrm=>exact fin
      |ret=>exact fin
      |exit i=>exact absurd rfl (hne i)
     obtain⟨N,hN⟩ :=key;refine⟨N+1,fun m hm=> ?_⟩;obtain⟨m,rfl⟩ :∃m',m=m'+1:=⟨m - 1,by omega⟩
     simp only[zb8,hf];exact hN m (by omega)
  |none=>
   simp only[hf]at hq;refine⟨1,fun m hm=> ?_⟩;obtain⟨m,rfl⟩ :∃m',m=m'+1:=⟨m - 1,by omega⟩
   simp only[zb8,hf];exact hq
end
end Go.Vse
end
section
namespace Go.Vse
variable [Globs]
section
variable (pr:Pr)
def zcF(r:Option (St×Fp))(Q:St->Fp->Prop):Prop:=
 match r with
 |some (s',p)=>Q s' p
 |none=>False
def zbj(o:Op)(s:St)(Q:St->Fp->Prop):Prop:=
 match zbN s.tm o.gd with
 |none=>False
 |some false=>Q {s with tm:=zbR s.tm o.dst (.f .un)} {all:=false,rd:=[],wr:=[],lo:=s.c,hi:=s.c,h:=s.h,h':=s.h}
 |some true=>match o.o.res (zah s.tm)with
  |none=>False
  |some o'=>match kindOf o' with
   | .p f args=>match zcj s.h.get args with
    |none=>False
    |some (fs,rd)=>∃x,Ans pr f fs x/\zcF (zcc s o.dst (some {d:=x.d,rd,wr:=zav s.h.get rd,c:=s.c})) Q
   | .q f args=>∃q,Con pr f args s.h s.c q/\zcF (zeN s o.dst (some q)) Q
   | .n=>zcF (zcc s o.dst (opv s.h.get s.c o')) Q
   | .bad=>False
def wpO:List Op->St->(St->Prop)->Prop
 |[],s,Q=>Q s
 |o::l,s,Q=>zbj pr o s fun s' _=>wpO l s' Q
def wpD:List (Op×Nat)->List Fp->St->(St->Prop)->Prop
 |[],_,s,Q=>Q s
 |(o,mask)::l,fps,s,Q=>zbj pr o s fun s' p=>zbX p mask fps 0=true/\wpD l (fps++[p]) {s' with c:=p.hi} Q
def wpC:C->St->(Ex->St->Prop)->Prop
 | .skip,s,Q=>Q .nrm s
 | .reg ops,s,Q=>wpO pr ops s (Q .nrm)
 | .dreg ops,s,Q=>wpD pr ops [] s (Q .nrm)
 | .seq a b,s,Q=>wpC a s fun x s'=>match x with
  | .nrm=>wpC b s' Q
  |x=>Q x s'
 | .cond x a b,s,Q=>match zah s.tm x with
  |some (.f (.b true))=>wpC a s Q
  |some (.f (.b false))=>wpC b s Q
  |_=>False
 | .blk id c,s,Q=>wpC c s fun x s'=>match x with
  | .exit i=>if i=id then Q .nrm s' else Q (.exit i) s'
  |x=>Q x s'
 | .loop c,s,Q=>∃x s' m,Q x s'/\EV fun n=>iter (evC (zb8 pr n) n c) m s=some (x,s')
 | .exit id,s,Q=>Q (.exit id) s
 | .ret,s,Q=>Q .ret s
variable {pr}
def zpJ{o:Op}{s:St}{Q:St->Fp->Prop}(h:zbj pr o s Q):∃s' p,Q s' p/\EV fun n=>zdx (zb8 pr n) s o=some (s',p):=by
 unfold zbj at h;split at h
 .exact h.elim
 .rename_i hw;exact⟨_,_,h,EV.all fun n=>by simp only[zdx,hw]⟩
 .rename_i hw;split at h
  .exact h.elim
  .rename_i o' hr;split at h
   .rename_i f args hk;split at h
    .exact h.elim
    .rename_i fs rd hfz;obtain⟨x,⟨q,rd',hc,hx⟩,h⟩ :=h;unfold zcF at h;split at h
     .rename_i s' p hst;refine⟨s',p,h,hc.mono fun n hn=> ?_⟩;simp only[zdx,hw,step,hr,hk,zeh,hfz,hn,hx];exact hst
     .exact h.elim
   .rename_i f args hk;obtain⟨q,hc,h⟩ :=h;unfold zcF at h;split at h
    .rename_i s' p hst;refine⟨s',p,h,hc.mono fun n hn=> ?_⟩;simp only[zdx,hw,step,hr,hk,hn];exact hst
    .exact h.elim
   .rename_i hk;unfold zcF at h;split at h
    .rename_i s' p hst;refine⟨s',p,h,EV.all fun n=> ?_⟩;simp only[zdx,hw,step,hr,hk];exact hst
    .exact h.elim
   .exact h.elim
theorem zAa:∀(l:List Op) (s:St) (Q:St->Prop),wpO pr l s Q->∃s',Q s'/\EV fun n=>zeA (zb8 pr n) l s=some s'
 |[],s,Q,h=>⟨s,h,EV.all fun _=>rfl⟩
 |o::l,s,Q,h=>by
  obtain⟨s1,p,h1,e1⟩ :=zpJ h;obtain⟨s2,h2,e2⟩ :=zAa l s1 Q h1;exact⟨s2,h2,(e1.and e2).mono fun n ⟨a,b⟩ =>by simp only[zeA,a];exact b⟩
theorem zIw:∀(l:List (Op×Nat)) (fps:List Fp) (s:St) (Q:St->Prop),wpD pr l fps s Q->∃s',Q s'/\EV fun n=>zez (zb8 pr n) l fps s=some s'
 |[],_,s,Q,h=>⟨s,h,EV.all fun _=>rfl⟩
 |(o,mask)::l,fps,s,Q,h=>by
  obtain⟨s1,p,⟨ha,h1⟩,e1⟩ :=zpJ h;obtain⟨s2,h2,e2⟩ :=zIw l (fps++[p]) {s1 with c:=p.hi} Q h1;exact⟨s2,h2,(e1.and e2).mono fun n ⟨a,b⟩ =>by simp only[zez,a,ha,Z60];exact b⟩
theorem ze2:∀(c:C) (s:St) (Q:Ex->St->Prop),wpC pr c s Q->∃x s',Q x s'/\EV fun n=>evC (zb8 pr n) n c s=some (x,s')
 | .skip,s,Q,h=>⟨_,s,h,EV.all fun _=>rfl⟩
 | .exit id,s,Q,h=>⟨_,s,h,EV.all fun _=>rfl⟩
 | .ret,s,Q,h=>⟨_,s,h,EV.all fun _=>rfl⟩
 | .reg ops,s,Q,h=>by
  obtain⟨s',h1,e1⟩ :=zAa ops s _ h;exact⟨.nrm,s',h1,e1.mono fun n hn=>by simp only[evC,hn]⟩
 | .dreg ops,s,Q,h=>by
  obtain⟨s',h1,e1⟩ :=zIw ops [] s _ h;exact⟨.nrm,s',h1,e1.mono fun n hn=>by simp only[evC,hn]⟩
 | .seq a b,s,Q,h=>by
  obtain⟨x,s1,h1,e1⟩ :=ze2 a s _ h;cases x with
  |nrm=>
   obtain⟨x2,s2,h2,e2⟩ :=ze2 b s1 Q h1;exact⟨x2,s2,h2,(e1.and e2).mono fun n ⟨p,q⟩ =>by simp only[evC,p];exact q⟩
  |exit i=>exact⟨.exit i,s1,h1,e1.mono fun n p=>by simp only[evC,p]⟩
  |ret=>exact⟨.ret,s1,h1,e1.mono fun n p=>by simp only[evC,p]⟩
 | .cond x a b,s,Q,h=>by
  unfold wpC at h;split at h
  .rename_i hx;obtain⟨x2,s2,h2,e2⟩ :=ze2 a s Q h;exact⟨x2,s2,h2,e2.mono fun n p=>by simp only[evC,hx];exact p⟩
  .rename_i hx;obtain⟨x2,s2,h2,e2⟩ :=ze2 b s Q h;exact⟨x2,s2,h2,e2.mono fun n p=>by simp only[evC,hx];exact p⟩
  .exact h.elim
 | .blk id c,s,Q,h=>by
  obtain⟨x,s1,h1,e1⟩ :=ze2 c s _ h;cases x with
  |nrm=>exact⟨.nrm,s1,h1,e1.mono fun n p=>by simp only[evC,p]⟩
  |ret=>exact⟨.ret,s1,h1,e1.mono fun n p=>by simp only[evC,p]⟩
  |exit i=>
   by_cases hi:i=id
   .simp only[hi,Z60]at h1;exact⟨.nrm,s1,h1,e1.mono fun n p=>by simp only[evC,p,hi,Z60]⟩
   .simp only[hi,Z63]at h1;exact⟨.exit i,s1,h1,e1.mono fun n p=>by simp only[evC,p,hi,Z63]⟩
 | .loop c,s,Q,h=>by
  obtain⟨x,s',m,h1,e1⟩ :=h;exact⟨x,s',h1,(e1.and (EV.ge m)).mono fun n ⟨p,q⟩ =>by simp only[evC];exact zr9 m n s _ q p⟩
theorem z4L{c:C}{Q:Ex->St->Prop}(I:Nat->St->Prop)(hstep:∀k s,I k s->wpC pr c s fun x s'=>match x with
  | .nrm=>∃k',k'<k/\I k' s'
  |x=>Q x s'):∀(k:Nat) (s:St),I k s->wpC pr (.loop c) s Q:=by
 intro k
 induction k using Nat.strongRecOn with
 |ind k ih=>
  intro s hI;obtain⟨x,s1,hq,ev⟩ :=ze2 c s _ (hstep k s hI);cases x with
  |nrm=>
   obtain⟨k',hlt,hI'⟩ :=hq;obtain⟨x2,s2,m,h2,e2⟩ :=ih k' hlt s1 hI';exact⟨x2,s2,m+1,h2,(ev.and e2).mono fun n ⟨p,q⟩ =>by simp only[iter,p];exact q⟩
  |exit i=>exact⟨.exit i,s1,1,hq,ev.mono fun n p=>by simp only[iter,p]⟩
  |ret=>exact⟨.ret,s1,1,hq,ev.mono fun n p=>by simp only[iter,p]⟩
def st0(args:List D)(h:T Ob)(c:Nat):St:={tm:=zay args 0 .e,h,c,lw:=c,mx:=c}
end
end Go.Vse
end
section
namespace Go.Vse
variable [Globs]
def St.up(s:St)(dst:Option Nat)(d:D):St:={s with tm:=zbR s.tm dst d,mx:=Nat.max s.mx (s.c+1)}
def St.aft(s:St)(dst:Option Nat)(d:D)(wr:List (Nat×Option Ob))(c:Nat):St:=
 {tm:=zbR s.tm dst d,h:=wrT s.h wr,c,lw:=zdq s.lw wr,mx:=Nat.max s.mx (c+1)}
def zth(t:T D)(i j:Nat)(d:D):(zbR t (some i) d).get j=if j=i then some d else t.get j:=T.zae ..
def zHU(t:T D)(d:D):zbR t none d=t:=rfl
def zQZ(s:St)(dst:Option Nat)(d:D):(s.up dst d).tm=zbR s.tm dst d:=rfl
def up_h(s:St)(dst:Option Nat)(d:D):(s.up dst d).h=s.h:=rfl
def up_c(s:St)(dst:Option Nat)(d:D):(s.up dst d).c=s.c:=rfl
def zQX(s:St)(dst:Option Nat)(d:D):(s.up dst d).lw=s.lw:=rfl
def zGB(s:St)(dst:Option Nat)(d:D)(wr:List (Nat×Option Ob))(c:Nat):(s.aft dst d wr c).tm=zbR s.tm dst d:=rfl
def zO4(s:St)(dst:Option Nat)(d:D)(wr:List (Nat×Option Ob))(c:Nat):(s.aft dst d wr c).h=wrT s.h wr:=rfl
def zO2(s:St)(dst:Option Nat)(d:D)(wr:List (Nat×Option Ob))(c:Nat):(s.aft dst d wr c).c=c:=rfl
def zGA(s:St)(dst:Option Nat)(d:D)(wr:List (Nat×Option Ob))(c:Nat):(s.aft dst d wr c).lw=zdq s.lw wr:=rfl
section
variable {pr:Pr}{l:List Op}{s:St}{Q:St->Prop}{dst:Option Nat}
theorem zBK{o:O A}{o':O D}(hr:o.res (zah s.tm)=some o')(hk:kindOf o'= .n){r:Rs}(hv:opv s.h.get s.c o'=some r)(hw:zau r.c r.wr=true)
  {R:St->Fp->Prop}(h:R (s.aft dst r.d r.wr r.c) {all:=false,rd:=r.rd,wr:=r.wr.map (·.1),lo:=s.c,hi:=r.c+1,h:=s.h,h':=wrT s.h r.wr}):
  zbj pr ⟨dst,none,o⟩ s R:=by
 simp only[zbj,zbN,hr,hk,hv,zcF,zcc,hw];exact h
theorem wpO_n{o:O A}{o':O D}(hr:o.res (zah s.tm)=some o')(hk:kindOf o'= .n){r:Rs}(hv:opv s.h.get s.c o'=some r)(hw:zau r.c r.wr=true)
  (h:wpO pr l (s.aft dst r.d r.wr r.c) Q):wpO pr (⟨dst,none,o⟩ ::l) s Q:=zBK hr hk hv hw h
def zEB{o:O A}{o':O D}{d:D}{rd:List Nat}(hr:o.res (zah s.tm)=some o')(hk:kindOf o'= .n)(hv:opv s.h.get s.c o'=some {d,rd,c:=s.c})
  (h:wpO pr l (s.up dst d) Q):wpO pr (⟨dst,none,o⟩ ::l) s Q:=zBK hr hk hv rfl h
def z4J{q x y:A}(h:∃b d e,zah s.tm q=some (.f (.b b))/\zah s.tm x=some d/\zah s.tm y=some e/\wpO pr l (s.up dst (if b then d else e)) Q):wpO pr (⟨dst,none,.pick q x y⟩ ::l) s Q:=by
 obtain⟨b,d,e,h1,h2,h3,h⟩ :=h;exact zEB (o':= .pick (.f (.b b)) d e) (rd:=[]) (by simp[O.res,h1,h2,h3]) rfl rfl h
def w_bin{op:BinOp}{x y:A}(h:∃a b,zah s.tm x=some (.f a)/\zah s.tm y=some (.f b)/\∃z,zaS op a b=some z/\wpO pr l (s.up dst (.f z)) Q):wpO pr (⟨dst,none,.bin op x y⟩ ::l) s Q:=by
 obtain⟨a,b,h1,h2,z,h3,h⟩ :=h;exact zEB (o':= .bin op (.f a) (.f b)) (rd:=[]) (by simp[O.res,h1,h2]) rfl (by simp[opv,h3,okF]) h
def w_not{x:A}(h:∃b,zah s.tm x=some (.f (.b b))/\wpO pr l (s.up dst (.f (.b !b))) Q):wpO pr (⟨dst,none,.un .not x⟩ ::l) s Q:=by
 obtain⟨b,h1,h⟩ :=h;exact zEB (o':= .un .not (.f (.b b))) (rd:=[]) (by simp[O.res,h1]) rfl rfl h
def faB(off:Nat):D->Option D
 | .ptr id es i j=>some (.ptr id es i (j+off))
 | .fptr cs=>some (.fptr (cs.drop off))
 |_=>none
def iaB(es:Nat)(x:D)(i:Nat):Option D:=
 match x with
 | .f (.sl es' els)=>if es=es' then(els[i]?).map D.fptr else none
 | .sl id off m es' _ _=>if es=es'/\i<m then some (.ptr id es (off+i) 0)else none
 |_=>none
theorem zUF{f:Nat}{args:List A}(h:∃ds,zat (zah s.tm) args=some ds/\∃fs rd,zcj s.h.get ds=some (fs,rd)/\∃x,Ans pr f fs x/\zau s.c (zav s.h.get rd)=true/\wpO pr l (s.aft dst x.d (zav s.h.get rd) s.c) Q):
  wpO pr (⟨dst,none,.callp f args⟩ ::l) s Q:=by
 obtain⟨ds,h1,fs,rd,h2,x,h3,h4,h⟩ :=h;simp only[wpO,zbj,zbN,O.res,h1,Z47,Z46,kindOf,h2];refine⟨x,h3,?_⟩;simp only[zcF,zcc,h4];exact h
def St.cal(s:St)(dst:Option Nat)(q:CR):St:={tm:=zbR s.tm dst q.d,h:=q.h,c:=q.c,lw:=Nat.min s.lw q.lw,mx:=Nat.max s.mx q.mx}
def z4G{f:Nat}{args:List A}(h:∃ds,zat (zah s.tm) args=some ds/\∃q,Con pr f ds s.h s.c q/\wpO pr l (s.cal dst q) Q):wpO pr (⟨dst,none,.call f args⟩ ::l) s Q:=by
 obtain⟨ds,h1,q,h2,h⟩ :=h;simp only[wpO,zbj,zbN,O.res,h1,Z47,Z46,kindOf];exact⟨q,h2,h⟩
def zZw{x:A}{a b:C}{Q:Ex->St->Prop}(h:∃t,zah s.tm x=some (.f (.b t))/\(if t then wpC pr a s Q else wpC pr b s Q)):wpC pr (.cond x a b) s Q:=by
 obtain⟨t,h1,h⟩ :=h;unfold wpC;rw[h1];cases t<;>simpa using h
def zZA{Q:Ex->St->Prop}:wpC pr .skip s Q=Q .nrm s:=rfl
def zZy{id:Nat}{Q:Ex->St->Prop}:wpC pr (.exit id) s Q=Q (.exit id) s:=rfl
def c_ret{Q:Ex->St->Prop}:wpC pr .ret s Q=Q .ret s:=rfl
def z2A(t:T D)(n:Nat):zah t (.t n)=t.get n:=rfl
def z2z(t:T D)(x:F):zah t (.k x)=some x.d:=rfl
def zRD(a b:Int):zaS .lss (.i .i64 a) (.i .i64 b)=some (.b (decide (a<b))):=rfl
def zRC(a b:Int):zaS .leq (.i .i64 a) (.i .i64 b)=some (.b (decide (a<=b))):=rfl
def zRA(a b:Int):zaS .geq (.i .i64 a) (.i .i64 b)=some (.b (decide (a≥b))):=rfl
def zRB(a b:Int):zaS .gtr (.i .i64 a) (.i .i64 b)=some (.b (decide (a>b))):=rfl
def zRz(a b:Int):zaS .eql (.i .i64 a) (.i .i64 b)=some (.b (a==b)):=rfl
def zRE(a b:Int):zaS .neq (.i .i64 a) (.i .i64 b)=some (.b (a != b)):=rfl
def zRx(a b:Int):zaS .add (.i .i64 a) (.i .i64 b)=some (.i .i64 (IntKind.i64.wrap (a+b))):=rfl
def zRQ(a b:Int):zaS .sub (.i .i64 a) (.i .i64 b)=some (.i .i64 (IntKind.i64.wrap (a - b))):=rfl
def zRI(a b:Int)(h:b≠0):zaS .rem (.i .i64 a) (.i .i64 b)=some (.i .i64 (a.tmod b)):=by
 simp[zaS,zyh,Go.binOp,Go.Op.intDiv,h,zib];rfl
def zRH(a b:Int)(h:b≠0):zaS .quo (.i .i64 a) (.i .i64 b)=some (.i .i64 (IntKind.i64.wrap (a.tdiv b))):=by
 simp[zaS,zyh,Go.binOp,Go.Op.intDiv,h,zib];rfl
end
end Go.Vse
end
section
namespace Go.Vse
variable [Globs]
open Go.RowKit
section
variable {P:Program}{pur:Nat->Bool}{pr:Pr}
def zgt:Mu:=fun _ _=>False
def zrV(H:Array Obj):Prop:=∀n cs,Globs.data n=some cs->zaX H zgt n 0 cs
def zEF:zaq zgt (T.e:T Ob).get (fun _=>none)=zgt:=by
 rw[zfL,ze8]
def sim_e(H:Array Obj)(hg:zrV H):Sim zgt H (T.e:T Ob).get (fun _=>none) (fun _=>False):=
 ⟨fun id ob h=>by simp[T.zDN]at h,fun id b h=>by simp at h,fun id id' b h=>by simp at h,fun id b i h=>by simp at h,fun id ob h=>by simp[T.zDN]at h,fun b i h=>h.elim,fun n cs h=>by rw[zEF];exact hg n cs h⟩
theorem land(hp:zlg P pur pr){f:Nat}{fs:List F}{vs:List Value}{w:World}(hgl:zrV w.heap)(hrel:zaL w.heap zgt fs vs){q:CR}(hc:Con pr f (F.dL fs) .e 0 q){b:Bool}(hd:q.d= .f (.b b)):
  Calls P f ⟨vs⟩ w fun e w'=>e= .returned (.bool b)/\Below w.heap.size w w':=by
 obtain⟨N,hN⟩ :=hc;have ok:=zeS hp N f _ _ _ _ (hN N (Z2 _));obtain⟨_,_,_,h⟩ :=ok;have hargs:zas w.heap (zaq zgt (T.e:T Ob).get (fun _=>none)) (fun _=>none) (fun _=>False) (F.dL fs) vs:=by
  rw[zEF];exact zaL.dL fs vs hrel
 refine (h zgt (fun _=>none) (fun _=>False) w vs (sim_e _ hgl) (fun id _ _ h=>h) hargs).mono fun e w' ⟨v,he,hb,ρ',hr,_,hev⟩ => ?_
 rw[hd]at hr;simp only[Rel,zao]at hr;subst hr;subst he;exact⟨rfl,hb.os,hb.tape,hb.output,hev.size,fun k hk=>(hev.blk k hk fun id h=>by simp at h).1⟩
theorem zrE{H:Array Obj}{b:Nat}{k:IntKind}:∀(zs:List Int) (o:Nat),(∀i,i<zs.length->zbn H b (o+i)=some (.int k (zs.getD i 0)))->zaX H zgt b o (zs.map fun z=> .i k z)
 |[],_,_=>by simp only[Z85,zaX]
 |z::zs,o,h=>by
  simp only[Z10,zaX,zao];refine⟨⟨fun h=>h,_,?_,rfl,rfl⟩,zrE zs (o+1) fun i hi=> ?_⟩
  .have:=h 0 (by simp);simpa using this
  .have:=h (i+1) (by simp;omega);rw[show o+(i+1)=o+1+i by omega]at this;simpa using this
def ztk{w:World}{g:Nat}{k:IntKind}{zs:List Int}(h:∀i,i<zs.length->w.cell? ⟨g,i,none⟩ =some (.int k (zs.getD i 0))):zaX w.heap zgt g 0 (zs.map fun z=> .i k z):=
 zrE zs 0 fun i hi=>by rw[Z25,<-zkW];exact h i hi
def zpx(k:IntKind)(isNil:Bool)(len:Nat)(zs:List Int):F:=if isNil then .nils else .sl 1 ((zs.take len).map fun z=>[.i k z])
theorem zrF{H:Array Obj}{b:Nat}{k:IntKind}:∀(zs:List Int) (o:Nat),(∀i,i<zs.length->zbn H b (o+i)=some (.int k (zs.getD i 0)))->zbY H zgt b 1 o (zs.map fun z=>[.i k z])
 |[],_,_=>by simp only[Z85,zbY]
 |z::zs,o,h=>by
  simp only[Z10,zbY,List.length_singleton,zaX,zao];refine⟨trivial,⟨⟨fun h=>h,_,?_,rfl,rfl⟩,trivial⟩,zrF zs (o+1) fun i hi=> ?_⟩
  .have:=h 0 (by simp);simpa using this
  .have:=h (i+1) (by simp;omega);rw[show o+(i+1)=o+1+i by omega]at this;simpa using this
theorem zTm{w:World}{k:IntKind}{a:Option Addr}{len cap:Nat}{zs:List Int}
  (h:(a=none/\len=0/\cap=0/\zs=[])\/∃x,a=some x/\len<=cap/\zs.length=cap/\(∀i,i<zs.length->w.cell? (x.add i)=some (.int k (zs.getD i 0)))):
  zao w.heap zgt (zpx k a.isNone len zs) (.slice a len cap):=by
 rcases h with⟨rfl,rfl,rfl,rfl⟩ |⟨x,rfl,hl,hz,hc⟩
 .simp only[zpx,Option.isNone_none,Z60,zao]
 .have hlen:((zs.take len).map fun z=>[F.i k z]).length=len:=by simp;omega
  have e:zpx k (some x).isNone len zs= .sl 1 ((zs.take len).map fun z=>[.i k z]):=by simp[zpx]
  rw[e];simp only[zao];rw[hlen];have hx:len≠0->x=⟨x.block,x.off,none⟩ :=by
   intro hne;have h0:=hc 0 (by omega);obtain⟨b,o,sp⟩ :=x;cases sp with
   |none=>rfl
   |some s=>
    simp only[World.cell?,Addr.add]at h0;split at h0<;>simp at h0
  refine⟨x,cap,rfl,hl,x.block,x.off,fun hne=>hx (fun e0=>hne (by simp[e0])),?_⟩
  by_cases hne:len=0
  .subst hne;simp only[Z173,Z85,zbY]
  .refine zrF _ _ fun i hi=> ?_
   have hi':i<len:=by simp at hi;omega
   have h1:=hc i (by omega);rw[hx hne]at h1;have h2:(⟨x.block,x.off,none⟩ :Addr).add i=⟨x.block,x.off+i,none⟩ :=zct _ _ _;rw[h2,zkW]at h1;rw[h1]
   congr 2
   simp only[Z48,Z75,hi',Z60]
end
end Go.Vse
end
section
namespace Go.Vse
variable [Globs]
def zzs(orc:Orc)(pr:Pr)(n f:Nat)(fs:List F):Option F:=
 match zuo orc pr n f (F.dL fs) .e 0 with
 |none=>none
 |some q=>match frz q.h.gk 12 q.d with
  |some (x,_)=>some x
  |none=>none
def zpy{orc:Orc}{pr:Pr}(ho:zh0 pr orc){n f:Nat}{fs:List F}{x:F}(h:zzs orc pr n f fs=some x):Ans pr f fs x:=by
 unfold zzs at h;split at h
 .cases h
 .rename_i q hq;split at h
  .rename_i y rd hy;cases h;rw[zni]at hy;exact⟨q,rd,zyz ho n _ _ _ _ _ hq,hy⟩
  .cases h
def orc0:Orc:=fun _ _=>none
def zBc(pr:Pr):zh0 pr orc0:=fun _ _ _ h=>by cases h
end Go.Vse
end
section
namespace Go.Vse
variable [Globs]
section
variable {pr:Pr}{l:List Op}{s:St}{Q:St->Prop}{dst:Option Nat}
theorem zdD{o:O A}{o':O D}(hr:o.res (zah s.tm)=some o')(hk:kindOf o'= .n):
  wpO pr (⟨dst,none,o⟩ ::l) s Q↔∃r,opv s.h.get s.c o'=some r/\zau r.c r.wr=true/\wpO pr l (s.aft dst r.d r.wr r.c) Q:=by
 constructor
 .intro h;simp only[wpO,zbj,zbN,hr,hk]at h;unfold zcF at h;split at h
  .rename_i s' p hs;cases hv:opv s.h.get s.c o' with
   |none=>rw[hv]at hs;cases hs
   |some r=>
    rw[hv]at hs;simp only[zcc]at hs;cases hw:zau r.c r.wr with
    |false=>rw[hw]at hs;cases hs
    |true=>
     rw[hw]at hs;simp only[Z89,cond_false,Z45,Z66]at hs;obtain⟨rfl,rfl⟩ :=hs;exact⟨r,rfl,hw,h⟩
  .exact h.elim
 .rintro⟨r,hv,hw,h⟩;exact wpO_n hr hk hv hw h
def zc3{o:O A}(hr:o.res (zah s.tm)=none):wpO pr (⟨dst,none,o⟩ ::l) s Q↔False:=by
 simp[wpO,zbj,zbN,hr]
def zg5(d:D):s.aft dst d [] s.c=s.up dst d:=rfl
def x_nil:wpO pr [] s Q↔Q s:=Iff.rfl
def x_mv{x:A}:wpO pr (⟨dst,none,.mv x⟩ ::l) s Q↔∃d,zah s.tm x=some d/\wpO pr l (s.up dst d) Q:=by
 cases hx:zah s.tm x with
 |none=>rw[zc3 (by simp[O.res,hx])];simp
 |some d=>rw[zdD (o':= .mv d) (by simp[O.res,hx]) rfl];simp[opv,okD,zau,zg5]
def z4T{q x y:A}:wpO pr (⟨dst,none,.pick q x y⟩ ::l) s Q↔∃b,zah s.tm q=some (.f (.b b))/\∃d,zah s.tm x=some d/\∃e,zah s.tm y=some e/\wpO pr l (s.up dst (if b then d else e)) Q:=by
 constructor
 .intro h;cases hq:zah s.tm q with
  |none=>exact ((zc3 (by simp[O.res,hq])).1 h).elim
  |some z=>
   cases hx:zah s.tm x with
   |none=>exact ((zc3 (by simp[O.res,hq,hx])).1 h).elim
   |some d=>
    cases hy:zah s.tm y with
    |none=>exact ((zc3 (by simp[O.res,hq,hx,hy])).1 h).elim
    |some e=>
     obtain⟨r,hv,_,h⟩ :=(zdD (o':= .pick z d e) (by simp[O.res,hq,hx,hy]) rfl).1 h;cases z with
     |f z=>
      cases z with
      |b b=>simp only[opv,okD,Z45]at hv;subst hv;exact⟨b,rfl,d,rfl,e,rfl,h⟩
      |_=>simp[opv]at hv
     |_=>simp[opv]at hv
 .rintro⟨b,h1,d,h2,e,h3,h⟩;exact z4J ⟨b,d,e,h1,h2,h3,h⟩
def x_ld{g:Bool}{n:Nat}{x:A}:wpO pr (⟨dst,none,.ld g n x⟩ ::l) s Q↔∃p,zah s.tm x=some p/\∃y,zcJ g n s.h.get p=some y/\wpO pr l (s.up dst y.1) Q:=by
 cases hx:zah s.tm x with
 |none=>rw[zc3 (by simp[O.res,hx])];simp
 |some p=>
  rw[zdD (o':= .ld g n p) (by simp[O.res,hx]) rfl];cases hl:zcJ g n s.h.get p with
  |none=>simp[opv,hl]
  |some y=>obtain⟨d,rd⟩ :=y;simp[opv,hl,zau,zg5]
def x_bin{op:BinOp}{x y:A}:wpO pr (⟨dst,none,.bin op x y⟩ ::l) s Q↔∃a,zah s.tm x=some (.f a)/\∃b,zah s.tm y=some (.f b)/\∃z,zaS op a b=some z/\wpO pr l (s.up dst (.f z)) Q:=by
 constructor
 .intro h;cases hx:zah s.tm x with
  |none=>exact ((zc3 (by simp[O.res,hx])).1 h).elim
  |some d=>
   cases hy:zah s.tm y with
   |none=>exact ((zc3 (by simp[O.res,hx,hy])).1 h).elim
   |some e=>
    obtain⟨r,hv,_,h⟩ :=(zdD (o':= .bin op d e) (by simp[O.res,hx,hy]) rfl).1 h;cases d with
    |f a=>
     cases e with
     |f b=>
      cases hz:zaS op a b with
      |none=>simp[opv,hz]at hv
      |some z=>simp only[opv,hz,okF,Z45]at hv;subst hv;exact⟨a,rfl,b,rfl,z,hz,h⟩
     |_=>simp[opv]at hv
    |_=>simp[opv]at hv
 .rintro⟨a,h1,b,h2,z,h3,h⟩;exact w_bin ⟨a,b,h1,h2,z,h3,h⟩
def x_not{x:A}:wpO pr (⟨dst,none,.un .not x⟩ ::l) s Q↔∃b,zah s.tm x=some (.f (.b b))/\wpO pr l (s.up dst (.f (.b !b))) Q:=by
 constructor
 .intro h;cases hx:zah s.tm x with
  |none=>exact ((zc3 (by simp[O.res,hx])).1 h).elim
  |some d=>
   obtain⟨r,hv,_,h⟩ :=(zdD (o':= .un .not d) (by simp[O.res,hx]) rfl).1 h;cases d with
   |f z=>
    cases z with
    |b b=>simp only[opv,okF,Z45]at hv;subst hv;exact⟨b,rfl,h⟩
    |i k n=>simp[opv,zib,Go.Op.unary,Go.stuck]at hv
    |_=>simp[opv]at hv
   |_=>simp[opv]at hv
 .rintro⟨b,h1,h⟩;exact w_not ⟨b,h1,h⟩
def x_len{x:A}:wpO pr (⟨dst,none,.len x⟩ ::l) s Q↔∃v,zah s.tm x=some v/\∃n,zco v=some n/\wpO pr l (s.up dst (.f (.i .i64 n))) Q:=by
 cases hx:zah s.tm x with
 |none=>rw[zc3 (by simp[O.res,hx])];simp
 |some v=>
  rw[zdD (o':= .len v) (by simp[O.res,hx]) rfl];cases hl:zco v with
  |none=>simp[opv,hl]
  |some n=>simp[opv,hl,okF,zau,zg5]
def x_fa{off:Nat}{x:A}:wpO pr (⟨dst,none,.fa off x⟩ ::l) s Q↔∃v,zah s.tm x=some v/\∃d,faB off v=some d/\wpO pr l (s.up dst d) Q:=by
 cases hx:zah s.tm x with
 |none=>rw[zc3 (by simp[O.res,hx])];simp
 |some v=>
  rw[zdD (o':= .fa off v) (by simp[O.res,hx]) rfl];cases v<;>simp[opv,faB,okD,zau,zg5]
def x_ext{x:A}{i:Nat}:wpO pr (⟨dst,none,.ext x i⟩ ::l) s Q↔∃cs,zah s.tm x=some (.tu cs)/\∃d,cs[i]? =some d/\wpO pr l (s.up dst d) Q:=by
 cases hx:zah s.tm x with
 |none=>rw[zc3 (by simp[O.res,hx])];simp
 |some v=>
  rw[zdD (o':= .ext v i) (by simp[O.res,hx]) rfl];cases v with
  |tu cs=>
   cases hc:cs[i]? with
   |none=>simp[opv,hc]
   |some d=>simp[opv,hc,okD,zau,zg5]
  |_=>simp[opv]
def x_box{x:A}:wpO pr (⟨dst,none,.box x⟩ ::l) s Q↔∃d,zah s.tm x=some d/\∃cs,d.cells=some cs/\wpO pr l (s.aft dst (.ptr s.c cs.length 0 0) [(s.c,some (.arr cs.length 0 [cs]))] (s.c+1)) Q:=by
 cases hx:zah s.tm x with
 |none=>rw[zc3 (by simp[O.res,hx])];simp
 |some d=>
  rw[zdD (o':= .box d) (by simp[O.res,hx]) rfl];cases hc:d.cells with
  |none=>simp[opv,hc]
  |some cs=>simp[opv,hc,zau,Z79]
def x_new{cs:List F}:wpO pr (⟨dst,none,.new cs⟩ ::l) s Q↔wpO pr l (s.aft dst (.ptr s.c cs.length 0 0) [(s.c,some (.arr cs.length 0 [cs.map D.f]))] (s.c+1)) Q:=by
 rw[zdD (o':= .new cs) rfl rfl];simp[opv,zau,Z79]
def x_st{n:Nat}{x v:A}:wpO pr (⟨dst,none,.st n x v⟩ ::l) s Q↔∃p,zah s.tm x=some p/\∃d,zah s.tm v=some d/\∃y,zdK n s.h.get p d=some y/\y.1<s.c/\wpO pr l (s.aft dst (.f .un) [(y.1,some y.2)] s.c) Q:=by
 cases hx:zah s.tm x with
 |none=>rw[zc3 (by simp[O.res,hx])];simp
 |some p=>
  cases hv:zah s.tm v with
  |none=>rw[zc3 (by simp[O.res,hx,hv])];simp
  |some d=>
   rw[zdD (o':= .st n p d) (by simp[O.res,hx,hv]) rfl];cases hs:zdK n s.h.get p d with
   |none=>simp[opv,hs]
   |some y=>
    obtain⟨id,ob⟩ :=y;simp[opv,hs,zau,Z79];exact⟨fun h=>⟨id,ob,⟨rfl,rfl⟩,h⟩,fun⟨_,_,⟨e1,e2⟩,h⟩ =>by subst e1 e2;exact h⟩
def x_ia{es:Nat}{x i:A}:wpO pr (⟨dst,none,.ia es x i⟩ ::l) s Q↔∃v,zah s.tm x=some v/\∃w,zah s.tm i=some w/\∃n,zbu w=some n/\∃d,iaB es v n=some d/\wpO pr l (s.up dst d) Q:=by
 cases hx:zah s.tm x with
 |none=>rw[zc3 (by simp[O.res,hx])];simp
 |some v=>
  cases hy:zah s.tm i with
  |none=>rw[zc3 (by simp[O.res,hx,hy])];simp
  |some w=>
   rw[zdD (o':= .ia es v w) (by simp[O.res,hx,hy]) rfl];cases hn:zbu w with
   |none=>simp[opv,hn]
   |some n=>
    cases v with
    |f z=>
     cases z with
     |sl es' els=>
      by_cases he:es=es'
      .subst he;cases hel:els[n]? with
       |none=>simp[opv,hn,iaB,hel]
       |some el=>simp[opv,hn,iaB,hel,okD,zau,zg5]
      .simp[opv,hn,iaB,he]
     |_=>simp[opv,hn,iaB]
    |sl id off m es' lim ex=>
     by_cases he:es=es'/\n<m
     .simp[opv,hn,iaB,he,okD,zau,zg5]
     .simp[opv,hn,iaB,he]
    |_=>simp[opv,hn,iaB]
def fnD(f:Nat):List D->D
 |[]=> .f (.fn f)
 |y=> .fn f [] y
def x_mkf{f:Nat}{b:List A}:wpO pr (⟨dst,none,.mkf f [] b⟩ ::l) s Q↔∃y,zat (zah s.tm) b=some y/\wpO pr l (s.up dst (fnD f y)) Q:=by
 cases hy:zat (zah s.tm) b with
 |none=>rw[zc3 (by simp[O.res,zat,hy])];simp
 |some y=>
  rw[zdD (o':= .mkf f [] y) (by simp[O.res,zat,hy]) rfl];cases y<;>simp[opv,okD,okF,zau,zg5,fnD]
def x_bld{z:List F}{ps:List (Nat×Nat×A)}:wpO pr (⟨dst,none,.bld z ps⟩ ::l) s Q↔∃qs,zat (fun(p:Nat×Nat×A)=>(zah s.tm p.2.2).map fun d=>(p.1,p.2.1,d)) ps=some qs/\∃cs,zdo (z.map D.f) qs=some cs/\wpO pr l (s.up dst (.ag cs)) Q:=by
 have e:zat (fun(p:Nat×Nat×A)=>(zah s.tm p.2.2).map fun d=>(p.1,p.2.1,d)) ps=zat (fun x=>match x with|(o,n,x)=>do some (o,n,<-zah s.tm x)) ps:=by
  congr 1
  funext p
  obtain⟨o,n,x⟩ :=p;simp only;cases zah s.tm x<;>rfl
 rw[e];cases hq:zat (fun x=>match x with|(o,n,x)=>do some (o,n,<-zah s.tm x)) ps with
 |none=>rw[zc3 (by simp only[O.res];rw[hq];rfl)];simp
 |some qs=>
  rw[zdD (o':= .bld z qs) (by simp only[O.res];rw[hq];rfl) rfl];cases hf:zdo (z.map D.f) qs with
  |none=>simp[opv,hf]
  |some cs=>simp[opv,hf,okD,zau,zg5]
def zUJ{f:Nat}{args:List A}:wpO pr (⟨dst,none,.callp f args⟩ ::l) s Q↔∃ds,zat (zah s.tm) args=some ds/\∃y,zcj s.h.get ds=some y/\∃x,Ans pr f y.1 x/\zau s.c (zav s.h.get y.2)=true/\wpO pr l (s.aft dst x.d (zav s.h.get y.2) s.c) Q:=by
 constructor
 .intro h;simp only[wpO,zbj,zbN,O.res,Z47]at h;cases hm:zat (zah s.tm) args with
  |none=>simp[hm]at h
  |some ds=>
   simp only[hm,Z46,kindOf]at h;cases hf:zcj s.h.get ds with
   |none=>simp[hf]at h
   |some y=>
    obtain⟨fs,rd⟩ :=y;simp only[hf]at h;obtain⟨x,h1,h2⟩ :=h;refine⟨ds,rfl,(fs,rd),hf,x,h1,?_⟩;unfold zcF at h2;simp only[zcc]at h2;cases hw:zau s.c (zav s.h.get rd)with
    |false=>simp[hw]at h2
    |true=>simp only[hw,Z89,cond_false]at h2;exact⟨rfl,h2⟩
 .rintro⟨ds,h1,⟨fs,rd⟩,h2,x,h3,h4,h⟩;exact zUF ⟨ds,h1,fs,rd,h2,x,h3,h4,h⟩
def z4R{f:Nat}{args:List A}:wpO pr (⟨dst,none,.call f args⟩ ::l) s Q↔∃ds,zat (zah s.tm) args=some ds/\∃q,Con pr f ds s.h s.c q/\wpO pr l (s.cal dst q) Q:=by
 constructor
 .intro h;simp only[wpO,zbj,zbN,O.res,Z47]at h;cases hm:zat (zah s.tm) args with
  |none=>simp[hm]at h
  |some ds=>
   simp only[hm,Z46,kindOf]at h;obtain⟨q,h1,h2⟩ :=h;exact⟨ds,rfl,q,h1,h2⟩
 .rintro⟨ds,h1,q,h2,h⟩;exact z4G ⟨ds,h1,q,h2,h⟩
def z4S{x:A}{a b:C}{Q:Ex->St->Prop}:wpC pr (.cond x a b) s Q↔∃t,zah s.tm x=some (.f (.b t))/\(if t then wpC pr a s Q else wpC pr b s Q):=by
 constructor
 .intro h;unfold wpC at h;split at h
  .rename_i hx;exact⟨true,hx,by simpa using h⟩
  .rename_i hx;exact⟨false,hx,by simpa using h⟩
  .exact h.elim
 .exact zZw
end
end Go.Vse
end
section
namespace Go.Vse
variable [Globs]
def oB{α:Type}(o:Option α)(k:α->Prop):Prop:=
 match o with
 |some a=>k a
 |none=>False
@[congr] theorem oB_congr{α:Type}{o o':Option α}{k:α->Prop}(h:o=o'):oB o k=oB o' k:=by rw[h]
def zSY{α:Type}(a:α)(k:α->Prop):oB (some a) k=k a:=rfl
def zfv{α:Type}(o:Option α)(k:α->Prop):(∃a,o=some a/\k a)↔oB o k:=by
 cases o with
 |none=>simp[oB]
 |some a=>simp[oB]
def asB:D->Option Bool
 | .f (.b b)=>some b
 |_=>none
def asF:D->Option F
 | .f x=>some x
 |_=>none
def zCM:D->Option (List D)
 | .tu cs=>some cs
 |_=>none
def zyB(o:Option D)(k:Bool->Prop):(∃b,o=some (.f (.b b))/\k b)↔oB (o.bind asB) k:=by
 cases o with
 |none=>simp[oB]
 |some d=>
  cases d with
  |f x=>cases x<;>simp[oB,asB]
  |_=>simp[oB,asB]
def zHq(o:Option D)(k:F->Prop):(∃b,o=some (.f b)/\k b)↔oB (o.bind asF) k:=by
 cases o with
 |none=>simp[oB]
 |some d=>cases d<;>simp[oB,asF]
def zSk(o:Option D)(k:List D->Prop):(∃b,o=some (.tu b)/\k b)↔oB (o.bind zCM) k:=by
 cases o with
 |none=>simp[oB]
 |some d=>cases d<;>simp[oB,zCM]
def asB_b(b:Bool):asB (.f (.b b))=some b:=rfl
def asF_f(x:F):asF (.f x)=some x:=rfl
def zRo(cs:List D):zCM (.tu cs)=some cs:=rfl
theorem zno{f:D->Option (F×List Nat)}(hf:∀d x rd,d.isF=true->f d=some (x,rd)->rd=[]):∀(ds:List D) (xs:List F) (rd:List Nat),D.zhr ds=true->za2 f ds=some (xs,rd)->rd=[]
 |[],xs,rd,_,h=>by simp[za2]at h;exact h.2
 |d::ds,xs,rd,hi,h=>by
  simp only[D.zhr,Z14]at hi;unfold za2 at h;split at h
  .cases h
  .rename_i x r hx;split at h
   .cases h
   .rename_i m r' hm;simp only[Z45,Z66]at h;rw[<-h.2,hf d x r hi.1 hx,zno hf ds m r' hi.2 hm];rfl
theorem zr7{h:Nat->Option Ob}:∀(k:Nat) (d:D) (x:F) (rd:List Nat),d.isF=true->frz h k d=some (x,rd)->rd=[]
 |0,_,_,_,_,h=>by simp[frz]at h
 |k+1,d,x,rd,hi,hf=>by
  unfold frz at hf;split at hf
  .simp at hf;exact hf.2
  .split at hf
   .rename_i l r hm;simp only[Z45,Z66]at hf;rw[<-hf.2];exact zno (zr7 k) _ _ _ hi hm
   .cases hf
  .split at hf
   .rename_i l r hm;simp only[Z45,Z66]at hf;rw[<-hf.2];exact zno (zr7 k) _ _ _ hi hm
   .cases hf
  .simp[D.isF]at hi
  .cases hf
def zyy(res:List Rv)(y:F)(x:Ex)(s:St):Prop:=
 (match x with| .exit _=>False|_=>True)/\∃d,resD s res=some d/\∃rd,frz s.h.get 12 d=some (y,rd)
def zUG{pr:Pr}{c:C}{s:St}{Q:Ex->St->Prop}{f:Nat}{fn:Fn}(hf:pr.fn f=some fn){fs:List F}{y:F}(hb:fn.body=c)(hs:s=st0 (F.dL fs) .e 0)(hQ:Q=zyy fn.res y)(hw:wpC pr c s Q):Ans pr f fs y:=by
 subst hb hs hQ;obtain⟨x,s,⟨hx,d,hd,rd,hz⟩,ev⟩ :=ze2 _ _ _ hw;refine⟨if Nat.beq s.lw 0&&d.isF then ⟨d,.e,0,0,s.mx⟩else ⟨d,s.h,s.c,s.lw,s.mx⟩,rd,?_,?_⟩
 .have key:EV fun m=>zfx (evC (zb8 pr m) m) fn (F.dL fs) .e 0=some (if Nat.beq s.lw 0&&d.isF then ⟨d,.e,0,0,s.mx⟩else ⟨d,s.h,s.c,s.lw,s.mx⟩):=by
   refine ev.mono fun m hm=> ?_
   unfold zfx;unfold st0 at hm;rw[hm];cases x with
   |exit i=>exact hx.elim
   |nrm=>simp only[hd];split<;>rfl
   |ret=>simp only[hd];split<;>rfl
  obtain⟨N,hN⟩ :=key;refine⟨N+1,fun m hm=> ?_⟩;obtain⟨m,rfl⟩ :∃m',m=m'+1:=⟨m - 1,by omega⟩
  simp only[zb8,hf];exact hN m (by omega)
 .split
  .rename_i hb;simp only[Z14]at hb;have hr:=zr7 12 d y rd hb.2 hz;subst hr;exact zio 12 d y [] hz fun id hid=>by simp at hid
  .exact hz
def zdr{pr:Pr}{f:Nat}{fn:Fn}(hf:pr.fn f=some fn){fs:List F}{y:F}(hw:wpC pr fn.body (st0 (F.dL fs) .e 0) (zyy fn.res y)):Ans pr f fs y:=
 zUG hf rfl rfl rfl hw
section
variable {pr:Pr}{l:List Op}{s:St}{Q:St->Prop}{dst:Option Nat}
def y_mv{x:A}:wpO pr (⟨dst,none,.mv x⟩ ::l) s Q↔oB (zah s.tm x) fun d=>wpO pr l (s.up dst d) Q:=by rw[x_mv,zfv]
def z4W{q x y:A}:wpO pr (⟨dst,none,.pick q x y⟩ ::l) s Q↔oB ((zah s.tm q).bind asB) fun b=>oB (zah s.tm x) fun d=>oB (zah s.tm y) fun e=>wpO pr l (s.up dst (if b then d else e)) Q:=by
 rw[z4T,zyB];simp only[zfv]
def y_ld{g:Bool}{n:Nat}{x:A}:wpO pr (⟨dst,none,.ld g n x⟩ ::l) s Q↔oB (zah s.tm x) fun p=>oB (zcJ g n s.h.get p) fun y=>wpO pr l (s.up dst y.1) Q:=by rw[x_ld];simp only[zfv]
def y_bin{op:BinOp}{x y:A}:wpO pr (⟨dst,none,.bin op x y⟩ ::l) s Q↔oB ((zah s.tm x).bind asF) fun a=>oB ((zah s.tm y).bind asF) fun b=>oB (zaS op a b) fun z=>wpO pr l (s.up dst (.f z)) Q:=by
 rw[x_bin,zHq];simp only[zHq,zfv]
def y_not{x:A}:wpO pr (⟨dst,none,.un .not x⟩ ::l) s Q↔oB ((zah s.tm x).bind asB) fun b=>wpO pr l (s.up dst (.f (.b !b))) Q:=by rw[x_not,zyB]
def y_len{x:A}:wpO pr (⟨dst,none,.len x⟩ ::l) s Q↔oB (zah s.tm x) fun v=>oB (zco v) fun n=>wpO pr l (s.up dst (.f (.i .i64 n))) Q:=by rw[x_len];simp only[zfv]
def y_fa{off:Nat}{x:A}:wpO pr (⟨dst,none,.fa off x⟩ ::l) s Q↔oB (zah s.tm x) fun v=>oB (faB off v) fun d=>wpO pr l (s.up dst d) Q:=by rw[x_fa];simp only[zfv]
def y_ext{x:A}{i:Nat}:wpO pr (⟨dst,none,.ext x i⟩ ::l) s Q↔oB ((zah s.tm x).bind zCM) fun cs=>oB cs[i]? fun d=>wpO pr l (s.up dst d) Q:=by rw[x_ext,zSk];simp only[zfv]
def y_box{x:A}:wpO pr (⟨dst,none,.box x⟩ ::l) s Q↔oB (zah s.tm x) fun d=>oB d.cells fun cs=>wpO pr l (s.aft dst (.ptr s.c cs.length 0 0) [(s.c,some (.arr cs.length 0 [cs]))] (s.c+1)) Q:=by rw[x_box];simp only[zfv]
def y_st{n:Nat}{x v:A}:wpO pr (⟨dst,none,.st n x v⟩ ::l) s Q↔oB (zah s.tm x) fun p=>oB (zah s.tm v) fun d=>oB (zdK n s.h.get p d) fun y=>y.1<s.c/\wpO pr l (s.aft dst (.f .un) [(y.1,some y.2)] s.c) Q:=by
 rw[x_st];simp only[zfv]
def y_ia{es:Nat}{x i:A}:wpO pr (⟨dst,none,.ia es x i⟩ ::l) s Q↔oB (zah s.tm x) fun v=>oB (zah s.tm i) fun w=>oB (zbu w) fun n=>oB (iaB es v n) fun d=>wpO pr l (s.up dst d) Q:=by rw[x_ia];simp only[zfv]
def y_mkf{f:Nat}{b:List A}:wpO pr (⟨dst,none,.mkf f [] b⟩ ::l) s Q↔oB (zat (zah s.tm) b) fun y=>wpO pr l (s.up dst (fnD f y)) Q:=by rw[x_mkf,zfv]
def y_bld{z:List F}{ps:List (Nat×Nat×A)}:wpO pr (⟨dst,none,.bld z ps⟩ ::l) s Q↔oB (zat (fun(p:Nat×Nat×A)=>(zah s.tm p.2.2).map fun d=>(p.1,p.2.1,d)) ps) fun qs=>oB (zdo (z.map D.f) qs) fun cs=>wpO pr l (s.up dst (.ag cs)) Q:=by
 rw[x_bld];simp only[zfv]
def zUK{f:Nat}{args:List A}:wpO pr (⟨dst,none,.callp f args⟩ ::l) s Q↔oB (zat (zah s.tm) args) fun ds=>oB (zcj s.h.get ds) fun y=>∃x,Ans pr f y.1 x/\zau s.c (zav s.h.get y.2)=true/\wpO pr l (s.aft dst x.d (zav s.h.get y.2) s.c) Q:=by
 rw[zUJ];simp only[zfv]
def z4U{f:Nat}{args:List A}:wpO pr (⟨dst,none,.call f args⟩ ::l) s Q↔oB (zat (zah s.tm) args) fun ds=>∃q,Con pr f ds s.h s.c q/\wpO pr l (s.cal dst q) Q:=by rw[z4R,zfv]
def zfr:D->Option (Nat×List D×List D)
 | .fn f a b=>some (f,a,b)
 | .f (.fn f)=>some (f,[],[])
 |_=>none
def zRn(f:Nat)(a b:List D):zfr (.fn f a b)=some (f,a,b):=rfl
def zZk(f:Nat):zfr (.f (.fn f))=some (f,[],[]):=rfl
def zUN{x:A}{args:List A}:wpO pr (⟨dst,none,.callv x args⟩ ::l) s Q↔oB ((zah s.tm x).bind zfr) fun g=>oB (zat (zah s.tm) args) fun ds=>∃q,Con pr g.1 (g.2.1++ds++g.2.2) s.h s.c q/\wpO pr l (s.cal dst q) Q:=by
 cases hx:zah s.tm x with
 |none=>simp[wpO,zbj,zbN,O.res,hx,oB]
 |some d=>
  cases hm:zat (zah s.tm) args with
  |none=>cases d with
   |f y=>cases y<;>simp[wpO,zbj,zbN,O.res,hx,hm,oB,zfr]
   |_=>simp[wpO,zbj,zbN,O.res,hx,hm,oB,zfr]
  |some ds=>
   cases d with
   |f y=>
    cases y with
    |fn f=>simp only[wpO,zbj,zbN,O.res,hx,hm,Z47,Z46,kindOf,oB,zfr,Z28,Z22];exact Iff.rfl
    |_=>simp[wpO,zbj,zbN,O.res,hx,hm,oB,zfr,kindOf]
   |fn f a b=>simp only[wpO,zbj,zbN,O.res,hx,hm,Z47,Z46,kindOf,oB,zfr];exact Iff.rfl
   |_=>simp[wpO,zbj,zbN,O.res,hx,hm,oB,zfr,kindOf]
def z4V{x:A}{a b:C}{Q:Ex->St->Prop}:wpC pr (.cond x a b) s Q↔oB ((zah s.tm x).bind asB) fun t=>if t then wpC pr a s Q else wpC pr b s Q:=by rw[z4S,zyB]
end
end Go.Vse
end
section
namespace Go.Vse
variable [Globs]
def zcu(a b:List Nat):Prop:=∀x∈a,x∉b
section
variable (pr:Pr)
def zcC:Nat->List (List Nat×List Nat)->List Nat->List Nat->Prop
 |_,[],_,_=>True
 |m,(r,w)::L,rd,wr=>(m%2=1->zcu rd w/\zcu wr w/\zcu wr r)/\zcC (m/2) L rd wr
def wpE:List (List Nat×List Nat)->List (Op×Nat)->St->(St->Prop)->Prop
 |_,[],s,Q=>Q s
 |L,(o,mask)::l,s,Q=>zbj pr o s fun s' p=>p.all=false/\zcC mask L p.rd p.wr/\wpE (L++[(p.rd,p.wr)]) l {s' with c:=p.hi} Q
variable {pr}
def zrS{o:Op}{s:St}{Q Q':St->Fp->Prop}(hQ:∀s p,Q s p->Q' s p)(h:zbj pr o s Q):zbj pr o s Q':=by
 have m0:∀r,zcF r Q->zcF r Q':=by
  intro r h;unfold zcF at h|-;split
  .exact hQ _ _ h
  .exact h
 unfold zbj at h|-;split
 .simp_all
 .rename_i hw;simp only[hw]at h;exact hQ _ _ h
 .rename_i hw;simp only[hw]at h;split
  .simp_all
  .rename_i o' hr;simp only[hr]at h;split
   .rename_i hk;simp only[hk]at h;split
    .simp_all
    .rename_i hf;simp only[hf]at h;obtain⟨x,h1,h2⟩ :=h;exact⟨x,h1,m0 _ h2⟩
   .rename_i hk;simp only[hk]at h;obtain⟨q,h1,h2⟩ :=h;exact⟨q,h1,m0 _ h2⟩
   .rename_i hk;simp only[hk]at h;exact m0 _ h
   .rename_i hk;simp only[hk]at h
theorem zd0:∀(m:Nat) (L:List (List Nat×List Nat)),zcC m L [] []↔True
 |_,[]=>Iff.rfl
 |m,(r,w)::L=>by simp[zcC,zcu,zd0 (m/2) L]
theorem zqL{p:Fp}(hp:p.all=false){mask:Nat}:∀(fps:List Fp) (i:Nat),(∀q∈fps,q.all=false)->zcC (mask/2 ^ i) (fps.map fun q=>(q.rd,q.wr)) p.rd p.wr->zbX p mask fps i=true
 |[],_,_,_=>rfl
 |q::l,i,hf,h=>by
  simp only[Z10,zcC]at h;have h2:=zqL hp l (i+1) (fun x hx=>hf x (by simp[hx])) (by rw[Z195,<-Nat.div_div_eq_div_mul];exact h.2);simp only[zbX,h2,Z187,Z115,Z80];cases hb:mask.testBit i with
  |false=>exact .inl rfl
  |true=>
   right;rw[Z138]at hb;obtain⟨d1,d2,d3⟩ :=h.1 (of_decide_eq_true hb);have q1:=hf q (by simp);simp only[Fp.apart,q1,hp,Z14,Z50,Z80,Z114,Z65];exact⟨⟨fun x hx hm=>d1 x hx hm,fun x hx hm=>d3 x hm hx⟩,fun x hx hm=>d2 x hm hx⟩
theorem zQ5:∀(l:List (Op×Nat)) (fps:List Fp) (s:St) (Q:St->Prop),(∀q∈fps,q.all=false)->wpE pr (fps.map fun q=>(q.rd,q.wr)) l s Q->wpD pr l fps s Q
 |[],_,_,_,_,h=>h
 |(o,mask)::l,fps,s,Q,hf,h=>by
  refine zrS (fun s' p ⟨h1,h2,h3⟩ =>⟨?_,zQ5 l (fps++[p]) _ Q ?_ (by simpa using h3)⟩) h
  .exact zqL h1 fps 0 hf (by simpa using h2)
  .intro q hq;rcases Z4.1 hq with hq|hq
   .exact hf q hq
   .simp only[Z31]at hq;subst hq;exact h1
def zZx{ops:List (Op×Nat)}{s:St}{Q:Ex->St->Prop}(h:wpE pr [] ops s (Q .nrm)):wpC pr (.dreg ops) s Q:=
 zQ5 ops [] s _ (fun q hq=>by simp at hq) h
def St.ue(s:St)(dst:Option Nat)(d:D):St:={s with tm:=zbR s.tm dst d,c:=s.c+1,mx:=Nat.max s.mx (s.c+1)}
def St.ae(s:St)(dst:Option Nat)(d:D)(wr:List (Nat×Option Ob))(c:Nat):St:=
 {tm:=zbR s.tm dst d,h:=wrT s.h wr,c:=c+1,lw:=zdq s.lw wr,mx:=Nat.max s.mx (c+1)}
def St.se(s:St)(dst:Option Nat):St:={s with tm:=zbR s.tm dst (.f .un)}
def zQN(s:St)(dst:Option Nat)(d:D):(s.ue dst d).tm=zbR s.tm dst d:=rfl
def ue_h(s:St)(dst:Option Nat)(d:D):(s.ue dst d).h=s.h:=rfl
def ue_c(s:St)(dst:Option Nat)(d:D):(s.ue dst d).c=s.c+1:=rfl
def zQL(s:St)(dst:Option Nat)(d:D):(s.ue dst d).lw=s.lw:=rfl
def zO1(s:St)(dst:Option Nat)(d:D)(wr:List (Nat×Option Ob))(c:Nat):(s.ae dst d wr c).tm=zbR s.tm dst d:=rfl
def ae_h(s:St)(dst:Option Nat)(d:D)(wr:List (Nat×Option Ob))(c:Nat):(s.ae dst d wr c).h=wrT s.h wr:=rfl
def ae_c(s:St)(dst:Option Nat)(d:D)(wr:List (Nat×Option Ob))(c:Nat):(s.ae dst d wr c).c=c+1:=rfl
def zO0(s:St)(dst:Option Nat)(d:D)(wr:List (Nat×Option Ob))(c:Nat):(s.ae dst d wr c).lw=zdq s.lw wr:=rfl
def zQG(s:St)(dst:Option Nat):(s.se dst).tm=zbR s.tm dst (.f .un):=rfl
def se_h(s:St)(dst:Option Nat):(s.se dst).h=s.h:=rfl
def se_c(s:St)(dst:Option Nat):(s.se dst).c=s.c:=rfl
def zQF(s:St)(dst:Option Nat):(s.se dst).lw=s.lw:=rfl
variable {l:List (Op×Nat)}{s:St}{Q:St->Prop}{dst:Option Nat}{L:List (List Nat×List Nat)}{mask:Nat}
def zJq(b:List Nat):zcu [] b↔True:=by simp[zcu]
def zG6(x:Nat)(a b:List Nat):zcu (x::a) b↔x∉b/\zcu a b:=by simp[zcu]
def e_nil:wpE pr L [] s Q↔Q s:=Iff.rfl
def zh4(d:D):s.ae dst d [] s.c=s.ue dst d:=rfl
theorem zcm{o:O A}(hk:kcl o= .n):wpE pr L ((⟨dst,none,o⟩,mask)::l) s Q↔oB ((o.res (zah s.tm)).bind (opv s.h.get s.c)) fun r=>zau r.c r.wr=true/\
    zcC mask L r.rd (r.wr.map (·.1))/\wpE pr (L++[(r.rd,r.wr.map (·.1))]) l (s.ae dst r.d r.wr r.c) Q:=by
  simp only[wpE,zbj,zbN];cases hr:o.res (zah s.tm)with
  |none=>exact Iff.rfl
  | some o'=>
    simp only[Z46,zuv hk hr];cases hv:opv s.h.get s.c o' with
    |none=>exact Iff.rfl
    | some r=>
      simp only[zcF,zcc,oB];cases hw:zau r.c r.wr with
      |false=>simp
      |true=>simp only[Z89,cond_false,true_and];exact Iff.rfl
def zdp{l:List Op}{o:O A}(hk:kcl o= .n):wpO pr (⟨dst,none,o⟩ ::l) s Q↔oB ((o.res (zah s.tm)).bind (opv s.h.get s.c)) fun r=>zau r.c r.wr=true/\wpO pr l (s.aft dst r.d r.wr r.c) Q:=by
 simp only[wpO,zbj,zbN];cases hr:o.res (zah s.tm)with
 |none=>exact Iff.rfl
 |some o'=>
  simp only[Z46,zuv hk hr];cases hv:opv s.h.get s.c o' with
  |none=>exact Iff.rfl
  |some r=>
   simp only[zcF,zcc,oB];cases hw:zau r.c r.wr with
   |false=>simp
   |true=>simp only[Z89,cond_false,true_and];exact Iff.rfl
def e_mv{x:A}:wpE pr L ((⟨dst,none,.mv x⟩,mask)::l) s Q↔oB (zah s.tm x) fun d=>wpE pr (L++[([],[])]) l (s.ue dst d) Q:=by
 rw[zcm rfl];cases hx:zah s.tm x<;>simp[O.res,hx,opv,okD,oB,zau,zcu,zh4,zd0]
def e_ld{g:Bool}{n:Nat}{x:A}:wpE pr L ((⟨dst,none,.ld g n x⟩,mask)::l) s Q↔oB (zah s.tm x) fun p=>oB (zcJ g n s.h.get p) fun y=>zcC mask L y.2 []/\wpE pr (L++[(y.2,[])]) l (s.ue dst y.1) Q:=by
 rw[zcm rfl];cases hx:zah s.tm x with
 |none=>simp[O.res,hx,oB]
 |some p=>
  cases hl:zcJ g n s.h.get p with
  |none=>simp[O.res,hx,opv,hl,oB]
  |some y=>obtain⟨d,rd⟩ :=y;simp[O.res,hx,opv,hl,oB,zau,zcu,zh4,zd0]
def e_bin{op:BinOp}{x y:A}:wpE pr L ((⟨dst,none,.bin op x y⟩,mask)::l) s Q↔oB ((zah s.tm x).bind asF) fun a=>oB ((zah s.tm y).bind asF) fun b=>oB (zaS op a b) fun z=>wpE pr (L++[([],[])]) l (s.ue dst (.f z)) Q:=by
 rw[zcm rfl];cases hx:zah s.tm x with
 |none=>simp[O.res,hx,oB]
 |some d=>
  cases hy:zah s.tm y with
  |none=>cases d<;>simp[O.res,hx,hy,oB,asF]
  |some e=>
   cases d with
   |f a=>
    cases e with
    |f b=>
     cases hz:zaS op a b<;>simp[O.res,hx,hy,oB,asF,opv,hz,okF,zau,zcu,zh4,zd0]
    |_=>simp[O.res,hx,hy,oB,asF,opv]
   |_=>simp[O.res,hx,hy,oB,asF,opv]
def zZY{q x y:A}:wpE pr L ((⟨dst,none,.pick q x y⟩,mask)::l) s Q↔oB ((zah s.tm q).bind asB) fun b=>oB (zah s.tm x) fun d=>oB (zah s.tm y) fun e=>wpE pr (L++[([],[])]) l (s.ue dst (if b then d else e)) Q:=by
 rw[zcm rfl];cases hq:zah s.tm q with
 |none=>simp[O.res,hq,oB]
 |some z=>
  cases hx:zah s.tm x with
  |none=>
   cases z with
   |f z=>cases z<;>simp[O.res,hq,hx,oB,asB]
   |_=>simp[O.res,hq,hx,oB,asB]
  |some d=>
   cases hy:zah s.tm y with
   |none=>
    cases z with
    |f z=>cases z<;>simp[O.res,hq,hx,hy,oB,asB]
    |_=>simp[O.res,hq,hx,hy,oB,asB]
   |some e=>
    cases z with
    |f z=>cases z<;>simp[O.res,hq,hx,hy,oB,asB,opv,okD,zau,zcu,zh4,zd0]
    |_=>simp[O.res,hq,hx,hy,oB,asB,opv]
def e_eqb{ne:Bool}{x y:A}:wpE pr L ((⟨dst,none,.eqb ne x y⟩,mask)::l) s Q↔oB ((zah s.tm x).bind asB) fun a=>oB ((zah s.tm y).bind asB) fun b=>wpE pr (L++[([],[])]) l (s.ue dst (.f (.b (if ne then !(a==b)else a==b)))) Q:=by
 rw[zcm rfl];cases hx:zah s.tm x with
 |none=>simp[O.res,hx,oB]
 |some d=>
  cases hy:zah s.tm y with
  |none=>
   cases d with
   |f z=>cases z<;>simp[O.res,hx,hy,oB,asB]
   |_=>simp[O.res,hx,hy,oB,asB]
  |some e=>
   cases d with
   |f z=>
    cases z with
    |b a=>
     cases e with
     |f z'=>cases z'<;>simp[O.res,hx,hy,oB,asB,opv,okF,zau,zcu,zh4,zd0]
     |_=>simp[O.res,hx,hy,oB,asB,opv]
    |_=>simp[O.res,hx,hy,oB,asB,opv]
   |_=>simp[O.res,hx,hy,oB,asB,opv]
def e_len{x:A}:wpE pr L ((⟨dst,none,.len x⟩,mask)::l) s Q↔oB (zah s.tm x) fun v=>oB (zco v) fun n=>wpE pr (L++[([],[])]) l (s.ue dst (.f (.i .i64 n))) Q:=by
 rw[zcm rfl];cases hx:zah s.tm x with
 |none=>simp[O.res,hx,oB]
 |some v=>cases hl:zco v<;>simp[O.res,hx,oB,opv,hl,okF,zau,zcu,zh4,zd0]
def e_fa{off:Nat}{x:A}:wpE pr L ((⟨dst,none,.fa off x⟩,mask)::l) s Q↔oB (zah s.tm x) fun v=>oB (faB off v) fun d=>wpE pr (L++[([],[])]) l (s.ue dst d) Q:=by
 rw[zcm rfl];cases hx:zah s.tm x with
 |none=>simp[O.res,hx,oB]
 |some v=>cases v<;>simp[O.res,hx,oB,opv,faB,okD,zau,zcu,zh4,zd0]
def e_ia{es:Nat}{x i:A}:wpE pr L ((⟨dst,none,.ia es x i⟩,mask)::l) s Q↔oB (zah s.tm x) fun v=>oB (zah s.tm i) fun w=>oB (zbu w) fun n=>oB (iaB es v n) fun d=>wpE pr (L++[([],[])]) l (s.ue dst d) Q:=by
 rw[zcm rfl];cases hx:zah s.tm x with
 |none=>simp[O.res,hx,oB]
 |some v=>
  cases hy:zah s.tm i with
  |none=>simp[O.res,hx,hy,oB]
  |some w=>
   cases hn:zbu w with
   |none=>simp[O.res,hx,hy,opv,hn,oB]
   |some n=>
    cases v with
    |f z=>
     cases z with
     |sl es' els=>
      by_cases he:es=es'
      .subst he;cases hel:els[n]? <;>simp[O.res,hx,hy,oB,opv,hn,iaB,hel,okD,zau,zcu,zh4,zd0]
      .simp[O.res,hx,hy,oB,opv,hn,iaB,he]
     |_=>simp[O.res,hx,hy,oB,opv,hn,iaB]
    |sl id off m es' lim ex=>
     by_cases he:es=es'/\n<m
     .simp[O.res,hx,hy,oB,opv,hn,iaB,he,okD,zau,zcu,zh4,zd0]
     .simp[O.res,hx,hy,oB,opv,hn,iaB,he]
    |_=>simp[O.res,hx,hy,oB,opv,hn,iaB]
def e_bld{z:List F}{ps:List (Nat×Nat×A)}:wpE pr L ((⟨dst,none,.bld z ps⟩,mask)::l) s Q↔oB (zat (fun(p:Nat×Nat×A)=>(zah s.tm p.2.2).map fun d=>(p.1,p.2.1,d)) ps) fun qs=>oB (zdo (z.map D.f) qs) fun cs=>wpE pr (L++[([],[])]) l (s.ue dst (.ag cs)) Q:=by
 have e:zat (fun(p:Nat×Nat×A)=>(zah s.tm p.2.2).map fun d=>(p.1,p.2.1,d)) ps=zat (fun x=>match x with|(o,n,x)=>do some (o,n,<-zah s.tm x)) ps:=by
  congr 1
  funext p
  obtain⟨o,n,x⟩ :=p;simp only;cases zah s.tm x<;>rfl
 rw[e,zcm rfl];simp only[O.res];cases hq:zat (fun x=>match x with|(o,n,x)=>do some (o,n,<-zah s.tm x)) ps with
 |none=>simp[oB]
 |some qs=>cases hf:zdo (z.map D.f) qs<;>simp[oB,opv,hf,okD,zau,zcu,zh4,zd0]
def e_new{cs:List F}:wpE pr L ((⟨dst,none,.new cs⟩,mask)::l) s Q↔zcC mask L [] [s.c]/\wpE pr (L++[([],[s.c])]) l (s.ae dst (.ptr s.c cs.length 0 0) [(s.c,some (.arr cs.length 0 [cs.map D.f]))] (s.c+1)) Q:=by
 rw[zcm rfl];simp[O.res,oB,opv,zau,zcu,Z79]
def e_st{n:Nat}{x v:A}:wpE pr L ((⟨dst,none,.st n x v⟩,mask)::l) s Q↔oB (zah s.tm x) fun p=>oB (zah s.tm v) fun d=>oB (zdK n s.h.get p d) fun y=>y.1<s.c/\zcC mask L [y.1] [y.1]/\wpE pr (L++[([y.1],[y.1])]) l (s.ae dst (.f .un) [(y.1,some y.2)] s.c) Q:=by
 rw[zcm rfl];cases hx:zah s.tm x with
 |none=>simp[O.res,hx,oB]
 |some p=>
  cases hv:zah s.tm v with
  |none=>simp[O.res,hx,hv,oB]
  |some d=>
   cases hs:zdK n s.h.get p d with
   |none=>simp[O.res,hx,hv,oB,opv,hs]
   |some y=>obtain⟨id,ob⟩ :=y;simp[O.res,hx,hv,oB,opv,hs,zau,zcu,Z79]
theorem zSc{f:Nat}{args:List A}:wpE pr L ((⟨dst,none,.callp f args⟩,mask)::l) s Q↔oB (zat (zah s.tm) args) fun ds=>oB (zcj s.h.get ds) fun y=>∃x,Ans pr f y.1 x/\zau s.c (zav s.h.get y.2)=true/\
      zcC mask L y.2 ((zav s.h.get y.2).map (·.1))/\wpE pr (L++[(y.2,(zav s.h.get y.2).map (·.1))]) l (s.ae dst x.d (zav s.h.get y.2) s.c) Q:=by
  simp only[wpE,zbj,zbN,O.res,Z47];cases hm:zat (zah s.tm) args with
  |none=>simp[oB]
  | some ds=>
    simp only[Z46,kindOf,oB];cases hf:zcj s.h.get ds with
    |none=>exact Iff.rfl
    | some y=>
      obtain⟨fs,rd⟩ :=y;simp only;refine exists_congr fun x=>and_congr_right fun _=> ?_
      simp only[zcF,zcc];cases hw:zau s.c (zav s.h.get rd)with
      |false=>simp
      |true=>simp only[Z89,cond_false,true_and];exact Iff.rfl
def asG:D->Option (Option Bool)
 | .f (.b b)=>some (some b)
 | .f .un=>some none
 |_=>none
def asG_b(b:Bool):asG (.f (.b b))=some (some b):=rfl
def zZl:asG (.f .un)=some none:=rfl
def ziX{t:T D}{g:Nat}{w:Bool}:zbN t (some (g,w))=((t.get g).bind asG).map (· ==some w):=by
  simp only[zbN];cases t.get g with
  |none=>rfl
  | some d=>
    cases d with
    | f x=>
      cases x with
      |b b=>cases b<;>cases w<;>rfl
      |_=>rfl
    |_=>rfl
def zUO{l:List Op}{g:Nat}{w:Bool}{o:O A}:wpO pr (⟨dst,some (g,w),o⟩ ::l) s Q↔oB ((s.tm.get g).bind asG) fun x=>if x==some w then wpO pr (⟨dst,none,o⟩ ::l) s Q else wpO pr l (s.se dst) Q:=by
 cases hx:(s.tm.get g).bind asG with
 |none=>
  have:zbN s.tm (some (g,w))=none:=by rw[ziX,hx];rfl
  simp[wpO,zbj,this,oB]
 |some x=>
  have hw:zbN s.tm (some (g,w))=some (x==some w):=by rw[ziX,hx];rfl
  simp only[oB];cases hb:x==some w with
  |true=>rw[hb]at hw;simp only[wpO,zbj,hw,Z60];exact Iff.rfl
  |false=>rw[hb]at hw;simp only[wpO,zbj,hw];exact Iff.rfl
def zSd{g:Nat}{w:Bool}{o:O A}:wpE pr L ((⟨dst,some (g,w),o⟩,mask)::l) s Q↔oB ((s.tm.get g).bind asG) fun x=>if x==some w then wpE pr L ((⟨dst,none,o⟩,mask)::l) s Q else wpE pr (L++[([],[])]) l (s.se dst) Q:=by
 cases hx:(s.tm.get g).bind asG with
 |none=>
  have:zbN s.tm (some (g,w))=none:=by rw[ziX,hx];rfl
  simp[wpE,zbj,this,oB]
 |some x=>
  have hw:zbN s.tm (some (g,w))=some (x==some w):=by rw[ziX,hx];rfl
  simp only[oB];cases hb:x==some w with
  |true=>rw[hb]at hw;simp only[wpE,zbj,hw,Z60];exact Iff.rfl
  |false=>
   rw[hb]at hw;simp only[wpE,zbj,hw];constructor
   .rintro⟨_,_,h⟩;exact h
   .intro h;exact⟨trivial,(zd0 _ _).2 trivial,h⟩
end
end Go.Vse
end
section
namespace Go.Vse
variable [Globs]
abbrev EnP:=Nat×List F×F
def zab(pr:Pr)(e:EnP):Prop:=Ans pr e.1 e.2.1 e.2.2
def zmo(pr:Pr):List EnP->Prop
 |[]=>True
 |e::l=>zab pr e/\zmo pr l
def zyZ(f:Nat)(fs:List F)(l:List EnP):Option F:=
 @List.rec EnP (fun _=>Option F) none (fun p _ ih=>@Bool.rec (fun _=>Option F) ih (@Bool.rec (fun _=>Option F) ih (some p.2.2) (F.zc7 p.2.1 fs)) (Nat.beq p.1 f)) l
def zD9(mask:Nat)(l:List EnP):Orc:=fun f fs=>
 @Bool.rec (fun _=>Option F) none (zyZ f fs l) (Nat.beq (Nat.mod (Nat.div mask (Nat.pow 2 f)) 2) 1)
theorem zsh{pr:Pr}{f:Nat}{fs:List F}{x:F}:∀{l:List EnP},zmo pr l->zyZ f fs l=some x->Ans pr f fs x
 |[],_,h=>by cases h
 |p::l,ha,h=>by
  have e:zyZ f fs (p::l)= @Bool.rec (fun _=>Option F) (zyZ f fs l) (@Bool.rec (fun _=>Option F) (zyZ f fs l) (some p.2.2) (F.zc7 p.2.1 fs)) (Nat.beq p.1 f):=rfl;rw[e]at h;cases hb:Nat.beq p.1 f with
  |false=>rw[hb]at h;exact zsh ha.2 h
  |true=>
   rw[hb]at h;cases hq:F.zc7 p.2.1 fs with
   |false=>rw[hq]at h;exact zsh ha.2 h
   |true=>
    rw[hq]at h;cases h;rw[<-Z88 hb,<-F.zeQ _ _ hq];exact ha.1
def zS1{pr:Pr}{mask:Nat}{l:List EnP}(ha:zmo pr l):zh0 pr (zD9 mask l):=by
 intro f fs x h;unfold zD9 at h;cases hb:Nat.beq (Nat.mod (Nat.div mask (Nat.pow 2 f)) 2) 1 with
 |false=>rw[hb]at h;cases h
 |true=>rw[hb]at h;exact zsh ha h
def runE{pr:Pr}{mask n:Nat}{l:List EnP}{e:EnP}(ha:zmo pr l)(h:zzs (zD9 mask l) pr n e.1 e.2.1=some e.2.2):zab pr e:=
 zpy (zS1 ha) h
end Go.Vse
end
section
namespace Go.Vse
variable [Globs]
section
variable (K:Nat->Option Nat)(spq:O A->Bool)
def okS(i:Nat):Bool:=match K i with
 |some _=>false
 |none=>true
def okD':Option Nat->Bool
 |some i=>okS K i
 |none=>true
end
def zJS{K:Nat->Option Nat}{i:Nat}(h:okS K i=true):K i=none:=by
 unfold okS at h;split at h
 .cases h
 .assumption
def Inn(K:Nat->Option Nat)(u u':Nat->D)(t t':T D):Prop:=
 ∀i k,K i=some k->t.get i=t'.get i\/(t.get i=some (u k)/\t'.get i=some (u' k))
structure Ag(K:Nat->Option Nat)(u u':Nat->D)(s s':St):Prop where
 out:∀n,K n=none->s.tm.get n=s'.tm.get n
 inn:Inn K u u' s.tm s'.tm
 h:s.h=s'.h
 c:s.c=s'.c
 lw:s.lw=s'.lw
 mx:s.mx=s'.mx
section
variable {K:Nat->Option Nat}{spq:O A->Bool}{u u':Nat->D}{cl:Cl}
def zou{t:T D}{dst:Option Nat}{d:D}(n:Nat):(zbR t dst d).get n=if dst=some n then some d else t.get n:=by
 cases dst with
 |none=>simp[zbR]
 |some i=>
  simp only[zbR,T.zae,Z45]
  by_cases h:n=i
  .subst h;simp
  .rw[Z49 h,Z49 (fun e=>h e.symm)]
theorem Ag.put{s s':St}(a:Ag K u u' s s'){dst:Option Nat}(hd:okD' K dst=true)(d:D)(h:T Ob)(c lw mx:Nat):
  Ag K u u' {tm:=zbR s.tm dst d,h,c,lw,mx} {tm:=zbR s'.tm dst d,h,c,lw,mx}:=by
 refine⟨fun n hn=> ?_,fun n k hn=> ?_,rfl,rfl,rfl,rfl⟩
 .simp only[zou];split
  .rfl
  .exact a.out n hn
 .simp only[zou];have:dst≠some n:=by
   rintro rfl;have:=zJS hd;rw[hn]at this;cases this
  rw[Z49 this,Z49 this];exact a.inn n k hn
theorem Ag.zjq{s s':St}(a:Ag K u u' s s'){j k:Nat}(hj:K j=some k)(h:T Ob)(c lw mx:Nat):
  Ag K u u' {tm:=zbR s.tm (some j) (u k),h,c,lw,mx} {tm:=zbR s'.tm (some j) (u' k),h,c,lw,mx}:=by
 refine⟨fun n hn=> ?_,fun n m hn=> ?_,rfl,rfl,rfl,rfl⟩
 .simp only[zou];have:¬(some j=some n):=by
   intro e;cases e;rw[hj]at hn;cases hn
  rw[Z49 this,Z49 this];exact a.out n hn
 .simp only[zou]
  by_cases e:some j=some n
  .cases e;rw[hj]at hn;cases hn;simp
  .rw[Z49 e,Z49 e];exact a.inn n m hn
end
end Go.Vse
end
section
namespace Go.Vse
open Go.RowKit
open Go (BinOp IntKind UnOp)
set_option maxRecDepth 100000
set_option maxHeartbeats 4000000
set_option linter.unusedSimpArgs false
section
variable [Globs]
variable {pr:Pr}{s:St}{Q:St->Prop}{dst:Option Nat}{L:List (List Nat×List Nat)}{mask:Nat}
end
end Go.Vse
end
section
namespace Go.Vse
open Go.RowKit
open Go (BinOp IntKind UnOp)
set_option maxRecDepth 100000
set_option maxHeartbeats 4000000
section
variable [Globs]
variable {P:Program}{amb:Mu}{ρ:Nat->Option Nat}{c:Nat->Prop}{h:Hp}
end
end Go.Vse
end
section
namespace Go.Vse
open Go.RowKit
open Go (BinOp IntKind UnOp)
set_option maxRecDepth 100000
set_option maxHeartbeats 4000000
set_option linter.unusedSimpArgs false
section
variable [Globs]
variable {pr:Pr}{s:St}{Q:St->Prop}{dst:Option Nat}{L:List (List Nat×List Nat)}{mask:Nat}
end
end Go.Vse
end
section
namespace Go.Vse
open Go.RowKit
open Go (BinOp IntKind UnOp)
set_option maxRecDepth 100000
set_option maxHeartbeats 4000000
section
variable [Globs]
variable {P:Program}{pur:Nat->Bool}
def zgx.same{f:Nat}{args:List D}{h:T Ob}{n:Nat}{q q':CR}(hq:zgx P f args h n q)(hd:q'.d=q.d)(hh:∀i,q'.h.get i=q.h.get i)(hc:q'.c=q.c)(hl:q'.lw=q.lw)(hm:q'.mx=q.mx):zgx P f args h n q':=by
 obtain⟨h1,h2,h3,h4⟩ :=hq;refine⟨h1,by omega,by omega,fun amb ρ c w vs hs hf ha=> ?_⟩;rw[hm]at hf;refine (h4 amb ρ c w vs hs hf ha).mono ?_;rintro e w' ⟨v,he,hb,ρ',k1,k2,k3⟩;have hg:q'.h.get=q.h.get:=funext hh;refine⟨v,he,hb,ρ',?_,?_,?_⟩
 .rw[hd,hg,hc];exact k1
 .rw[hg,hc];exact k2
 .rw[hg,hc,hl,hm];exact k3
structure Apart(w:World)(b bv ov:Nat):Prop where
 ne:bv≠b
 sh:∃tA kA tB kB,w.shape? bv=some (tA,kA)/\w.shape? b=some (tB,kB)/\kB≠0/\w.frozen? ⟨bv,ov,none⟩ =false/\w.frozen? ⟨bv,kA,none⟩ =false
end
end Go.Vse
end
