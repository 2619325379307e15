/- The evaluator and its soundness. Conditions: none. -/
import Derived.Test.YtdonnbdegnkflaaGreatDoorVd
import Derived.Test.YtdonnbdegnkflaaGreatDoorVc
set_option linter.all false
noncomputable section
section
namespace Go.Vse
variable [Globs]
def Rt(tm:TM)(t:T D):Prop:=∀i,getM tm i=t.get i
def Rt.put{tm:TM}{t:T D}(h:Rt tm t)(dst:Option Nat)(d:D):Rt (zma tm dst d) (zdx t dst d):=by
 intro i;cases dst with
 |none=>exact h i
 |some j=>
  have e:zma tm (some j) d=zra tm j (some d):=rfl;rw[e,zwQ,h i];simp only[zdx,T.zaM]
def F.zFA(x:F):x.dk=x.d:=by cases x<;>rfl
section
variable {tm:TM}{t:T D}
def zaW(h:Rt tm t)(x:A):zfg tm x=zae t x:=by
 cases x with
 |t n=>exact h n
 |k x=>exact congrArg some (F.zFA x)
 |x=>rfl
 |g cs=>rfl
theorem zn4(h:Rt tm t):∀l,zqP tm l=zaw (zae t) l
 |[]=>rfl
 |x::l=>by
  have e:zqP tm (x::l)=oL (zfg tm x) fun y=>oL (zqP tm l) fun m=>some (y::m):=rfl
  rw[e,zaW h,zn4 h l,zaw];cases zae t x with
  |none=>rfl
  |some y=>cases zaw (zae t) l<;>rfl
theorem zDN(h:Rt tm t):∀l,zGR tm l=zaw (fun(p:Nat×Nat×A)=>do some (p.1,p.2.1,<-zae t p.2.2)) l
 |[]=>rfl
 |x::l=>by
  have e:zGR tm (x::l)=oL (zfg tm x.2.2) fun y=>oL (zGR tm l) fun m=>some ((x.1,x.2.1,y)::m):=rfl
  rw[e,zaW h,zDN h l,zaw];cases zae t x.2.2 with
  |none=>rfl
  |some y=>
   simp only[Z47,Z46];cases zaw _ l<;>rfl
theorem zwh(h:Rt tm t):∀l,zGS tm l=zaw (fun(p:Nat×A)=>do some (p.1,<-zae t p.2)) l
 |[]=>rfl
 |x::l=>by
  have e:zGS tm (x::l)=oL (zfg tm x.2) fun y=>oL (zGS tm l) fun m=>some ((x.1,y)::m):=rfl
  rw[e,zaW h,zwh h l,zaw];cases zae t x.2 with
  |none=>rfl
  |some y=>
   simp only[Z47,Z46];cases zaw _ l<;>rfl
def zDW(h:Rt tm t)(x:Option A):zsD tm x=zea (zae t) x:=by
 cases x with
 |none=>rfl
 |some x=>
  have e:zsD tm (some x)=oL (zfg tm x) fun y=>some (some y):=rfl
  rw[e,zaW h,zea];cases zae t x<;>rfl
def zaL{α:Type}(x:α)(k:α->Option Rs):oK (some x) k=k x:=rfl
def zacw(h:Rt tm t)(hp:Nat->Option Ob)(c:Nat)(o:O A)(hk:kcl o= .n):opK o tm hp c=(o.res (zae t)).bind (opv hp c):=by
 cases o with
 |mv x'=>
  show ra k_mv x' tm hp c=_;unfold ra;simp only[zaW h,O.res,Z47];cases zae t x' with
  |none=>rfl
  |some y=>
   simp only[zaL,Z46];rfl
 |pick q' x' y'=>
  show zww zJY q' x' y' tm hp c=_;unfold zww;simp only[zaW h,O.res,Z47];cases zae t q' with
  |none=>rfl
  |some y=>
   simp only[zaL,Z46];cases zae t x' with
   |none=>rfl
   |some y=>
    simp only[zaL,Z46];cases zae t y' with
    |none=>rfl
    |some y=>
     simp only[zaL,Z46];rfl
 |new cs'=>
  rfl
 |box x'=>
  show ra zSd x' tm hp c=_;unfold ra;simp only[zaW h,O.res,Z47];cases zae t x' with
  |none=>rfl
  |some y=>
   simp only[zaL,Z46];rfl
 |bld z' ps'=>
  show rp (zSb z') ps' tm hp c=_;unfold rp;simp only[zDN h,O.res,Z47];cases zaw _ ps' with
  |none=>rfl
  |some y=>
   simp only[zaL,Z46];rfl
 |bsl es' z' m' ps'=>
  show rq (zSh es' z' m') ps' tm hp c=_;unfold rq;simp only[zwh h,O.res,Z47];cases zaw _ ps' with
  |none=>rfl
  |some y=>
   simp only[zaL,Z46];rfl
 |bsf es' z' m' ps'=>
  show rq (zSf es' z' m') ps' tm hp c=_;unfold rq;simp only[zwh h,O.res,Z47];cases zaw _ ps' with
  |none=>rfl
  |some y=>
   simp only[zaL,Z46];rfl
 |ld g' n' x'=>
  show ra (k_ld g' n') x' tm hp c=_;unfold ra;simp only[zaW h,O.res,Z47];cases zae t x' with
  |none=>rfl
  |some y=>
   simp only[zaL,Z46];rfl
 |st n' x' v'=>
  show raa (k_st n') x' v' tm hp c=_;unfold raa;simp only[zaW h,O.res,Z47];cases zae t x' with
  |none=>rfl
  |some y=>
   simp only[zaL,Z46];cases zae t v' with
   |none=>rfl
   |some y=>
    simp only[zaL,Z46];rfl
 |nck x'=>
  show ra zSJ x' tm hp c=_;unfold ra;simp only[zaW h,O.res,Z47];cases zae t x' with
  |none=>rfl
  |some y=>
   simp only[zaL,Z46];rfl
 |bin op' x' y'=>
  show raa (zR9 op') x' y' tm hp c=_;unfold raa;simp only[zaW h,O.res,Z47];cases zae t x' with
  |none=>rfl
  |some y=>
   simp only[zaL,Z46];cases zae t y' with
   |none=>rfl
   |some y=>
    simp only[zaL,Z46];rfl
 |eqb ne' x' y'=>
  show raa (zSq ne') x' y' tm hp c=_;unfold raa;simp only[zaW h,O.res,Z47];cases zae t x' with
  |none=>rfl
  |some y=>
   simp only[zaL,Z46];cases zae t y' with
   |none=>rfl
   |some y=>
    simp only[zaL,Z46];rfl
 |eqn kd' ne' x' y'=>
  show raa (zSr kd' ne') x' y' tm hp c=_;unfold raa;simp only[zaW h,O.res,Z47];cases zae t x' with
  |none=>rfl
  |some y=>
   simp only[zaL,Z46];cases zae t y' with
   |none=>rfl
   |some y=>
    simp only[zaL,Z46];rfl
 |eqa ks' ne' x' y'=>
  show raa (zSp ks' ne') x' y' tm hp c=_;unfold raa;simp only[zaW h,O.res,Z47];cases zae t x' with
  |none=>rfl
  |some y=>
   simp only[zaL,Z46];cases zae t y' with
   |none=>rfl
   |some y=>
    simp only[zaL,Z46];rfl
 |un op' x'=>
  show ra (k_un op') x' tm hp c=_;unfold ra;simp only[zaW h,O.res,Z47];cases zae t x' with
  |none=>rfl
  |some y=>
   simp only[zaL,Z46];rfl
 |cvi k' x'=>
  show ra (zSn k') x' tm hp c=_;unfold ra;simp only[zaW h,O.res,Z47];cases zae t x' with
  |none=>rfl
  |some y=>
   simp only[zaL,Z46];rfl
 |cvs x'=>
  show ra zSo x' tm hp c=_;unfold ra;simp only[zaW h,O.res,Z47];cases zae t x' with
  |none=>rfl
  |some y=>
   simp only[zaL,Z46];rfl
 |s2b x'=>
  show ra zSL x' tm hp c=_;unfold ra;simp only[zaW h,O.res,Z47];cases zae t x' with
  |none=>rfl
  |some y=>
   simp only[zaL,Z46];rfl
 |b2s x'=>
  show ra zR7 x' tm hp c=_;unfold ra;simp only[zaW h,O.res,Z47];cases zae t x' with
  |none=>rfl
  |some y=>
   simp only[zaL,Z46];rfl
 |mkf f' a' b'=>
  show rll (zSC f') a' b' tm hp c=_;unfold rll;simp only[zn4 h,O.res,Z47];cases zaw (zae t) a' with
  |none=>rfl
  |some y=>
   simp only[zaL,Z46];cases zaw (zae t) b' with
   |none=>rfl
   |some y=>
    simp only[zaL,Z46];rfl
 |mks es' byt' z' l' m'=>
  show raa (zSD es' byt' z') l' m' tm hp c=_;unfold raa;simp only[zaW h,O.res,Z47];cases zae t l' with
  |none=>rfl
  |some y=>
   simp only[zaL,Z46];cases zae t m' with
   |none=>rfl
   |some y=>
    simp only[zaL,Z46];rfl
 |sls x' lo' hi'=>
  show zNd zSR x' lo' hi' tm hp c=_;unfold zNd;simp only[zaW h,zDW h,O.res,Z47];cases zae t x' with
  |none=>rfl
  |some y=>
   simp only[zaL,Z46];cases zea (zae t) lo' with
   |none=>rfl
   |some y=>
    simp only[zaL,Z46];cases zea (zae t) hi' with
    |none=>rfl
    |some y=>
     simp only[zaL,Z46];rfl
 |slc es' x' lo' hi' mx'=>
  show zG3 (zSQ es') x' lo' hi' mx' tm hp c=_;unfold zG3;simp only[zaW h,zDW h,O.res,Z47];cases zae t x' with
  |none=>rfl
  |some y=>
   simp only[zaL,Z46];cases zea (zae t) lo' with
   |none=>rfl
   |some y=>
    simp only[zaL,Z46];cases zea (zae t) hi' with
    |none=>rfl
    |some y=>
     simp only[zaL,Z46];cases zea (zae t) mx' with
     |none=>rfl
     |some y=>
      simp only[zaL,Z46];rfl
 |fa off' x'=>
  show ra (k_fa off') x' tm hp c=_;unfold ra;simp only[zaW h,O.res,Z47];cases zae t x' with
  |none=>rfl
  |some y=>
   simp only[zaL,Z46];rfl
 |fld g' off' n' x'=>
  show ra (zSt g' off' n') x' tm hp c=_;unfold ra;simp only[zaW h,O.res,Z47];cases zae t x' with
  |none=>rfl
  |some y=>
   simp only[zaL,Z46];rfl
 |ia es' x' i'=>
  show raa (k_ia es') x' i' tm hp c=_;unfold raa;simp only[zaW h,O.res,Z47];cases zae t x' with
  |none=>rfl
  |some y=>
   simp only[zaL,Z46];cases zae t i' with
   |none=>rfl
   |some y=>
    simp only[zaL,Z46];rfl
 |iaa es' m' x' i'=>
  show raa (zSu es' m') x' i' tm hp c=_;unfold raa;simp only[zaW h,O.res,Z47];cases zae t x' with
  |none=>rfl
  |some y=>
   simp only[zaL,Z46];cases zae t i' with
   |none=>rfl
   |some y=>
    simp only[zaL,Z46];rfl
 |ixs x' i'=>
  show raa zSx x' i' tm hp c=_;unfold raa;simp only[zaW h,O.res,Z47];cases zae t x' with
  |none=>rfl
  |some y=>
   simp only[zaL,Z46];cases zae t i' with
   |none=>rfl
   |some y=>
    simp only[zaL,Z46];rfl
 |ixa g' es' m' x' i'=>
  show raa (zSw g' es' m') x' i' tm hp c=_;unfold raa;simp only[zaW h,O.res,Z47];cases zae t x' with
  |none=>rfl
  |some y=>
   simp only[zaL,Z46];cases zae t i' with
   |none=>rfl
   |some y=>
    simp only[zaL,Z46];rfl
 |ext x' i'=>
  show ra (zSs i') x' tm hp c=_;unfold ra;simp only[zaW h,O.res,Z47];cases zae t x' with
  |none=>rfl
  |some y=>
   simp only[zaL,Z46];rfl
 |app es' byt' s' x'=>
  show raa (zR5 es' byt') s' x' tm hp c=_;unfold raa;simp only[zaW h,O.res,Z47];cases zae t s' with
  |none=>rfl
  |some y=>
   simp only[zaL,Z46];cases zae t x' with
   |none=>rfl
   |some y=>
    simp only[zaL,Z46];rfl
 |apz es' byt' z' s' n'=>
  show raa (zR6 es' byt' z') s' n' tm hp c=_;unfold raa;simp only[zaW h,O.res,Z47];cases zae t s' with
  |none=>rfl
  |some y=>
   simp only[zaL,Z46];cases zae t n' with
   |none=>rfl
   |some y=>
    simp only[zaL,Z46];rfl
 |cpy es' d' s'=>
  show raa (zSl es') d' s' tm hp c=_;unfold raa;simp only[zaW h,O.res,Z47];cases zae t d' with
  |none=>rfl
  |some y=>
   simp only[zaL,Z46];cases zae t s' with
   |none=>rfl
   |some y=>
    simp only[zaL,Z46];rfl
 |clr es' z' s'=>
  show ra (zSk es' z') s' tm hp c=_;unfold ra;simp only[zaW h,O.res,Z47];cases zae t s' with
  |none=>rfl
  |some y=>
   simp only[zaL,Z46];rfl
 |len x'=>
  show ra zSz x' tm hp c=_;unfold ra;simp only[zaW h,O.res,Z47];cases zae t x' with
  |none=>rfl
  |some y=>
   simp only[zaL,Z46];rfl
 |lns x'=>
  show ra zSB x' tm hp c=_;unfold ra;simp only[zaW h,O.res,Z47];cases zae t x' with
  |none=>rfl
  |some y=>
   simp only[zaL,Z46];rfl
 |mlen x'=>
  show ra zJX x' tm hp c=_;unfold ra;simp only[zaW h,O.res,Z47];cases zae t x' with
  |none=>rfl
  |some y=>
   simp only[zaL,Z46];rfl
 |cap x'=>
  show ra zSi x' tm hp c=_;unfold ra;simp only[zaW h,O.res,Z47];cases zae t x' with
  |none=>rfl
  |some y=>
   simp only[zaL,Z46];rfl
 |mm mx' x' y'=>
  show raa (k_mm mx') x' y' tm hp c=_;unfold raa;simp only[zaW h,O.res,Z47];cases zae t x' with
  |none=>rfl
  |some y=>
   simp only[zaL,Z46];cases zae t y' with
   |none=>rfl
   |some y=>
    simp only[zaL,Z46];rfl
 |mmk=>
  rfl
 |mup kd' m' k' v'=>
  show zww (zSH kd') m' k' v' tm hp c=_;unfold zww;simp only[zaW h,O.res,Z47];cases zae t m' with
  |none=>rfl
  |some y=>
   simp only[zaL,Z46];cases zae t k' with
   |none=>rfl
   |some y=>
    simp only[zaL,Z46];cases zae t v' with
    |none=>rfl
    |some y=>
     simp only[zaL,Z46];rfl
 |mlk kd' z' ok' m' k'=>
  show raa (zSE kd' z' ok') m' k' tm hp c=_;unfold raa;simp only[zaW h,O.res,Z47];cases zae t m' with
  |none=>rfl
  |some y=>
   simp only[zaL,Z46];cases zae t k' with
   |none=>rfl
   |some y=>
    simp only[zaL,Z46];rfl
 |callp _ _=>cases hk
 |call _ _=>cases hk
 |callv _ _=>cases hk
def zym{f:A->Option D}{o:O A}{o':O D}(hk:kcl o= .n)(hr:o.res f=some o'):kindOf o'= .n:=by
 cases o with
 |mv _=>
  simp only[O.res]at hr;obtain⟨_,_,hr⟩ :=zal hr;cases hr;rfl
 |pick _ _ _=>
  simp only[O.res]at hr;obtain⟨_,_,hr⟩ :=zal hr;obtain⟨_,_,hr⟩ :=zal hr;obtain⟨_,_,hr⟩ :=zal hr;cases hr;rfl
 |new _=>
  simp only[O.res]at hr;cases hr;rfl
 |box _=>
  simp only[O.res]at hr;obtain⟨_,_,hr⟩ :=zal hr;cases hr;rfl
 |bld _ _=>
  simp only[O.res]at hr;obtain⟨_,_,hr⟩ :=zal hr;cases hr;rfl
 |bsl _ _ _ _=>
  simp only[O.res]at hr;obtain⟨_,_,hr⟩ :=zal hr;cases hr;rfl
 |bsf _ _ _ _=>
  simp only[O.res]at hr;obtain⟨_,_,hr⟩ :=zal hr;cases hr;rfl
 |ld _ _ _=>
  simp only[O.res]at hr;obtain⟨_,_,hr⟩ :=zal hr;cases hr;rfl
 |st _ _ _=>
  simp only[O.res]at hr;obtain⟨_,_,hr⟩ :=zal hr;obtain⟨_,_,hr⟩ :=zal hr;cases hr;rfl
 |nck _=>
  simp only[O.res]at hr;obtain⟨_,_,hr⟩ :=zal hr;cases hr;rfl
 |bin _ _ _=>
  simp only[O.res]at hr;obtain⟨_,_,hr⟩ :=zal hr;obtain⟨_,_,hr⟩ :=zal hr;cases hr;rfl
 |eqb _ _ _=>
  simp only[O.res]at hr;obtain⟨_,_,hr⟩ :=zal hr;obtain⟨_,_,hr⟩ :=zal hr;cases hr;rfl
 |eqn _ _ _ _=>
  simp only[O.res]at hr;obtain⟨_,_,hr⟩ :=zal hr;obtain⟨_,_,hr⟩ :=zal hr;cases hr;rfl
 |eqa _ _ _ _=>
  simp only[O.res]at hr;obtain⟨_,_,hr⟩ :=zal hr;obtain⟨_,_,hr⟩ :=zal hr;cases hr;rfl
 |un _ _=>
  simp only[O.res]at hr;obtain⟨_,_,hr⟩ :=zal hr;cases hr;rfl
 |cvi _ _=>
  simp only[O.res]at hr;obtain⟨_,_,hr⟩ :=zal hr;cases hr;rfl
 |cvs _=>
  simp only[O.res]at hr;obtain⟨_,_,hr⟩ :=zal hr;cases hr;rfl
 |s2b _=>
  simp only[O.res]at hr;obtain⟨_,_,hr⟩ :=zal hr;cases hr;rfl
 |b2s _=>
  simp only[O.res]at hr;obtain⟨_,_,hr⟩ :=zal hr;cases hr;rfl
 |mkf _ _ _=>
  simp only[O.res]at hr;obtain⟨_,_,hr⟩ :=zal hr;obtain⟨_,_,hr⟩ :=zal hr;cases hr;rfl
 |mks _ _ _ _ _=>
  simp only[O.res]at hr;obtain⟨_,_,hr⟩ :=zal hr;obtain⟨_,_,hr⟩ :=zal hr;cases hr;rfl
 |sls _ _ _=>
  simp only[O.res]at hr;obtain⟨_,_,hr⟩ :=zal hr;obtain⟨_,_,hr⟩ :=zal hr;obtain⟨_,_,hr⟩ :=zal hr;cases hr;rfl
 |slc _ _ _ _ _=>
  simp only[O.res]at hr;obtain⟨_,_,hr⟩ :=zal hr;obtain⟨_,_,hr⟩ :=zal hr;obtain⟨_,_,hr⟩ :=zal hr;obtain⟨_,_,hr⟩ :=zal hr;cases hr;rfl
 |fa _ _=>
  simp only[O.res]at hr;obtain⟨_,_,hr⟩ :=zal hr;cases hr;rfl
 |fld _ _ _ _=>
  simp only[O.res]at hr;obtain⟨_,_,hr⟩ :=zal hr;cases hr;rfl
 |ia _ _ _=>
  simp only[O.res]at hr;obtain⟨_,_,hr⟩ :=zal hr;obtain⟨_,_,hr⟩ :=zal hr;cases hr;rfl
 |iaa _ _ _ _=>
  simp only[O.res]at hr;obtain⟨_,_,hr⟩ :=zal hr;obtain⟨_,_,hr⟩ :=zal hr;cases hr;rfl
 |ixs _ _=>
  simp only[O.res]at hr;obtain⟨_,_,hr⟩ :=zal hr;obtain⟨_,_,hr⟩ :=zal hr;cases hr;rfl
 |ixa _ _ _ _ _=>
  simp only[O.res]at hr;obtain⟨_,_,hr⟩ :=zal hr;obtain⟨_,_,hr⟩ :=zal hr;cases hr;rfl
 |ext _ _=>
  simp only[O.res]at hr;obtain⟨_,_,hr⟩ :=zal hr;cases hr;rfl
 |app _ _ _ _=>
  simp only[O.res]at hr;obtain⟨_,_,hr⟩ :=zal hr;obtain⟨_,_,hr⟩ :=zal hr;cases hr;rfl
 |apz _ _ _ _ _=>
  simp only[O.res]at hr;obtain⟨_,_,hr⟩ :=zal hr;obtain⟨_,_,hr⟩ :=zal hr;cases hr;rfl
 |cpy _ _ _=>
  simp only[O.res]at hr;obtain⟨_,_,hr⟩ :=zal hr;obtain⟨_,_,hr⟩ :=zal hr;cases hr;rfl
 |clr _ _ _=>
  simp only[O.res]at hr;obtain⟨_,_,hr⟩ :=zal hr;cases hr;rfl
 |len _=>
  simp only[O.res]at hr;obtain⟨_,_,hr⟩ :=zal hr;cases hr;rfl
 |lns _=>
  simp only[O.res]at hr;obtain⟨_,_,hr⟩ :=zal hr;cases hr;rfl
 |mlen _=>
  simp only[O.res]at hr;obtain⟨_,_,hr⟩ :=zal hr;cases hr;rfl
 |cap _=>
  simp only[O.res]at hr;obtain⟨_,_,hr⟩ :=zal hr;cases hr;rfl
 |mm _ _ _=>
  simp only[O.res]at hr;obtain⟨_,_,hr⟩ :=zal hr;obtain⟨_,_,hr⟩ :=zal hr;cases hr;rfl
 |mmk=>
  simp only[O.res]at hr;cases hr;rfl
 |mup _ _ _ _=>
  simp only[O.res]at hr;obtain⟨_,_,hr⟩ :=zal hr;obtain⟨_,_,hr⟩ :=zal hr;obtain⟨_,_,hr⟩ :=zal hr;cases hr;rfl
 |mlk _ _ _ _ _=>
  simp only[O.res]at hr;obtain⟨_,_,hr⟩ :=zal hr;obtain⟨_,_,hr⟩ :=zal hr;cases hr;rfl
 |callp _ _=>cases hk
 |call _ _=>cases hk
 |callv _ _=>cases hk
end
end Go.Vse
end
section
namespace Go.Vse
variable [Globs]
def zqG{α:Type}(t:T α):t.gk=t.get:=funext (T.zuB t)
structure RS(k:SK)(s:St):Prop where
 tm:Rt k.tm s.tm
 h:k.h=s.h
 c:k.c=s.c
 lw:k.lw=s.lw
 mx:k.mx=s.mx
theorem zwz:∀(l:List (Nat×Option Ob)) (h:T Ob),zrj h l=wrT h l
 |[],_=>rfl
 |(id,some ob)::l,h=>by rw[zrj,wrT,zwz l,T.zpx];rfl
 |(id,none)::l,h=>by rw[zrj,wrT,zwz l,T.zpx];rfl
theorem zxe:∀(l:List (Nat×Option Ob)) (m:Nat),zri m l=zeW m l
 |[],_=>rfl
 |(id,o)::l,m=>by
  rw[zri,zeW,zxe l]
  by_cases hlt:id<m
  .rw[Z51 hlt,show Nat.blt id m=true by simpa [Z79]using hlt]
  .rw[Z49 hlt,show Nat.blt id m=false by
    cases hc:Nat.blt id m with
    |false=>rfl
    |true=>exact absurd (by simpa [Z79]using hc) hlt]
def zZ3(a b:Nat):zmD a b=Nat.max a b:=by
 unfold zmD
 by_cases hle:a<=b
 .rw[show Nat.ble a b=true by simpa [Z150]using hle];exact (Z162 hle).symm
 .rw[show Nat.ble a b=false by
   cases hc:Nat.ble a b with
   |false=>rfl
   |true=>exact absurd (by simpa [Z150]using hc) hle]
  exact (Z169 (Z110 (Z163 hle))).symm
def zJC(tm:TM)(h:T Ob)(c lw mx:Nat)(p:Fp):fin tm h c lw mx p=some (⟨tm,h,c,lw,Nat.max mx (c+1)⟩,p):=by
 unfold fin
 by_cases hle:mx<=c+1
 .rw[show Nat.ble mx (Nat.succ c)=true by simpa [Z150]using hle,show Nat.max mx (c+1)=c+1 from Z162 hle]
 .rw[show Nat.ble mx (Nat.succ c)=false by
   cases hc:Nat.ble mx (Nat.succ c)with
   |false=>rfl
   |true=>exact absurd (by simpa [Z150]using hc) hle,show Nat.max mx (c+1)=mx from Z169 (by omega)]
def zZC(tm:TM)(h:T Ob)(c lw mx:Nat)(p:Fp):fin2 tm h c lw mx p=some (⟨tm,h,c,lw,Nat.max mx (c+1)⟩,p):=by
 unfold fin2;rw[show Nat.ble lw lw=true by simp[Z150],zJC]
section
variable {tm:TM}{t:T D}
theorem zEl(ht:Rt tm t){h:T Ob}{c lw mx:Nat}{dst:Option Nat}{r:Option Rs}{k:SK}{p:Fp}(hs:zsO tm h c lw mx dst r=some (k,p)):
  ∃s,zd6 ⟨t,h,c,lw,mx⟩ dst r=some (s,p)/\RS k s:=by
 cases r with
 |none=>cases hs
 |some r=>
  obtain⟨d,rd,wr,c'⟩ :=r;cases wr with
  |nil=>
   have e:zsO tm h c lw mx dst (some ⟨d,rd,[],c'⟩)=fin (zma tm dst d) h c' lw mx ⟨false,rd,[],c,Nat.succ c',h,h⟩ :=rfl;rw[e,zJC]at hs;cases hs;exact⟨_,rfl,⟨ht.put dst d,rfl,rfl,rfl,rfl⟩⟩
  |cons x wr=>
   have e:zsO tm h c lw mx dst (some ⟨d,rd,x::wr,c'⟩)= @Bool.rec (fun _=>Option (SK×Fp)) none
    (fin2 (zma tm dst d) (zrj h (x::wr)) c' (zri lw (x::wr)) mx ⟨false,rd,(x::wr).map (·.1),c,Nat.succ c',h,zrj h (x::wr)⟩) (zax c' (x::wr)):=rfl
   rw[e]at hs;cases hw:zax c' (x::wr)with
   |false=>rw[hw]at hs;cases hs
   |true=>
    rw[hw]at hs;simp only[zZC,zwz,zxe,Z45,Z66]at hs;obtain⟨rfl,rfl⟩ :=hs;refine⟨⟨zdx t dst d,wrT h (x::wr),c',zeW lw (x::wr),Nat.max mx (c'+1)⟩,?_,⟨ht.put dst d,rfl,rfl,rfl,rfl⟩⟩;simp only[zd6,hw];rfl
theorem zEq(ht:Rt tm t){h:T Ob}{c lw mx:Nat}{dst:Option Nat}{q:Option CR}{k:SK}{p:Fp}(hs:zsP tm h c lw mx dst q=some (k,p)):
  ∃s,zjk ⟨t,h,c,lw,mx⟩ dst q=some (s,p)/\RS k s:=by
 cases q with
 |none=>cases hs
 |some q=>
  obtain⟨d,h',c',lw',mx'⟩ :=q;have e:zsP tm h c lw mx dst (some ⟨d,h',c',lw',mx'⟩)= @Bool.rec (fun _=>Option (SK×Fp)) none
   (some (⟨zma tm dst d,h',c',@Bool.rec (fun _=>Nat) lw' lw (Nat.ble lw lw'),zmD mx mx'⟩,⟨true,[],[],c,mx',h,h'⟩)) (Nat.ble (zmD mx mx') (zmD mx mx')):=rfl
  rw[e,show Nat.ble (zmD mx mx') (zmD mx mx')=true by simp[Z150]]at hs;cases hs;refine⟨_,rfl,⟨ht.put dst d,rfl,rfl,?_,zZ3 _ _⟩⟩;simp only
  by_cases hle:lw<=lw'
  .rw[show Nat.ble lw lw'=true by simpa [Z150]using hle];exact (Z73 hle).symm
  .rw[show Nat.ble lw lw'=false by
    cases hc:Nat.ble lw lw' with
    |false=>rfl
    |true=>exact absurd (by simpa [Z150]using hc) hle]
   exact (Z202 (Z110 (Z163 hle))).symm
def zNL(ht:Rt tm t)(g:Option (Nat×Bool)):zHm tm g=zcY t g:=by
 cases g with
 |none=>rfl
 |some p=>
  obtain⟨s,w⟩ :=p;have e:zHm tm (some (s,w))=oL (getM tm s) (zyy w):=rfl;rw[e,ht s];simp only[zcY];cases t.get s with
  |none=>rfl
  |some d=>
   have e2:oL (some d) (zyy w)=zyy w d:=rfl;rw[e2];cases d with
   |f x=>
    cases x with
    |b x=>cases x<;>cases w<;>rfl
    |_=>rfl
   |_=>rfl
end
def EV(p:Nat->Prop):Prop:=∃N,∀n,N<=n->p n
def EV.and{p q:Nat->Prop}(hp:EV p)(hq:EV q):EV fun n=>p n/\q n:=by
 obtain⟨N,h1⟩ :=hp;obtain⟨M,h2⟩ :=hq;exact⟨N+M,fun n hn=>⟨h1 n (by omega),h2 n (by omega)⟩⟩
def EV.mono{p q:Nat->Prop}(hp:EV p)(h:∀n,p n->q n):EV q:=hp.imp fun _ h1 n hn=>h n (h1 n hn)
def EV.all{p:Nat->Prop}(h:∀n,p n):EV p:=⟨0,fun n _=>h n⟩
def EV.ge(N:Nat):EV fun n=>N<=n:=⟨N,fun _ h=>h⟩
def Con(pr:Pr)(f:Nat)(args:List D)(h:T Ob)(c:Nat)(q:CR):Prop:=EV fun n=>zd0 pr n f args h c=some q
def Ans(pr:Pr)(f:Nat)(fs:List F)(x:F):Prop:=∃q rd,Con pr f (F.dL fs) .e 0 q/\frz q.h.get 12 q.d=some (x,rd)
section
variable {pr:Pr}{orc:Orc}{clK:Cl}
def zkL(pr:Pr)(orc:Orc):Prop:=∀f fs x,orc f fs=some x->Ans pr f fs x
def zoe(pr:Pr)(clK:Cl):Prop:=∀f args h c q,clK f args h c=some q->Con pr f args h c q
theorem zJd(ho:zkL pr orc)(hc:zoe pr clK){h:Nat->Option Ob}{c f:Nat}{args:List D}{r:Rs}(hs:zqr orc clK h c f args=some r):
  EV fun n=>zfQ (zd0 pr n) h c f args=some r:=by
 unfold zqr at hs;split at hs
 .cases hs
 .rename_i fs rd hfz;split at hs
  .rename_i x hx;obtain⟨q,rd',h1,h2⟩ :=ho f fs x hx;refine h1.mono fun n hn=> ?_
   simp only[zfQ,hfz,hn,h2];rw[<-hs,F.zFA]
  .split at hs
   .cases hs
   .rename_i q hq;split at hs
    .cases hs
    .rename_i x rd' hx;refine (hc _ _ _ _ _ hq).mono fun n hn=> ?_
     rw[zqG]at hx;simp only[zfQ,hfz,hn,hx];rw[<-hs,F.zFA]
theorem zNC(ho:zkL pr orc)(hc:zoe pr clK){tm:TM}{t:T D}(ht:Rt tm t){o:O A}{gd:Option (Nat×Bool)}{dst:Option Nat}{h:T Ob}{c lw mx:Nat}{k:SK}{p:Fp}
  (hs:zyw orc clK o dst tm h c lw mx=some (k,p)):∃s,RS k s/\EV fun n=>step (zd0 pr n) ⟨t,h,c,lw,mx⟩ ⟨dst,gd,o⟩ =some (s,p):=by
 unfold zyw at hs;cases hk:kcl o with
 |p f args=>
  have ho':o= .callp f args:=by cases o<;>simp[kcl]at hk;obtain⟨rfl,rfl⟩ :=hk;rfl
  subst ho';rw[hk]at hs;simp only[zn4 ht]at hs;cases hm:zaw (zae t) args with
  |none=>rw[hm]at hs;cases hs
  |some ds=>
   rw[hm]at hs;have hs':zsO tm h c lw mx dst (zqr orc clK h.gk c f ds)=some (k,p):=hs;cases hr:zqr orc clK h.gk c f ds with
   |none=>rw[hr]at hs';cases hs'
   |some r=>
    rw[hr]at hs';obtain⟨s,h1,h2⟩ :=zEl ht hs';refine⟨s,h2,(zJd ho hc hr).mono fun n hn=> ?_⟩;simp only[step,O.res,Z47,hm,Z46,kindOf];rw[zqG]at hn;rw[hn];exact h1
 |q f args=>
  have ho':o= .call f args:=by cases o<;>simp[kcl]at hk;obtain⟨rfl,rfl⟩ :=hk;rfl
  subst ho';rw[hk]at hs;simp only[zn4 ht]at hs;cases hm:zaw (zae t) args with
  |none=>rw[hm]at hs;cases hs
  |some ds=>
   rw[hm]at hs;have hs':zsP tm h c lw mx dst (clK f ds h c)=some (k,p):=hs;cases hr:clK f ds h c with
   |none=>rw[hr]at hs';cases hs'
   |some r=>
    rw[hr]at hs';obtain⟨s,h1,h2⟩ :=zEq ht hs';refine⟨s,h2,(hc _ _ _ _ _ hr).mono fun n hn=> ?_⟩;simp only[step,O.res,Z47,hm,Z46,kindOf];rw[hn];exact h1
 |v x args=>
  have ho':o= .callv x args:=by cases o<;>simp[kcl]at hk;obtain⟨rfl,rfl⟩ :=hk;rfl
  subst ho';rw[hk]at hs;simp only[zn4 ht,zaW ht]at hs;cases hx:zae t x with
  |none=>rw[hx]at hs;cases hs
  |some d=>
   rw[hx]at hs;cases hm:zaw (zae t) args with
   |none=>rw[hm]at hs;cases hs
   |some ds=>
    rw[hm]at hs;have hs':zzS clK dst ds tm h c lw mx d=some (k,p):=hs;have main:∀f as,kindOf (.callv d ds)= .q f as->zsP tm h c lw mx dst (clK f as h c)=some (k,p)->
      ∃s,RS k s/\EV fun n=>step (zd0 pr n) ⟨t,h,c,lw,mx⟩ ⟨dst,gd,.callv x args⟩ =some (s,p):=by
     intro f as hkd hs';cases hr:clK f as h c with
     |none=>rw[hr]at hs';cases hs'
     |some r=>
      rw[hr]at hs';obtain⟨s,h1,h2⟩ :=zEq ht hs';refine⟨s,h2,(hc _ _ _ _ _ hr).mono fun n hn=> ?_⟩;simp only[step,O.res,Z47,hm,hx,Z46,hkd];rw[hn];exact h1
    unfold zzS at hs';split at hs'
    .exact main _ _ rfl hs'
    .exact main _ _ rfl hs'
    .cases hs'
 |n=>
  rw[hk]at hs;have hs':zsO tm h c lw mx dst (opK o tm h.gk c)=some (k,p):=hs;rw[zacw ht _ _ _ hk]at hs';cases hr:o.res (zae t)with
  |none=>rw[hr]at hs';cases hs'
  |some o'=>
   rw[hr]at hs';simp only[Z46]at hs';obtain⟨s,h1,h2⟩ :=zEl ht hs';refine⟨s,h2,EV.all fun n=> ?_⟩;simp only[step,hr,zym hk hr];rw[zqG]at h1;exact h1
theorem zDU(ho:zkL pr orc)(hc:zoe pr clK){k k':SK}{s:St}(hr:RS k s){o:Op}{p:Fp}(hs:zsB orc clK k o=some (k',p)):
  ∃s',RS k' s'/\EV fun n=>zf8 (zd0 pr n) s o=some (s',p):=by
 obtain⟨tm,h,c,lw,mx⟩ :=k;obtain⟨t,h',c',lw',mx'⟩ :=s;obtain⟨ht,e1,e2,e3,e4⟩ :=hr;simp only at ht e1 e2 e3 e4;subst e1 e2 e3 e4;obtain⟨dst,gd,o⟩ :=o;have hs':zML orc clK dst gd o tm h c lw mx=some (k',p):=hs;unfold zML at hs';rw[zNL ht]at hs';cases hw:zcY t gd with
 |none=>rw[hw]at hs';cases hs'
 |some b=>
  rw[hw]at hs';cases b with
  |true=>
   obtain⟨s,h1,h2⟩ :=zNC (gd:=gd) ho hc ht (show zyw orc clK o dst tm h c lw mx=some (k',p)from hs');refine⟨s,h1,h2.mono fun n hn=> ?_⟩;simp only[zf8,hw];exact hn
  |false=>
   have hs2:some (SK.mk (zma tm dst (.f .un)) h c lw mx,Fp.mk false [] [] c c h h)=some (k',p):=hs';cases hs2;refine⟨⟨zdx t dst (.f .un),h,c,lw,mx⟩,⟨ht.put dst (.f .un),rfl,rfl,rfl,rfl⟩,EV.all fun n=> ?_⟩;simp only[zf8,hw]
theorem zDZ(ho:zkL pr orc)(hc:zoe pr clK):∀(l:List Op) (k k':SK) (s:St),RS k s->runK orc clK l k=some k'->∃s',RS k' s'/\EV fun n=>zhg (zd0 pr n) l s=some s'
 |[],k,k',s,hr,hs=>by
  cases hs;exact⟨s,hr,EV.all fun n=>rfl⟩
 |o::l,k,k',s,hr,hs=>by
  have e:runK orc clK (o::l) k= @Option.rec (SK×Fp) (fun _=>Option SK) none (fun p=>@Prod.rec SK Fp (fun _=>Option SK) (fun s' _=>runK orc clK l s') p) (zsB orc clK k o):=rfl;rw[e]at hs;cases h1:zsB orc clK k o with
  |none=>rw[h1]at hs;cases hs
  |some y=>
   obtain⟨k1,p⟩ :=y;rw[h1]at hs;obtain⟨s1,r1,ev1⟩ :=zDU ho hc hr h1;obtain⟨s2,r2,ev2⟩ :=zDZ ho hc l k1 k' s1 r1 hs;refine⟨s2,r2,(ev1.and ev2).mono fun n ⟨a,b⟩ => ?_⟩;simp only[zhg,a];exact b
def zr7{p q:Fp}(h:p.zmt=true):q.apart p=true/\p.apart q=true:=by
 obtain⟨all,rd,wr,lo,hi,h1,h2⟩ :=p;obtain⟨all',rd',wr',lo',hi',h1',h2'⟩ :=q;have e:Fp.zmt ⟨all,rd,wr,lo,hi,h1,h2⟩ = @Bool.rec (fun _=>Bool) (@List.rec Nat (fun _=>Bool) (@List.rec Nat (fun _=>Bool) true (fun _ _ _=>false) wr) (fun _ _ _=>false) rd) false all:=rfl;rw[e]at h;cases all with
 |true=>cases h
 |false=>
  cases rd with
  |cons _ _=>cases h
  |nil=>
   cases wr with
   |cons _ _=>cases h
   |nil=>cases all'<;>simp[Fp.apart]
inductive Imp:List Fp->List (Nat×Fp)->Prop where
 |nil:Imp [] []
 |skip {l m p}:Imp l m->p.zmt=true->Imp (l++[p]) m
 |keep {l m p}:Imp l m->Imp (l++[p]) ((l.length,p)::m)
theorem zjZ(p:Fp)(mask:Nat):∀(l:List Fp) (q:Fp) (i:Nat),zda p mask (l++[q]) i=(zda p mask l i&&(!mask.testBit (i+l.length)||q.apart p))
 |[],q,i=>by simp[zda]
 |x::l,q,i=>by
  simp only[Z29,zda,zjZ p mask l q (i+1),Z23];rw[show i+1+l.length=i+(l.length+1) by omega,Z155]
def zIW{p:Fp}{mask:Nat}{l:List Fp}{m:List (Nat×Fp)}(hi:Imp l m):zk9 p mask m=true->zda p mask l 0=true:=by
 induction hi with
 |nil=>intro _;rfl
 |skip _ hl ih=>
  intro h;rw[zjZ,ih h,(zr7 (q:=p) hl).2];simp
 | @keep l m q _ ih=>
  intro h;rw[zjZ];unfold zk9 at h;have hb:mask.testBit l.length=Nat.beq (Nat.mod (Nat.div mask (Nat.pow 2 l.length)) 2) 1:=by
   rw[Z138];have:∀x:Nat,decide (x=1)=Nat.beq x 1:=fun x=>by
    cases hx:Nat.beq x 1 with
    |true=>simpa using Z88 hx
    |false=>simpa using Nat.ne_of_beq_eq_false hx
   exact this _
  rw[Z25,hb];split at h
  .rename_i hbt;split at h
   .rename_i ha;rw[ih h,ha];simp
   .cases h
  .rename_i hbf;rw[ih h,hbf];simp
theorem zwR{p:Fp}(h:p.zmt=true)(mask:Nat):∀(l:List Fp) (i:Nat),zda p mask l i=true
 |[],_=>rfl
 |q::l,i=>by simp[zda,(zr7 (q:=q) h).1,zwR h mask l (i+1)]
theorem zJr(ho:zkL pr orc)(hc:zoe pr clK):∀(l:List (Op×Nat)) (fps:List Fp) (m:List (Nat×Fp)) (k k':SK) (s:St),Imp fps m->RS k s->
  drK orc clK l fps.length m k=some k'->∃s',RS k' s'/\EV fun n=>zg8 (zd0 pr n) l fps s=some s'
 |[],fps,m,k,k',s,_,hr,hs=>by
  cases hs;exact⟨s,hr,EV.all fun n=>rfl⟩
 |(o,mask)::l,fps,m,k,k',s,hm,hr,hs=>by
  have e:drK orc clK ((o,mask)::l) fps.length m k= @Option.rec (SK×Fp) (fun _=>Option SK) none (fun p=>@Prod.rec SK Fp (fun _=>Option SK) (fun s' p=>
   @Bool.rec (fun _=>Option SK) (@Bool.rec (fun _=>Option SK) none (drK orc clK l (Nat.succ fps.length) ((fps.length,p)::m) (zq9 s' p.hi)) (zk9 p mask m)) (drK orc clK l (Nat.succ fps.length) m (zq9 s' p.hi)) p.zmt) p) (zsB orc clK k o):=rfl
  rw[e]at hs;cases h1:zsB orc clK k o with
  |none=>rw[h1]at hs;cases hs
  |some y=>
   obtain⟨k1,p⟩ :=y;rw[h1]at hs;obtain⟨s1,r1,ev1⟩ :=zDU ho hc hr h1;have hrs:RS (zq9 k1 p.hi) {s1 with c:=p.hi}:=by
    obtain⟨tm,h,c,lw,mx⟩ :=k1;exact⟨r1.tm,r1.h,rfl,r1.lw,r1.mx⟩
   have hlen:Nat.succ fps.length=(fps++[p]).length:=by simp
   have fin:∀m',Imp (fps++[p]) m'->zda p mask fps 0=true->drK orc clK l (Nat.succ fps.length) m' (zq9 k1 p.hi)=some k'->∃s',RS k' s'/\EV fun n=>zg8 (zd0 pr n) ((o,mask)::l) fps s=some s':=by
    intro m' hm' ha hd;rw[hlen]at hd;obtain⟨s2,r2,ev2⟩ :=zJr ho hc l (fps++[p]) m' _ k' _ hm' hrs hd;refine⟨s2,r2,(ev1.and ev2).mono fun n ⟨a,b⟩ => ?_⟩;simp only[zg8,a,ha,Z60];exact b
   have hs':@Bool.rec (fun _=>Option SK) (@Bool.rec (fun _=>Option SK) none (drK orc clK l (Nat.succ fps.length) ((fps.length,p)::m) (zq9 k1 p.hi)) (zk9 p mask m)) (drK orc clK l (Nat.succ fps.length) m (zq9 k1 p.hi)) p.zmt=some k':=hs;cases hl:p.zmt with
   |true=>
    rw[hl]at hs';exact fin m (hm.skip hl) (zwR hl mask fps 0) hs'
   |false=>
    rw[hl]at hs';cases ha:zk9 p mask m with
    |false=>rw[ha]at hs';cases hs'
    |true=>
     rw[ha]at hs';exact fin _ hm.keep (zIW hm ha) hs'
theorem zwe{body:St->Option (Ex×St)}:∀(n m:Nat) (s:St) (r:Ex×St),n<=m->iter body n s=some r->iter body m s=some r
 |0,_,_,_,_,h=>by cases h
 |n+1,0,_,_,h,_=>by omega
 |n+1,m+1,s,r,hle,h=>by
  simp only[iter]at h|-;cases hb:body s with
  |none=>simp only[hb]at h;cases h
  |some y=>
   obtain⟨x,s'⟩ :=y;cases x with
   |nrm=>
    simp only[hb]at h|-;exact zwe n m s' r (by omega) h
   |exit i=>simp only[hb]at h|-;exact h
   |ret=>simp only[hb]at h|-;exact h
def RX(r:Ex×SK)(r':Ex×St):Prop:=r.1=r'.1/\RS r.2 r'.2
theorem zBh{r:Option (Ex×SK)}{kk:SK->Option (Ex×SK)}{y:Ex×SK}(h:zu9 r kk=some y):
  (∃k,r=some (.nrm,k)/\kk k=some y)\/(∃x k,r=some (x,k)/\x≠ .nrm/\y=(x,k)):=by
 cases r with
 |none=>cases h
 |some z=>
  obtain⟨x,k⟩ :=z;cases x with
  |nrm=>exact .inl ⟨k,rfl,h⟩
  |exit i=>cases h;exact .inr ⟨_,_,rfl,by simp,rfl⟩
  |ret=>cases h;exact .inr ⟨_,_,rfl,by simp,rfl⟩
theorem zj8(ho:zkL pr orc)(hc:zoe pr clK)(lf:Nat):∀(c:C) (k:SK) (s:St) (r:Ex×SK),RS k s->evK orc clK lf c k=some r->
  ∃r',RX r r'/\EV fun n=>evC (zd0 pr n) n c s=some r'
 | .skip,k,s,r,hr,hs=>by cases hs;exact⟨(.nrm,s),⟨rfl,hr⟩,EV.all fun n=>rfl⟩
 | .exit id,k,s,r,hr,hs=>by cases hs;exact⟨(.exit id,s),⟨rfl,hr⟩,EV.all fun n=>rfl⟩
 | .ret,k,s,r,hr,hs=>by cases hs;exact⟨(.ret,s),⟨rfl,hr⟩,EV.all fun n=>rfl⟩
 | .reg ops,k,s,r,hr,hs=>by
  have hs':zGT (runK orc clK ops k)=some r:=hs;cases h1:runK orc clK ops k with
  |none=>rw[h1]at hs';cases hs'
  |some k1=>
   rw[h1]at hs';cases hs';obtain⟨s1,r1,ev1⟩ :=zDZ ho hc ops k k1 s hr h1;exact⟨(.nrm,s1),⟨rfl,r1⟩,ev1.mono fun n hn=>by simp only[evC,hn]⟩
 | .dreg ops,k,s,r,hr,hs=>by
  have hs':zGT (drK orc clK ops 0 [] k)=some r:=hs;cases h1:drK orc clK ops 0 [] k with
  |none=>rw[h1]at hs';cases hs'
  |some k1=>
   rw[h1]at hs';cases hs';obtain⟨s1,r1,ev1⟩ :=zJr ho hc ops [] [] k k1 s .nil hr h1;exact⟨(.nrm,s1),⟨rfl,r1⟩,ev1.mono fun n hn=>by simp only[evC,hn]⟩
 | .seq a b,k,s,r,hr,hs=>by
  have hs':zu9 (evK orc clK lf a k) (evK orc clK lf b)=some r:=hs;rcases zBh hs' with⟨k1,h1,h2⟩ |⟨x,k1,h1,hx,rfl⟩
  .obtain⟨⟨x',s1⟩,⟨e1,r1⟩,ev1⟩ :=zj8 ho hc lf a k s _ hr h1;simp only at e1 r1;subst e1;obtain⟨r2,x2,ev2⟩ :=zj8 ho hc lf b k1 s1 _ r1 h2;exact⟨r2,x2,(ev1.and ev2).mono fun n ⟨p,q⟩ =>by simp only[evC,p];exact q⟩
  .obtain⟨⟨x',s1⟩,⟨e1,r1⟩,ev1⟩ :=zj8 ho hc lf a k s _ hr h1;simp only at e1 r1;subst e1;refine⟨(x,s1),⟨rfl,r1⟩,ev1.mono fun n p=> ?_⟩;simp only[evC,p];cases x<;>simp_all
 | .cond x a b,k,s,r,hr,hs=>by
  have hs':@Option.rec D (fun _=>Option (Ex×SK)) none (fun d=>@Option.rec Bool (fun _=>Option (Ex×SK)) none (fun b'=>@Bool.rec (fun _=>Option (Ex×SK)) (evK orc clK lf b k) (evK orc clK lf a k) b') (zyb d)) (zfg k.tm x)=some r:=hs;rw[zaW hr.tm]at hs';cases hx:zae s.tm x with
  |none=>rw[hx]at hs';cases hs'
  |some d=>
   rw[hx]at hs';cases hd:zyb d with
   |none=>simp only[hd]at hs';cases hs'
   |some b'=>
    simp only[hd]at hs';have hde:d= .f (.b b'):=by
     unfold zyb at hd;split at hd
     .cases hd;rfl
     .cases hd
    subst hde;cases b' with
    |true=>
     obtain⟨r2,x2,ev2⟩ :=zj8 ho hc lf a k s _ hr hs';exact⟨r2,x2,ev2.mono fun n p=>by simp only[evC,hx];exact p⟩
    |false=>
     obtain⟨r2,x2,ev2⟩ :=zj8 ho hc lf b k s _ hr hs';exact⟨r2,x2,ev2.mono fun n p=>by simp only[evC,hx];exact p⟩
 | .blk id c,k,s,r,hr,hs=>by
  have hs':blkK id (evK orc clK lf c k)=some r:=hs;cases h1:evK orc clK lf c k with
  |none=>rw[h1]at hs';cases hs'
  |some y=>
   obtain⟨x,k1⟩ :=y;rw[h1]at hs';obtain⟨⟨x',s1⟩,⟨e1,r1⟩,ev1⟩ :=zj8 ho hc lf c k s _ hr h1;simp only at e1 r1;subst e1;cases x with
   |nrm=>cases hs';exact⟨(.nrm,s1),⟨rfl,r1⟩,ev1.mono fun n p=>by simp only[evC,p]⟩
   |ret=>cases hs';exact⟨(.ret,s1),⟨rfl,r1⟩,ev1.mono fun n p=>by simp only[evC,p]⟩
   |exit i=>
    have hs2:@Bool.rec (fun _=>Option (Ex×SK)) (some (.exit i,k1)) (some (.nrm,k1)) (Nat.beq i id)=some r:=hs';cases hb:Nat.beq i id with
    |true=>
     rw[hb]at hs2;cases hs2;exact⟨(.nrm,s1),⟨rfl,r1⟩,ev1.mono fun n p=>by simp only[evC,p];rw[Z51 (Z88 hb)]⟩
    |false=>
     rw[hb]at hs2;cases hs2;exact⟨(.exit i,s1),⟨rfl,r1⟩,ev1.mono fun n p=>by simp only[evC,p];rw[Z49 (Nat.ne_of_beq_eq_false hb)]⟩
 | .loop c,k,s,r,hr,hs=>by
  have hs':zyk (evK orc clK lf c) lf k=some r:=hs;have key:∀(m:Nat) (k:SK) (s:St),RS k s->zyk (evK orc clK lf c) m k=some r->∃r',RX r r'/\EV fun n=>iter (evC (zd0 pr n) n c) m s=some r':=by
   intro m
   induction m with
   |zero=>intro k s _ h;cases h
   |succ m ih=>
    intro k s hr h;have h':zu9 (evK orc clK lf c k) (zyk (evK orc clK lf c) m)=some r:=h;rcases zBh h' with⟨k1,h1,h2⟩ |⟨x,k1,h1,hx,rfl⟩
    .obtain⟨⟨x',s1⟩,⟨e1,r1⟩,ev1⟩ :=zj8 ho hc lf c k s _ hr h1;simp only at e1 r1;subst e1;obtain⟨r2,x2,ev2⟩ :=ih k1 s1 r1 h2;exact⟨r2,x2,(ev1.and ev2).mono fun n ⟨p,q⟩ =>by simp only[iter,p];exact q⟩
    .obtain⟨⟨x',s1⟩,⟨e1,r1⟩,ev1⟩ :=zj8 ho hc lf c k s _ hr h1;simp only at e1 r1;subst e1;refine⟨(x,s1),⟨rfl,r1⟩,ev1.mono fun n p=> ?_⟩;simp only[iter,p];cases x<;>simp_all
  obtain⟨r',x',ev⟩ :=key lf k s hr hs';exact⟨r',x',(ev.and (EV.ge lf)).mono fun n ⟨p,q⟩ =>by simp only[evC];exact zwe lf n s r' q p⟩
theorem zLh:∀(l:List D) (i:Nat) (tm:TM) (t:T D),Rt tm t->Rt (tmK l i tm) (zao l i t)
 |[],_,_,_,h=>h
 |d::l,i,tm,t,h=>by
  rw[tmK,zao];refine zLh l (i+1) _ _ fun j=> ?_
  rw[zwQ,h j,T.zaM]
def zNk{k:SK}{s:St}(hr:RS k s)(v:Rv):zG5 k v=resV s v:=by
 cases v with
 |t n=>exact hr.tm n
 |cell n g sz=>
  simp only[zG5,resV,hr.tm n,hr.h,zqG];cases s.tm.get n<;>rfl
theorem zAD{k:SK}{s:St}(hr:RS k s):∀l,zyt k l=zaw (resV s) l
 |[]=>rfl
 |x::l=>by
  rw[zyt,zaw,zNk hr,zAD hr l];cases resV s x with
  |none=>rfl
  |some y=>cases zaw (resV s) l<;>rfl
def zNi{k:SK}{s:St}(hr:RS k s)(l:List Rv):zG4 k l=resD s l:=by
 unfold zG4 resD;rw[zAD hr];cases zaw (resV s) l with
 |none=>rfl
 |some m=>
  cases m with
  |nil=>rfl
  |cons a m=>cases m<;>rfl
theorem zAb(ho:zkL pr orc):∀n,zoe pr (zye orc pr n)
 |0=>fun f args h c q hq=>by cases hq
 |n+1=>fun f args h c q hq=>by
  simp only[zye]at hq;cases hf:pr.fn f with
  |some fn=>
   simp only[hf]at hq;unfold fnK at hq;split at hq
   .cases hq
   .cases hq
   .rename_i x k hne hev;have hr0:RS (SK.mk (tmK args 0 {}) h c c c) (St.mk (zao args 0 .e) h c c c):=⟨zLh args 0 {} .e fun i=>by rw[zMr];rfl,rfl,rfl,rfl,rfl⟩
    obtain⟨⟨x',s⟩,⟨e1,r1⟩,ev1⟩ :=zj8 ho (zAb ho n) n fn.body _ _ _ hr0 hev;simp only at e1 r1;subst e1;split at hq
    .cases hq
    .rename_i d hd;rw[zNi r1]at hd;have key:EV fun m=>zha (evC (zd0 pr m) m) fn args h c=some q:=by
      refine ev1.mono fun m hm=> ?_
      simp only[zha,hm];have fin:(match resD s fn.res with|none=>none|some d=>if Nat.beq s.lw c&&d.isF then some (CR.mk d h c c s.mx)else some (CR.mk d s.h s.c s.lw s.mx))=some q:=by
       simp only[hd];rw[<-r1.lw,<-r1.mx,<-r1.h,<-r1.c];split at hq
       .rename_i hb;split at hq
        .rename_i hi;rw[hb,hi];simpa using hq
        .rename_i hi;rw[hb,hi];simpa using hq
       .rename_i hb;rw[hb];simpa using hq
      cases x with
      |nrm=>exact fin
      |ret=>exact fin
      |exit i=>exact absurd rfl (hne i)
     obtain⟨N,hN⟩ :=key;refine⟨N+1,fun m hm=> ?_⟩;obtain⟨m,rfl⟩ :∃m',m=m'+1:=⟨m - 1,by omega⟩
     simp only[zd0,hf];exact hN m (by omega)
  |none=>
   simp only[hf]at hq;refine⟨1,fun m hm=> ?_⟩;obtain⟨m,rfl⟩ :∃m',m=m'+1:=⟨m - 1,by omega⟩
   simp only[zd0,hf];exact hq
end
end Go.Vse
end
section
namespace Go.Vse
variable [Globs]
section
variable (pr:Pr)
def zer(r:Option (St×Fp))(Q:St->Fp->Prop):Prop:=
 match r with
 |some (s',p)=>Q s' p
 |none=>False
def zcu(o:Op)(s:St)(Q:St->Fp->Prop):Prop:=
 match zcY s.tm o.gd with
 |none=>False
 |some false=>Q {s with tm:=zdx s.tm o.dst (.f .un)} {all:=false,rd:=[],wr:=[],lo:=s.c,hi:=s.c,h:=s.h,h':=s.h}
 |some true=>match o.o.res (zae s.tm)with
  |none=>False
  |some o'=>match kindOf o' with
   | .p f args=>match zeu s.h.get args with
    |none=>False
    |some (fs,rd)=>∃x,Ans pr f fs x/\zer (zd6 s o.dst (some {d:=x.d,rd,wr:=zaF s.h.get rd,c:=s.c})) Q
   | .q f args=>∃q,Con pr f args s.h s.c q/\zer (zjk s o.dst (some q)) Q
   | .n=>zer (zd6 s o.dst (opv s.h.get s.c o')) Q
   | .bad=>False
def wpO:List Op->St->(St->Prop)->Prop
 |[],s,Q=>Q s
 |o::l,s,Q=>zcu pr o s fun s' _=>wpO l s' Q
def wpD:List (Op×Nat)->List Fp->St->(St->Prop)->Prop
 |[],_,s,Q=>Q s
 |(o,mask)::l,fps,s,Q=>zcu pr o s fun s' p=>zda p mask fps 0=true/\wpD l (fps++[p]) {s' with c:=p.hi} Q
def wpC:C->St->(Ex->St->Prop)->Prop
 | .skip,s,Q=>Q .nrm s
 | .reg ops,s,Q=>wpO pr ops s (Q .nrm)
 | .dreg ops,s,Q=>wpD pr ops [] s (Q .nrm)
 | .seq a b,s,Q=>wpC a s fun x s'=>match x with
  | .nrm=>wpC b s' Q
  |x=>Q x s'
 | .cond x a b,s,Q=>match zae s.tm x with
  |some (.f (.b true))=>wpC a s Q
  |some (.f (.b false))=>wpC b s Q
  |_=>False
 | .blk id c,s,Q=>wpC c s fun x s'=>match x with
  | .exit i=>if i=id then Q .nrm s' else Q (.exit i) s'
  |x=>Q x s'
 | .loop c,s,Q=>∃x s' m,Q x s'/\EV fun n=>iter (evC (zd0 pr n) n c) m s=some (x,s')
 | .exit id,s,Q=>Q (.exit id) s
 | .ret,s,Q=>Q .ret s
variable {pr}
def zBp{o:Op}{s:St}{Q:St->Fp->Prop}(h:zcu pr o s Q):∃s' p,Q s' p/\EV fun n=>zf8 (zd0 pr n) s o=some (s',p):=by
 unfold zcu at h;split at h
 .exact h.elim
 .rename_i hw;exact⟨_,_,h,EV.all fun n=>by simp only[zf8,hw]⟩
 .rename_i hw;split at h
  .exact h.elim
  .rename_i o' hr;split at h
   .rename_i f args hk;split at h
    .exact h.elim
    .rename_i fs rd hfz;obtain⟨x,⟨q,rd',hc,hx⟩,h⟩ :=h;unfold zer at h;split at h
     .rename_i s' p hst;refine⟨s',p,h,hc.mono fun n hn=> ?_⟩;simp only[zf8,hw,step,hr,hk,zfQ,hfz,hn,hx];exact hst
     .exact h.elim
   .rename_i f args hk;obtain⟨q,hc,h⟩ :=h;unfold zer at h;split at h
    .rename_i s' p hst;refine⟨s',p,h,hc.mono fun n hn=> ?_⟩;simp only[zf8,hw,step,hr,hk,hn];exact hst
    .exact h.elim
   .rename_i hk;unfold zer at h;split at h
    .rename_i s' p hst;refine⟨s',p,h,EV.all fun n=> ?_⟩;simp only[zf8,hw,step,hr,hk];exact hst
    .exact h.elim
   .exact h.elim
theorem zLp:∀(l:List Op) (s:St) (Q:St->Prop),wpO pr l s Q->∃s',Q s'/\EV fun n=>zhg (zd0 pr n) l s=some s'
 |[],s,Q,h=>⟨s,h,EV.all fun _=>rfl⟩
 |o::l,s,Q,h=>by
  obtain⟨s1,p,h1,e1⟩ :=zBp h;obtain⟨s2,h2,e2⟩ :=zLp l s1 Q h1;exact⟨s2,h2,(e1.and e2).mono fun n ⟨a,b⟩ =>by simp only[zhg,a];exact b⟩
theorem zLo:∀(l:List (Op×Nat)) (fps:List Fp) (s:St) (Q:St->Prop),wpD pr l fps s Q->∃s',Q s'/\EV fun n=>zg8 (zd0 pr n) l fps s=some s'
 |[],_,s,Q,h=>⟨s,h,EV.all fun _=>rfl⟩
 |(o,mask)::l,fps,s,Q,h=>by
  obtain⟨s1,p,⟨ha,h1⟩,e1⟩ :=zBp h;obtain⟨s2,h2,e2⟩ :=zLo l (fps++[p]) {s1 with c:=p.hi} Q h1;exact⟨s2,h2,(e1.and e2).mono fun n ⟨a,b⟩ =>by simp only[zg8,a,ha,Z60];exact b⟩
theorem zgW:∀(c:C) (s:St) (Q:Ex->St->Prop),wpC pr c s Q->∃x s',Q x s'/\EV fun n=>evC (zd0 pr n) n c s=some (x,s')
 | .skip,s,Q,h=>⟨_,s,h,EV.all fun _=>rfl⟩
 | .exit id,s,Q,h=>⟨_,s,h,EV.all fun _=>rfl⟩
 | .ret,s,Q,h=>⟨_,s,h,EV.all fun _=>rfl⟩
 | .reg ops,s,Q,h=>by
  obtain⟨s',h1,e1⟩ :=zLp ops s _ h;exact⟨.nrm,s',h1,e1.mono fun n hn=>by simp only[evC,hn]⟩
 | .dreg ops,s,Q,h=>by
  obtain⟨s',h1,e1⟩ :=zLo ops [] s _ h;exact⟨.nrm,s',h1,e1.mono fun n hn=>by simp only[evC,hn]⟩
 | .seq a b,s,Q,h=>by
  obtain⟨x,s1,h1,e1⟩ :=zgW a s _ h;cases x with
  |nrm=>
   obtain⟨x2,s2,h2,e2⟩ :=zgW b s1 Q h1;exact⟨x2,s2,h2,(e1.and e2).mono fun n ⟨p,q⟩ =>by simp only[evC,p];exact q⟩
  |exit i=>exact⟨.exit i,s1,h1,e1.mono fun n p=>by simp only[evC,p]⟩
  |ret=>exact⟨.ret,s1,h1,e1.mono fun n p=>by simp only[evC,p]⟩
 | .cond x a b,s,Q,h=>by
  unfold wpC at h;split at h
  .rename_i hx;obtain⟨x2,s2,h2,e2⟩ :=zgW a s Q h;exact⟨x2,s2,h2,e2.mono fun n p=>by simp only[evC,hx];exact p⟩
  .rename_i hx;obtain⟨x2,s2,h2,e2⟩ :=zgW b s Q h;exact⟨x2,s2,h2,e2.mono fun n p=>by simp only[evC,hx];exact p⟩
  .exact h.elim
 | .blk id c,s,Q,h=>by
  obtain⟨x,s1,h1,e1⟩ :=zgW c s _ h;cases x with
  |nrm=>exact⟨.nrm,s1,h1,e1.mono fun n p=>by simp only[evC,p]⟩
  |ret=>exact⟨.ret,s1,h1,e1.mono fun n p=>by simp only[evC,p]⟩
  |exit i=>
   by_cases hi:i=id
   .simp only[hi,Z60]at h1;exact⟨.nrm,s1,h1,e1.mono fun n p=>by simp only[evC,p,hi,Z60]⟩
   .simp only[hi,Z63]at h1;exact⟨.exit i,s1,h1,e1.mono fun n p=>by simp only[evC,p,hi,Z63]⟩
 | .loop c,s,Q,h=>by
  obtain⟨x,s',m,h1,e1⟩ :=h;exact⟨x,s',h1,(e1.and (EV.ge m)).mono fun n ⟨p,q⟩ =>by simp only[evC];exact zwe m n s _ q p⟩
theorem zac7{c:C}{Q:Ex->St->Prop}(I:Nat->St->Prop)(hstep:∀k s,I k s->wpC pr c s fun x s'=>match x with
  | .nrm=>∃k',k'<k/\I k' s'
  |x=>Q x s'):∀(k:Nat) (s:St),I k s->wpC pr (.loop c) s Q:=by
 intro k
 induction k using Nat.strongRecOn with
 |ind k ih=>
  intro s hI;obtain⟨x,s1,hq,ev⟩ :=zgW c s _ (hstep k s hI);cases x with
  |nrm=>
   obtain⟨k',hlt,hI'⟩ :=hq;obtain⟨x2,s2,m,h2,e2⟩ :=ih k' hlt s1 hI';exact⟨x2,s2,m+1,h2,(ev.and e2).mono fun n ⟨p,q⟩ =>by simp only[iter,p];exact q⟩
  |exit i=>exact⟨.exit i,s1,1,hq,ev.mono fun n p=>by simp only[iter,p]⟩
  |ret=>exact⟨.ret,s1,1,hq,ev.mono fun n p=>by simp only[iter,p]⟩
def st0(args:List D)(h:T Ob)(c:Nat):St:={tm:=zao args 0 .e,h,c,lw:=c,mx:=c}
end
end Go.Vse
end
section
namespace Go.Vse
variable [Globs]
def St.up(s:St)(dst:Option Nat)(d:D):St:={s with tm:=zdx s.tm dst d,mx:=Nat.max s.mx (s.c+1)}
def St.aft(s:St)(dst:Option Nat)(d:D)(wr:List (Nat×Option Ob))(c:Nat):St:=
 {tm:=zdx s.tm dst d,h:=wrT s.h wr,c,lw:=zeW s.lw wr,mx:=Nat.max s.mx (c+1)}
def zqW(t:T D)(i j:Nat)(d:D):(zdx t (some i) d).get j=if j=i then some d else t.get j:=T.zaM ..
def zw2(t:T D)(d:D):zdx t none d=t:=rfl
def zcp(s:St)(dst:Option Nat)(d:D):(s.up dst d).tm=zdx s.tm dst d:=rfl
def zdm(s:St)(dst:Option Nat)(d:D):(s.up dst d).h=s.h:=rfl
def zdk(s:St)(dst:Option Nat)(d:D):(s.up dst d).c=s.c:=rfl
def zHk(s:St)(dst:Option Nat)(d:D):(s.up dst d).lw=s.lw:=rfl
def zbr(s:St)(dst:Option Nat)(d:D)(wr:List (Nat×Option Ob))(c:Nat):(s.aft dst d wr c).tm=zdx s.tm dst d:=rfl
def zci(s:St)(dst:Option Nat)(d:D)(wr:List (Nat×Option Ob))(c:Nat):(s.aft dst d wr c).h=wrT s.h wr:=rfl
def zcf(s:St)(dst:Option Nat)(d:D)(wr:List (Nat×Option Ob))(c:Nat):(s.aft dst d wr c).c=c:=rfl
def zzJ(s:St)(dst:Option Nat)(d:D)(wr:List (Nat×Option Ob))(c:Nat):(s.aft dst d wr c).lw=zeW s.lw wr:=rfl
section
variable {pr:Pr}{l:List Op}{s:St}{Q:St->Prop}{dst:Option Nat}
theorem zEt{o:O A}{o':O D}(hr:o.res (zae s.tm)=some o')(hk:kindOf o'= .n){r:Rs}(hv:opv s.h.get s.c o'=some r)(hw:zax r.c r.wr=true)
  {R:St->Fp->Prop}(h:R (s.aft dst r.d r.wr r.c) {all:=false,rd:=r.rd,wr:=r.wr.map (·.1),lo:=s.c,hi:=r.c+1,h:=s.h,h':=wrT s.h r.wr}):
  zcu pr ⟨dst,none,o⟩ s R:=by
 simp only[zcu,zcY,hr,hk,hv,zer,zd6,hw];exact h
theorem wpO_n{o:O A}{o':O D}(hr:o.res (zae s.tm)=some o')(hk:kindOf o'= .n){r:Rs}(hv:opv s.h.get s.c o'=some r)(hw:zax r.c r.wr=true)
  (h:wpO pr l (s.aft dst r.d r.wr r.c) Q):wpO pr (⟨dst,none,o⟩ ::l) s Q:=zEt hr hk hv hw h
def zHp{o:O A}{o':O D}{d:D}{rd:List Nat}(hr:o.res (zae s.tm)=some o')(hk:kindOf o'= .n)(hv:opv s.h.get s.c o'=some {d,rd,c:=s.c})
  (h:wpO pr l (s.up dst d) Q):wpO pr (⟨dst,none,o⟩ ::l) s Q:=zEt hr hk hv rfl h
def zac6{q x y:A}(h:∃b d e,zae s.tm q=some (.f (.b b))/\zae s.tm x=some d/\zae s.tm y=some e/\wpO pr l (s.up dst (if b then d else e)) Q):wpO pr (⟨dst,none,.pick q x y⟩ ::l) s Q:=by
 obtain⟨b,d,e,h1,h2,h3,h⟩ :=h;exact zHp (o':= .pick (.f (.b b)) d e) (rd:=[]) (by simp[O.res,h1,h2,h3]) rfl rfl h
def w_bin{op:BinOp}{x y:A}(h:∃a b,zae s.tm x=some (.f a)/\zae s.tm y=some (.f b)/\∃z,zbS op a b=some z/\wpO pr l (s.up dst (.f z)) Q):wpO pr (⟨dst,none,.bin op x y⟩ ::l) s Q:=by
 obtain⟨a,b,h1,h2,z,h3,h⟩ :=h;exact zHp (o':= .bin op (.f a) (.f b)) (rd:=[]) (by simp[O.res,h1,h2]) rfl (by simp[opv,h3,okF]) h
def w_not{x:A}(h:∃b,zae s.tm x=some (.f (.b b))/\wpO pr l (s.up dst (.f (.b !b))) Q):wpO pr (⟨dst,none,.un .not x⟩ ::l) s Q:=by
 obtain⟨b,h1,h⟩ :=h;exact zHp (o':= .un .not (.f (.b b))) (rd:=[]) (by simp[O.res,h1]) rfl rfl h
def faB(off:Nat):D->Option D
 | .ptr id es i j=>some (.ptr id es i (j+off))
 | .fptr cs=>some (.fptr (cs.drop off))
 |_=>none
def iaB(es:Nat)(x:D)(i:Nat):Option D:=
 match x with
 | .f (.sl es' els)=>if es=es' then(els[i]?).map D.fptr else none
 | .sl id off m es' _ _=>if es=es'/\i<m then some (.ptr id es (off+i) 0)else none
 |_=>none
theorem z07{f:Nat}{args:List A}(h:∃ds,zaw (zae s.tm) args=some ds/\∃fs rd,zeu s.h.get ds=some (fs,rd)/\∃x,Ans pr f fs x/\zax s.c (zaF s.h.get rd)=true/\wpO pr l (s.aft dst x.d (zaF s.h.get rd) s.c) Q):
  wpO pr (⟨dst,none,.callp f args⟩ ::l) s Q:=by
 obtain⟨ds,h1,fs,rd,h2,x,h3,h4,h⟩ :=h;simp only[wpO,zcu,zcY,O.res,h1,Z47,Z46,kindOf,h2];refine⟨x,h3,?_⟩;simp only[zer,zd6,h4];exact h
def St.cal(s:St)(dst:Option Nat)(q:CR):St:={tm:=zdx s.tm dst q.d,h:=q.h,c:=q.c,lw:=Nat.min s.lw q.lw,mx:=Nat.max s.mx q.mx}
def zac5{f:Nat}{args:List A}(h:∃ds,zaw (zae s.tm) args=some ds/\∃q,Con pr f ds s.h s.c q/\wpO pr l (s.cal dst q) Q):wpO pr (⟨dst,none,.call f args⟩ ::l) s Q:=by
 obtain⟨ds,h1,q,h2,h⟩ :=h;simp only[wpO,zcu,zcY,O.res,h1,Z47,Z46,kindOf];exact⟨q,h2,h⟩
def zab2{x:A}{a b:C}{Q:Ex->St->Prop}(h:∃t,zae s.tm x=some (.f (.b t))/\(if t then wpC pr a s Q else wpC pr b s Q)):wpC pr (.cond x a b) s Q:=by
 obtain⟨t,h1,h⟩ :=h;unfold wpC;rw[h1];cases t<;>simpa using h
def zJc{Q:Ex->St->Prop}:wpC pr .skip s Q=Q .nrm s:=rfl
def zI9{id:Nat}{Q:Ex->St->Prop}:wpC pr (.exit id) s Q=Q (.exit id) s:=rfl
def zQ7{Q:Ex->St->Prop}:wpC pr .ret s Q=Q .ret s:=rfl
def zJ8(t:T D)(n:Nat):zae t (.t n)=t.get n:=rfl
def zJ7(t:T D)(x:F):zae t (.k x)=some x.d:=rfl
def zDb(a b:Int):zbS .lss (.i .i64 a) (.i .i64 b)=some (.b (decide (a<b))):=rfl
def zC9(a b:Int):zbS .leq (.i .i64 a) (.i .i64 b)=some (.b (decide (a<=b))):=rfl
def zC6(a b:Int):zbS .geq (.i .i64 a) (.i .i64 b)=some (.b (decide (a≥b))):=rfl
def zC7(a b:Int):zbS .gtr (.i .i64 a) (.i .i64 b)=some (.b (decide (a>b))):=rfl
def zC4(a b:Int):zbS .eql (.i .i64 a) (.i .i64 b)=some (.b (a==b)):=rfl
def zDd(a b:Int):zbS .neq (.i .i64 a) (.i .i64 b)=some (.b (a != b)):=rfl
def zC3(a b:Int):zbS .add (.i .i64 a) (.i .i64 b)=some (.i .i64 (IntKind.i64.wrap (a+b))):=rfl
def zDk(a b:Int):zbS .sub (.i .i64 a) (.i .i64 b)=some (.i .i64 (IntKind.i64.wrap (a - b))):=rfl
def zZn(a b:Int)(h:b≠0):zbS .rem (.i .i64 a) (.i .i64 b)=some (.i .i64 (a.tmod b)):=by
 simp[zbS,zzP,Go.binOp,Go.Op.intDiv,h,zly];rfl
def zZm(a b:Int)(h:b≠0):zbS .quo (.i .i64 a) (.i .i64 b)=some (.i .i64 (IntKind.i64.wrap (a.tdiv b))):=by
 simp[zbS,zzP,Go.binOp,Go.Op.intDiv,h,zly];rfl
end
end Go.Vse
end
section
namespace Go.Vse
variable [Globs]
open Go.RowKit
section
variable {P:Program}{pur:Nat->Bool}{pr:Pr}
def zi9:Mu:=fun _ _=>False
def zvh(H:Array Obj):Prop:=∀n cs,Globs.data n=some cs->zbv H zi9 n 0 cs
def zHr:zat zi9 (T.e:T Ob).get (fun _=>none)=zi9:=by
 rw[zlb,zjN]
def sim_e(H:Array Obj)(hg:zvh H):Sim zi9 H (T.e:T Ob).get (fun _=>none) (fun _=>False):=
 ⟨fun id ob h=>by simp[T.zyg]at h,fun id b h=>by simp at h,fun id id' b h=>by simp at h,fun id b i h=>by simp at h,fun id ob h=>by simp[T.zyg]at h,fun b i h=>h.elim,fun n cs h=>by rw[zHr];exact hg n cs h⟩
theorem land(hp:zEx P pur pr){f:Nat}{fs:List F}{vs:List Value}{w:World}(hgl:zvh w.heap)(hrel:za0 w.heap zi9 fs vs){q:CR}(hc:Con pr f (F.dL fs) .e 0 q){b:Bool}(hd:q.d= .f (.b b)):
  Calls P f ⟨vs⟩ w fun e w'=>e= .returned (.bool b)/\Below w.heap.size w w':=by
 obtain⟨N,hN⟩ :=hc;have ok:=zv9 hp N f _ _ _ _ (hN N (Z2 _));obtain⟨_,_,_,h⟩ :=ok;have hargs:zav w.heap (zat zi9 (T.e:T Ob).get (fun _=>none)) (fun _=>none) (fun _=>False) (F.dL fs) vs:=by
  rw[zHr];exact za0.dL fs vs hrel
 refine (h zi9 (fun _=>none) (fun _=>False) w vs (sim_e _ hgl) (fun id _ _ h=>h) hargs).mono fun e w' ⟨v,he,hb,ρ',hr,_,hev⟩ => ?_
 rw[hd]at hr;simp only[Rel,zas]at hr;subst hr;subst he;exact⟨rfl,hb.os,hb.tape,hb.output,hev.size,fun k hk=>(hev.blk k hk fun id h=>by simp at h).1⟩
theorem zu0{H:Array Obj}{b:Nat}{k:IntKind}:∀(zs:List Int) (o:Nat),(∀i,i<zs.length->zcz H b (o+i)=some (.int k (zs.getD i 0)))->zbv H zi9 b o (zs.map fun z=> .i k z)
 |[],_,_=>by simp only[Z85,zbv]
 |z::zs,o,h=>by
  simp only[Z10,zbv,zas];refine⟨⟨fun h=>h,_,?_,rfl,rfl⟩,zu0 zs (o+1) fun i hi=> ?_⟩
  .have:=h 0 (by simp);simpa using this
  .have:=h (i+1) (by simp;omega);rw[show o+(i+1)=o+1+i by omega]at this;simpa using this
def zw5{w:World}{g:Nat}{k:IntKind}{zs:List Int}(h:∀i,i<zs.length->w.cell? ⟨g,i,none⟩ =some (.int k (zs.getD i 0))):zbv w.heap zi9 g 0 (zs.map fun z=> .i k z):=
 zu0 zs 0 fun i hi=>by rw[Z25,<-znW];exact h i hi
def zsH(k:IntKind)(isNil:Bool)(len:Nat)(zs:List Int):F:=if isNil then .nils else .sl 1 ((zs.take len).map fun z=>[.i k z])
theorem zu1{H:Array Obj}{b:Nat}{k:IntKind}:∀(zs:List Int) (o:Nat),(∀i,i<zs.length->zcz H b (o+i)=some (.int k (zs.getD i 0)))->zdq H zi9 b 1 o (zs.map fun z=>[.i k z])
 |[],_,_=>by simp only[Z85,zdq]
 |z::zs,o,h=>by
  simp only[Z10,zdq,List.length_singleton,zbv,zas];refine⟨trivial,⟨⟨fun h=>h,_,?_,rfl,rfl⟩,trivial⟩,zu1 zs (o+1) fun i hi=> ?_⟩
  .have:=h 0 (by simp);simpa using this
  .have:=h (i+1) (by simp;omega);rw[show o+(i+1)=o+1+i by omega]at this;simpa using this
theorem z0a{w:World}{k:IntKind}{a:Option Addr}{len cap:Nat}{zs:List Int}
  (h:(a=none/\len=0/\cap=0/\zs=[])\/∃x,a=some x/\len<=cap/\zs.length=cap/\(∀i,i<zs.length->w.cell? (x.add i)=some (.int k (zs.getD i 0)))):
  zas w.heap zi9 (zsH k a.isNone len zs) (.slice a len cap):=by
 rcases h with⟨rfl,rfl,rfl,rfl⟩ |⟨x,rfl,hl,hz,hc⟩
 .simp only[zsH,Option.isNone_none,Z60,zas]
 .have hlen:((zs.take len).map fun z=>[F.i k z]).length=len:=by simp;omega
  have e:zsH k (some x).isNone len zs= .sl 1 ((zs.take len).map fun z=>[.i k z]):=by simp[zsH]
  rw[e];simp only[zas];rw[hlen];have hx:len≠0->x=⟨x.block,x.off,none⟩ :=by
   intro hne;have h0:=hc 0 (by omega);obtain⟨b,o,sp⟩ :=x;cases sp with
   |none=>rfl
   |some s=>
    simp only[World.cell?,Addr.add]at h0;split at h0<;>simp at h0
  refine⟨x,cap,rfl,hl,x.block,x.off,fun hne=>hx (fun e0=>hne (by simp[e0])),?_⟩
  by_cases hne:len=0
  .subst hne;simp only[Z173,Z85,zdq]
  .refine zu1 _ _ fun i hi=> ?_
   have hi':i<len:=by simp at hi;omega
   have h1:=hc i (by omega);rw[hx hne]at h1;have h2:(⟨x.block,x.off,none⟩ :Addr).add i=⟨x.block,x.off+i,none⟩ :=zd8 _ _ _;rw[h2,znW]at h1;rw[h1]
   congr 2
   simp only[Z48,Z75,hi',Z60]
end
end Go.Vse
end
section
namespace Go.Vse
variable [Globs]
def zG6(orc:Orc)(pr:Pr)(n f:Nat)(fs:List F):Option F:=
 match zye orc pr n f (F.dL fs) .e 0 with
 |none=>none
 |some q=>match frz q.h.gk 12 q.d with
  |some (x,_)=>some x
  |none=>none
def zau{orc:Orc}{pr:Pr}(ho:zkL pr orc){n f:Nat}{fs:List F}{x:F}(h:zG6 orc pr n f fs=some x):Ans pr f fs x:=by
 unfold zG6 at h;split at h
 .cases h
 .rename_i q hq;split at h
  .rename_i y rd hy;cases h;rw[zqG]at hy;exact⟨q,rd,zAb ho n _ _ _ _ _ hq,hy⟩
  .cases h
def orc0:Orc:=fun _ _=>none
def zaB(pr:Pr):zkL pr orc0:=fun _ _ _ h=>by cases h
end Go.Vse
end
section
namespace Go.Vse
variable [Globs]
section
variable {pr:Pr}{l:List Op}{s:St}{Q:St->Prop}{dst:Option Nat}
theorem zfh{o:O A}{o':O D}(hr:o.res (zae s.tm)=some o')(hk:kindOf o'= .n):
  wpO pr (⟨dst,none,o⟩ ::l) s Q↔∃r,opv s.h.get s.c o'=some r/\zax r.c r.wr=true/\wpO pr l (s.aft dst r.d r.wr r.c) Q:=by
 constructor
 .intro h;simp only[wpO,zcu,zcY,hr,hk]at h;unfold zer at h;split at h
  .rename_i s' p hs;cases hv:opv s.h.get s.c o' with
   |none=>rw[hv]at hs;cases hs
   |some r=>
    rw[hv]at hs;simp only[zd6]at hs;cases hw:zax r.c r.wr with
    |false=>rw[hw]at hs;cases hs
    |true=>
     rw[hw]at hs;simp only[Z89,cond_false,Z45,Z66]at hs;obtain⟨rfl,rfl⟩ :=hs;exact⟨r,rfl,hw,h⟩
  .exact h.elim
 .rintro⟨r,hv,hw,h⟩;exact wpO_n hr hk hv hw h
def zeK{o:O A}(hr:o.res (zae s.tm)=none):wpO pr (⟨dst,none,o⟩ ::l) s Q↔False:=by
 simp[wpO,zcu,zcY,hr]
def zjY(d:D):s.aft dst d [] s.c=s.up dst d:=rfl
def zTS:wpO pr [] s Q↔Q s:=Iff.rfl
def x_mv{x:A}:wpO pr (⟨dst,none,.mv x⟩ ::l) s Q↔∃d,zae s.tm x=some d/\wpO pr l (s.up dst d) Q:=by
 cases hx:zae s.tm x with
 |none=>rw[zeK (by simp[O.res,hx])];simp
 |some d=>rw[zfh (o':= .mv d) (by simp[O.res,hx]) rfl];simp[opv,okD,zax,zjY]
def zadc{q x y:A}:wpO pr (⟨dst,none,.pick q x y⟩ ::l) s Q↔∃b,zae s.tm q=some (.f (.b b))/\∃d,zae s.tm x=some d/\∃e,zae s.tm y=some e/\wpO pr l (s.up dst (if b then d else e)) Q:=by
 constructor
 .intro h;cases hq:zae s.tm q with
  |none=>exact ((zeK (by simp[O.res,hq])).1 h).elim
  |some z=>
   cases hx:zae s.tm x with
   |none=>exact ((zeK (by simp[O.res,hq,hx])).1 h).elim
   |some d=>
    cases hy:zae s.tm y with
    |none=>exact ((zeK (by simp[O.res,hq,hx,hy])).1 h).elim
    |some e=>
     obtain⟨r,hv,_,h⟩ :=(zfh (o':= .pick z d e) (by simp[O.res,hq,hx,hy]) rfl).1 h;cases z with
     |f z=>
      cases z with
      |b b=>simp only[opv,okD,Z45]at hv;subst hv;exact⟨b,rfl,d,rfl,e,rfl,h⟩
      |_=>simp[opv]at hv
     |_=>simp[opv]at hv
 .rintro⟨b,h1,d,h2,e,h3,h⟩;exact zac6 ⟨b,d,e,h1,h2,h3,h⟩
def x_ld{g:Bool}{n:Nat}{x:A}:wpO pr (⟨dst,none,.ld g n x⟩ ::l) s Q↔∃p,zae s.tm x=some p/\∃y,zes g n s.h.get p=some y/\wpO pr l (s.up dst y.1) Q:=by
 cases hx:zae s.tm x with
 |none=>rw[zeK (by simp[O.res,hx])];simp
 |some p=>
  rw[zfh (o':= .ld g n p) (by simp[O.res,hx]) rfl];cases hl:zes g n s.h.get p with
  |none=>simp[opv,hl]
  |some y=>obtain⟨d,rd⟩ :=y;simp[opv,hl,zax,zjY]
def x_bin{op:BinOp}{x y:A}:wpO pr (⟨dst,none,.bin op x y⟩ ::l) s Q↔∃a,zae s.tm x=some (.f a)/\∃b,zae s.tm y=some (.f b)/\∃z,zbS op a b=some z/\wpO pr l (s.up dst (.f z)) Q:=by
 constructor
 .intro h;cases hx:zae s.tm x with
  |none=>exact ((zeK (by simp[O.res,hx])).1 h).elim
  |some d=>
   cases hy:zae s.tm y with
   |none=>exact ((zeK (by simp[O.res,hx,hy])).1 h).elim
   |some e=>
    obtain⟨r,hv,_,h⟩ :=(zfh (o':= .bin op d e) (by simp[O.res,hx,hy]) rfl).1 h;cases d with
    |f a=>
     cases e with
     |f b=>
      cases hz:zbS op a b with
      |none=>simp[opv,hz]at hv
      |some z=>simp only[opv,hz,okF,Z45]at hv;subst hv;exact⟨a,rfl,b,rfl,z,hz,h⟩
     |_=>simp[opv]at hv
    |_=>simp[opv]at hv
 .rintro⟨a,h1,b,h2,z,h3,h⟩;exact w_bin ⟨a,b,h1,h2,z,h3,h⟩
def x_not{x:A}:wpO pr (⟨dst,none,.un .not x⟩ ::l) s Q↔∃b,zae s.tm x=some (.f (.b b))/\wpO pr l (s.up dst (.f (.b !b))) Q:=by
 constructor
 .intro h;cases hx:zae s.tm x with
  |none=>exact ((zeK (by simp[O.res,hx])).1 h).elim
  |some d=>
   obtain⟨r,hv,_,h⟩ :=(zfh (o':= .un .not d) (by simp[O.res,hx]) rfl).1 h;cases d with
   |f z=>
    cases z with
    |b b=>simp only[opv,okF,Z45]at hv;subst hv;exact⟨b,rfl,h⟩
    |i k n=>simp[opv,zly,Go.Op.unary,Go.stuck]at hv
    |_=>simp[opv]at hv
   |_=>simp[opv]at hv
 .rintro⟨b,h1,h⟩;exact w_not ⟨b,h1,h⟩
def x_len{x:A}:wpO pr (⟨dst,none,.len x⟩ ::l) s Q↔∃v,zae s.tm x=some v/\∃n,zd5 v=some n/\wpO pr l (s.up dst (.f (.i .i64 n))) Q:=by
 cases hx:zae s.tm x with
 |none=>rw[zeK (by simp[O.res,hx])];simp
 |some v=>
  rw[zfh (o':= .len v) (by simp[O.res,hx]) rfl];cases hl:zd5 v with
  |none=>simp[opv,hl]
  |some n=>simp[opv,hl,okF,zax,zjY]
def x_fa{off:Nat}{x:A}:wpO pr (⟨dst,none,.fa off x⟩ ::l) s Q↔∃v,zae s.tm x=some v/\∃d,faB off v=some d/\wpO pr l (s.up dst d) Q:=by
 cases hx:zae s.tm x with
 |none=>rw[zeK (by simp[O.res,hx])];simp
 |some v=>
  rw[zfh (o':= .fa off v) (by simp[O.res,hx]) rfl];cases v<;>simp[opv,faB,okD,zax,zjY]
def x_ext{x:A}{i:Nat}:wpO pr (⟨dst,none,.ext x i⟩ ::l) s Q↔∃cs,zae s.tm x=some (.tu cs)/\∃d,cs[i]? =some d/\wpO pr l (s.up dst d) Q:=by
 cases hx:zae s.tm x with
 |none=>rw[zeK (by simp[O.res,hx])];simp
 |some v=>
  rw[zfh (o':= .ext v i) (by simp[O.res,hx]) rfl];cases v with
  |tu cs=>
   cases hc:cs[i]? with
   |none=>simp[opv,hc]
   |some d=>simp[opv,hc,okD,zax,zjY]
  |_=>simp[opv]
def x_box{x:A}:wpO pr (⟨dst,none,.box x⟩ ::l) s Q↔∃d,zae s.tm x=some d/\∃cs,d.cells=some cs/\wpO pr l (s.aft dst (.ptr s.c cs.length 0 0) [(s.c,some (.arr cs.length 0 [cs]))] (s.c+1)) Q:=by
 cases hx:zae s.tm x with
 |none=>rw[zeK (by simp[O.res,hx])];simp
 |some d=>
  rw[zfh (o':= .box d) (by simp[O.res,hx]) rfl];cases hc:d.cells with
  |none=>simp[opv,hc]
  |some cs=>simp[opv,hc,zax,Z79]
def zTR{cs:List F}:wpO pr (⟨dst,none,.new cs⟩ ::l) s Q↔wpO pr l (s.aft dst (.ptr s.c cs.length 0 0) [(s.c,some (.arr cs.length 0 [cs.map D.f]))] (s.c+1)) Q:=by
 rw[zfh (o':= .new cs) rfl rfl];simp[opv,zax,Z79]
def x_st{n:Nat}{x v:A}:wpO pr (⟨dst,none,.st n x v⟩ ::l) s Q↔∃p,zae s.tm x=some p/\∃d,zae s.tm v=some d/\∃y,zfm n s.h.get p d=some y/\y.1<s.c/\wpO pr l (s.aft dst (.f .un) [(y.1,some y.2)] s.c) Q:=by
 cases hx:zae s.tm x with
 |none=>rw[zeK (by simp[O.res,hx])];simp
 |some p=>
  cases hv:zae s.tm v with
  |none=>rw[zeK (by simp[O.res,hx,hv])];simp
  |some d=>
   rw[zfh (o':= .st n p d) (by simp[O.res,hx,hv]) rfl];cases hs:zfm n s.h.get p d with
   |none=>simp[opv,hs]
   |some y=>
    obtain⟨id,ob⟩ :=y;simp[opv,hs,zax,Z79];exact⟨fun h=>⟨id,ob,⟨rfl,rfl⟩,h⟩,fun⟨_,_,⟨e1,e2⟩,h⟩ =>by subst e1 e2;exact h⟩
def x_ia{es:Nat}{x i:A}:wpO pr (⟨dst,none,.ia es x i⟩ ::l) s Q↔∃v,zae s.tm x=some v/\∃w,zae s.tm i=some w/\∃n,zcS w=some n/\∃d,iaB es v n=some d/\wpO pr l (s.up dst d) Q:=by
 cases hx:zae s.tm x with
 |none=>rw[zeK (by simp[O.res,hx])];simp
 |some v=>
  cases hy:zae s.tm i with
  |none=>rw[zeK (by simp[O.res,hx,hy])];simp
  |some w=>
   rw[zfh (o':= .ia es v w) (by simp[O.res,hx,hy]) rfl];cases hn:zcS w with
   |none=>simp[opv,hn]
   |some n=>
    cases v with
    |f z=>
     cases z with
     |sl es' els=>
      by_cases he:es=es'
      .subst he;cases hel:els[n]? with
       |none=>simp[opv,hn,iaB,hel]
       |some el=>simp[opv,hn,iaB,hel,okD,zax,zjY]
      .simp[opv,hn,iaB,he]
     |_=>simp[opv,hn,iaB]
    |sl id off m es' lim ex=>
     by_cases he:es=es'/\n<m
     .simp[opv,hn,iaB,he,okD,zax,zjY]
     .simp[opv,hn,iaB,he]
    |_=>simp[opv,hn,iaB]
def fnD(f:Nat):List D->D
 |[]=> .f (.fn f)
 |y=> .fn f [] y
def x_mkf{f:Nat}{b:List A}:wpO pr (⟨dst,none,.mkf f [] b⟩ ::l) s Q↔∃y,zaw (zae s.tm) b=some y/\wpO pr l (s.up dst (fnD f y)) Q:=by
 cases hy:zaw (zae s.tm) b with
 |none=>rw[zeK (by simp[O.res,zaw,hy])];simp
 |some y=>
  rw[zfh (o':= .mkf f [] y) (by simp[O.res,zaw,hy]) rfl];cases y<;>simp[opv,okD,okF,zax,zjY,fnD]
def x_bld{z:List F}{ps:List (Nat×Nat×A)}:wpO pr (⟨dst,none,.bld z ps⟩ ::l) s Q↔∃qs,zaw (fun(p:Nat×Nat×A)=>(zae s.tm p.2.2).map fun d=>(p.1,p.2.1,d)) ps=some qs/\∃cs,zeU (z.map D.f) qs=some cs/\wpO pr l (s.up dst (.ag cs)) Q:=by
 have e:zaw (fun(p:Nat×Nat×A)=>(zae s.tm p.2.2).map fun d=>(p.1,p.2.1,d)) ps=zaw (fun x=>match x with|(o,n,x)=>do some (o,n,<-zae s.tm x)) ps:=by
  congr 1
  funext p
  obtain⟨o,n,x⟩ :=p;simp only;cases zae s.tm x<;>rfl
 rw[e];cases hq:zaw (fun x=>match x with|(o,n,x)=>do some (o,n,<-zae s.tm x)) ps with
 |none=>rw[zeK (by simp only[O.res];rw[hq];rfl)];simp
 |some qs=>
  rw[zfh (o':= .bld z qs) (by simp only[O.res];rw[hq];rfl) rfl];cases hf:zeU (z.map D.f) qs with
  |none=>simp[opv,hf]
  |some cs=>simp[opv,hf,okD,zax,zjY]
def z1a{f:Nat}{args:List A}:wpO pr (⟨dst,none,.callp f args⟩ ::l) s Q↔∃ds,zaw (zae s.tm) args=some ds/\∃y,zeu s.h.get ds=some y/\∃x,Ans pr f y.1 x/\zax s.c (zaF s.h.get y.2)=true/\wpO pr l (s.aft dst x.d (zaF s.h.get y.2) s.c) Q:=by
 constructor
 .intro h;simp only[wpO,zcu,zcY,O.res,Z47]at h;cases hm:zaw (zae s.tm) args with
  |none=>simp[hm]at h
  |some ds=>
   simp only[hm,Z46,kindOf]at h;cases hf:zeu s.h.get ds with
   |none=>simp[hf]at h
   |some y=>
    obtain⟨fs,rd⟩ :=y;simp only[hf]at h;obtain⟨x,h1,h2⟩ :=h;refine⟨ds,rfl,(fs,rd),hf,x,h1,?_⟩;unfold zer at h2;simp only[zd6]at h2;cases hw:zax s.c (zaF s.h.get rd)with
    |false=>simp[hw]at h2
    |true=>simp only[hw,Z89,cond_false]at h2;exact⟨rfl,h2⟩
 .rintro⟨ds,h1,⟨fs,rd⟩,h2,x,h3,h4,h⟩;exact z07 ⟨ds,h1,fs,rd,h2,x,h3,h4,h⟩
def zada{f:Nat}{args:List A}:wpO pr (⟨dst,none,.call f args⟩ ::l) s Q↔∃ds,zaw (zae s.tm) args=some ds/\∃q,Con pr f ds s.h s.c q/\wpO pr l (s.cal dst q) Q:=by
 constructor
 .intro h;simp only[wpO,zcu,zcY,O.res,Z47]at h;cases hm:zaw (zae s.tm) args with
  |none=>simp[hm]at h
  |some ds=>
   simp only[hm,Z46,kindOf]at h;obtain⟨q,h1,h2⟩ :=h;exact⟨ds,rfl,q,h1,h2⟩
 .rintro⟨ds,h1,q,h2,h⟩;exact zac5 ⟨ds,h1,q,h2,h⟩
def zadb{x:A}{a b:C}{Q:Ex->St->Prop}:wpC pr (.cond x a b) s Q↔∃t,zae s.tm x=some (.f (.b t))/\(if t then wpC pr a s Q else wpC pr b s Q):=by
 constructor
 .intro h;unfold wpC at h;split at h
  .rename_i hx;exact⟨true,hx,by simpa using h⟩
  .rename_i hx;exact⟨false,hx,by simpa using h⟩
  .exact h.elim
 .exact zab2
end
end Go.Vse
end
section
namespace Go.Vse
variable [Globs]
def oB{α:Type}(o:Option α)(k:α->Prop):Prop:=
 match o with
 |some a=>k a
 |none=>False
@[congr] theorem oB_congr{α:Type}{o o':Option α}{k:α->Prop}(h:o=o'):oB o k=oB o' k:=by rw[h]
def zDS{α:Type}(a:α)(k:α->Prop):oB (some a) k=k a:=rfl
def zhs{α:Type}(o:Option α)(k:α->Prop):(∃a,o=some a/\k a)↔oB o k:=by
 cases o with
 |none=>simp[oB]
 |some a=>simp[oB]
def asB:D->Option Bool
 | .f (.b b)=>some b
 |_=>none
def asF:D->Option F
 | .f x=>some x
 |_=>none
def zFa:D->Option (List D)
 | .tu cs=>some cs
 |_=>none
def zAc(o:Option D)(k:Bool->Prop):(∃b,o=some (.f (.b b))/\k b)↔oB (o.bind asB) k:=by
 cases o with
 |none=>simp[oB]
 |some d=>
  cases d with
  |f x=>cases x<;>simp[oB,asB]
  |_=>simp[oB,asB]
def zJB(o:Option D)(k:F->Prop):(∃b,o=some (.f b)/\k b)↔oB (o.bind asF) k:=by
 cases o with
 |none=>simp[oB]
 |some d=>cases d<;>simp[oB,asF]
def zZB(o:Option D)(k:List D->Prop):(∃b,o=some (.tu b)/\k b)↔oB (o.bind zFa) k:=by
 cases o with
 |none=>simp[oB]
 |some d=>cases d<;>simp[oB,zFa]
def zQ1(b:Bool):asB (.f (.b b))=some b:=rfl
def zQ3(x:F):asF (.f x)=some x:=rfl
def zCQ(cs:List D):zFa (.tu cs)=some cs:=rfl
theorem zqM{f:D->Option (F×List Nat)}(hf:∀d x rd,d.isF=true->f d=some (x,rd)->rd=[]):∀(ds:List D) (xs:List F) (rd:List Nat),D.zlg ds=true->zb6 f ds=some (xs,rd)->rd=[]
 |[],xs,rd,_,h=>by simp[zb6]at h;exact h.2
 |d::ds,xs,rd,hi,h=>by
  simp only[D.zlg,Z14]at hi;unfold zb6 at h;split at h
  .cases h
  .rename_i x r hx;split at h
   .cases h
   .rename_i m r' hm;simp only[Z45,Z66]at h;rw[<-h.2,hf d x r hi.1 hx,zqM hf ds m r' hi.2 hm];rfl
theorem zrP{h:Nat->Option Ob}:∀(k:Nat) (d:D) (x:F) (rd:List Nat),d.isF=true->frz h k d=some (x,rd)->rd=[]
 |0,_,_,_,_,h=>by simp[frz]at h
 |k+1,d,x,rd,hi,hf=>by
  unfold frz at hf;split at hf
  .simp at hf;exact hf.2
  .split at hf
   .rename_i l r hm;simp only[Z45,Z66]at hf;rw[<-hf.2];exact zqM (zrP k) _ _ _ hi hm
   .cases hf
  .split at hf
   .rename_i l r hm;simp only[Z45,Z66]at hf;rw[<-hf.2];exact zqM (zrP k) _ _ _ hi hm
   .cases hf
  .simp[D.isF]at hi
  .cases hf
def zv5(res:List Rv)(y:F)(x:Ex)(s:St):Prop:=
 (match x with| .exit _=>False|_=>True)/\∃d,resD s res=some d/\∃rd,frz s.h.get 12 d=some (y,rd)
def z08{pr:Pr}{c:C}{s:St}{Q:Ex->St->Prop}{f:Nat}{fn:Fn}(hf:pr.fn f=some fn){fs:List F}{y:F}(hb:fn.body=c)(hs:s=st0 (F.dL fs) .e 0)(hQ:Q=zv5 fn.res y)(hw:wpC pr c s Q):Ans pr f fs y:=by
 subst hb hs hQ;obtain⟨x,s,⟨hx,d,hd,rd,hz⟩,ev⟩ :=zgW _ _ _ hw;refine⟨if Nat.beq s.lw 0&&d.isF then ⟨d,.e,0,0,s.mx⟩else ⟨d,s.h,s.c,s.lw,s.mx⟩,rd,?_,?_⟩
 .have key:EV fun m=>zha (evC (zd0 pr m) m) fn (F.dL fs) .e 0=some (if Nat.beq s.lw 0&&d.isF then ⟨d,.e,0,0,s.mx⟩else ⟨d,s.h,s.c,s.lw,s.mx⟩):=by
   refine ev.mono fun m hm=> ?_
   unfold zha;unfold st0 at hm;rw[hm];cases x with
   |exit i=>exact hx.elim
   |nrm=>simp only[hd];split<;>rfl
   |ret=>simp only[hd];split<;>rfl
  obtain⟨N,hN⟩ :=key;refine⟨N+1,fun m hm=> ?_⟩;obtain⟨m,rfl⟩ :∃m',m=m'+1:=⟨m - 1,by omega⟩
  simp only[zd0,hf];exact hN m (by omega)
 .split
  .rename_i hb;simp only[Z14]at hb;have hr:=zrP 12 d y rd hb.2 hz;subst hr;exact zju 12 d y [] hz fun id hid=>by simp at hid
  .exact hz
def zdu{pr:Pr}{f:Nat}{fn:Fn}(hf:pr.fn f=some fn){fs:List F}{y:F}(hw:wpC pr fn.body (st0 (F.dL fs) .e 0) (zv5 fn.res y)):Ans pr f fs y:=
 z08 hf rfl rfl rfl hw
section
variable {pr:Pr}{l:List Op}{s:St}{Q:St->Prop}{dst:Option Nat}
def y_mv{x:A}:wpO pr (⟨dst,none,.mv x⟩ ::l) s Q↔oB (zae s.tm x) fun d=>wpO pr l (s.up dst d) Q:=by rw[x_mv,zhs]
def zLr{q x y:A}:wpO pr (⟨dst,none,.pick q x y⟩ ::l) s Q↔oB ((zae s.tm q).bind asB) fun b=>oB (zae s.tm x) fun d=>oB (zae s.tm y) fun e=>wpO pr l (s.up dst (if b then d else e)) Q:=by
 rw[zadc,zAc];simp only[zhs]
def y_ld{g:Bool}{n:Nat}{x:A}:wpO pr (⟨dst,none,.ld g n x⟩ ::l) s Q↔oB (zae s.tm x) fun p=>oB (zes g n s.h.get p) fun y=>wpO pr l (s.up dst y.1) Q:=by rw[x_ld];simp only[zhs]
def zTT{op:BinOp}{x y:A}:wpO pr (⟨dst,none,.bin op x y⟩ ::l) s Q↔oB ((zae s.tm x).bind asF) fun a=>oB ((zae s.tm y).bind asF) fun b=>oB (zbS op a b) fun z=>wpO pr l (s.up dst (.f z)) Q:=by
 rw[x_bin,zJB];simp only[zJB,zhs]
def zT5{x:A}:wpO pr (⟨dst,none,.un .not x⟩ ::l) s Q↔oB ((zae s.tm x).bind asB) fun b=>wpO pr l (s.up dst (.f (.b !b))) Q:=by rw[x_not,zAc]
def zT1{x:A}:wpO pr (⟨dst,none,.len x⟩ ::l) s Q↔oB (zae s.tm x) fun v=>oB (zd5 v) fun n=>wpO pr l (s.up dst (.f (.i .i64 n))) Q:=by rw[x_len];simp only[zhs]
def y_fa{off:Nat}{x:A}:wpO pr (⟨dst,none,.fa off x⟩ ::l) s Q↔oB (zae s.tm x) fun v=>oB (faB off v) fun d=>wpO pr l (s.up dst d) Q:=by rw[x_fa];simp only[zhs]
def zTY{x:A}{i:Nat}:wpO pr (⟨dst,none,.ext x i⟩ ::l) s Q↔oB ((zae s.tm x).bind zFa) fun cs=>oB cs[i]? fun d=>wpO pr l (s.up dst d) Q:=by rw[x_ext,zZB];simp only[zhs]
def zTX{x:A}:wpO pr (⟨dst,none,.box x⟩ ::l) s Q↔oB (zae s.tm x) fun d=>oB d.cells fun cs=>wpO pr l (s.aft dst (.ptr s.c cs.length 0 0) [(s.c,some (.arr cs.length 0 [cs]))] (s.c+1)) Q:=by rw[x_box];simp only[zhs]
def y_st{n:Nat}{x v:A}:wpO pr (⟨dst,none,.st n x v⟩ ::l) s Q↔oB (zae s.tm x) fun p=>oB (zae s.tm v) fun d=>oB (zfm n s.h.get p d) fun y=>y.1<s.c/\wpO pr l (s.aft dst (.f .un) [(y.1,some y.2)] s.c) Q:=by
 rw[x_st];simp only[zhs]
def y_ia{es:Nat}{x i:A}:wpO pr (⟨dst,none,.ia es x i⟩ ::l) s Q↔oB (zae s.tm x) fun v=>oB (zae s.tm i) fun w=>oB (zcS w) fun n=>oB (iaB es v n) fun d=>wpO pr l (s.up dst d) Q:=by rw[x_ia];simp only[zhs]
def zT2{f:Nat}{b:List A}:wpO pr (⟨dst,none,.mkf f [] b⟩ ::l) s Q↔oB (zaw (zae s.tm) b) fun y=>wpO pr l (s.up dst (fnD f y)) Q:=by rw[x_mkf,zhs]
def zTU{z:List F}{ps:List (Nat×Nat×A)}:wpO pr (⟨dst,none,.bld z ps⟩ ::l) s Q↔oB (zaw (fun(p:Nat×Nat×A)=>(zae s.tm p.2.2).map fun d=>(p.1,p.2.1,d)) ps) fun qs=>oB (zeU (z.map D.f) qs) fun cs=>wpO pr l (s.up dst (.ag cs)) Q:=by
 rw[x_bld];simp only[zhs]
def z1c{f:Nat}{args:List A}:wpO pr (⟨dst,none,.callp f args⟩ ::l) s Q↔oB (zaw (zae s.tm) args) fun ds=>oB (zeu s.h.get ds) fun y=>∃x,Ans pr f y.1 x/\zax s.c (zaF s.h.get y.2)=true/\wpO pr l (s.aft dst x.d (zaF s.h.get y.2) s.c) Q:=by
 rw[z1a];simp only[zhs]
def zadd{f:Nat}{args:List A}:wpO pr (⟨dst,none,.call f args⟩ ::l) s Q↔oB (zaw (zae s.tm) args) fun ds=>∃q,Con pr f ds s.h s.c q/\wpO pr l (s.cal dst q) Q:=by rw[zada,zhs]
def zfE:D->Option (Nat×List D×List D)
 | .fn f a b=>some (f,a,b)
 | .f (.fn f)=>some (f,[],[])
 |_=>none
def zCO(f:Nat)(a b:List D):zfE (.fn f a b)=some (f,a,b):=rfl
def zIX(f:Nat):zfE (.f (.fn f))=some (f,[],[]):=rfl
def z1d{x:A}{args:List A}:wpO pr (⟨dst,none,.callv x args⟩ ::l) s Q↔oB ((zae s.tm x).bind zfE) fun g=>oB (zaw (zae s.tm) args) fun ds=>∃q,Con pr g.1 (g.2.1++ds++g.2.2) s.h s.c q/\wpO pr l (s.cal dst q) Q:=by
 cases hx:zae s.tm x with
 |none=>simp[wpO,zcu,zcY,O.res,hx,oB]
 |some d=>
  cases hm:zaw (zae s.tm) args with
  |none=>cases d with
   |f y=>cases y<;>simp[wpO,zcu,zcY,O.res,hx,hm,oB,zfE]
   |_=>simp[wpO,zcu,zcY,O.res,hx,hm,oB,zfE]
  |some ds=>
   cases d with
   |f y=>
    cases y with
    |fn f=>simp only[wpO,zcu,zcY,O.res,hx,hm,Z47,Z46,kindOf,oB,zfE,Z28,Z22];exact Iff.rfl
    |_=>simp[wpO,zcu,zcY,O.res,hx,hm,oB,zfE,kindOf]
   |fn f a b=>simp only[wpO,zcu,zcY,O.res,hx,hm,Z47,Z46,kindOf,oB,zfE];exact Iff.rfl
   |_=>simp[wpO,zcu,zcY,O.res,hx,hm,oB,zfE,kindOf]
def zLq{x:A}{a b:C}{Q:Ex->St->Prop}:wpC pr (.cond x a b) s Q↔oB ((zae s.tm x).bind asB) fun t=>if t then wpC pr a s Q else wpC pr b s Q:=by rw[zadb,zAc]
end
end Go.Vse
end
section
namespace Go.Vse
variable [Globs]
def zeo(a b:List Nat):Prop:=∀x∈a,x∉b
section
variable (pr:Pr)
def zem:Nat->List (List Nat×List Nat)->List Nat->List Nat->Prop
 |_,[],_,_=>True
 |m,(r,w)::L,rd,wr=>(m%2=1->zeo rd w/\zeo wr w/\zeo wr r)/\zem (m/2) L rd wr
def wpE:List (List Nat×List Nat)->List (Op×Nat)->St->(St->Prop)->Prop
 |_,[],s,Q=>Q s
 |L,(o,mask)::l,s,Q=>zcu pr o s fun s' p=>p.all=false/\zem mask L p.rd p.wr/\wpE (L++[(p.rd,p.wr)]) l {s' with c:=p.hi} Q
variable {pr}
def zvc{o:Op}{s:St}{Q Q':St->Fp->Prop}(hQ:∀s p,Q s p->Q' s p)(h:zcu pr o s Q):zcu pr o s Q':=by
 have m0:∀r,zer r Q->zer r Q':=by
  intro r h;unfold zer at h|-;split
  .exact hQ _ _ h
  .exact h
 unfold zcu at h|-;split
 .simp_all
 .rename_i hw;simp only[hw]at h;exact hQ _ _ h
 .rename_i hw;simp only[hw]at h;split
  .simp_all
  .rename_i o' hr;simp only[hr]at h;split
   .rename_i hk;simp only[hk]at h;split
    .simp_all
    .rename_i hf;simp only[hf]at h;obtain⟨x,h1,h2⟩ :=h;exact⟨x,h1,m0 _ h2⟩
   .rename_i hk;simp only[hk]at h;obtain⟨q,h1,h2⟩ :=h;exact⟨q,h1,m0 _ h2⟩
   .rename_i hk;simp only[hk]at h;exact m0 _ h
   .rename_i hk;simp only[hk]at h
theorem zfa:∀(m:Nat) (L:List (List Nat×List Nat)),zem m L [] []↔True
 |_,[]=>Iff.rfl
 |m,(r,w)::L=>by simp[zem,zeo,zfa (m/2) L]
theorem zuh{p:Fp}(hp:p.all=false){mask:Nat}:∀(fps:List Fp) (i:Nat),(∀q∈fps,q.all=false)->zem (mask/2 ^ i) (fps.map fun q=>(q.rd,q.wr)) p.rd p.wr->zda p mask fps i=true
 |[],_,_,_=>rfl
 |q::l,i,hf,h=>by
  simp only[Z10,zem]at h;have h2:=zuh hp l (i+1) (fun x hx=>hf x (by simp[hx])) (by rw[Z195,<-Nat.div_div_eq_div_mul];exact h.2);simp only[zda,h2,Z187,Z115,Z80];cases hb:mask.testBit i with
  |false=>exact .inl rfl
  |true=>
   right;rw[Z138]at hb;obtain⟨d1,d2,d3⟩ :=h.1 (of_decide_eq_true hb);have q1:=hf q (by simp);simp only[Fp.apart,q1,hp,Z14,Z50,Z80,Z114,Z65];exact⟨⟨fun x hx hm=>d1 x hx hm,fun x hx hm=>d3 x hm hx⟩,fun x hx hm=>d2 x hm hx⟩
theorem zTO:∀(l:List (Op×Nat)) (fps:List Fp) (s:St) (Q:St->Prop),(∀q∈fps,q.all=false)->wpE pr (fps.map fun q=>(q.rd,q.wr)) l s Q->wpD pr l fps s Q
 |[],_,_,_,_,h=>h
 |(o,mask)::l,fps,s,Q,hf,h=>by
  refine zvc (fun s' p ⟨h1,h2,h3⟩ =>⟨?_,zTO l (fps++[p]) _ Q ?_ (by simpa using h3)⟩) h
  .exact zuh h1 fps 0 hf (by simpa using h2)
  .intro q hq;rcases Z4.1 hq with hq|hq
   .exact hf q hq
   .simp only[Z31]at hq;subst hq;exact h1
def zab3{ops:List (Op×Nat)}{s:St}{Q:Ex->St->Prop}(h:wpE pr [] ops s (Q .nrm)):wpC pr (.dreg ops) s Q:=
 zTO ops [] s _ (fun q hq=>by simp at hq) h
def St.ue(s:St)(dst:Option Nat)(d:D):St:={s with tm:=zdx s.tm dst d,c:=s.c+1,mx:=Nat.max s.mx (s.c+1)}
def St.ae(s:St)(dst:Option Nat)(d:D)(wr:List (Nat×Option Ob))(c:Nat):St:=
 {tm:=zdx s.tm dst d,h:=wrT s.h wr,c:=c+1,lw:=zeW s.lw wr,mx:=Nat.max s.mx (c+1)}
def St.se(s:St)(dst:Option Nat):St:={s with tm:=zdx s.tm dst (.f .un)}
def zco(s:St)(dst:Option Nat)(d:D):(s.ue dst d).tm=zdx s.tm dst d:=rfl
def zdi(s:St)(dst:Option Nat)(d:D):(s.ue dst d).h=s.h:=rfl
def zdg(s:St)(dst:Option Nat)(d:D):(s.ue dst d).c=s.c+1:=rfl
def zHj(s:St)(dst:Option Nat)(d:D):(s.ue dst d).lw=s.lw:=rfl
def zcc(s:St)(dst:Option Nat)(d:D)(wr:List (Nat×Option Ob))(c:Nat):(s.ae dst d wr c).tm=zdx s.tm dst d:=rfl
def zc7(s:St)(dst:Option Nat)(d:D)(wr:List (Nat×Option Ob))(c:Nat):(s.ae dst d wr c).h=wrT s.h wr:=rfl
def zc3(s:St)(dst:Option Nat)(d:D)(wr:List (Nat×Option Ob))(c:Nat):(s.ae dst d wr c).c=c+1:=rfl
def zEX(s:St)(dst:Option Nat)(d:D)(wr:List (Nat×Option Ob))(c:Nat):(s.ae dst d wr c).lw=zeW s.lw wr:=rfl
def zcn(s:St)(dst:Option Nat):(s.se dst).tm=zdx s.tm dst (.f .un):=rfl
def zdf(s:St)(dst:Option Nat):(s.se dst).h=s.h:=rfl
def zde(s:St)(dst:Option Nat):(s.se dst).c=s.c:=rfl
def zG8(s:St)(dst:Option Nat):(s.se dst).lw=s.lw:=rfl
variable {l:List (Op×Nat)}{s:St}{Q:St->Prop}{dst:Option Nat}{L:List (List Nat×List Nat)}{mask:Nat}
def zzZ(b:List Nat):zeo [] b↔True:=by simp[zeo]
def zwL(x:Nat)(a b:List Nat):zeo (x::a) b↔x∉b/\zeo a b:=by simp[zeo]
def zRJ:wpE pr L [] s Q↔Q s:=Iff.rfl
def zkW(d:D):s.ae dst d [] s.c=s.ue dst d:=rfl
theorem zdU{o:O A}(hk:kcl o= .n):wpE pr L ((⟨dst,none,o⟩,mask)::l) s Q↔oB ((o.res (zae s.tm)).bind (opv s.h.get s.c)) fun r=>zax r.c r.wr=true/\
    zem mask L r.rd (r.wr.map (·.1))/\wpE pr (L++[(r.rd,r.wr.map (·.1))]) l (s.ae dst r.d r.wr r.c) Q:=by
  simp only[wpE,zcu,zcY];cases hr:o.res (zae s.tm)with
  |none=>exact Iff.rfl
  | some o'=>
    simp only[Z46,zym hk hr];cases hv:opv s.h.get s.c o' with
    |none=>exact Iff.rfl
    | some r=>
      simp only[zer,zd6,oB];cases hw:zax r.c r.wr with
      |false=>simp
      |true=>simp only[Z89,cond_false,true_and];exact Iff.rfl
def zfu{l:List Op}{o:O A}(hk:kcl o= .n):wpO pr (⟨dst,none,o⟩ ::l) s Q↔oB ((o.res (zae s.tm)).bind (opv s.h.get s.c)) fun r=>zax r.c r.wr=true/\wpO pr l (s.aft dst r.d r.wr r.c) Q:=by
 simp only[wpO,zcu,zcY];cases hr:o.res (zae s.tm)with
 |none=>exact Iff.rfl
 |some o'=>
  simp only[Z46,zym hk hr];cases hv:opv s.h.get s.c o' with
  |none=>exact Iff.rfl
  |some r=>
   simp only[zer,zd6,oB];cases hw:zax r.c r.wr with
   |false=>simp
   |true=>simp only[Z89,cond_false,true_and];exact Iff.rfl
def e_mv{x:A}:wpE pr L ((⟨dst,none,.mv x⟩,mask)::l) s Q↔oB (zae s.tm x) fun d=>wpE pr (L++[([],[])]) l (s.ue dst d) Q:=by
 rw[zdU rfl];cases hx:zae s.tm x<;>simp[O.res,hx,opv,okD,oB,zax,zeo,zkW,zfa]
def e_ld{g:Bool}{n:Nat}{x:A}:wpE pr L ((⟨dst,none,.ld g n x⟩,mask)::l) s Q↔oB (zae s.tm x) fun p=>oB (zes g n s.h.get p) fun y=>zem mask L y.2 []/\wpE pr (L++[(y.2,[])]) l (s.ue dst y.1) Q:=by
 rw[zdU rfl];cases hx:zae s.tm x with
 |none=>simp[O.res,hx,oB]
 |some p=>
  cases hl:zes g n s.h.get p with
  |none=>simp[O.res,hx,opv,hl,oB]
  |some y=>obtain⟨d,rd⟩ :=y;simp[O.res,hx,opv,hl,oB,zax,zeo,zkW,zfa]
def zRs{op:BinOp}{x y:A}:wpE pr L ((⟨dst,none,.bin op x y⟩,mask)::l) s Q↔oB ((zae s.tm x).bind asF) fun a=>oB ((zae s.tm y).bind asF) fun b=>oB (zbS op a b) fun z=>wpE pr (L++[([],[])]) l (s.ue dst (.f z)) Q:=by
 rw[zdU rfl];cases hx:zae s.tm x with
 |none=>simp[O.res,hx,oB]
 |some d=>
  cases hy:zae s.tm y with
  |none=>cases d<;>simp[O.res,hx,hy,oB,asF]
  |some e=>
   cases d with
   |f a=>
    cases e with
    |f b=>
     cases hz:zbS op a b<;>simp[O.res,hx,hy,oB,asF,opv,hz,okF,zax,zeo,zkW,zfa]
    |_=>simp[O.res,hx,hy,oB,asF,opv]
   |_=>simp[O.res,hx,hy,oB,asF,opv]
def zJs{q x y:A}:wpE pr L ((⟨dst,none,.pick q x y⟩,mask)::l) s Q↔oB ((zae s.tm q).bind asB) fun b=>oB (zae s.tm x) fun d=>oB (zae s.tm y) fun e=>wpE pr (L++[([],[])]) l (s.ue dst (if b then d else e)) Q:=by
 rw[zdU rfl];cases hq:zae s.tm q with
 |none=>simp[O.res,hq,oB]
 |some z=>
  cases hx:zae s.tm x with
  |none=>
   cases z with
   |f z=>cases z<;>simp[O.res,hq,hx,oB,asB]
   |_=>simp[O.res,hq,hx,oB,asB]
  |some d=>
   cases hy:zae s.tm y with
   |none=>
    cases z with
    |f z=>cases z<;>simp[O.res,hq,hx,hy,oB,asB]
    |_=>simp[O.res,hq,hx,hy,oB,asB]
   |some e=>
    cases z with
    |f z=>cases z<;>simp[O.res,hq,hx,hy,oB,asB,opv,okD,zax,zeo,zkW,zfa]
    |_=>simp[O.res,hq,hx,hy,oB,asB,opv]
def zRB{ne:Bool}{x y:A}:wpE pr L ((⟨dst,none,.eqb ne x y⟩,mask)::l) s Q↔oB ((zae s.tm x).bind asB) fun a=>oB ((zae s.tm y).bind asB) fun b=>wpE pr (L++[([],[])]) l (s.ue dst (.f (.b (if ne then !(a==b)else a==b)))) Q:=by
 rw[zdU rfl];cases hx:zae s.tm x with
 |none=>simp[O.res,hx,oB]
 |some d=>
  cases hy:zae s.tm y with
  |none=>
   cases d with
   |f z=>cases z<;>simp[O.res,hx,hy,oB,asB]
   |_=>simp[O.res,hx,hy,oB,asB]
  |some e=>
   cases d with
   |f z=>
    cases z with
    |b a=>
     cases e with
     |f z'=>cases z'<;>simp[O.res,hx,hy,oB,asB,opv,okF,zax,zeo,zkW,zfa]
     |_=>simp[O.res,hx,hy,oB,asB,opv]
    |_=>simp[O.res,hx,hy,oB,asB,opv]
   |_=>simp[O.res,hx,hy,oB,asB,opv]
def e_len{x:A}:wpE pr L ((⟨dst,none,.len x⟩,mask)::l) s Q↔oB (zae s.tm x) fun v=>oB (zd5 v) fun n=>wpE pr (L++[([],[])]) l (s.ue dst (.f (.i .i64 n))) Q:=by
 rw[zdU rfl];cases hx:zae s.tm x with
 |none=>simp[O.res,hx,oB]
 |some v=>cases hl:zd5 v<;>simp[O.res,hx,oB,opv,hl,okF,zax,zeo,zkW,zfa]
def e_fa{off:Nat}{x:A}:wpE pr L ((⟨dst,none,.fa off x⟩,mask)::l) s Q↔oB (zae s.tm x) fun v=>oB (faB off v) fun d=>wpE pr (L++[([],[])]) l (s.ue dst d) Q:=by
 rw[zdU rfl];cases hx:zae s.tm x with
 |none=>simp[O.res,hx,oB]
 |some v=>cases v<;>simp[O.res,hx,oB,opv,faB,okD,zax,zeo,zkW,zfa]
def e_ia{es:Nat}{x i:A}:wpE pr L ((⟨dst,none,.ia es x i⟩,mask)::l) s Q↔oB (zae s.tm x) fun v=>oB (zae s.tm i) fun w=>oB (zcS w) fun n=>oB (iaB es v n) fun d=>wpE pr (L++[([],[])]) l (s.ue dst d) Q:=by
 rw[zdU rfl];cases hx:zae s.tm x with
 |none=>simp[O.res,hx,oB]
 |some v=>
  cases hy:zae s.tm i with
  |none=>simp[O.res,hx,hy,oB]
  |some w=>
   cases hn:zcS w with
   |none=>simp[O.res,hx,hy,opv,hn,oB]
   |some n=>
    cases v with
    |f z=>
     cases z with
     |sl es' els=>
      by_cases he:es=es'
      .subst he;cases hel:els[n]? <;>simp[O.res,hx,hy,oB,opv,hn,iaB,hel,okD,zax,zeo,zkW,zfa]
      .simp[O.res,hx,hy,oB,opv,hn,iaB,he]
     |_=>simp[O.res,hx,hy,oB,opv,hn,iaB]
    |sl id off m es' lim ex=>
     by_cases he:es=es'/\n<m
     .simp[O.res,hx,hy,oB,opv,hn,iaB,he,okD,zax,zeo,zkW,zfa]
     .simp[O.res,hx,hy,oB,opv,hn,iaB,he]
    |_=>simp[O.res,hx,hy,oB,opv,hn,iaB]
def zRt{z:List F}{ps:List (Nat×Nat×A)}:wpE pr L ((⟨dst,none,.bld z ps⟩,mask)::l) s Q↔oB (zaw (fun(p:Nat×Nat×A)=>(zae s.tm p.2.2).map fun d=>(p.1,p.2.1,d)) ps) fun qs=>oB (zeU (z.map D.f) qs) fun cs=>wpE pr (L++[([],[])]) l (s.ue dst (.ag cs)) Q:=by
 have e:zaw (fun(p:Nat×Nat×A)=>(zae s.tm p.2.2).map fun d=>(p.1,p.2.1,d)) ps=zaw (fun x=>match x with|(o,n,x)=>do some (o,n,<-zae s.tm x)) ps:=by
  congr 1
  funext p
  obtain⟨o,n,x⟩ :=p;simp only;cases zae s.tm x<;>rfl
 rw[e,zdU rfl];simp only[O.res];cases hq:zaw (fun x=>match x with|(o,n,x)=>do some (o,n,<-zae s.tm x)) ps with
 |none=>simp[oB]
 |some qs=>cases hf:zeU (z.map D.f) qs<;>simp[oB,opv,hf,okD,zax,zeo,zkW,zfa]
def zRI{cs:List F}:wpE pr L ((⟨dst,none,.new cs⟩,mask)::l) s Q↔zem mask L [] [s.c]/\wpE pr (L++[([],[s.c])]) l (s.ae dst (.ptr s.c cs.length 0 0) [(s.c,some (.arr cs.length 0 [cs.map D.f]))] (s.c+1)) Q:=by
 rw[zdU rfl];simp[O.res,oB,opv,zax,zeo,Z79]
def e_st{n:Nat}{x v:A}:wpE pr L ((⟨dst,none,.st n x v⟩,mask)::l) s Q↔oB (zae s.tm x) fun p=>oB (zae s.tm v) fun d=>oB (zfm n s.h.get p d) fun y=>y.1<s.c/\zem mask L [y.1] [y.1]/\wpE pr (L++[([y.1],[y.1])]) l (s.ae dst (.f .un) [(y.1,some y.2)] s.c) Q:=by
 rw[zdU rfl];cases hx:zae s.tm x with
 |none=>simp[O.res,hx,oB]
 |some p=>
  cases hv:zae s.tm v with
  |none=>simp[O.res,hx,hv,oB]
  |some d=>
   cases hs:zfm n s.h.get p d with
   |none=>simp[O.res,hx,hv,oB,opv,hs]
   |some y=>obtain⟨id,ob⟩ :=y;simp[O.res,hx,hv,oB,opv,hs,zax,zeo,Z79]
theorem zZA{f:Nat}{args:List A}:wpE pr L ((⟨dst,none,.callp f args⟩,mask)::l) s Q↔oB (zaw (zae s.tm) args) fun ds=>oB (zeu s.h.get ds) fun y=>∃x,Ans pr f y.1 x/\zax s.c (zaF s.h.get y.2)=true/\
      zem mask L y.2 ((zaF s.h.get y.2).map (·.1))/\wpE pr (L++[(y.2,(zaF s.h.get y.2).map (·.1))]) l (s.ae dst x.d (zaF s.h.get y.2) s.c) Q:=by
  simp only[wpE,zcu,zcY,O.res,Z47];cases hm:zaw (zae s.tm) args with
  |none=>simp[oB]
  | some ds=>
    simp only[Z46,kindOf,oB];cases hf:zeu s.h.get ds with
    |none=>exact Iff.rfl
    | some y=>
      obtain⟨fs,rd⟩ :=y;simp only;refine exists_congr fun x=>and_congr_right fun _=> ?_
      simp only[zer,zd6];cases hw:zax s.c (zaF s.h.get rd)with
      |false=>simp
      |true=>simp only[Z89,cond_false,true_and];exact Iff.rfl
def asG:D->Option (Option Bool)
 | .f (.b b)=>some (some b)
 | .f .un=>some none
 |_=>none
def zQ5(b:Bool):asG (.f (.b b))=some (some b):=rfl
def zIZ:asG (.f .un)=some none:=rfl
def zlM{t:T D}{g:Nat}{w:Bool}:zcY t (some (g,w))=((t.get g).bind asG).map (· ==some w):=by
  simp only[zcY];cases t.get g with
  |none=>rfl
  | some d=>
    cases d with
    | f x=>
      cases x with
      |b b=>cases b<;>cases w<;>rfl
      |_=>rfl
    |_=>rfl
def zEv{l:List Op}{g:Nat}{w:Bool}{o:O A}:wpO pr (⟨dst,some (g,w),o⟩ ::l) s Q↔oB ((s.tm.get g).bind asG) fun x=>if x==some w then wpO pr (⟨dst,none,o⟩ ::l) s Q else wpO pr l (s.se dst) Q:=by
 cases hx:(s.tm.get g).bind asG with
 |none=>
  have:zcY s.tm (some (g,w))=none:=by rw[zlM,hx];rfl
  simp[wpO,zcu,this,oB]
 |some x=>
  have hw:zcY s.tm (some (g,w))=some (x==some w):=by rw[zlM,hx];rfl
  simp only[oB];cases hb:x==some w with
  |true=>rw[hb]at hw;simp only[wpO,zcu,hw,Z60];exact Iff.rfl
  |false=>rw[hb]at hw;simp only[wpO,zcu,hw];exact Iff.rfl
def zDs{g:Nat}{w:Bool}{o:O A}:wpE pr L ((⟨dst,some (g,w),o⟩,mask)::l) s Q↔oB ((s.tm.get g).bind asG) fun x=>if x==some w then wpE pr L ((⟨dst,none,o⟩,mask)::l) s Q else wpE pr (L++[([],[])]) l (s.se dst) Q:=by
 cases hx:(s.tm.get g).bind asG with
 |none=>
  have:zcY s.tm (some (g,w))=none:=by rw[zlM,hx];rfl
  simp[wpE,zcu,this,oB]
 |some x=>
  have hw:zcY s.tm (some (g,w))=some (x==some w):=by rw[zlM,hx];rfl
  simp only[oB];cases hb:x==some w with
  |true=>rw[hb]at hw;simp only[wpE,zcu,hw,Z60];exact Iff.rfl
  |false=>
   rw[hb]at hw;simp only[wpE,zcu,hw];constructor
   .rintro⟨_,_,h⟩;exact h
   .intro h;exact⟨trivial,(zfa _ _).2 trivial,h⟩
end
end Go.Vse
end
section
namespace Go.Vse
variable [Globs]
abbrev EnP:=Nat×List F×F
def zab(pr:Pr)(e:EnP):Prop:=Ans pr e.1 e.2.1 e.2.2
def zpF(pr:Pr):List EnP->Prop
 |[]=>True
 |e::l=>zab pr e/\zpF pr l
def zAt(f:Nat)(fs:List F)(l:List EnP):Option F:=
 @List.rec EnP (fun _=>Option F) none (fun p _ ih=>@Bool.rec (fun _=>Option F) ih (@Bool.rec (fun _=>Option F) ih (some p.2.2) (F.zeL p.2.1 fs)) (Nat.beq p.1 f)) l
def zGW(mask:Nat)(l:List EnP):Orc:=fun f fs=>
 @Bool.rec (fun _=>Option F) none (zAt f fs l) (Nat.beq (Nat.mod (Nat.div mask (Nat.pow 2 f)) 2) 1)
theorem zwp{pr:Pr}{f:Nat}{fs:List F}{x:F}:∀{l:List EnP},zpF pr l->zAt f fs l=some x->Ans pr f fs x
 |[],_,h=>by cases h
 |p::l,ha,h=>by
  have e:zAt f fs (p::l)= @Bool.rec (fun _=>Option F) (zAt f fs l) (@Bool.rec (fun _=>Option F) (zAt f fs l) (some p.2.2) (F.zeL p.2.1 fs)) (Nat.beq p.1 f):=rfl;rw[e]at h;cases hb:Nat.beq p.1 f with
  |false=>rw[hb]at h;exact zwp ha.2 h
  |true=>
   rw[hb]at h;cases hq:F.zeL p.2.1 fs with
   |false=>rw[hq]at h;exact zwp ha.2 h
   |true=>
    rw[hq]at h;cases h;rw[<-Z88 hb,<-F.zgP _ _ hq];exact ha.1
def zZ4{pr:Pr}{mask:Nat}{l:List EnP}(ha:zpF pr l):zkL pr (zGW mask l):=by
 intro f fs x h;unfold zGW at h;cases hb:Nat.beq (Nat.mod (Nat.div mask (Nat.pow 2 f)) 2) 1 with
 |false=>rw[hb]at h;cases h
 |true=>rw[hb]at h;exact zwp ha h
def zeb{pr:Pr}{mask n:Nat}{l:List EnP}{e:EnP}(ha:zpF pr l)(h:zG6 (zGW mask l) pr n e.1 e.2.1=some e.2.2):zab pr e:=
 zau (zZ4 ha) h
end Go.Vse
end
section
namespace Go.Vse
variable [Globs]
section
variable (K:Nat->Option Nat)(spq:O A->Bool)
def okS(i:Nat):Bool:=match K i with
 |some _=>false
 |none=>true
def okD':Option Nat->Bool
 |some i=>okS K i
 |none=>true
end
def zMK{K:Nat->Option Nat}{i:Nat}(h:okS K i=true):K i=none:=by
 unfold okS at h;split at h
 .cases h
 .assumption
def Inn(K:Nat->Option Nat)(u u':Nat->D)(t t':T D):Prop:=
 ∀i k,K i=some k->t.get i=t'.get i\/(t.get i=some (u k)/\t'.get i=some (u' k))
structure Ag(K:Nat->Option Nat)(u u':Nat->D)(s s':St):Prop where
 out:∀n,K n=none->s.tm.get n=s'.tm.get n
 inn:Inn K u u' s.tm s'.tm
 h:s.h=s'.h
 c:s.c=s'.c
 lw:s.lw=s'.lw
 mx:s.mx=s'.mx
section
variable {K:Nat->Option Nat}{spq:O A->Bool}{u u':Nat->D}{cl:Cl}
def zrV{t:T D}{dst:Option Nat}{d:D}(n:Nat):(zdx t dst d).get n=if dst=some n then some d else t.get n:=by
 cases dst with
 |none=>simp[zdx]
 |some i=>
  simp only[zdx,T.zaM,Z45]
  by_cases h:n=i
  .subst h;simp
  .rw[Z49 h,Z49 (fun e=>h e.symm)]
theorem Ag.put{s s':St}(a:Ag K u u' s s'){dst:Option Nat}(hd:okD' K dst=true)(d:D)(h:T Ob)(c lw mx:Nat):
  Ag K u u' {tm:=zdx s.tm dst d,h,c,lw,mx} {tm:=zdx s'.tm dst d,h,c,lw,mx}:=by
 refine⟨fun n hn=> ?_,fun n k hn=> ?_,rfl,rfl,rfl,rfl⟩
 .simp only[zrV];split
  .rfl
  .exact a.out n hn
 .simp only[zrV];have:dst≠some n:=by
   rintro rfl;have:=zMK hd;rw[hn]at this;cases this
  rw[Z49 this,Z49 this];exact a.inn n k hn
theorem Ag.zma{s s':St}(a:Ag K u u' s s'){j k:Nat}(hj:K j=some k)(h:T Ob)(c lw mx:Nat):
  Ag K u u' {tm:=zdx s.tm (some j) (u k),h,c,lw,mx} {tm:=zdx s'.tm (some j) (u' k),h,c,lw,mx}:=by
 refine⟨fun n hn=> ?_,fun n m hn=> ?_,rfl,rfl,rfl,rfl⟩
 .simp only[zrV];have:¬(some j=some n):=by
   intro e;cases e;rw[hj]at hn;cases hn
  rw[Z49 this,Z49 this];exact a.out n hn
 .simp only[zrV]
  by_cases e:some j=some n
  .cases e;rw[hj]at hn;cases hn;simp
  .rw[Z49 e,Z49 e];exact a.inn n m hn
end
end Go.Vse
end
