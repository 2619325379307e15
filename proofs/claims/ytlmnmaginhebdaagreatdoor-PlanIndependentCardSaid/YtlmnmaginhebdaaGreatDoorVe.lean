/- The evaluator and its soundness. Conditions: none. -/
import Derived.Test.YtlmnmaginhebdaaGreatDoorVd
import Derived.Test.YtlmnmaginhebdaaGreatDoorVc
set_option linter.all false
noncomputable section
section
namespace Go.Vse
variable [Globs]
def Rt(tm:TM)(t:T D):Prop:=∀i,getM tm i=t.get i
def Rt.put{tm:TM}{t:T D}(h:Rt tm t)(dst:Option Nat)(d:D):Rt (zl2 tm dst d) (zdp t dst d):=by
 intro i;cases dst with
 |none=>exact h i
 |some j=>
  have e:zl2 tm (some j) d=zp4 tm j (some d):=rfl;rw[e,zu9,h i];simp only[zdp,T.za0]
def F.zC4(x:F):x.dk=x.d:=by cases x<;>rfl
section
variable {tm:TM}{t:T D}
def zaT(h:Rt tm t)(x:A):zeU tm x=zae t x:=by
 cases x with
 |t n=>exact h n
 |k x=>exact congrArg some (F.zC4 x)
 |x=>rfl
 |g cs=>rfl
theorem znY(h:Rt tm t):∀l,zpP tm l=zav (zae t) l
 |[]=>rfl
 |x::l=>by
  have e:zpP tm (x::l)=oL (zeU tm x) fun y=>oL (zpP tm l) fun m=>some (y::m):=rfl
  rw[e,zaT h,znY h l,zav];cases zae t x with
  |none=>rfl
  |some y=>cases zav (zae t) l<;>rfl
theorem zBC(h:Rt tm t):∀l,zD8 tm l=zav (fun(p:Nat×Nat×A)=>do some (p.1,p.2.1,<-zae t p.2.2)) l
 |[]=>rfl
 |x::l=>by
  have e:zD8 tm (x::l)=oL (zeU tm x.2.2) fun y=>oL (zD8 tm l) fun m=>some ((x.1,x.2.1,y)::m):=rfl
  rw[e,zaT h,zBC h l,zav];cases zae t x.2.2 with
  |none=>rfl
  |some y=>
   simp only[Z47,Z46];cases zav _ l<;>rfl
theorem zuC(h:Rt tm t):∀l,zD9 tm l=zav (fun(p:Nat×A)=>do some (p.1,<-zae t p.2)) l
 |[]=>rfl
 |x::l=>by
  have e:zD9 tm (x::l)=oL (zeU tm x.2) fun y=>oL (zD9 tm l) fun m=>some ((x.1,y)::m):=rfl
  rw[e,zaT h,zuC h l,zav];cases zae t x.2 with
  |none=>rfl
  |some y=>
   simp only[Z47,Z46];cases zav _ l<;>rfl
def zBJ(h:Rt tm t)(x:Option A):zrA tm x=zd0 (zae t) x:=by
 cases x with
 |none=>rfl
 |some x=>
  have e:zrA tm (some x)=oL (zeU tm x) fun y=>some (some y):=rfl
  rw[e,zaT h,zd0];cases zae t x<;>rfl
def zaK{α:Type}(x:α)(k:α->Option Rs):oK (some x) k=k x:=rfl
def zaas(h:Rt tm t)(hp:Nat->Option Ob)(c:Nat)(o:O A)(hk:kcl o= .n):opK o tm hp c=(o.res (zae t)).bind (opv hp c):=by
 cases o with
 |mv x'=>
  show ra k_mv x' tm hp c=_;unfold ra;simp only[zaT h,O.res,Z47];cases zae t x' with
  |none=>rfl
  |some y=>
   simp only[zaK,Z46];rfl
 |pick q' x' y'=>
  show zuK zG6 q' x' y' tm hp c=_;unfold zuK;simp only[zaT h,O.res,Z47];cases zae t q' with
  |none=>rfl
  |some y=>
   simp only[zaK,Z46];cases zae t x' with
   |none=>rfl
   |some y=>
    simp only[zaK,Z46];cases zae t y' with
    |none=>rfl
    |some y=>
     simp only[zaK,Z46];rfl
 |new cs'=>
  rfl
 |box x'=>
  show ra zOT x' tm hp c=_;unfold ra;simp only[zaT h,O.res,Z47];cases zae t x' with
  |none=>rfl
  |some y=>
   simp only[zaK,Z46];rfl
 |bld z' ps'=>
  show rp (zOO z') ps' tm hp c=_;unfold rp;simp only[zBC h,O.res,Z47];cases zav _ ps' with
  |none=>rfl
  |some y=>
   simp only[zaK,Z46];rfl
 |bsl es' z' m' ps'=>
  show rq (zOV es' z' m') ps' tm hp c=_;unfold rq;simp only[zuC h,O.res,Z47];cases zav _ ps' with
  |none=>rfl
  |some y=>
   simp only[zaK,Z46];rfl
 |bsf es' z' m' ps'=>
  show rq (zOU es' z' m') ps' tm hp c=_;unfold rq;simp only[zuC h,O.res,Z47];cases zav _ ps' with
  |none=>rfl
  |some y=>
   simp only[zaK,Z46];rfl
 |ld g' n' x'=>
  show ra (k_ld g' n') x' tm hp c=_;unfold ra;simp only[zaT h,O.res,Z47];cases zae t x' with
  |none=>rfl
  |some y=>
   simp only[zaK,Z46];rfl
 |st n' x' v'=>
  show raa (k_st n') x' v' tm hp c=_;unfold raa;simp only[zaT h,O.res,Z47];cases zae t x' with
  |none=>rfl
  |some y=>
   simp only[zaK,Z46];cases zae t v' with
   |none=>rfl
   |some y=>
    simp only[zaK,Z46];rfl
 |nck x'=>
  show ra zPn x' tm hp c=_;unfold ra;simp only[zaT h,O.res,Z47];cases zae t x' with
  |none=>rfl
  |some y=>
   simp only[zaK,Z46];rfl
 |bin op' x' y'=>
  show raa (zON op') x' y' tm hp c=_;unfold raa;simp only[zaT h,O.res,Z47];cases zae t x' with
  |none=>rfl
  |some y=>
   simp only[zaK,Z46];cases zae t y' with
   |none=>rfl
   |some y=>
    simp only[zaK,Z46];rfl
 |eqb ne' x' y'=>
  show raa (zO2 ne') x' y' tm hp c=_;unfold raa;simp only[zaT h,O.res,Z47];cases zae t x' with
  |none=>rfl
  |some y=>
   simp only[zaK,Z46];cases zae t y' with
   |none=>rfl
   |some y=>
    simp only[zaK,Z46];rfl
 |eqn kd' ne' x' y'=>
  show raa (zO4 kd' ne') x' y' tm hp c=_;unfold raa;simp only[zaT h,O.res,Z47];cases zae t x' with
  |none=>rfl
  |some y=>
   simp only[zaK,Z46];cases zae t y' with
   |none=>rfl
   |some y=>
    simp only[zaK,Z46];rfl
 |eqa ks' ne' x' y'=>
  show raa (zO1 ks' ne') x' y' tm hp c=_;unfold raa;simp only[zaT h,O.res,Z47];cases zae t x' with
  |none=>rfl
  |some y=>
   simp only[zaK,Z46];cases zae t y' with
   |none=>rfl
   |some y=>
    simp only[zaK,Z46];rfl
 |un op' x'=>
  show ra (k_un op') x' tm hp c=_;unfold ra;simp only[zaT h,O.res,Z47];cases zae t x' with
  |none=>rfl
  |some y=>
   simp only[zaK,Z46];rfl
 |cvi k' x'=>
  show ra (zOZ k') x' tm hp c=_;unfold ra;simp only[zaT h,O.res,Z47];cases zae t x' with
  |none=>rfl
  |some y=>
   simp only[zaK,Z46];rfl
 |cvs x'=>
  show ra zO0 x' tm hp c=_;unfold ra;simp only[zaT h,O.res,Z47];cases zae t x' with
  |none=>rfl
  |some y=>
   simp only[zaK,Z46];rfl
 |s2b x'=>
  show ra zPp x' tm hp c=_;unfold ra;simp only[zaT h,O.res,Z47];cases zae t x' with
  |none=>rfl
  |some y=>
   simp only[zaK,Z46];rfl
 |b2s x'=>
  show ra zOL x' tm hp c=_;unfold ra;simp only[zaT h,O.res,Z47];cases zae t x' with
  |none=>rfl
  |some y=>
   simp only[zaK,Z46];rfl
 |mkf f' a' b'=>
  show rll (zPh f') a' b' tm hp c=_;unfold rll;simp only[znY h,O.res,Z47];cases zav (zae t) a' with
  |none=>rfl
  |some y=>
   simp only[zaK,Z46];cases zav (zae t) b' with
   |none=>rfl
   |some y=>
    simp only[zaK,Z46];rfl
 |mks es' byt' z' l' m'=>
  show raa (zPj es' byt' z') l' m' tm hp c=_;unfold raa;simp only[zaT h,O.res,Z47];cases zae t l' with
  |none=>rfl
  |some y=>
   simp only[zaK,Z46];cases zae t m' with
   |none=>rfl
   |some y=>
    simp only[zaK,Z46];rfl
 |sls x' lo' hi'=>
  show zJ8 zPs x' lo' hi' tm hp c=_;unfold zJ8;simp only[zaT h,zBJ h,O.res,Z47];cases zae t x' with
  |none=>rfl
  |some y=>
   simp only[zaK,Z46];cases zd0 (zae t) lo' with
   |none=>rfl
   |some y=>
    simp only[zaK,Z46];cases zd0 (zae t) hi' with
    |none=>rfl
    |some y=>
     simp only[zaK,Z46];rfl
 |slc es' x' lo' hi' mx'=>
  show zEj (zPr es') x' lo' hi' mx' tm hp c=_;unfold zEj;simp only[zaT h,zBJ h,O.res,Z47];cases zae t x' with
  |none=>rfl
  |some y=>
   simp only[zaK,Z46];cases zd0 (zae t) lo' with
   |none=>rfl
   |some y=>
    simp only[zaK,Z46];cases zd0 (zae t) hi' with
    |none=>rfl
    |some y=>
     simp only[zaK,Z46];cases zd0 (zae t) mx' with
     |none=>rfl
     |some y=>
      simp only[zaK,Z46];rfl
 |fa off' x'=>
  show ra (k_fa off') x' tm hp c=_;unfold ra;simp only[zaT h,O.res,Z47];cases zae t x' with
  |none=>rfl
  |some y=>
   simp only[zaK,Z46];rfl
 |fld g' off' n' x'=>
  show ra (zO8 g' off' n') x' tm hp c=_;unfold ra;simp only[zaT h,O.res,Z47];cases zae t x' with
  |none=>rfl
  |some y=>
   simp only[zaK,Z46];rfl
 |ia es' x' i'=>
  show raa (k_ia es') x' i' tm hp c=_;unfold raa;simp only[zaT h,O.res,Z47];cases zae t x' with
  |none=>rfl
  |some y=>
   simp only[zaK,Z46];cases zae t i' with
   |none=>rfl
   |some y=>
    simp only[zaK,Z46];rfl
 |iaa es' m' x' i'=>
  show raa (zO9 es' m') x' i' tm hp c=_;unfold raa;simp only[zaT h,O.res,Z47];cases zae t x' with
  |none=>rfl
  |some y=>
   simp only[zaK,Z46];cases zae t i' with
   |none=>rfl
   |some y=>
    simp only[zaK,Z46];rfl
 |ixs x' i'=>
  show raa zPb x' i' tm hp c=_;unfold raa;simp only[zaT h,O.res,Z47];cases zae t x' with
  |none=>rfl
  |some y=>
   simp only[zaK,Z46];cases zae t i' with
   |none=>rfl
   |some y=>
    simp only[zaK,Z46];rfl
 |ixa g' es' m' x' i'=>
  show raa (zPa g' es' m') x' i' tm hp c=_;unfold raa;simp only[zaT h,O.res,Z47];cases zae t x' with
  |none=>rfl
  |some y=>
   simp only[zaK,Z46];cases zae t i' with
   |none=>rfl
   |some y=>
    simp only[zaK,Z46];rfl
 |ext x' i'=>
  show ra (zO6 i') x' tm hp c=_;unfold ra;simp only[zaT h,O.res,Z47];cases zae t x' with
  |none=>rfl
  |some y=>
   simp only[zaK,Z46];rfl
 |app es' byt' s' x'=>
  show raa (zOI es' byt') s' x' tm hp c=_;unfold raa;simp only[zaT h,O.res,Z47];cases zae t s' with
  |none=>rfl
  |some y=>
   simp only[zaK,Z46];cases zae t x' with
   |none=>rfl
   |some y=>
    simp only[zaK,Z46];rfl
 |apz es' byt' z' s' n'=>
  show raa (zOJ es' byt' z') s' n' tm hp c=_;unfold raa;simp only[zaT h,O.res,Z47];cases zae t s' with
  |none=>rfl
  |some y=>
   simp only[zaK,Z46];cases zae t n' with
   |none=>rfl
   |some y=>
    simp only[zaK,Z46];rfl
 |cpy es' d' s'=>
  show raa (zOY es') d' s' tm hp c=_;unfold raa;simp only[zaT h,O.res,Z47];cases zae t d' with
  |none=>rfl
  |some y=>
   simp only[zaK,Z46];cases zae t s' with
   |none=>rfl
   |some y=>
    simp only[zaK,Z46];rfl
 |clr es' z' s'=>
  show ra (zOX es' z') s' tm hp c=_;unfold ra;simp only[zaT h,O.res,Z47];cases zae t s' with
  |none=>rfl
  |some y=>
   simp only[zaK,Z46];rfl
 |len x'=>
  show ra zPc x' tm hp c=_;unfold ra;simp only[zaT h,O.res,Z47];cases zae t x' with
  |none=>rfl
  |some y=>
   simp only[zaK,Z46];rfl
 |lns x'=>
  show ra zPd x' tm hp c=_;unfold ra;simp only[zaT h,O.res,Z47];cases zae t x' with
  |none=>rfl
  |some y=>
   simp only[zaK,Z46];rfl
 |mlen x'=>
  show ra zG5 x' tm hp c=_;unfold ra;simp only[zaT h,O.res,Z47];cases zae t x' with
  |none=>rfl
  |some y=>
   simp only[zaK,Z46];rfl
 |cap x'=>
  show ra zOW x' tm hp c=_;unfold ra;simp only[zaT h,O.res,Z47];cases zae t x' with
  |none=>rfl
  |some y=>
   simp only[zaK,Z46];rfl
 |mm mx' x' y'=>
  show raa (k_mm mx') x' y' tm hp c=_;unfold raa;simp only[zaT h,O.res,Z47];cases zae t x' with
  |none=>rfl
  |some y=>
   simp only[zaK,Z46];cases zae t y' with
   |none=>rfl
   |some y=>
    simp only[zaK,Z46];rfl
 |mmk=>
  rfl
 |mup kd' m' k' v'=>
  show zuK (zPm kd') m' k' v' tm hp c=_;unfold zuK;simp only[zaT h,O.res,Z47];cases zae t m' with
  |none=>rfl
  |some y=>
   simp only[zaK,Z46];cases zae t k' with
   |none=>rfl
   |some y=>
    simp only[zaK,Z46];cases zae t v' with
    |none=>rfl
    |some y=>
     simp only[zaK,Z46];rfl
 |mlk kd' z' ok' m' k'=>
  show raa (zPk kd' z' ok') m' k' tm hp c=_;unfold raa;simp only[zaT h,O.res,Z47];cases zae t m' with
  |none=>rfl
  |some y=>
   simp only[zaK,Z46];cases zae t k' with
   |none=>rfl
   |some y=>
    simp only[zaK,Z46];rfl
 |callp _ _=>cases hk
 |call _ _=>cases hk
 |callv _ _=>cases hk
def zwC{f:A->Option D}{o:O A}{o':O D}(hk:kcl o= .n)(hr:o.res f=some o'):kindOf o'= .n:=by
 cases o with
 |mv _=>
  simp only[O.res]at hr;obtain⟨_,_,hr⟩ :=zak hr;cases hr;rfl
 |pick _ _ _=>
  simp only[O.res]at hr;obtain⟨_,_,hr⟩ :=zak hr;obtain⟨_,_,hr⟩ :=zak hr;obtain⟨_,_,hr⟩ :=zak hr;cases hr;rfl
 |new _=>
  simp only[O.res]at hr;cases hr;rfl
 |box _=>
  simp only[O.res]at hr;obtain⟨_,_,hr⟩ :=zak hr;cases hr;rfl
 |bld _ _=>
  simp only[O.res]at hr;obtain⟨_,_,hr⟩ :=zak hr;cases hr;rfl
 |bsl _ _ _ _=>
  simp only[O.res]at hr;obtain⟨_,_,hr⟩ :=zak hr;cases hr;rfl
 |bsf _ _ _ _=>
  simp only[O.res]at hr;obtain⟨_,_,hr⟩ :=zak hr;cases hr;rfl
 |ld _ _ _=>
  simp only[O.res]at hr;obtain⟨_,_,hr⟩ :=zak hr;cases hr;rfl
 |st _ _ _=>
  simp only[O.res]at hr;obtain⟨_,_,hr⟩ :=zak hr;obtain⟨_,_,hr⟩ :=zak hr;cases hr;rfl
 |nck _=>
  simp only[O.res]at hr;obtain⟨_,_,hr⟩ :=zak hr;cases hr;rfl
 |bin _ _ _=>
  simp only[O.res]at hr;obtain⟨_,_,hr⟩ :=zak hr;obtain⟨_,_,hr⟩ :=zak hr;cases hr;rfl
 |eqb _ _ _=>
  simp only[O.res]at hr;obtain⟨_,_,hr⟩ :=zak hr;obtain⟨_,_,hr⟩ :=zak hr;cases hr;rfl
 |eqn _ _ _ _=>
  simp only[O.res]at hr;obtain⟨_,_,hr⟩ :=zak hr;obtain⟨_,_,hr⟩ :=zak hr;cases hr;rfl
 |eqa _ _ _ _=>
  simp only[O.res]at hr;obtain⟨_,_,hr⟩ :=zak hr;obtain⟨_,_,hr⟩ :=zak hr;cases hr;rfl
 |un _ _=>
  simp only[O.res]at hr;obtain⟨_,_,hr⟩ :=zak hr;cases hr;rfl
 |cvi _ _=>
  simp only[O.res]at hr;obtain⟨_,_,hr⟩ :=zak hr;cases hr;rfl
 |cvs _=>
  simp only[O.res]at hr;obtain⟨_,_,hr⟩ :=zak hr;cases hr;rfl
 |s2b _=>
  simp only[O.res]at hr;obtain⟨_,_,hr⟩ :=zak hr;cases hr;rfl
 |b2s _=>
  simp only[O.res]at hr;obtain⟨_,_,hr⟩ :=zak hr;cases hr;rfl
 |mkf _ _ _=>
  simp only[O.res]at hr;obtain⟨_,_,hr⟩ :=zak hr;obtain⟨_,_,hr⟩ :=zak hr;cases hr;rfl
 |mks _ _ _ _ _=>
  simp only[O.res]at hr;obtain⟨_,_,hr⟩ :=zak hr;obtain⟨_,_,hr⟩ :=zak hr;cases hr;rfl
 |sls _ _ _=>
  simp only[O.res]at hr;obtain⟨_,_,hr⟩ :=zak hr;obtain⟨_,_,hr⟩ :=zak hr;obtain⟨_,_,hr⟩ :=zak hr;cases hr;rfl
 |slc _ _ _ _ _=>
  simp only[O.res]at hr;obtain⟨_,_,hr⟩ :=zak hr;obtain⟨_,_,hr⟩ :=zak hr;obtain⟨_,_,hr⟩ :=zak hr;obtain⟨_,_,hr⟩ :=zak hr;cases hr;rfl
 |fa _ _=>
  simp only[O.res]at hr;obtain⟨_,_,hr⟩ :=zak hr;cases hr;rfl
 |fld _ _ _ _=>
  simp only[O.res]at hr;obtain⟨_,_,hr⟩ :=zak hr;cases hr;rfl
 |ia _ _ _=>
  simp only[O.res]at hr;obtain⟨_,_,hr⟩ :=zak hr;obtain⟨_,_,hr⟩ :=zak hr;cases hr;rfl
 |iaa _ _ _ _=>
  simp only[O.res]at hr;obtain⟨_,_,hr⟩ :=zak hr;obtain⟨_,_,hr⟩ :=zak hr;cases hr;rfl
 |ixs _ _=>
  simp only[O.res]at hr;obtain⟨_,_,hr⟩ :=zak hr;obtain⟨_,_,hr⟩ :=zak hr;cases hr;rfl
 |ixa _ _ _ _ _=>
  simp only[O.res]at hr;obtain⟨_,_,hr⟩ :=zak hr;obtain⟨_,_,hr⟩ :=zak hr;cases hr;rfl
 |ext _ _=>
  simp only[O.res]at hr;obtain⟨_,_,hr⟩ :=zak hr;cases hr;rfl
 |app _ _ _ _=>
  simp only[O.res]at hr;obtain⟨_,_,hr⟩ :=zak hr;obtain⟨_,_,hr⟩ :=zak hr;cases hr;rfl
 |apz _ _ _ _ _=>
  simp only[O.res]at hr;obtain⟨_,_,hr⟩ :=zak hr;obtain⟨_,_,hr⟩ :=zak hr;cases hr;rfl
 |cpy _ _ _=>
  simp only[O.res]at hr;obtain⟨_,_,hr⟩ :=zak hr;obtain⟨_,_,hr⟩ :=zak hr;cases hr;rfl
 |clr _ _ _=>
  simp only[O.res]at hr;obtain⟨_,_,hr⟩ :=zak hr;cases hr;rfl
 |len _=>
  simp only[O.res]at hr;obtain⟨_,_,hr⟩ :=zak hr;cases hr;rfl
 |lns _=>
  simp only[O.res]at hr;obtain⟨_,_,hr⟩ :=zak hr;cases hr;rfl
 |mlen _=>
  simp only[O.res]at hr;obtain⟨_,_,hr⟩ :=zak hr;cases hr;rfl
 |cap _=>
  simp only[O.res]at hr;obtain⟨_,_,hr⟩ :=zak hr;cases hr;rfl
 |mm _ _ _=>
  simp only[O.res]at hr;obtain⟨_,_,hr⟩ :=zak hr;obtain⟨_,_,hr⟩ :=zak hr;cases hr;rfl
 |mmk=>
  simp only[O.res]at hr;cases hr;rfl
 |mup _ _ _ _=>
  simp only[O.res]at hr;obtain⟨_,_,hr⟩ :=zak hr;obtain⟨_,_,hr⟩ :=zak hr;obtain⟨_,_,hr⟩ :=zak hr;cases hr;rfl
 |mlk _ _ _ _ _=>
  simp only[O.res]at hr;obtain⟨_,_,hr⟩ :=zak hr;obtain⟨_,_,hr⟩ :=zak hr;cases hr;rfl
 |callp _ _=>cases hk
 |call _ _=>cases hk
 |callv _ _=>cases hk
end
end Go.Vse
end
section
namespace Go.Vse
variable [Globs]
def zpH{α:Type}(t:T α):t.gk=t.get:=funext (T.zsY t)
structure RS(k:SK)(s:St):Prop where
 tm:Rt k.tm s.tm
 h:k.h=s.h
 c:k.c=s.c
 lw:k.lw=s.lw
 mx:k.mx=s.mx
theorem zuS:∀(l:List (Nat×Option Ob)) (h:T Ob),zqb h l=wrT h l
 |[],_=>rfl
 |(id,some ob)::l,h=>by rw[zqb,wrT,zuS l,T.zoA];rfl
 |(id,none)::l,h=>by rw[zqb,wrT,zuS l,T.zoA];rfl
theorem zvz:∀(l:List (Nat×Option Ob)) (m:Nat),zqa m l=zfr m l
 |[],_=>rfl
 |(id,o)::l,m=>by
  rw[zqa,zfr,zvz l]
  by_cases hlt:id<m
  .rw[Z51 hlt,show Nat.blt id m=true by simpa [Z79]using hlt]
  .rw[Z49 hlt,show Nat.blt id m=false by
    cases hc:Nat.blt id m with
    |false=>rfl
    |true=>exact absurd (by simpa [Z79]using hc) hlt]
def zW0(a b:Nat):zmz a b=Nat.max a b:=by
 unfold zmz
 by_cases hle:a<=b
 .rw[show Nat.ble a b=true by simpa [Z150]using hle];exact (Z162 hle).symm
 .rw[show Nat.ble a b=false by
   cases hc:Nat.ble a b with
   |false=>rfl
   |true=>exact absurd (by simpa [Z150]using hc) hle]
  exact (Z169 (Z110 (Z163 hle))).symm
def zGL(tm:TM)(h:T Ob)(c lw mx:Nat)(p:Fp):fin tm h c lw mx p=some (⟨tm,h,c,lw,Nat.max mx (c+1)⟩,p):=by
 unfold fin
 by_cases hle:mx<=c+1
 .rw[show Nat.ble mx (Nat.succ c)=true by simpa [Z150]using hle,show Nat.max mx (c+1)=c+1 from Z162 hle]
 .rw[show Nat.ble mx (Nat.succ c)=false by
   cases hc:Nat.ble mx (Nat.succ c)with
   |false=>rfl
   |true=>exact absurd (by simpa [Z150]using hc) hle,show Nat.max mx (c+1)=mx from Z169 (by omega)]
def zWI(tm:TM)(h:T Ob)(c lw mx:Nat)(p:Fp):fin2 tm h c lw mx p=some (⟨tm,h,c,lw,Nat.max mx (c+1)⟩,p):=by
 unfold fin2;rw[show Nat.ble lw lw=true by simp[Z150],zGL]
section
variable {tm:TM}{t:T D}
theorem zB3(ht:Rt tm t){h:T Ob}{c lw mx:Nat}{dst:Option Nat}{r:Option Rs}{k:SK}{p:Fp}(hs:zrJ tm h c lw mx dst r=some (k,p)):
  ∃s,zdR ⟨t,h,c,lw,mx⟩ dst r=some (s,p)/\RS k s:=by
 cases r with
 |none=>cases hs
 |some r=>
  obtain⟨d,rd,wr,c'⟩ :=r;cases wr with
  |nil=>
   have e:zrJ tm h c lw mx dst (some ⟨d,rd,[],c'⟩)=fin (zl2 tm dst d) h c' lw mx ⟨false,rd,[],c,Nat.succ c',h,h⟩ :=rfl;rw[e,zGL]at hs;cases hs;exact⟨_,rfl,⟨ht.put dst d,rfl,rfl,rfl,rfl⟩⟩
  |cons x wr=>
   have e:zrJ tm h c lw mx dst (some ⟨d,rd,x::wr,c'⟩)= @Bool.rec (fun _=>Option (SK×Fp)) none
    (fin2 (zl2 tm dst d) (zqb h (x::wr)) c' (zqa lw (x::wr)) mx ⟨false,rd,(x::wr).map (·.1),c,Nat.succ c',h,zqb h (x::wr)⟩) (zax c' (x::wr)):=rfl
   rw[e]at hs;cases hw:zax c' (x::wr)with
   |false=>rw[hw]at hs;cases hs
   |true=>
    rw[hw]at hs;simp only[zWI,zuS,zvz,Z45,Z66]at hs;obtain⟨rfl,rfl⟩ :=hs;refine⟨⟨zdp t dst d,wrT h (x::wr),c',zfr lw (x::wr),Nat.max mx (c'+1)⟩,?_,⟨ht.put dst d,rfl,rfl,rfl,rfl⟩⟩;simp only[zdR,hw];rfl
theorem zB5(ht:Rt tm t){h:T Ob}{c lw mx:Nat}{dst:Option Nat}{q:Option CR}{k:SK}{p:Fp}(hs:zrL tm h c lw mx dst q=some (k,p)):
  ∃s,ziV ⟨t,h,c,lw,mx⟩ dst q=some (s,p)/\RS k s:=by
 cases q with
 |none=>cases hs
 |some q=>
  obtain⟨d,h',c',lw',mx'⟩ :=q;have e:zrL tm h c lw mx dst (some ⟨d,h',c',lw',mx'⟩)= @Bool.rec (fun _=>Option (SK×Fp)) none
   (some (⟨zl2 tm dst d,h',c',@Bool.rec (fun _=>Nat) lw' lw (Nat.ble lw lw'),zmz mx mx'⟩,⟨true,[],[],c,mx',h,h'⟩)) (Nat.ble (zmz mx mx') (zmz mx mx')):=rfl
  rw[e,show Nat.ble (zmz mx mx') (zmz mx mx')=true by simp[Z150]]at hs;cases hs;refine⟨_,rfl,⟨ht.put dst d,rfl,rfl,?_,zW0 _ _⟩⟩;simp only
  by_cases hle:lw<=lw'
  .rw[show Nat.ble lw lw'=true by simpa [Z150]using hle];exact (Z73 hle).symm
  .rw[show Nat.ble lw lw'=false by
    cases hc:Nat.ble lw lw' with
    |false=>rfl
    |true=>exact absurd (by simpa [Z150]using hc) hle]
   exact (Z202 (Z110 (Z163 hle))).symm
def zKG(ht:Rt tm t)(g:Option (Nat×Bool)):zEy tm g=zcQ t g:=by
 cases g with
 |none=>rfl
 |some p=>
  obtain⟨s,w⟩ :=p;have e:zEy tm (some (s,w))=oL (getM tm s) (zwN w):=rfl;rw[e,ht s];simp only[zcQ];cases t.get s with
  |none=>rfl
  |some d=>
   have e2:oL (some d) (zwN w)=zwN w d:=rfl;rw[e2];cases d with
   |f x=>
    cases x with
    |b x=>cases x<;>cases w<;>rfl
    |_=>rfl
   |_=>rfl
end
def EV(p:Nat->Prop):Prop:=∃N,∀n,N<=n->p n
def EV.and{p q:Nat->Prop}(hp:EV p)(hq:EV q):EV fun n=>p n/\q n:=by
 obtain⟨N,h1⟩ :=hp;obtain⟨M,h2⟩ :=hq;exact⟨N+M,fun n hn=>⟨h1 n (by omega),h2 n (by omega)⟩⟩
def EV.mono{p q:Nat->Prop}(hp:EV p)(h:∀n,p n->q n):EV q:=hp.imp fun _ h1 n hn=>h n (h1 n hn)
def EV.all{p:Nat->Prop}(h:∀n,p n):EV p:=⟨0,fun n _=>h n⟩
def EV.ge(N:Nat):EV fun n=>N<=n:=⟨N,fun _ h=>h⟩
def Con(pr:Pr)(f:Nat)(args:List D)(h:T Ob)(c:Nat)(q:CR):Prop:=EV fun n=>zer pr n f args h c=some q
def Ans(pr:Pr)(f:Nat)(fs:List F)(x:F):Prop:=∃q rd,Con pr f (F.dL fs) .e 0 q/\frz q.h.get 12 q.d=some (x,rd)
section
variable {pr:Pr}{orc:Orc}{clK:Cl}
def zjY(pr:Pr)(orc:Orc):Prop:=∀f fs x,orc f fs=some x->Ans pr f fs x
def zn3(pr:Pr)(clK:Cl):Prop:=∀f args h c q,clK f args h c=some q->Con pr f args h c q
theorem zGk(ho:zjY pr orc)(hc:zn3 pr clK){h:Nat->Option Ob}{c f:Nat}{args:List D}{r:Rs}(hs:zpC orc clK h c f args=some r):
  EV fun n=>zfA (zer pr n) h c f args=some r:=by
 unfold zpC at hs;split at hs
 .cases hs
 .rename_i fs rd hfz;split at hs
  .rename_i x hx;obtain⟨q,rd',h1,h2⟩ :=ho f fs x hx;refine h1.mono fun n hn=> ?_
   simp only[zfA,hfz,hn,h2];rw[<-hs,F.zC4]
  .split at hs
   .cases hs
   .rename_i q hq;split at hs
    .cases hs
    .rename_i x rd' hx;refine (hc _ _ _ _ _ hq).mono fun n hn=> ?_
     rw[zpH]at hx;simp only[zfA,hfz,hn,hx];rw[<-hs,F.zC4]
theorem zKz(ho:zjY pr orc)(hc:zn3 pr clK){tm:TM}{t:T D}(ht:Rt tm t){o:O A}{gd:Option (Nat×Bool)}{dst:Option Nat}{h:T Ob}{c lw mx:Nat}{k:SK}{p:Fp}
  (hs:zwL orc clK o dst tm h c lw mx=some (k,p)):∃s,RS k s/\EV fun n=>step (zer pr n) ⟨t,h,c,lw,mx⟩ ⟨dst,gd,o⟩ =some (s,p):=by
 unfold zwL at hs;cases hk:kcl o with
 |p f args=>
  have ho':o= .callp f args:=by cases o<;>simp[kcl]at hk;obtain⟨rfl,rfl⟩ :=hk;rfl
  subst ho';rw[hk]at hs;simp only[znY ht]at hs;cases hm:zav (zae t) args with
  |none=>rw[hm]at hs;cases hs
  |some ds=>
   rw[hm]at hs;have hs':zrJ tm h c lw mx dst (zpC orc clK h.gk c f ds)=some (k,p):=hs;cases hr:zpC orc clK h.gk c f ds with
   |none=>rw[hr]at hs';cases hs'
   |some r=>
    rw[hr]at hs';obtain⟨s,h1,h2⟩ :=zB3 ht hs';refine⟨s,h2,(zGk ho hc hr).mono fun n hn=> ?_⟩;simp only[step,O.res,Z47,hm,Z46,kindOf];rw[zpH]at hn;rw[hn];exact h1
 |q f args=>
  have ho':o= .call f args:=by cases o<;>simp[kcl]at hk;obtain⟨rfl,rfl⟩ :=hk;rfl
  subst ho';rw[hk]at hs;simp only[znY ht]at hs;cases hm:zav (zae t) args with
  |none=>rw[hm]at hs;cases hs
  |some ds=>
   rw[hm]at hs;have hs':zrL tm h c lw mx dst (clK f ds h c)=some (k,p):=hs;cases hr:clK f ds h c with
   |none=>rw[hr]at hs';cases hs'
   |some r=>
    rw[hr]at hs';obtain⟨s,h1,h2⟩ :=zB5 ht hs';refine⟨s,h2,(hc _ _ _ _ _ hr).mono fun n hn=> ?_⟩;simp only[step,O.res,Z47,hm,Z46,kindOf];rw[hn];exact h1
 |v x args=>
  have ho':o= .callv x args:=by cases o<;>simp[kcl]at hk;obtain⟨rfl,rfl⟩ :=hk;rfl
  subst ho';rw[hk]at hs;simp only[znY ht,zaT ht]at hs;cases hx:zae t x with
  |none=>rw[hx]at hs;cases hs
  |some d=>
   rw[hx]at hs;cases hm:zav (zae t) args with
   |none=>rw[hm]at hs;cases hs
   |some ds=>
    rw[hm]at hs;have hs':zya clK dst ds tm h c lw mx d=some (k,p):=hs;have main:∀f as,kindOf (.callv d ds)= .q f as->zrL tm h c lw mx dst (clK f as h c)=some (k,p)->
      ∃s,RS k s/\EV fun n=>step (zer pr n) ⟨t,h,c,lw,mx⟩ ⟨dst,gd,.callv x args⟩ =some (s,p):=by
     intro f as hkd hs';cases hr:clK f as h c with
     |none=>rw[hr]at hs';cases hs'
     |some r=>
      rw[hr]at hs';obtain⟨s,h1,h2⟩ :=zB5 ht hs';refine⟨s,h2,(hc _ _ _ _ _ hr).mono fun n hn=> ?_⟩;simp only[step,O.res,Z47,hm,hx,Z46,hkd];rw[hn];exact h1
    unfold zya at hs';split at hs'
    .exact main _ _ rfl hs'
    .exact main _ _ rfl hs'
    .cases hs'
 |n=>
  rw[hk]at hs;have hs':zrJ tm h c lw mx dst (opK o tm h.gk c)=some (k,p):=hs;rw[zaas ht _ _ _ hk]at hs';cases hr:o.res (zae t)with
  |none=>rw[hr]at hs';cases hs'
  |some o'=>
   rw[hr]at hs';simp only[Z46]at hs';obtain⟨s,h1,h2⟩ :=zB3 ht hs';refine⟨s,h2,EV.all fun n=> ?_⟩;simp only[step,hr,zwC hk hr];rw[zpH]at h1;exact h1
theorem zBI(ho:zjY pr orc)(hc:zn3 pr clK){k k':SK}{s:St}(hr:RS k s){o:Op}{p:Fp}(hs:zrz orc clK k o=some (k',p)):
  ∃s',RS k' s'/\EV fun n=>zfT (zer pr n) s o=some (s',p):=by
 obtain⟨tm,h,c,lw,mx⟩ :=k;obtain⟨t,h',c',lw',mx'⟩ :=s;obtain⟨ht,e1,e2,e3,e4⟩ :=hr;simp only at ht e1 e2 e3 e4;subst e1 e2 e3 e4;obtain⟨dst,gd,o⟩ :=o;have hs':zJK orc clK dst gd o tm h c lw mx=some (k',p):=hs;unfold zJK at hs';rw[zKG ht]at hs';cases hw:zcQ t gd with
 |none=>rw[hw]at hs';cases hs'
 |some b=>
  rw[hw]at hs';cases b with
  |true=>
   obtain⟨s,h1,h2⟩ :=zKz (gd:=gd) ho hc ht (show zwL orc clK o dst tm h c lw mx=some (k',p)from hs');refine⟨s,h1,h2.mono fun n hn=> ?_⟩;simp only[zfT,hw];exact hn
  |false=>
   have hs2:some (SK.mk (zl2 tm dst (.f .un)) h c lw mx,Fp.mk false [] [] c c h h)=some (k',p):=hs';cases hs2;refine⟨⟨zdp t dst (.f .un),h,c,lw,mx⟩,⟨ht.put dst (.f .un),rfl,rfl,rfl,rfl⟩,EV.all fun n=> ?_⟩;simp only[zfT,hw]
theorem zBL(ho:zjY pr orc)(hc:zn3 pr clK):∀(l:List Op) (k k':SK) (s:St),RS k s->runK orc clK l k=some k'->∃s',RS k' s'/\EV fun n=>zgN (zer pr n) l s=some s'
 |[],k,k',s,hr,hs=>by
  cases hs;exact⟨s,hr,EV.all fun n=>rfl⟩
 |o::l,k,k',s,hr,hs=>by
  have e:runK orc clK (o::l) k= @Option.rec (SK×Fp) (fun _=>Option SK) none (fun p=>@Prod.rec SK Fp (fun _=>Option SK) (fun s' _=>runK orc clK l s') p) (zrz orc clK k o):=rfl;rw[e]at hs;cases h1:zrz orc clK k o with
  |none=>rw[h1]at hs;cases hs
  |some y=>
   obtain⟨k1,p⟩ :=y;rw[h1]at hs;obtain⟨s1,r1,ev1⟩ :=zBI ho hc hr h1;obtain⟨s2,r2,ev2⟩ :=zBL ho hc l k1 k' s1 r1 hs;refine⟨s2,r2,(ev1.and ev2).mono fun n ⟨a,b⟩ => ?_⟩;simp only[zgN,a];exact b
def zqW{p q:Fp}(h:p.zmo=true):q.apart p=true/\p.apart q=true:=by
 obtain⟨all,rd,wr,lo,hi,h1,h2⟩ :=p;obtain⟨all',rd',wr',lo',hi',h1',h2'⟩ :=q;have e:Fp.zmo ⟨all,rd,wr,lo,hi,h1,h2⟩ = @Bool.rec (fun _=>Bool) (@List.rec Nat (fun _=>Bool) (@List.rec Nat (fun _=>Bool) true (fun _ _ _=>false) wr) (fun _ _ _=>false) rd) false all:=rfl;rw[e]at h;cases all with
 |true=>cases h
 |false=>
  cases rd with
  |cons _ _=>cases h
  |nil=>
   cases wr with
   |cons _ _=>cases h
   |nil=>cases all'<;>simp[Fp.apart]
inductive Imp:List Fp->List (Nat×Fp)->Prop where
 |nil:Imp [] []
 |skip {l m p}:Imp l m->p.zmo=true->Imp (l++[p]) m
 |keep {l m p}:Imp l m->Imp (l++[p]) ((l.length,p)::m)
theorem zjA(p:Fp)(mask:Nat):∀(l:List Fp) (q:Fp) (i:Nat),zdA p mask (l++[q]) i=(zdA p mask l i&&(!mask.testBit (i+l.length)||q.apart p))
 |[],q,i=>by simp[zdA]
 |x::l,q,i=>by
  simp only[Z29,zdA,zjA p mask l q (i+1),Z23];rw[show i+1+l.length=i+(l.length+1) by omega,Z155]
def zF9{p:Fp}{mask:Nat}{l:List Fp}{m:List (Nat×Fp)}(hi:Imp l m):zkz p mask m=true->zdA p mask l 0=true:=by
 induction hi with
 |nil=>intro _;rfl
 |skip _ hl ih=>
  intro h;rw[zjA,ih h,(zqW (q:=p) hl).2];simp
 | @keep l m q _ ih=>
  intro h;rw[zjA];unfold zkz at h;have hb:mask.testBit l.length=Nat.beq (Nat.mod (Nat.div mask (Nat.pow 2 l.length)) 2) 1:=by
   rw[Z138];have:∀x:Nat,decide (x=1)=Nat.beq x 1:=fun x=>by
    cases hx:Nat.beq x 1 with
    |true=>simpa using Z88 hx
    |false=>simpa using Nat.ne_of_beq_eq_false hx
   exact this _
  rw[Z25,hb];split at h
  .rename_i hbt;split at h
   .rename_i ha;rw[ih h,ha];simp
   .cases h
  .rename_i hbf;rw[ih h,hbf];simp
theorem zva{p:Fp}(h:p.zmo=true)(mask:Nat):∀(l:List Fp) (i:Nat),zdA p mask l i=true
 |[],_=>rfl
 |q::l,i=>by simp[zdA,(zqW (q:=q) h).1,zva h mask l (i+1)]
theorem zGv(ho:zjY pr orc)(hc:zn3 pr clK):∀(l:List (Op×Nat)) (fps:List Fp) (m:List (Nat×Fp)) (k k':SK) (s:St),Imp fps m->RS k s->
  drK orc clK l fps.length m k=some k'->∃s',RS k' s'/\EV fun n=>zgH (zer pr n) l fps s=some s'
 |[],fps,m,k,k',s,_,hr,hs=>by
  cases hs;exact⟨s,hr,EV.all fun n=>rfl⟩
 |(o,mask)::l,fps,m,k,k',s,hm,hr,hs=>by
  have e:drK orc clK ((o,mask)::l) fps.length m k= @Option.rec (SK×Fp) (fun _=>Option SK) none (fun p=>@Prod.rec SK Fp (fun _=>Option SK) (fun s' p=>
   @Bool.rec (fun _=>Option SK) (@Bool.rec (fun _=>Option SK) none (drK orc clK l (Nat.succ fps.length) ((fps.length,p)::m) (zp1 s' p.hi)) (zkz p mask m)) (drK orc clK l (Nat.succ fps.length) m (zp1 s' p.hi)) p.zmo) p) (zrz orc clK k o):=rfl
  rw[e]at hs;cases h1:zrz orc clK k o with
  |none=>rw[h1]at hs;cases hs
  |some y=>
   obtain⟨k1,p⟩ :=y;rw[h1]at hs;obtain⟨s1,r1,ev1⟩ :=zBI ho hc hr h1;have hrs:RS (zp1 k1 p.hi) {s1 with c:=p.hi}:=by
    obtain⟨tm,h,c,lw,mx⟩ :=k1;exact⟨r1.tm,r1.h,rfl,r1.lw,r1.mx⟩
   have hlen:Nat.succ fps.length=(fps++[p]).length:=by simp
   have fin:∀m',Imp (fps++[p]) m'->zdA p mask fps 0=true->drK orc clK l (Nat.succ fps.length) m' (zp1 k1 p.hi)=some k'->∃s',RS k' s'/\EV fun n=>zgH (zer pr n) ((o,mask)::l) fps s=some s':=by
    intro m' hm' ha hd;rw[hlen]at hd;obtain⟨s2,r2,ev2⟩ :=zGv ho hc l (fps++[p]) m' _ k' _ hm' hrs hd;refine⟨s2,r2,(ev1.and ev2).mono fun n ⟨a,b⟩ => ?_⟩;simp only[zgH,a,ha,Z60];exact b
   have hs':@Bool.rec (fun _=>Option SK) (@Bool.rec (fun _=>Option SK) none (drK orc clK l (Nat.succ fps.length) ((fps.length,p)::m) (zp1 k1 p.hi)) (zkz p mask m)) (drK orc clK l (Nat.succ fps.length) m (zp1 k1 p.hi)) p.zmo=some k':=hs;cases hl:p.zmo with
   |true=>
    rw[hl]at hs';exact fin m (hm.skip hl) (zva hl mask fps 0) hs'
   |false=>
    rw[hl]at hs';cases ha:zkz p mask m with
    |false=>rw[ha]at hs';cases hs'
    |true=>
     rw[ha]at hs';exact fin _ hm.keep (zF9 hm ha) hs'
theorem zuB{body:St->Option (Ex×St)}:∀(n m:Nat) (s:St) (r:Ex×St),n<=m->iter body n s=some r->iter body m s=some r
 |0,_,_,_,_,h=>by cases h
 |n+1,0,_,_,h,_=>by omega
 |n+1,m+1,s,r,hle,h=>by
  simp only[iter]at h|-;cases hb:body s with
  |none=>simp only[hb]at h;cases h
  |some y=>
   obtain⟨x,s'⟩ :=y;cases x with
   |nrm=>
    simp only[hb]at h|-;exact zuB n m s' r (by omega) h
   |exit i=>simp only[hb]at h|-;exact h
   |ret=>simp only[hb]at h|-;exact h
def RX(r:Ex×SK)(r':Ex×St):Prop:=r.1=r'.1/\RS r.2 r'.2
theorem zy9{r:Option (Ex×SK)}{kk:SK->Option (Ex×SK)}{y:Ex×SK}(h:zty r kk=some y):
  (∃k,r=some (.nrm,k)/\kk k=some y)\/(∃x k,r=some (x,k)/\x≠ .nrm/\y=(x,k)):=by
 cases r with
 |none=>cases h
 |some z=>
  obtain⟨x,k⟩ :=z;cases x with
  |nrm=>exact .inl ⟨k,rfl,h⟩
  |exit i=>cases h;exact .inr ⟨_,_,rfl,by simp,rfl⟩
  |ret=>cases h;exact .inr ⟨_,_,rfl,by simp,rfl⟩
theorem zjF(ho:zjY pr orc)(hc:zn3 pr clK)(lf:Nat):∀(c:C) (k:SK) (s:St) (r:Ex×SK),RS k s->evK orc clK lf c k=some r->
  ∃r',RX r r'/\EV fun n=>evC (zer pr n) n c s=some r'
 | .skip,k,s,r,hr,hs=>by cases hs;exact⟨(.nrm,s),⟨rfl,hr⟩,EV.all fun n=>rfl⟩
 | .exit id,k,s,r,hr,hs=>by cases hs;exact⟨(.exit id,s),⟨rfl,hr⟩,EV.all fun n=>rfl⟩
 | .ret,k,s,r,hr,hs=>by cases hs;exact⟨(.ret,s),⟨rfl,hr⟩,EV.all fun n=>rfl⟩
 | .reg ops,k,s,r,hr,hs=>by
  have hs':zEb (runK orc clK ops k)=some r:=hs;cases h1:runK orc clK ops k with
  |none=>rw[h1]at hs';cases hs'
  |some k1=>
   rw[h1]at hs';cases hs';obtain⟨s1,r1,ev1⟩ :=zBL ho hc ops k k1 s hr h1;exact⟨(.nrm,s1),⟨rfl,r1⟩,ev1.mono fun n hn=>by simp only[evC,hn]⟩
 | .dreg ops,k,s,r,hr,hs=>by
  have hs':zEb (drK orc clK ops 0 [] k)=some r:=hs;cases h1:drK orc clK ops 0 [] k with
  |none=>rw[h1]at hs';cases hs'
  |some k1=>
   rw[h1]at hs';cases hs';obtain⟨s1,r1,ev1⟩ :=zGv ho hc ops [] [] k k1 s .nil hr h1;exact⟨(.nrm,s1),⟨rfl,r1⟩,ev1.mono fun n hn=>by simp only[evC,hn]⟩
 | .seq a b,k,s,r,hr,hs=>by
  have hs':zty (evK orc clK lf a k) (evK orc clK lf b)=some r:=hs;rcases zy9 hs' with⟨k1,h1,h2⟩ |⟨x,k1,h1,hx,rfl⟩
  .obtain⟨⟨x',s1⟩,⟨e1,r1⟩,ev1⟩ :=zjF ho hc lf a k s _ hr h1;simp only at e1 r1;subst e1;obtain⟨r2,x2,ev2⟩ :=zjF ho hc lf b k1 s1 _ r1 h2;exact⟨r2,x2,(ev1.and ev2).mono fun n ⟨p,q⟩ =>by simp only[evC,p];exact q⟩
  .obtain⟨⟨x',s1⟩,⟨e1,r1⟩,ev1⟩ :=zjF ho hc lf a k s _ hr h1;simp only at e1 r1;subst e1;refine⟨(x,s1),⟨rfl,r1⟩,ev1.mono fun n p=> ?_⟩;simp only[evC,p];cases x<;>simp_all
 | .cond x a b,k,s,r,hr,hs=>by
  have hs':@Option.rec D (fun _=>Option (Ex×SK)) none (fun d=>@Option.rec Bool (fun _=>Option (Ex×SK)) none (fun b'=>@Bool.rec (fun _=>Option (Ex×SK)) (evK orc clK lf b k) (evK orc clK lf a k) b') (zwu d)) (zeU k.tm x)=some r:=hs;rw[zaT hr.tm]at hs';cases hx:zae s.tm x with
  |none=>rw[hx]at hs';cases hs'
  |some d=>
   rw[hx]at hs';cases hd:zwu d with
   |none=>simp only[hd]at hs';cases hs'
   |some b'=>
    simp only[hd]at hs';have hde:d= .f (.b b'):=by
     unfold zwu at hd;split at hd
     .cases hd;rfl
     .cases hd
    subst hde;cases b' with
    |true=>
     obtain⟨r2,x2,ev2⟩ :=zjF ho hc lf a k s _ hr hs';exact⟨r2,x2,ev2.mono fun n p=>by simp only[evC,hx];exact p⟩
    |false=>
     obtain⟨r2,x2,ev2⟩ :=zjF ho hc lf b k s _ hr hs';exact⟨r2,x2,ev2.mono fun n p=>by simp only[evC,hx];exact p⟩
 | .blk id c,k,s,r,hr,hs=>by
  have hs':blkK id (evK orc clK lf c k)=some r:=hs;cases h1:evK orc clK lf c k with
  |none=>rw[h1]at hs';cases hs'
  |some y=>
   obtain⟨x,k1⟩ :=y;rw[h1]at hs';obtain⟨⟨x',s1⟩,⟨e1,r1⟩,ev1⟩ :=zjF ho hc lf c k s _ hr h1;simp only at e1 r1;subst e1;cases x with
   |nrm=>cases hs';exact⟨(.nrm,s1),⟨rfl,r1⟩,ev1.mono fun n p=>by simp only[evC,p]⟩
   |ret=>cases hs';exact⟨(.ret,s1),⟨rfl,r1⟩,ev1.mono fun n p=>by simp only[evC,p]⟩
   |exit i=>
    have hs2:@Bool.rec (fun _=>Option (Ex×SK)) (some (.exit i,k1)) (some (.nrm,k1)) (Nat.beq i id)=some r:=hs';cases hb:Nat.beq i id with
    |true=>
     rw[hb]at hs2;cases hs2;exact⟨(.nrm,s1),⟨rfl,r1⟩,ev1.mono fun n p=>by simp only[evC,p];rw[Z51 (Z88 hb)]⟩
    |false=>
     rw[hb]at hs2;cases hs2;exact⟨(.exit i,s1),⟨rfl,r1⟩,ev1.mono fun n p=>by simp only[evC,p];rw[Z49 (Nat.ne_of_beq_eq_false hb)]⟩
 | .loop c,k,s,r,hr,hs=>by
  have hs':zwz (evK orc clK lf c) lf k=some r:=hs;have key:∀(m:Nat) (k:SK) (s:St),RS k s->zwz (evK orc clK lf c) m k=some r->∃r',RX r r'/\EV fun n=>iter (evC (zer pr n) n c) m s=some r':=by
   intro m
   induction m with
   |zero=>intro k s _ h;cases h
   |succ m ih=>
    intro k s hr h;have h':zty (evK orc clK lf c k) (zwz (evK orc clK lf c) m)=some r:=h;rcases zy9 h' with⟨k1,h1,h2⟩ |⟨x,k1,h1,hx,rfl⟩
    .obtain⟨⟨x',s1⟩,⟨e1,r1⟩,ev1⟩ :=zjF ho hc lf c k s _ hr h1;simp only at e1 r1;subst e1;obtain⟨r2,x2,ev2⟩ :=ih k1 s1 r1 h2;exact⟨r2,x2,(ev1.and ev2).mono fun n ⟨p,q⟩ =>by simp only[iter,p];exact q⟩
    .obtain⟨⟨x',s1⟩,⟨e1,r1⟩,ev1⟩ :=zjF ho hc lf c k s _ hr h1;simp only at e1 r1;subst e1;refine⟨(x,s1),⟨rfl,r1⟩,ev1.mono fun n p=> ?_⟩;simp only[iter,p];cases x<;>simp_all
  obtain⟨r',x',ev⟩ :=key lf k s hr hs';exact⟨r',x',(ev.and (EV.ge lf)).mono fun n ⟨p,q⟩ =>by simp only[evC];exact zuB lf n s r' q p⟩
theorem zIa:∀(l:List D) (i:Nat) (tm:TM) (t:T D),Rt tm t->Rt (tmK l i tm) (zaF l i t)
 |[],_,_,_,h=>h
 |d::l,i,tm,t,h=>by
  rw[tmK,zaF];refine zIa l (i+1) _ _ fun j=> ?_
  rw[zu9,h j,T.za0]
def zKg{k:SK}{s:St}(hr:RS k s)(v:Rv):zEo k v=resV s v:=by
 cases v with
 |t n=>exact hr.tm n
 |cell n g sz=>
  simp only[zEo,resV,hr.tm n,hr.h,zpH];cases s.tm.get n<;>rfl
theorem zyO{k:SK}{s:St}(hr:RS k s):∀l,zwH k l=zav (resV s) l
 |[]=>rfl
 |x::l=>by
  rw[zwH,zav,zKg hr,zyO hr l];cases resV s x with
  |none=>rfl
  |some y=>cases zav (resV s) l<;>rfl
def zKc{k:SK}{s:St}(hr:RS k s)(l:List Rv):zEl k l=resD s l:=by
 unfold zEl resD;rw[zyO hr];cases zav (resV s) l with
 |none=>rfl
 |some m=>
  cases m with
  |nil=>rfl
  |cons a m=>cases m<;>rfl
theorem zym(ho:zjY pr orc):∀n,zn3 pr (zww orc pr n)
 |0=>fun f args h c q hq=>by cases hq
 |n+1=>fun f args h c q hq=>by
  simp only[zww]at hq;cases hf:pr.fn f with
  |some fn=>
   simp only[hf]at hq;unfold fnK at hq;split at hq
   .cases hq
   .cases hq
   .rename_i x k hne hev;have hr0:RS (SK.mk (tmK args 0 {}) h c c c) (St.mk (zaF args 0 .e) h c c c):=⟨zIa args 0 {} .e fun i=>by rw[zJl];rfl,rfl,rfl,rfl,rfl⟩
    obtain⟨⟨x',s⟩,⟨e1,r1⟩,ev1⟩ :=zjF ho (zym ho n) n fn.body _ _ _ hr0 hev;simp only at e1 r1;subst e1;split at hq
    .cases hq
    .rename_i d hd;rw[zKc r1]at hd;have key:EV fun m=>zjH (evC (zer pr m) m) fn args h c=some q:=by
      refine ev1.mono fun m hm=> ?_
      simp only[zjH,hm];have fin:(match resD s fn.res with|none=>none|some d=>if Nat.beq s.lw c&&d.isF then some (CR.mk d h c c s.mx)else some (CR.mk d s.h s.c s.lw s.mx))=some q:=by
       simp only[hd];rw[<-r1.lw,<-r1.mx,<-r1.h,<-r1.c];split at hq
       .rename_i hb;split at hq
        .rename_i hi;rw[hb,hi];simpa using hq
        .rename_i hi;rw[hb,hi];simpa using hq
       .rename_i hb;rw[hb];simpa using hq
      cases x with
      |nrm=>exact fin
      |ret=>exact fin
      |exit i=>exact absurd rfl (hne i)
     obtain⟨N,hN⟩ :=key;refine⟨N+1,fun m hm=> ?_⟩;obtain⟨m,rfl⟩ :∃m',m=m'+1:=⟨m - 1,by omega⟩
     simp only[zer,hf];exact hN m (by omega)
  |none=>
   simp only[hf]at hq;refine⟨1,fun m hm=> ?_⟩;obtain⟨m,rfl⟩ :∃m',m=m'+1:=⟨m - 1,by omega⟩
   simp only[zer,hf];exact hq
end
end Go.Vse
end
section
namespace Go.Vse
variable [Globs]
section
variable (pr:Pr)
def zem(r:Option (St×Fp))(Q:St->Fp->Prop):Prop:=
 match r with
 |some (s',p)=>Q s' p
 |none=>False
def zcn(o:Op)(s:St)(Q:St->Fp->Prop):Prop:=
 match zcQ s.tm o.gd with
 |none=>False
 |some false=>Q {s with tm:=zdp s.tm o.dst (.f .un)} {all:=false,rd:=[],wr:=[],lo:=s.c,hi:=s.c,h:=s.h,h':=s.h}
 |some true=>match o.o.res (zae s.tm)with
  |none=>False
  |some o'=>match kindOf o' with
   | .p f args=>match zes s.h.get args with
    |none=>False
    |some (fs,rd)=>∃x,Ans pr f fs x/\zem (zdR s o.dst (some {d:=x.d,rd,wr:=zaB s.h.get rd,c:=s.c})) Q
   | .q f args=>∃q,Con pr f args s.h s.c q/\zem (ziV s o.dst (some q)) Q
   | .n=>zem (zdR s o.dst (opv s.h.get s.c o')) Q
   | .bad=>False
def wpO:List Op->St->(St->Prop)->Prop
 |[],s,Q=>Q s
 |o::l,s,Q=>zcn pr o s fun s' _=>wpO l s' Q
def wpD:List (Op×Nat)->List Fp->St->(St->Prop)->Prop
 |[],_,s,Q=>Q s
 |(o,mask)::l,fps,s,Q=>zcn pr o s fun s' p=>zdA p mask fps 0=true/\wpD l (fps++[p]) {s' with c:=p.hi} Q
def wpC:C->St->(Ex->St->Prop)->Prop
 | .skip,s,Q=>Q .nrm s
 | .reg ops,s,Q=>wpO pr ops s (Q .nrm)
 | .dreg ops,s,Q=>wpD pr ops [] s (Q .nrm)
 | .seq a b,s,Q=>wpC a s fun x s'=>match x with
  | .nrm=>wpC b s' Q
  |x=>Q x s'
 | .cond x a b,s,Q=>match zae s.tm x with
  |some (.f (.b true))=>wpC a s Q
  |some (.f (.b false))=>wpC b s Q
  |_=>False
 | .blk id c,s,Q=>wpC c s fun x s'=>match x with
  | .exit i=>if i=id then Q .nrm s' else Q (.exit i) s'
  |x=>Q x s'
 | .loop c,s,Q=>∃x s' m,Q x s'/\EV fun n=>iter (evC (zer pr n) n c) m s=some (x,s')
 | .exit id,s,Q=>Q (.exit id) s
 | .ret,s,Q=>Q .ret s
variable {pr}
def zzd{o:Op}{s:St}{Q:St->Fp->Prop}(h:zcn pr o s Q):∃s' p,Q s' p/\EV fun n=>zfT (zer pr n) s o=some (s',p):=by
 unfold zcn at h;split at h
 .exact h.elim
 .rename_i hw;exact⟨_,_,h,EV.all fun n=>by simp only[zfT,hw]⟩
 .rename_i hw;split at h
  .exact h.elim
  .rename_i o' hr;split at h
   .rename_i f args hk;split at h
    .exact h.elim
    .rename_i fs rd hfz;obtain⟨x,⟨q,rd',hc,hx⟩,h⟩ :=h;unfold zem at h;split at h
     .rename_i s' p hst;refine⟨s',p,h,hc.mono fun n hn=> ?_⟩;simp only[zfT,hw,step,hr,hk,zfA,hfz,hn,hx];exact hst
     .exact h.elim
   .rename_i f args hk;obtain⟨q,hc,h⟩ :=h;unfold zem at h;split at h
    .rename_i s' p hst;refine⟨s',p,h,hc.mono fun n hn=> ?_⟩;simp only[zfT,hw,step,hr,hk,hn];exact hst
    .exact h.elim
   .rename_i hk;unfold zem at h;split at h
    .rename_i s' p hst;refine⟨s',p,h,EV.all fun n=> ?_⟩;simp only[zfT,hw,step,hr,hk];exact hst
    .exact h.elim
   .exact h.elim
theorem zIe:∀(l:List Op) (s:St) (Q:St->Prop),wpO pr l s Q->∃s',Q s'/\EV fun n=>zgN (zer pr n) l s=some s'
 |[],s,Q,h=>⟨s,h,EV.all fun _=>rfl⟩
 |o::l,s,Q,h=>by
  obtain⟨s1,p,h1,e1⟩ :=zzd h;obtain⟨s2,h2,e2⟩ :=zIe l s1 Q h1;exact⟨s2,h2,(e1.and e2).mono fun n ⟨a,b⟩ =>by simp only[zgN,a];exact b⟩
theorem zId:∀(l:List (Op×Nat)) (fps:List Fp) (s:St) (Q:St->Prop),wpD pr l fps s Q->∃s',Q s'/\EV fun n=>zgH (zer pr n) l fps s=some s'
 |[],_,s,Q,h=>⟨s,h,EV.all fun _=>rfl⟩
 |(o,mask)::l,fps,s,Q,h=>by
  obtain⟨s1,p,⟨ha,h1⟩,e1⟩ :=zzd h;obtain⟨s2,h2,e2⟩ :=zId l (fps++[p]) {s1 with c:=p.hi} Q h1;exact⟨s2,h2,(e1.and e2).mono fun n ⟨a,b⟩ =>by simp only[zgH,a,ha,Z60];exact b⟩
theorem zhO:∀(c:C) (s:St) (Q:Ex->St->Prop),wpC pr c s Q->∃x s',Q x s'/\EV fun n=>evC (zer pr n) n c s=some (x,s')
 | .skip,s,Q,h=>⟨_,s,h,EV.all fun _=>rfl⟩
 | .exit id,s,Q,h=>⟨_,s,h,EV.all fun _=>rfl⟩
 | .ret,s,Q,h=>⟨_,s,h,EV.all fun _=>rfl⟩
 | .reg ops,s,Q,h=>by
  obtain⟨s',h1,e1⟩ :=zIe ops s _ h;exact⟨.nrm,s',h1,e1.mono fun n hn=>by simp only[evC,hn]⟩
 | .dreg ops,s,Q,h=>by
  obtain⟨s',h1,e1⟩ :=zId ops [] s _ h;exact⟨.nrm,s',h1,e1.mono fun n hn=>by simp only[evC,hn]⟩
 | .seq a b,s,Q,h=>by
  obtain⟨x,s1,h1,e1⟩ :=zhO a s _ h;cases x with
  |nrm=>
   obtain⟨x2,s2,h2,e2⟩ :=zhO b s1 Q h1;exact⟨x2,s2,h2,(e1.and e2).mono fun n ⟨p,q⟩ =>by simp only[evC,p];exact q⟩
  |exit i=>exact⟨.exit i,s1,h1,e1.mono fun n p=>by simp only[evC,p]⟩
  |ret=>exact⟨.ret,s1,h1,e1.mono fun n p=>by simp only[evC,p]⟩
 | .cond x a b,s,Q,h=>by
  unfold wpC at h;split at h
  .rename_i hx;obtain⟨x2,s2,h2,e2⟩ :=zhO a s Q h;exact⟨x2,s2,h2,e2.mono fun n p=>by simp only[evC,hx];exact p⟩
  .rename_i hx;obtain⟨x2,s2,h2,e2⟩ :=zhO b s Q h;exact⟨x2,s2,h2,e2.mono fun n p=>by simp only[evC,hx];exact p⟩
  .exact h.elim
 | .blk id c,s,Q,h=>by
  obtain⟨x,s1,h1,e1⟩ :=zhO c s _ h;cases x with
  |nrm=>exact⟨.nrm,s1,h1,e1.mono fun n p=>by simp only[evC,p]⟩
  |ret=>exact⟨.ret,s1,h1,e1.mono fun n p=>by simp only[evC,p]⟩
  |exit i=>
   by_cases hi:i=id
   .simp only[hi,Z60]at h1;exact⟨.nrm,s1,h1,e1.mono fun n p=>by simp only[evC,p,hi,Z60]⟩
   .simp only[hi,Z63]at h1;exact⟨.exit i,s1,h1,e1.mono fun n p=>by simp only[evC,p,hi,Z63]⟩
 | .loop c,s,Q,h=>by
  obtain⟨x,s',m,h1,e1⟩ :=h;exact⟨x,s',h1,(e1.and (EV.ge m)).mono fun n ⟨p,q⟩ =>by simp only[evC];exact zuB m n s _ q p⟩
theorem zaa5{c:C}{Q:Ex->St->Prop}(I:Nat->St->Prop)(hstep:∀k s,I k s->wpC pr c s fun x s'=>match x with
  | .nrm=>∃k',k'<k/\I k' s'
  |x=>Q x s'):∀(k:Nat) (s:St),I k s->wpC pr (.loop c) s Q:=by
 intro k
 induction k using Nat.strongRecOn with
 |ind k ih=>
  intro s hI;obtain⟨x,s1,hq,ev⟩ :=zhO c s _ (hstep k s hI);cases x with
  |nrm=>
   obtain⟨k',hlt,hI'⟩ :=hq;obtain⟨x2,s2,m,h2,e2⟩ :=ih k' hlt s1 hI';exact⟨x2,s2,m+1,h2,(ev.and e2).mono fun n ⟨p,q⟩ =>by simp only[iter,p];exact q⟩
  |exit i=>exact⟨.exit i,s1,1,hq,ev.mono fun n p=>by simp only[iter,p]⟩
  |ret=>exact⟨.ret,s1,1,hq,ev.mono fun n p=>by simp only[iter,p]⟩
def st0(args:List D)(h:T Ob)(c:Nat):St:={tm:=zaF args 0 .e,h,c,lw:=c,mx:=c}
end
end Go.Vse
end
section
namespace Go.Vse
variable [Globs]
def St.up(s:St)(dst:Option Nat)(d:D):St:={s with tm:=zdp s.tm dst d,mx:=Nat.max s.mx (s.c+1)}
def St.aft(s:St)(dst:Option Nat)(d:D)(wr:List (Nat×Option Ob))(c:Nat):St:=
 {tm:=zdp s.tm dst d,h:=wrT s.h wr,c,lw:=zfr s.lw wr,mx:=Nat.max s.mx (c+1)}
def zvr(t:T D)(i j:Nat)(d:D):(zdp t (some i) d).get j=if j=i then some d else t.get j:=T.za0 ..
def zvq(t:T D)(d:D):zdp t none d=t:=rfl
def zcf(s:St)(dst:Option Nat)(d:D):(s.up dst d).tm=zdp s.tm dst d:=rfl
def zde(s:St)(dst:Option Nat)(d:D):(s.up dst d).h=s.h:=rfl
def zdd(s:St)(dst:Option Nat)(d:D):(s.up dst d).c=s.c:=rfl
def zEx(s:St)(dst:Option Nat)(d:D):(s.up dst d).lw=s.lw:=rfl
def zbj(s:St)(dst:Option Nat)(d:D)(wr:List (Nat×Option Ob))(c:Nat):(s.aft dst d wr c).tm=zdp s.tm dst d:=rfl
def zb8(s:St)(dst:Option Nat)(d:D)(wr:List (Nat×Option Ob))(c:Nat):(s.aft dst d wr c).h=wrT s.h wr:=rfl
def zb7(s:St)(dst:Option Nat)(d:D)(wr:List (Nat×Option Ob))(c:Nat):(s.aft dst d wr c).c=c:=rfl
def zx3(s:St)(dst:Option Nat)(d:D)(wr:List (Nat×Option Ob))(c:Nat):(s.aft dst d wr c).lw=zfr s.lw wr:=rfl
section
variable {pr:Pr}{l:List Op}{s:St}{Q:St->Prop}{dst:Option Nat}
theorem zB8{o:O A}{o':O D}(hr:o.res (zae s.tm)=some o')(hk:kindOf o'= .n){r:Rs}(hv:opv s.h.get s.c o'=some r)(hw:zax r.c r.wr=true)
  {R:St->Fp->Prop}(h:R (s.aft dst r.d r.wr r.c) {all:=false,rd:=r.rd,wr:=r.wr.map (·.1),lo:=s.c,hi:=r.c+1,h:=s.h,h':=wrT s.h r.wr}):
  zcn pr ⟨dst,none,o⟩ s R:=by
 simp only[zcn,zcQ,hr,hk,hv,zem,zdR,hw];exact h
theorem wpO_n{o:O A}{o':O D}(hr:o.res (zae s.tm)=some o')(hk:kindOf o'= .n){r:Rs}(hv:opv s.h.get s.c o'=some r)(hw:zax r.c r.wr=true)
  (h:wpO pr l (s.aft dst r.d r.wr r.c) Q):wpO pr (⟨dst,none,o⟩ ::l) s Q:=zB8 hr hk hv hw h
def zEA{o:O A}{o':O D}{d:D}{rd:List Nat}(hr:o.res (zae s.tm)=some o')(hk:kindOf o'= .n)(hv:opv s.h.get s.c o'=some {d,rd,c:=s.c})
  (h:wpO pr l (s.up dst d) Q):wpO pr (⟨dst,none,o⟩ ::l) s Q:=zB8 hr hk hv rfl h
def zaa4{q x y:A}(h:∃b d e,zae s.tm q=some (.f (.b b))/\zae s.tm x=some d/\zae s.tm y=some e/\wpO pr l (s.up dst (if b then d else e)) Q):wpO pr (⟨dst,none,.pick q x y⟩ ::l) s Q:=by
 obtain⟨b,d,e,h1,h2,h3,h⟩ :=h;exact zEA (o':= .pick (.f (.b b)) d e) (rd:=[]) (by simp[O.res,h1,h2,h3]) rfl rfl h
def w_bin{op:BinOp}{x y:A}(h:∃a b,zae s.tm x=some (.f a)/\zae s.tm y=some (.f b)/\∃z,zbS op a b=some z/\wpO pr l (s.up dst (.f z)) Q):wpO pr (⟨dst,none,.bin op x y⟩ ::l) s Q:=by
 obtain⟨a,b,h1,h2,z,h3,h⟩ :=h;exact zEA (o':= .bin op (.f a) (.f b)) (rd:=[]) (by simp[O.res,h1,h2]) rfl (by simp[opv,h3,okF]) h
def w_not{x:A}(h:∃b,zae s.tm x=some (.f (.b b))/\wpO pr l (s.up dst (.f (.b !b))) Q):wpO pr (⟨dst,none,.un .not x⟩ ::l) s Q:=by
 obtain⟨b,h1,h⟩ :=h;exact zEA (o':= .un .not (.f (.b b))) (rd:=[]) (by simp[O.res,h1]) rfl rfl h
def faB(off:Nat):D->Option D
 | .ptr id es i j=>some (.ptr id es i (j+off))
 | .fptr cs=>some (.fptr (cs.drop off))
 |_=>none
def iaB(es:Nat)(x:D)(i:Nat):Option D:=
 match x with
 | .f (.sl es' els)=>if es=es' then(els[i]?).map D.fptr else none
 | .sl id off m es' _ _=>if es=es'/\i<m then some (.ptr id es (off+i) 0)else none
 |_=>none
theorem zXX{f:Nat}{args:List A}(h:∃ds,zav (zae s.tm) args=some ds/\∃fs rd,zes s.h.get ds=some (fs,rd)/\∃x,Ans pr f fs x/\zax s.c (zaB s.h.get rd)=true/\wpO pr l (s.aft dst x.d (zaB s.h.get rd) s.c) Q):
  wpO pr (⟨dst,none,.callp f args⟩ ::l) s Q:=by
 obtain⟨ds,h1,fs,rd,h2,x,h3,h4,h⟩ :=h;simp only[wpO,zcn,zcQ,O.res,h1,Z47,Z46,kindOf,h2];refine⟨x,h3,?_⟩;simp only[zem,zdR,h4];exact h
def St.cal(s:St)(dst:Option Nat)(q:CR):St:={tm:=zdp s.tm dst q.d,h:=q.h,c:=q.c,lw:=Nat.min s.lw q.lw,mx:=Nat.max s.mx q.mx}
def zaa3{f:Nat}{args:List A}(h:∃ds,zav (zae s.tm) args=some ds/\∃q,Con pr f ds s.h s.c q/\wpO pr l (s.cal dst q) Q):wpO pr (⟨dst,none,.call f args⟩ ::l) s Q:=by
 obtain⟨ds,h1,q,h2,h⟩ :=h;simp only[wpO,zcn,zcQ,O.res,h1,Z47,Z46,kindOf];exact⟨q,h2,h⟩
def z96{x:A}{a b:C}{Q:Ex->St->Prop}(h:∃t,zae s.tm x=some (.f (.b t))/\(if t then wpC pr a s Q else wpC pr b s Q)):wpC pr (.cond x a b) s Q:=by
 obtain⟨t,h1,h⟩ :=h;unfold wpC;rw[h1];cases t<;>simpa using h
def zGj{Q:Ex->St->Prop}:wpC pr .skip s Q=Q .nrm s:=rfl
def zGi{id:Nat}{Q:Ex->St->Prop}:wpC pr (.exit id) s Q=Q (.exit id) s:=rfl
def zND{Q:Ex->St->Prop}:wpC pr .ret s Q=Q .ret s:=rfl
def zHh(t:T D)(n:Nat):zae t (.t n)=t.get n:=rfl
def zHf(t:T D)(x:F):zae t (.k x)=some x.d:=rfl
def zA0(a b:Int):zbS .lss (.i .i64 a) (.i .i64 b)=some (.b (decide (a<b))):=rfl
def zAY(a b:Int):zbS .leq (.i .i64 a) (.i .i64 b)=some (.b (decide (a<=b))):=rfl
def zAT(a b:Int):zbS .geq (.i .i64 a) (.i .i64 b)=some (.b (decide (a≥b))):=rfl
def zAX(a b:Int):zbS .gtr (.i .i64 a) (.i .i64 b)=some (.b (decide (a>b))):=rfl
def zAS(a b:Int):zbS .eql (.i .i64 a) (.i .i64 b)=some (.b (a==b)):=rfl
def zA2(a b:Int):zbS .neq (.i .i64 a) (.i .i64 b)=some (.b (a != b)):=rfl
def zAR(a b:Int):zbS .add (.i .i64 a) (.i .i64 b)=some (.i .i64 (IntKind.i64.wrap (a+b))):=rfl
def zBd(a b:Int):zbS .sub (.i .i64 a) (.i .i64 b)=some (.i .i64 (IntKind.i64.wrap (a - b))):=rfl
def zWm(a b:Int)(h:b≠0):zbS .rem (.i .i64 a) (.i .i64 b)=some (.i .i64 (a.tmod b)):=by
 simp[zbS,zx8,Go.binOp,Go.Op.intDiv,h,zkU];rfl
def zWl(a b:Int)(h:b≠0):zbS .quo (.i .i64 a) (.i .i64 b)=some (.i .i64 (IntKind.i64.wrap (a.tdiv b))):=by
 simp[zbS,zx8,Go.binOp,Go.Op.intDiv,h,zkU];rfl
end
end Go.Vse
end
section
namespace Go.Vse
variable [Globs]
open Go.RowKit
section
variable {P:Program}{pur:Nat->Bool}{pr:Pr}
def ziT:Mu:=fun _ _=>False
def ztB(H:Array Obj):Prop:=∀n cs,Globs.data n=some cs->zbq H ziT n 0 cs
def zEF:zat ziT (T.e:T Ob).get (fun _=>none)=ziT:=by
 rw[zkF,zjm]
def sim_e(H:Array Obj)(hg:ztB H):Sim ziT H (T.e:T Ob).get (fun _=>none) (fun _=>False):=
 ⟨fun id ob h=>by simp[T.zwx]at h,fun id b h=>by simp at h,fun id id' b h=>by simp at h,fun id b i h=>by simp at h,fun id ob h=>by simp[T.zwx]at h,fun b i h=>h.elim,fun n cs h=>by rw[zEF];exact hg n cs h⟩
theorem land(hp:zCh P pur pr){f:Nat}{fs:List F}{vs:List Value}{w:World}(hgl:ztB w.heap)(hrel:zaX w.heap ziT fs vs){q:CR}(hc:Con pr f (F.dL fs) .e 0 q){b:Bool}(hd:q.d= .f (.b b)):
  Calls P f ⟨vs⟩ w fun e w'=>e= .returned (.bool b)/\Below w.heap.size w w':=by
 obtain⟨N,hN⟩ :=hc;have ok:=zuy hp N f _ _ _ _ (hN N (Z2 _));obtain⟨_,_,_,h⟩ :=ok;have hargs:zau w.heap (zat ziT (T.e:T Ob).get (fun _=>none)) (fun _=>none) (fun _=>False) (F.dL fs) vs:=by
  rw[zEF];exact zaX.dL fs vs hrel
 refine (h ziT (fun _=>none) (fun _=>False) w vs (sim_e _ hgl) (fun id _ _ h=>h) hargs).mono fun e w' ⟨v,he,hb,ρ',hr,_,hev⟩ => ?_
 rw[hd]at hr;simp only[Rel,zaq]at hr;subst hr;subst he;exact⟨rfl,hb.os,hb.tape,hb.output,hev.size,fun k hk=>(hev.blk k hk fun id h=>by simp at h).1⟩
theorem zto{H:Array Obj}{b:Nat}{k:IntKind}:∀(zs:List Int) (o:Nat),(∀i,i<zs.length->zcu H b (o+i)=some (.int k (zs.getD i 0)))->zbq H ziT b o (zs.map fun z=> .i k z)
 |[],_,_=>by simp only[Z85,zbq]
 |z::zs,o,h=>by
  simp only[Z10,zbq,zaq];refine⟨⟨fun h=>h,_,?_,rfl,rfl⟩,zto zs (o+1) fun i hi=> ?_⟩
  .have:=h 0 (by simp);simpa using this
  .have:=h (i+1) (by simp;omega);rw[show o+(i+1)=o+1+i by omega]at this;simpa using this
def zvs{w:World}{g:Nat}{k:IntKind}{zs:List Int}(h:∀i,i<zs.length->w.cell? ⟨g,i,none⟩ =some (.int k (zs.getD i 0))):zbq w.heap ziT g 0 (zs.map fun z=> .i k z):=
 zto zs 0 fun i hi=>by rw[Z25,<-znQ];exact h i hi
def zrE(k:IntKind)(isNil:Bool)(len:Nat)(zs:List Int):F:=if isNil then .nils else .sl 1 ((zs.take len).map fun z=>[.i k z])
theorem ztp{H:Array Obj}{b:Nat}{k:IntKind}:∀(zs:List Int) (o:Nat),(∀i,i<zs.length->zcu H b (o+i)=some (.int k (zs.getD i 0)))->zdk H ziT b 1 o (zs.map fun z=>[.i k z])
 |[],_,_=>by simp only[Z85,zdk]
 |z::zs,o,h=>by
  simp only[Z10,zdk,List.length_singleton,zbq,zaq];refine⟨trivial,⟨⟨fun h=>h,_,?_,rfl,rfl⟩,trivial⟩,ztp zs (o+1) fun i hi=> ?_⟩
  .have:=h 0 (by simp);simpa using this
  .have:=h (i+1) (by simp;omega);rw[show o+(i+1)=o+1+i by omega]at this;simpa using this
theorem zW6{w:World}{k:IntKind}{a:Option Addr}{len cap:Nat}{zs:List Int}
  (h:(a=none/\len=0/\cap=0/\zs=[])\/∃x,a=some x/\len<=cap/\zs.length=cap/\(∀i,i<zs.length->w.cell? (x.add i)=some (.int k (zs.getD i 0)))):
  zaq w.heap ziT (zrE k a.isNone len zs) (.slice a len cap):=by
 rcases h with⟨rfl,rfl,rfl,rfl⟩ |⟨x,rfl,hl,hz,hc⟩
 .simp only[zrE,Option.isNone_none,Z60,zaq]
 .have hlen:((zs.take len).map fun z=>[F.i k z]).length=len:=by simp;omega
  have e:zrE k (some x).isNone len zs= .sl 1 ((zs.take len).map fun z=>[.i k z]):=by simp[zrE]
  rw[e];simp only[zaq];rw[hlen];have hx:len≠0->x=⟨x.block,x.off,none⟩ :=by
   intro hne;have h0:=hc 0 (by omega);obtain⟨b,o,sp⟩ :=x;cases sp with
   |none=>rfl
   |some s=>
    simp only[World.cell?,Addr.add]at h0;split at h0<;>simp at h0
  refine⟨x,cap,rfl,hl,x.block,x.off,fun hne=>hx (fun e0=>hne (by simp[e0])),?_⟩
  by_cases hne:len=0
  .subst hne;simp only[Z173,Z85,zdk]
  .refine ztp _ _ fun i hi=> ?_
   have hi':i<len:=by simp at hi;omega
   have h1:=hc i (by omega);rw[hx hne]at h1;have h2:(⟨x.block,x.off,none⟩ :Addr).add i=⟨x.block,x.off+i,none⟩ :=zdZ _ _ _;rw[h2,znQ]at h1;rw[h1]
   congr 2
   simp only[Z48,Z75,hi',Z60]
end
end Go.Vse
end
section
namespace Go.Vse
variable [Globs]
def zEq(orc:Orc)(pr:Pr)(n f:Nat)(fs:List F):Option F:=
 match zww orc pr n f (F.dL fs) .e 0 with
 |none=>none
 |some q=>match frz q.h.gk 12 q.d with
  |some (x,_)=>some x
  |none=>none
def zas{orc:Orc}{pr:Pr}(ho:zjY pr orc){n f:Nat}{fs:List F}{x:F}(h:zEq orc pr n f fs=some x):Ans pr f fs x:=by
 unfold zEq at h;split at h
 .cases h
 .rename_i q hq;split at h
  .rename_i y rd hy;cases h;rw[zpH]at hy;exact⟨q,rd,zym ho n _ _ _ _ _ hq,hy⟩
  .cases h
def orc0:Orc:=fun _ _=>none
def zay(pr:Pr):zjY pr orc0:=fun _ _ _ h=>by cases h
end Go.Vse
end
section
namespace Go.Vse
variable [Globs]
section
variable {pr:Pr}{l:List Op}{s:St}{Q:St->Prop}{dst:Option Nat}
theorem zeW{o:O A}{o':O D}(hr:o.res (zae s.tm)=some o')(hk:kindOf o'= .n):
  wpO pr (⟨dst,none,o⟩ ::l) s Q↔∃r,opv s.h.get s.c o'=some r/\zax r.c r.wr=true/\wpO pr l (s.aft dst r.d r.wr r.c) Q:=by
 constructor
 .intro h;simp only[wpO,zcn,zcQ,hr,hk]at h;unfold zem at h;split at h
  .rename_i s' p hs;cases hv:opv s.h.get s.c o' with
   |none=>rw[hv]at hs;cases hs
   |some r=>
    rw[hv]at hs;simp only[zdR]at hs;cases hw:zax r.c r.wr with
    |false=>rw[hw]at hs;cases hs
    |true=>
     rw[hw]at hs;simp only[Z89,cond_false,Z45,Z66]at hs;obtain⟨rfl,rfl⟩ :=hs;exact⟨r,rfl,hw,h⟩
  .exact h.elim
 .rintro⟨r,hv,hw,h⟩;exact wpO_n hr hk hv hw h
def zez{o:O A}(hr:o.res (zae s.tm)=none):wpO pr (⟨dst,none,o⟩ ::l) s Q↔False:=by
 simp[wpO,zcn,zcQ,hr]
def zjw(d:D):s.aft dst d [] s.c=s.up dst d:=rfl
def zQu:wpO pr [] s Q↔Q s:=Iff.rfl
def x_mv{x:A}:wpO pr (⟨dst,none,.mv x⟩ ::l) s Q↔∃d,zae s.tm x=some d/\wpO pr l (s.up dst d) Q:=by
 cases hx:zae s.tm x with
 |none=>rw[zez (by simp[O.res,hx])];simp
 |some d=>rw[zeW (o':= .mv d) (by simp[O.res,hx]) rfl];simp[opv,okD,zax,zjw]
def zaba{q x y:A}:wpO pr (⟨dst,none,.pick q x y⟩ ::l) s Q↔∃b,zae s.tm q=some (.f (.b b))/\∃d,zae s.tm x=some d/\∃e,zae s.tm y=some e/\wpO pr l (s.up dst (if b then d else e)) Q:=by
 constructor
 .intro h;cases hq:zae s.tm q with
  |none=>exact ((zez (by simp[O.res,hq])).1 h).elim
  |some z=>
   cases hx:zae s.tm x with
   |none=>exact ((zez (by simp[O.res,hq,hx])).1 h).elim
   |some d=>
    cases hy:zae s.tm y with
    |none=>exact ((zez (by simp[O.res,hq,hx,hy])).1 h).elim
    |some e=>
     obtain⟨r,hv,_,h⟩ :=(zeW (o':= .pick z d e) (by simp[O.res,hq,hx,hy]) rfl).1 h;cases z with
     |f z=>
      cases z with
      |b b=>simp only[opv,okD,Z45]at hv;subst hv;exact⟨b,rfl,d,rfl,e,rfl,h⟩
      |_=>simp[opv]at hv
     |_=>simp[opv]at hv
 .rintro⟨b,h1,d,h2,e,h3,h⟩;exact zaa4 ⟨b,d,e,h1,h2,h3,h⟩
def x_ld{g:Bool}{n:Nat}{x:A}:wpO pr (⟨dst,none,.ld g n x⟩ ::l) s Q↔∃p,zae s.tm x=some p/\∃y,zeo g n s.h.get p=some y/\wpO pr l (s.up dst y.1) Q:=by
 cases hx:zae s.tm x with
 |none=>rw[zez (by simp[O.res,hx])];simp
 |some p=>
  rw[zeW (o':= .ld g n p) (by simp[O.res,hx]) rfl];cases hl:zeo g n s.h.get p with
  |none=>simp[opv,hl]
  |some y=>obtain⟨d,rd⟩ :=y;simp[opv,hl,zax,zjw]
def x_bin{op:BinOp}{x y:A}:wpO pr (⟨dst,none,.bin op x y⟩ ::l) s Q↔∃a,zae s.tm x=some (.f a)/\∃b,zae s.tm y=some (.f b)/\∃z,zbS op a b=some z/\wpO pr l (s.up dst (.f z)) Q:=by
 constructor
 .intro h;cases hx:zae s.tm x with
  |none=>exact ((zez (by simp[O.res,hx])).1 h).elim
  |some d=>
   cases hy:zae s.tm y with
   |none=>exact ((zez (by simp[O.res,hx,hy])).1 h).elim
   |some e=>
    obtain⟨r,hv,_,h⟩ :=(zeW (o':= .bin op d e) (by simp[O.res,hx,hy]) rfl).1 h;cases d with
    |f a=>
     cases e with
     |f b=>
      cases hz:zbS op a b with
      |none=>simp[opv,hz]at hv
      |some z=>simp only[opv,hz,okF,Z45]at hv;subst hv;exact⟨a,rfl,b,rfl,z,hz,h⟩
     |_=>simp[opv]at hv
    |_=>simp[opv]at hv
 .rintro⟨a,h1,b,h2,z,h3,h⟩;exact w_bin ⟨a,b,h1,h2,z,h3,h⟩
def x_not{x:A}:wpO pr (⟨dst,none,.un .not x⟩ ::l) s Q↔∃b,zae s.tm x=some (.f (.b b))/\wpO pr l (s.up dst (.f (.b !b))) Q:=by
 constructor
 .intro h;cases hx:zae s.tm x with
  |none=>exact ((zez (by simp[O.res,hx])).1 h).elim
  |some d=>
   obtain⟨r,hv,_,h⟩ :=(zeW (o':= .un .not d) (by simp[O.res,hx]) rfl).1 h;cases d with
   |f z=>
    cases z with
    |b b=>simp only[opv,okF,Z45]at hv;subst hv;exact⟨b,rfl,h⟩
    |i k n=>simp[opv,zkU,Go.Op.unary,Go.stuck]at hv
    |_=>simp[opv]at hv
   |_=>simp[opv]at hv
 .rintro⟨b,h1,h⟩;exact w_not ⟨b,h1,h⟩
def x_len{x:A}:wpO pr (⟨dst,none,.len x⟩ ::l) s Q↔∃v,zae s.tm x=some v/\∃n,zej v=some n/\wpO pr l (s.up dst (.f (.i .i64 n))) Q:=by
 cases hx:zae s.tm x with
 |none=>rw[zez (by simp[O.res,hx])];simp
 |some v=>
  rw[zeW (o':= .len v) (by simp[O.res,hx]) rfl];cases hl:zej v with
  |none=>simp[opv,hl]
  |some n=>simp[opv,hl,okF,zax,zjw]
def x_fa{off:Nat}{x:A}:wpO pr (⟨dst,none,.fa off x⟩ ::l) s Q↔∃v,zae s.tm x=some v/\∃d,faB off v=some d/\wpO pr l (s.up dst d) Q:=by
 cases hx:zae s.tm x with
 |none=>rw[zez (by simp[O.res,hx])];simp
 |some v=>
  rw[zeW (o':= .fa off v) (by simp[O.res,hx]) rfl];cases v<;>simp[opv,faB,okD,zax,zjw]
def x_ext{x:A}{i:Nat}:wpO pr (⟨dst,none,.ext x i⟩ ::l) s Q↔∃cs,zae s.tm x=some (.tu cs)/\∃d,cs[i]? =some d/\wpO pr l (s.up dst d) Q:=by
 cases hx:zae s.tm x with
 |none=>rw[zez (by simp[O.res,hx])];simp
 |some v=>
  rw[zeW (o':= .ext v i) (by simp[O.res,hx]) rfl];cases v with
  |tu cs=>
   cases hc:cs[i]? with
   |none=>simp[opv,hc]
   |some d=>simp[opv,hc,okD,zax,zjw]
  |_=>simp[opv]
def x_box{x:A}:wpO pr (⟨dst,none,.box x⟩ ::l) s Q↔∃d,zae s.tm x=some d/\∃cs,d.cells=some cs/\wpO pr l (s.aft dst (.ptr s.c cs.length 0 0) [(s.c,some (.arr cs.length 0 [cs]))] (s.c+1)) Q:=by
 cases hx:zae s.tm x with
 |none=>rw[zez (by simp[O.res,hx])];simp
 |some d=>
  rw[zeW (o':= .box d) (by simp[O.res,hx]) rfl];cases hc:d.cells with
  |none=>simp[opv,hc]
  |some cs=>simp[opv,hc,zax,Z79]
def zQt{cs:List F}:wpO pr (⟨dst,none,.new cs⟩ ::l) s Q↔wpO pr l (s.aft dst (.ptr s.c cs.length 0 0) [(s.c,some (.arr cs.length 0 [cs.map D.f]))] (s.c+1)) Q:=by
 rw[zeW (o':= .new cs) rfl rfl];simp[opv,zax,Z79]
def x_st{n:Nat}{x v:A}:wpO pr (⟨dst,none,.st n x v⟩ ::l) s Q↔∃p,zae s.tm x=some p/\∃d,zae s.tm v=some d/\∃y,ze8 n s.h.get p d=some y/\y.1<s.c/\wpO pr l (s.aft dst (.f .un) [(y.1,some y.2)] s.c) Q:=by
 cases hx:zae s.tm x with
 |none=>rw[zez (by simp[O.res,hx])];simp
 |some p=>
  cases hv:zae s.tm v with
  |none=>rw[zez (by simp[O.res,hx,hv])];simp
  |some d=>
   rw[zeW (o':= .st n p d) (by simp[O.res,hx,hv]) rfl];cases hs:ze8 n s.h.get p d with
   |none=>simp[opv,hs]
   |some y=>
    obtain⟨id,ob⟩ :=y;simp[opv,hs,zax,Z79];exact⟨fun h=>⟨id,ob,⟨rfl,rfl⟩,h⟩,fun⟨_,_,⟨e1,e2⟩,h⟩ =>by subst e1 e2;exact h⟩
def x_ia{es:Nat}{x i:A}:wpO pr (⟨dst,none,.ia es x i⟩ ::l) s Q↔∃v,zae s.tm x=some v/\∃w,zae s.tm i=some w/\∃n,zcN w=some n/\∃d,iaB es v n=some d/\wpO pr l (s.up dst d) Q:=by
 cases hx:zae s.tm x with
 |none=>rw[zez (by simp[O.res,hx])];simp
 |some v=>
  cases hy:zae s.tm i with
  |none=>rw[zez (by simp[O.res,hx,hy])];simp
  |some w=>
   rw[zeW (o':= .ia es v w) (by simp[O.res,hx,hy]) rfl];cases hn:zcN w with
   |none=>simp[opv,hn]
   |some n=>
    cases v with
    |f z=>
     cases z with
     |sl es' els=>
      by_cases he:es=es'
      .subst he;cases hel:els[n]? with
       |none=>simp[opv,hn,iaB,hel]
       |some el=>simp[opv,hn,iaB,hel,okD,zax,zjw]
      .simp[opv,hn,iaB,he]
     |_=>simp[opv,hn,iaB]
    |sl id off m es' lim ex=>
     by_cases he:es=es'/\n<m
     .simp[opv,hn,iaB,he,okD,zax,zjw]
     .simp[opv,hn,iaB,he]
    |_=>simp[opv,hn,iaB]
def fnD(f:Nat):List D->D
 |[]=> .f (.fn f)
 |y=> .fn f [] y
def x_mkf{f:Nat}{b:List A}:wpO pr (⟨dst,none,.mkf f [] b⟩ ::l) s Q↔∃y,zav (zae s.tm) b=some y/\wpO pr l (s.up dst (fnD f y)) Q:=by
 cases hy:zav (zae s.tm) b with
 |none=>rw[zez (by simp[O.res,zav,hy])];simp
 |some y=>
  rw[zeW (o':= .mkf f [] y) (by simp[O.res,zav,hy]) rfl];cases y<;>simp[opv,okD,okF,zax,zjw,fnD]
def x_bld{z:List F}{ps:List (Nat×Nat×A)}:wpO pr (⟨dst,none,.bld z ps⟩ ::l) s Q↔∃qs,zav (fun(p:Nat×Nat×A)=>(zae s.tm p.2.2).map fun d=>(p.1,p.2.1,d)) ps=some qs/\∃cs,zeK (z.map D.f) qs=some cs/\wpO pr l (s.up dst (.ag cs)) Q:=by
 have e:zav (fun(p:Nat×Nat×A)=>(zae s.tm p.2.2).map fun d=>(p.1,p.2.1,d)) ps=zav (fun x=>match x with|(o,n,x)=>do some (o,n,<-zae s.tm x)) ps:=by
  congr 1
  funext p
  obtain⟨o,n,x⟩ :=p;simp only;cases zae s.tm x<;>rfl
 rw[e];cases hq:zav (fun x=>match x with|(o,n,x)=>do some (o,n,<-zae s.tm x)) ps with
 |none=>rw[zez (by simp only[O.res];rw[hq];rfl)];simp
 |some qs=>
  rw[zeW (o':= .bld z qs) (by simp only[O.res];rw[hq];rfl) rfl];cases hf:zeK (z.map D.f) qs with
  |none=>simp[opv,hf]
  |some cs=>simp[opv,hf,okD,zax,zjw]
def zXZ{f:Nat}{args:List A}:wpO pr (⟨dst,none,.callp f args⟩ ::l) s Q↔∃ds,zav (zae s.tm) args=some ds/\∃y,zes s.h.get ds=some y/\∃x,Ans pr f y.1 x/\zax s.c (zaB s.h.get y.2)=true/\wpO pr l (s.aft dst x.d (zaB s.h.get y.2) s.c) Q:=by
 constructor
 .intro h;simp only[wpO,zcn,zcQ,O.res,Z47]at h;cases hm:zav (zae s.tm) args with
  |none=>simp[hm]at h
  |some ds=>
   simp only[hm,Z46,kindOf]at h;cases hf:zes s.h.get ds with
   |none=>simp[hf]at h
   |some y=>
    obtain⟨fs,rd⟩ :=y;simp only[hf]at h;obtain⟨x,h1,h2⟩ :=h;refine⟨ds,rfl,(fs,rd),hf,x,h1,?_⟩;unfold zem at h2;simp only[zdR]at h2;cases hw:zax s.c (zaB s.h.get rd)with
    |false=>simp[hw]at h2
    |true=>simp only[hw,Z89,cond_false]at h2;exact⟨rfl,h2⟩
 .rintro⟨ds,h1,⟨fs,rd⟩,h2,x,h3,h4,h⟩;exact zXX ⟨ds,h1,fs,rd,h2,x,h3,h4,h⟩
def zaa8{f:Nat}{args:List A}:wpO pr (⟨dst,none,.call f args⟩ ::l) s Q↔∃ds,zav (zae s.tm) args=some ds/\∃q,Con pr f ds s.h s.c q/\wpO pr l (s.cal dst q) Q:=by
 constructor
 .intro h;simp only[wpO,zcn,zcQ,O.res,Z47]at h;cases hm:zav (zae s.tm) args with
  |none=>simp[hm]at h
  |some ds=>
   simp only[hm,Z46,kindOf]at h;obtain⟨q,h1,h2⟩ :=h;exact⟨ds,rfl,q,h1,h2⟩
 .rintro⟨ds,h1,q,h2,h⟩;exact zaa3 ⟨ds,h1,q,h2,h⟩
def zaa9{x:A}{a b:C}{Q:Ex->St->Prop}:wpC pr (.cond x a b) s Q↔∃t,zae s.tm x=some (.f (.b t))/\(if t then wpC pr a s Q else wpC pr b s Q):=by
 constructor
 .intro h;unfold wpC at h;split at h
  .rename_i hx;exact⟨true,hx,by simpa using h⟩
  .rename_i hx;exact⟨false,hx,by simpa using h⟩
  .exact h.elim
 .exact z96
end
end Go.Vse
end
section
namespace Go.Vse
variable [Globs]
def oB{α:Type}(o:Option α)(k:α->Prop):Prop:=
 match o with
 |some a=>k a
 |none=>False
@[congr] theorem oB_congr{α:Type}{o o':Option α}{k:α->Prop}(h:o=o'):oB o k=oB o' k:=by rw[h]
def zBF{α:Type}(a:α)(k:α->Prop):oB (some a) k=k a:=rfl
def zgX{α:Type}(o:Option α)(k:α->Prop):(∃a,o=some a/\k a)↔oB o k:=by
 cases o with
 |none=>simp[oB]
 |some a=>simp[oB]
def asB:D->Option Bool
 | .f (.b b)=>some b
 |_=>none
def asF:D->Option F
 | .f x=>some x
 |_=>none
def zCQ:D->Option (List D)
 | .tu cs=>some cs
 |_=>none
def zyo(o:Option D)(k:Bool->Prop):(∃b,o=some (.f (.b b))/\k b)↔oB (o.bind asB) k:=by
 cases o with
 |none=>simp[oB]
 |some d=>
  cases d with
  |f x=>cases x<;>simp[oB,asB]
  |_=>simp[oB,asB]
def zGK(o:Option D)(k:F->Prop):(∃b,o=some (.f b)/\k b)↔oB (o.bind asF) k:=by
 cases o with
 |none=>simp[oB]
 |some d=>cases d<;>simp[oB,asF]
def zWG(o:Option D)(k:List D->Prop):(∃b,o=some (.tu b)/\k b)↔oB (o.bind zCQ) k:=by
 cases o with
 |none=>simp[oB]
 |some d=>cases d<;>simp[oB,zCQ]
def zNz(b:Bool):asB (.f (.b b))=some b:=rfl
def zNA(x:F):asF (.f x)=some x:=rfl
def zAM(cs:List D):zCQ (.tu cs)=some cs:=rfl
theorem zpN{f:D->Option (F×List Nat)}(hf:∀d x rd,d.isF=true->f d=some (x,rd)->rd=[]):∀(ds:List D) (xs:List F) (rd:List Nat),D.zkG ds=true->zbO f ds=some (xs,rd)->rd=[]
 |[],xs,rd,_,h=>by simp[zbO]at h;exact h.2
 |d::ds,xs,rd,hi,h=>by
  simp only[D.zkG,Z14]at hi;unfold zbO at h;split at h
  .cases h
  .rename_i x r hx;split at h
   .cases h
   .rename_i m r' hm;simp only[Z45,Z66]at h;rw[<-h.2,hf d x r hi.1 hx,zpN hf ds m r' hi.2 hm];rfl
theorem zqI{h:Nat->Option Ob}:∀(k:Nat) (d:D) (x:F) (rd:List Nat),d.isF=true->frz h k d=some (x,rd)->rd=[]
 |0,_,_,_,_,h=>by simp[frz]at h
 |k+1,d,x,rd,hi,hf=>by
  unfold frz at hf;split at hf
  .simp at hf;exact hf.2
  .split at hf
   .rename_i l r hm;simp only[Z45,Z66]at hf;rw[<-hf.2];exact zpN (zqI k) _ _ _ hi hm
   .cases hf
  .split at hf
   .rename_i l r hm;simp only[Z45,Z66]at hf;rw[<-hf.2];exact zpN (zqI k) _ _ _ hi hm
   .cases hf
  .simp[D.isF]at hi
  .cases hf
def zuw(res:List Rv)(y:F)(x:Ex)(s:St):Prop:=
 (match x with| .exit _=>False|_=>True)/\∃d,resD s res=some d/\∃rd,frz s.h.get 12 d=some (y,rd)
def zXY{pr:Pr}{c:C}{s:St}{Q:Ex->St->Prop}{f:Nat}{fn:Fn}(hf:pr.fn f=some fn){fs:List F}{y:F}(hb:fn.body=c)(hs:s=st0 (F.dL fs) .e 0)(hQ:Q=zuw fn.res y)(hw:wpC pr c s Q):Ans pr f fs y:=by
 subst hb hs hQ;obtain⟨x,s,⟨hx,d,hd,rd,hz⟩,ev⟩ :=zhO _ _ _ hw;refine⟨if Nat.beq s.lw 0&&d.isF then ⟨d,.e,0,0,s.mx⟩else ⟨d,s.h,s.c,s.lw,s.mx⟩,rd,?_,?_⟩
 .have key:EV fun m=>zjH (evC (zer pr m) m) fn (F.dL fs) .e 0=some (if Nat.beq s.lw 0&&d.isF then ⟨d,.e,0,0,s.mx⟩else ⟨d,s.h,s.c,s.lw,s.mx⟩):=by
   refine ev.mono fun m hm=> ?_
   unfold zjH;unfold st0 at hm;rw[hm];cases x with
   |exit i=>exact hx.elim
   |nrm=>simp only[hd];split<;>rfl
   |ret=>simp only[hd];split<;>rfl
  obtain⟨N,hN⟩ :=key;refine⟨N+1,fun m hm=> ?_⟩;obtain⟨m,rfl⟩ :∃m',m=m'+1:=⟨m - 1,by omega⟩
  simp only[zer,hf];exact hN m (by omega)
 .split
  .rename_i hb;simp only[Z14]at hb;have hr:=zqI 12 d y rd hb.2 hz;subst hr;exact zi4 12 d y [] hz fun id hid=>by simp at hid
  .exact hz
def zex{pr:Pr}{f:Nat}{fn:Fn}(hf:pr.fn f=some fn){fs:List F}{y:F}(hw:wpC pr fn.body (st0 (F.dL fs) .e 0) (zuw fn.res y)):Ans pr f fs y:=
 zXY hf rfl rfl rfl hw
section
variable {pr:Pr}{l:List Op}{s:St}{Q:St->Prop}{dst:Option Nat}
def y_mv{x:A}:wpO pr (⟨dst,none,.mv x⟩ ::l) s Q↔oB (zae s.tm x) fun d=>wpO pr l (s.up dst d) Q:=by rw[x_mv,zgX]
def zIi{q x y:A}:wpO pr (⟨dst,none,.pick q x y⟩ ::l) s Q↔oB ((zae s.tm q).bind asB) fun b=>oB (zae s.tm x) fun d=>oB (zae s.tm y) fun e=>wpO pr l (s.up dst (if b then d else e)) Q:=by
 rw[zaba,zyo];simp only[zgX]
def y_ld{g:Bool}{n:Nat}{x:A}:wpO pr (⟨dst,none,.ld g n x⟩ ::l) s Q↔oB (zae s.tm x) fun p=>oB (zeo g n s.h.get p) fun y=>wpO pr l (s.up dst y.1) Q:=by rw[x_ld];simp only[zgX]
def zQw{op:BinOp}{x y:A}:wpO pr (⟨dst,none,.bin op x y⟩ ::l) s Q↔oB ((zae s.tm x).bind asF) fun a=>oB ((zae s.tm y).bind asF) fun b=>oB (zbS op a b) fun z=>wpO pr l (s.up dst (.f z)) Q:=by
 rw[x_bin,zGK];simp only[zGK,zgX]
def zQJ{x:A}:wpO pr (⟨dst,none,.un .not x⟩ ::l) s Q↔oB ((zae s.tm x).bind asB) fun b=>wpO pr l (s.up dst (.f (.b !b))) Q:=by rw[x_not,zyo]
def zQF{x:A}:wpO pr (⟨dst,none,.len x⟩ ::l) s Q↔oB (zae s.tm x) fun v=>oB (zej v) fun n=>wpO pr l (s.up dst (.f (.i .i64 n))) Q:=by rw[x_len];simp only[zgX]
def y_fa{off:Nat}{x:A}:wpO pr (⟨dst,none,.fa off x⟩ ::l) s Q↔oB (zae s.tm x) fun v=>oB (faB off v) fun d=>wpO pr l (s.up dst d) Q:=by rw[x_fa];simp only[zgX]
def zQE{x:A}{i:Nat}:wpO pr (⟨dst,none,.ext x i⟩ ::l) s Q↔oB ((zae s.tm x).bind zCQ) fun cs=>oB cs[i]? fun d=>wpO pr l (s.up dst d) Q:=by rw[x_ext,zWG];simp only[zgX]
def zQC{x:A}:wpO pr (⟨dst,none,.box x⟩ ::l) s Q↔oB (zae s.tm x) fun d=>oB d.cells fun cs=>wpO pr l (s.aft dst (.ptr s.c cs.length 0 0) [(s.c,some (.arr cs.length 0 [cs]))] (s.c+1)) Q:=by rw[x_box];simp only[zgX]
def y_st{n:Nat}{x v:A}:wpO pr (⟨dst,none,.st n x v⟩ ::l) s Q↔oB (zae s.tm x) fun p=>oB (zae s.tm v) fun d=>oB (ze8 n s.h.get p d) fun y=>y.1<s.c/\wpO pr l (s.aft dst (.f .un) [(y.1,some y.2)] s.c) Q:=by
 rw[x_st];simp only[zgX]
def y_ia{es:Nat}{x i:A}:wpO pr (⟨dst,none,.ia es x i⟩ ::l) s Q↔oB (zae s.tm x) fun v=>oB (zae s.tm i) fun w=>oB (zcN w) fun n=>oB (iaB es v n) fun d=>wpO pr l (s.up dst d) Q:=by rw[x_ia];simp only[zgX]
def zQG{f:Nat}{b:List A}:wpO pr (⟨dst,none,.mkf f [] b⟩ ::l) s Q↔oB (zav (zae s.tm) b) fun y=>wpO pr l (s.up dst (fnD f y)) Q:=by rw[x_mkf,zgX]
def zQA{z:List F}{ps:List (Nat×Nat×A)}:wpO pr (⟨dst,none,.bld z ps⟩ ::l) s Q↔oB (zav (fun(p:Nat×Nat×A)=>(zae s.tm p.2.2).map fun d=>(p.1,p.2.1,d)) ps) fun qs=>oB (zeK (z.map D.f) qs) fun cs=>wpO pr l (s.up dst (.ag cs)) Q:=by
 rw[x_bld];simp only[zgX]
def zX0{f:Nat}{args:List A}:wpO pr (⟨dst,none,.callp f args⟩ ::l) s Q↔oB (zav (zae s.tm) args) fun ds=>oB (zes s.h.get ds) fun y=>∃x,Ans pr f y.1 x/\zax s.c (zaB s.h.get y.2)=true/\wpO pr l (s.aft dst x.d (zaB s.h.get y.2) s.c) Q:=by
 rw[zXZ];simp only[zgX]
def zabb{f:Nat}{args:List A}:wpO pr (⟨dst,none,.call f args⟩ ::l) s Q↔oB (zav (zae s.tm) args) fun ds=>∃q,Con pr f ds s.h s.c q/\wpO pr l (s.cal dst q) Q:=by rw[zaa8,zgX]
def zfu:D->Option (Nat×List D×List D)
 | .fn f a b=>some (f,a,b)
 | .f (.fn f)=>some (f,[],[])
 |_=>none
def zAJ(f:Nat)(a b:List D):zfu (.fn f a b)=some (f,a,b):=rfl
def zGa(f:Nat):zfu (.f (.fn f))=some (f,[],[]):=rfl
def zX2{x:A}{args:List A}:wpO pr (⟨dst,none,.callv x args⟩ ::l) s Q↔oB ((zae s.tm x).bind zfu) fun g=>oB (zav (zae s.tm) args) fun ds=>∃q,Con pr g.1 (g.2.1++ds++g.2.2) s.h s.c q/\wpO pr l (s.cal dst q) Q:=by
 cases hx:zae s.tm x with
 |none=>simp[wpO,zcn,zcQ,O.res,hx,oB]
 |some d=>
  cases hm:zav (zae s.tm) args with
  |none=>cases d with
   |f y=>cases y<;>simp[wpO,zcn,zcQ,O.res,hx,hm,oB,zfu]
   |_=>simp[wpO,zcn,zcQ,O.res,hx,hm,oB,zfu]
  |some ds=>
   cases d with
   |f y=>
    cases y with
    |fn f=>simp only[wpO,zcn,zcQ,O.res,hx,hm,Z47,Z46,kindOf,oB,zfu,Z28,Z22];exact Iff.rfl
    |_=>simp[wpO,zcn,zcQ,O.res,hx,hm,oB,zfu,kindOf]
   |fn f a b=>simp only[wpO,zcn,zcQ,O.res,hx,hm,Z47,Z46,kindOf,oB,zfu];exact Iff.rfl
   |_=>simp[wpO,zcn,zcQ,O.res,hx,hm,oB,zfu,kindOf]
def zIh{x:A}{a b:C}{Q:Ex->St->Prop}:wpC pr (.cond x a b) s Q↔oB ((zae s.tm x).bind asB) fun t=>if t then wpC pr a s Q else wpC pr b s Q:=by rw[zaa9,zyo]
end
end Go.Vse
end
section
namespace Go.Vse
variable [Globs]
def zei(a b:List Nat):Prop:=∀x∈a,x∉b
section
variable (pr:Pr)
def zeh:Nat->List (List Nat×List Nat)->List Nat->List Nat->Prop
 |_,[],_,_=>True
 |m,(r,w)::L,rd,wr=>(m%2=1->zei rd w/\zei wr w/\zei wr r)/\zeh (m/2) L rd wr
def wpE:List (List Nat×List Nat)->List (Op×Nat)->St->(St->Prop)->Prop
 |_,[],s,Q=>Q s
 |L,(o,mask)::l,s,Q=>zcn pr o s fun s' p=>p.all=false/\zeh mask L p.rd p.wr/\wpE (L++[(p.rd,p.wr)]) l {s' with c:=p.hi} Q
variable {pr}
def zEB{o:Op}{s:St}{Q Q':St->Fp->Prop}(hQ:∀s p,Q s p->Q' s p)(h:zcn pr o s Q):zcn pr o s Q':=by
 have m0:∀r,zem r Q->zem r Q':=by
  intro r h;unfold zem at h|-;split
  .exact hQ _ _ h
  .exact h
 unfold zcn at h|-;split
 .simp_all
 .rename_i hw;simp only[hw]at h;exact hQ _ _ h
 .rename_i hw;simp only[hw]at h;split
  .simp_all
  .rename_i o' hr;simp only[hr]at h;split
   .rename_i hk;simp only[hk]at h;split
    .simp_all
    .rename_i hf;simp only[hf]at h;obtain⟨x,h1,h2⟩ :=h;exact⟨x,h1,m0 _ h2⟩
   .rename_i hk;simp only[hk]at h;obtain⟨q,h1,h2⟩ :=h;exact⟨q,h1,m0 _ h2⟩
   .rename_i hk;simp only[hk]at h;exact m0 _ h
   .rename_i hk;simp only[hk]at h
theorem zeQ:∀(m:Nat) (L:List (List Nat×List Nat)),zeh m L [] []↔True
 |_,[]=>Iff.rfl
 |m,(r,w)::L=>by simp[zeh,zei,zeQ (m/2) L]
theorem zsH{p:Fp}(hp:p.all=false){mask:Nat}:∀(fps:List Fp) (i:Nat),(∀q∈fps,q.all=false)->zeh (mask/2 ^ i) (fps.map fun q=>(q.rd,q.wr)) p.rd p.wr->zdA p mask fps i=true
 |[],_,_,_=>rfl
 |q::l,i,hf,h=>by
  simp only[Z10,zeh]at h;have h2:=zsH hp l (i+1) (fun x hx=>hf x (by simp[hx])) (by rw[Z195,<-Nat.div_div_eq_div_mul];exact h.2);simp only[zdA,h2,Z187,Z115,Z80];cases hb:mask.testBit i with
  |false=>exact .inl rfl
  |true=>
   right;rw[Z138]at hb;obtain⟨d1,d2,d3⟩ :=h.1 (of_decide_eq_true hb);have q1:=hf q (by simp);simp only[Fp.apart,q1,hp,Z14,Z50,Z80,Z114,Z65];exact⟨⟨fun x hx hm=>d1 x hx hm,fun x hx hm=>d3 x hm hx⟩,fun x hx hm=>d2 x hm hx⟩
theorem zQs:∀(l:List (Op×Nat)) (fps:List Fp) (s:St) (Q:St->Prop),(∀q∈fps,q.all=false)->wpE pr (fps.map fun q=>(q.rd,q.wr)) l s Q->wpD pr l fps s Q
 |[],_,_,_,_,h=>h
 |(o,mask)::l,fps,s,Q,hf,h=>by
  refine zEB (fun s' p ⟨h1,h2,h3⟩ =>⟨?_,zQs l (fps++[p]) _ Q ?_ (by simpa using h3)⟩) h
  .exact zsH h1 fps 0 hf (by simpa using h2)
  .intro q hq;rcases Z4.1 hq with hq|hq
   .exact hf q hq
   .simp only[Z31]at hq;subst hq;exact h1
def z97{ops:List (Op×Nat)}{s:St}{Q:Ex->St->Prop}(h:wpE pr [] ops s (Q .nrm)):wpC pr (.dreg ops) s Q:=
 zQs ops [] s _ (fun q hq=>by simp at hq) h
def St.ue(s:St)(dst:Option Nat)(d:D):St:={s with tm:=zdp s.tm dst d,c:=s.c+1,mx:=Nat.max s.mx (s.c+1)}
def St.ae(s:St)(dst:Option Nat)(d:D)(wr:List (Nat×Option Ob))(c:Nat):St:=
 {tm:=zdp s.tm dst d,h:=wrT s.h wr,c:=c+1,lw:=zfr s.lw wr,mx:=Nat.max s.mx (c+1)}
def St.se(s:St)(dst:Option Nat):St:={s with tm:=zdp s.tm dst (.f .un)}
def zcc(s:St)(dst:Option Nat)(d:D):(s.ue dst d).tm=zdp s.tm dst d:=rfl
def zda(s:St)(dst:Option Nat)(d:D):(s.ue dst d).h=s.h:=rfl
def zc7(s:St)(dst:Option Nat)(d:D):(s.ue dst d).c=s.c+1:=rfl
def zEw(s:St)(dst:Option Nat)(d:D):(s.ue dst d).lw=s.lw:=rfl
def zb6(s:St)(dst:Option Nat)(d:D)(wr:List (Nat×Option Ob))(c:Nat):(s.ae dst d wr c).tm=zdp s.tm dst d:=rfl
def zcZ(s:St)(dst:Option Nat)(d:D)(wr:List (Nat×Option Ob))(c:Nat):(s.ae dst d wr c).h=wrT s.h wr:=rfl
def zcY(s:St)(dst:Option Nat)(d:D)(wr:List (Nat×Option Ob))(c:Nat):(s.ae dst d wr c).c=c+1:=rfl
def zCI(s:St)(dst:Option Nat)(d:D)(wr:List (Nat×Option Ob))(c:Nat):(s.ae dst d wr c).lw=zfr s.lw wr:=rfl
def zcb(s:St)(dst:Option Nat):(s.se dst).tm=zdp s.tm dst (.f .un):=rfl
def zc3(s:St)(dst:Option Nat):(s.se dst).h=s.h:=rfl
def zc1(s:St)(dst:Option Nat):(s.se dst).c=s.c:=rfl
def zEr(s:St)(dst:Option Nat):(s.se dst).lw=s.lw:=rfl
variable {l:List (Op×Nat)}{s:St}{Q:St->Prop}{dst:Option Nat}{L:List (List Nat×List Nat)}{mask:Nat}
def zyc(b:List Nat):zei [] b↔True:=by simp[zei]
def zu0(x:Nat)(a b:List Nat):zei (x::a) b↔x∉b/\zei a b:=by simp[zei]
def zOp:wpE pr L [] s Q↔Q s:=Iff.rfl
def zkd(d:D):s.ae dst d [] s.c=s.ue dst d:=rfl
theorem zdH{o:O A}(hk:kcl o= .n):wpE pr L ((⟨dst,none,o⟩,mask)::l) s Q↔oB ((o.res (zae s.tm)).bind (opv s.h.get s.c)) fun r=>zax r.c r.wr=true/\
    zeh mask L r.rd (r.wr.map (·.1))/\wpE pr (L++[(r.rd,r.wr.map (·.1))]) l (s.ae dst r.d r.wr r.c) Q:=by
  simp only[wpE,zcn,zcQ];cases hr:o.res (zae s.tm)with
  |none=>exact Iff.rfl
  | some o'=>
    simp only[Z46,zwC hk hr];cases hv:opv s.h.get s.c o' with
    |none=>exact Iff.rfl
    | some r=>
      simp only[zem,zdR,oB];cases hw:zax r.c r.wr with
      |false=>simp
      |true=>simp only[Z89,cond_false,true_and];exact Iff.rfl
def zfq{l:List Op}{o:O A}(hk:kcl o= .n):wpO pr (⟨dst,none,o⟩ ::l) s Q↔oB ((o.res (zae s.tm)).bind (opv s.h.get s.c)) fun r=>zax r.c r.wr=true/\wpO pr l (s.aft dst r.d r.wr r.c) Q:=by
 simp only[wpO,zcn,zcQ];cases hr:o.res (zae s.tm)with
 |none=>exact Iff.rfl
 |some o'=>
  simp only[Z46,zwC hk hr];cases hv:opv s.h.get s.c o' with
  |none=>exact Iff.rfl
  |some r=>
   simp only[zem,zdR,oB];cases hw:zax r.c r.wr with
   |false=>simp
   |true=>simp only[Z89,cond_false,true_and];exact Iff.rfl
def e_mv{x:A}:wpE pr L ((⟨dst,none,.mv x⟩,mask)::l) s Q↔oB (zae s.tm x) fun d=>wpE pr (L++[([],[])]) l (s.ue dst d) Q:=by
 rw[zdH rfl];cases hx:zae s.tm x<;>simp[O.res,hx,opv,okD,oB,zax,zei,zkd,zeQ]
def e_ld{g:Bool}{n:Nat}{x:A}:wpE pr L ((⟨dst,none,.ld g n x⟩,mask)::l) s Q↔oB (zae s.tm x) fun p=>oB (zeo g n s.h.get p) fun y=>zeh mask L y.2 []/\wpE pr (L++[(y.2,[])]) l (s.ue dst y.1) Q:=by
 rw[zdH rfl];cases hx:zae s.tm x with
 |none=>simp[O.res,hx,oB]
 |some p=>
  cases hl:zeo g n s.h.get p with
  |none=>simp[O.res,hx,opv,hl,oB]
  |some y=>obtain⟨d,rd⟩ :=y;simp[O.res,hx,opv,hl,oB,zax,zei,zkd,zeQ]
def zNV{op:BinOp}{x y:A}:wpE pr L ((⟨dst,none,.bin op x y⟩,mask)::l) s Q↔oB ((zae s.tm x).bind asF) fun a=>oB ((zae s.tm y).bind asF) fun b=>oB (zbS op a b) fun z=>wpE pr (L++[([],[])]) l (s.ue dst (.f z)) Q:=by
 rw[zdH rfl];cases hx:zae s.tm x with
 |none=>simp[O.res,hx,oB]
 |some d=>
  cases hy:zae s.tm y with
  |none=>cases d<;>simp[O.res,hx,hy,oB,asF]
  |some e=>
   cases d with
   |f a=>
    cases e with
    |f b=>
     cases hz:zbS op a b<;>simp[O.res,hx,hy,oB,asF,opv,hz,okF,zax,zei,zkd,zeQ]
    |_=>simp[O.res,hx,hy,oB,asF,opv]
   |_=>simp[O.res,hx,hy,oB,asF,opv]
def zGy{q x y:A}:wpE pr L ((⟨dst,none,.pick q x y⟩,mask)::l) s Q↔oB ((zae s.tm q).bind asB) fun b=>oB (zae s.tm x) fun d=>oB (zae s.tm y) fun e=>wpE pr (L++[([],[])]) l (s.ue dst (if b then d else e)) Q:=by
 rw[zdH rfl];cases hq:zae s.tm q with
 |none=>simp[O.res,hq,oB]
 |some z=>
  cases hx:zae s.tm x with
  |none=>
   cases z with
   |f z=>cases z<;>simp[O.res,hq,hx,oB,asB]
   |_=>simp[O.res,hq,hx,oB,asB]
  |some d=>
   cases hy:zae s.tm y with
   |none=>
    cases z with
    |f z=>cases z<;>simp[O.res,hq,hx,hy,oB,asB]
    |_=>simp[O.res,hq,hx,hy,oB,asB]
   |some e=>
    cases z with
    |f z=>cases z<;>simp[O.res,hq,hx,hy,oB,asB,opv,okD,zax,zei,zkd,zeQ]
    |_=>simp[O.res,hq,hx,hy,oB,asB,opv]
def zN7{ne:Bool}{x y:A}:wpE pr L ((⟨dst,none,.eqb ne x y⟩,mask)::l) s Q↔oB ((zae s.tm x).bind asB) fun a=>oB ((zae s.tm y).bind asB) fun b=>wpE pr (L++[([],[])]) l (s.ue dst (.f (.b (if ne then !(a==b)else a==b)))) Q:=by
 rw[zdH rfl];cases hx:zae s.tm x with
 |none=>simp[O.res,hx,oB]
 |some d=>
  cases hy:zae s.tm y with
  |none=>
   cases d with
   |f z=>cases z<;>simp[O.res,hx,hy,oB,asB]
   |_=>simp[O.res,hx,hy,oB,asB]
  |some e=>
   cases d with
   |f z=>
    cases z with
    |b a=>
     cases e with
     |f z'=>cases z'<;>simp[O.res,hx,hy,oB,asB,opv,okF,zax,zei,zkd,zeQ]
     |_=>simp[O.res,hx,hy,oB,asB,opv]
    |_=>simp[O.res,hx,hy,oB,asB,opv]
   |_=>simp[O.res,hx,hy,oB,asB,opv]
def e_len{x:A}:wpE pr L ((⟨dst,none,.len x⟩,mask)::l) s Q↔oB (zae s.tm x) fun v=>oB (zej v) fun n=>wpE pr (L++[([],[])]) l (s.ue dst (.f (.i .i64 n))) Q:=by
 rw[zdH rfl];cases hx:zae s.tm x with
 |none=>simp[O.res,hx,oB]
 |some v=>cases hl:zej v<;>simp[O.res,hx,oB,opv,hl,okF,zax,zei,zkd,zeQ]
def e_fa{off:Nat}{x:A}:wpE pr L ((⟨dst,none,.fa off x⟩,mask)::l) s Q↔oB (zae s.tm x) fun v=>oB (faB off v) fun d=>wpE pr (L++[([],[])]) l (s.ue dst d) Q:=by
 rw[zdH rfl];cases hx:zae s.tm x with
 |none=>simp[O.res,hx,oB]
 |some v=>cases v<;>simp[O.res,hx,oB,opv,faB,okD,zax,zei,zkd,zeQ]
def e_ia{es:Nat}{x i:A}:wpE pr L ((⟨dst,none,.ia es x i⟩,mask)::l) s Q↔oB (zae s.tm x) fun v=>oB (zae s.tm i) fun w=>oB (zcN w) fun n=>oB (iaB es v n) fun d=>wpE pr (L++[([],[])]) l (s.ue dst d) Q:=by
 rw[zdH rfl];cases hx:zae s.tm x with
 |none=>simp[O.res,hx,oB]
 |some v=>
  cases hy:zae s.tm i with
  |none=>simp[O.res,hx,hy,oB]
  |some w=>
   cases hn:zcN w with
   |none=>simp[O.res,hx,hy,opv,hn,oB]
   |some n=>
    cases v with
    |f z=>
     cases z with
     |sl es' els=>
      by_cases he:es=es'
      .subst he;cases hel:els[n]? <;>simp[O.res,hx,hy,oB,opv,hn,iaB,hel,okD,zax,zei,zkd,zeQ]
      .simp[O.res,hx,hy,oB,opv,hn,iaB,he]
     |_=>simp[O.res,hx,hy,oB,opv,hn,iaB]
    |sl id off m es' lim ex=>
     by_cases he:es=es'/\n<m
     .simp[O.res,hx,hy,oB,opv,hn,iaB,he,okD,zax,zei,zkd,zeQ]
     .simp[O.res,hx,hy,oB,opv,hn,iaB,he]
    |_=>simp[O.res,hx,hy,oB,opv,hn,iaB]
def zNW{z:List F}{ps:List (Nat×Nat×A)}:wpE pr L ((⟨dst,none,.bld z ps⟩,mask)::l) s Q↔oB (zav (fun(p:Nat×Nat×A)=>(zae s.tm p.2.2).map fun d=>(p.1,p.2.1,d)) ps) fun qs=>oB (zeK (z.map D.f) qs) fun cs=>wpE pr (L++[([],[])]) l (s.ue dst (.ag cs)) Q:=by
 have e:zav (fun(p:Nat×Nat×A)=>(zae s.tm p.2.2).map fun d=>(p.1,p.2.1,d)) ps=zav (fun x=>match x with|(o,n,x)=>do some (o,n,<-zae s.tm x)) ps:=by
  congr 1
  funext p
  obtain⟨o,n,x⟩ :=p;simp only;cases zae s.tm x<;>rfl
 rw[e,zdH rfl];simp only[O.res];cases hq:zav (fun x=>match x with|(o,n,x)=>do some (o,n,<-zae s.tm x)) ps with
 |none=>simp[oB]
 |some qs=>cases hf:zeK (z.map D.f) qs<;>simp[oB,opv,hf,okD,zax,zei,zkd,zeQ]
def zOo{cs:List F}:wpE pr L ((⟨dst,none,.new cs⟩,mask)::l) s Q↔zeh mask L [] [s.c]/\wpE pr (L++[([],[s.c])]) l (s.ae dst (.ptr s.c cs.length 0 0) [(s.c,some (.arr cs.length 0 [cs.map D.f]))] (s.c+1)) Q:=by
 rw[zdH rfl];simp[O.res,oB,opv,zax,zei,Z79]
def e_st{n:Nat}{x v:A}:wpE pr L ((⟨dst,none,.st n x v⟩,mask)::l) s Q↔oB (zae s.tm x) fun p=>oB (zae s.tm v) fun d=>oB (ze8 n s.h.get p d) fun y=>y.1<s.c/\zeh mask L [y.1] [y.1]/\wpE pr (L++[([y.1],[y.1])]) l (s.ae dst (.f .un) [(y.1,some y.2)] s.c) Q:=by
 rw[zdH rfl];cases hx:zae s.tm x with
 |none=>simp[O.res,hx,oB]
 |some p=>
  cases hv:zae s.tm v with
  |none=>simp[O.res,hx,hv,oB]
  |some d=>
   cases hs:ze8 n s.h.get p d with
   |none=>simp[O.res,hx,hv,oB,opv,hs]
   |some y=>obtain⟨id,ob⟩ :=y;simp[O.res,hx,hv,oB,opv,hs,zax,zei,Z79]
theorem zWF{f:Nat}{args:List A}:wpE pr L ((⟨dst,none,.callp f args⟩,mask)::l) s Q↔oB (zav (zae s.tm) args) fun ds=>oB (zes s.h.get ds) fun y=>∃x,Ans pr f y.1 x/\zax s.c (zaB s.h.get y.2)=true/\
      zeh mask L y.2 ((zaB s.h.get y.2).map (·.1))/\wpE pr (L++[(y.2,(zaB s.h.get y.2).map (·.1))]) l (s.ae dst x.d (zaB s.h.get y.2) s.c) Q:=by
  simp only[wpE,zcn,zcQ,O.res,Z47];cases hm:zav (zae s.tm) args with
  |none=>simp[oB]
  | some ds=>
    simp only[Z46,kindOf,oB];cases hf:zes s.h.get ds with
    |none=>exact Iff.rfl
    | some y=>
      obtain⟨fs,rd⟩ :=y;simp only;refine exists_congr fun x=>and_congr_right fun _=> ?_
      simp only[zem,zdR];cases hw:zax s.c (zaB s.h.get rd)with
      |false=>simp
      |true=>simp only[Z89,cond_false,true_and];exact Iff.rfl
def asG:D->Option (Option Bool)
 | .f (.b b)=>some (some b)
 | .f .un=>some none
 |_=>none
def zNB(b:Bool):asG (.f (.b b))=some (some b):=rfl
def zGc:asG (.f .un)=some none:=rfl
def zla{t:T D}{g:Nat}{w:Bool}:zcQ t (some (g,w))=((t.get g).bind asG).map (· ==some w):=by
  simp only[zcQ];cases t.get g with
  |none=>rfl
  | some d=>
    cases d with
    | f x=>
      cases x with
      |b b=>cases b<;>cases w<;>rfl
      |_=>rfl
    |_=>rfl
def zCd{l:List Op}{g:Nat}{w:Bool}{o:O A}:wpO pr (⟨dst,some (g,w),o⟩ ::l) s Q↔oB ((s.tm.get g).bind asG) fun x=>if x==some w then wpO pr (⟨dst,none,o⟩ ::l) s Q else wpO pr l (s.se dst) Q:=by
 cases hx:(s.tm.get g).bind asG with
 |none=>
  have:zcQ s.tm (some (g,w))=none:=by rw[zla,hx];rfl
  simp[wpO,zcn,this,oB]
 |some x=>
  have hw:zcQ s.tm (some (g,w))=some (x==some w):=by rw[zla,hx];rfl
  simp only[oB];cases hb:x==some w with
  |true=>rw[hb]at hw;simp only[wpO,zcn,hw,Z60];exact Iff.rfl
  |false=>rw[hb]at hw;simp only[wpO,zcn,hw];exact Iff.rfl
def zBl{g:Nat}{w:Bool}{o:O A}:wpE pr L ((⟨dst,some (g,w),o⟩,mask)::l) s Q↔oB ((s.tm.get g).bind asG) fun x=>if x==some w then wpE pr L ((⟨dst,none,o⟩,mask)::l) s Q else wpE pr (L++[([],[])]) l (s.se dst) Q:=by
 cases hx:(s.tm.get g).bind asG with
 |none=>
  have:zcQ s.tm (some (g,w))=none:=by rw[zla,hx];rfl
  simp[wpE,zcn,this,oB]
 |some x=>
  have hw:zcQ s.tm (some (g,w))=some (x==some w):=by rw[zla,hx];rfl
  simp only[oB];cases hb:x==some w with
  |true=>rw[hb]at hw;simp only[wpE,zcn,hw,Z60];exact Iff.rfl
  |false=>
   rw[hb]at hw;simp only[wpE,zcn,hw];constructor
   .rintro⟨_,_,h⟩;exact h
   .intro h;exact⟨trivial,(zeQ _ _).2 trivial,h⟩
end
end Go.Vse
end
section
namespace Go.Vse
variable [Globs]
abbrev EnP:=Nat×List F×F
def zab(pr:Pr)(e:EnP):Prop:=Ans pr e.1 e.2.1 e.2.2
def zoK(pr:Pr):List EnP->Prop
 |[]=>True
 |e::l=>zab pr e/\zoK pr l
def zyI(f:Nat)(fs:List F)(l:List EnP):Option F:=
 @List.rec EnP (fun _=>Option F) none (fun p _ ih=>@Bool.rec (fun _=>Option F) ih (@Bool.rec (fun _=>Option F) ih (some p.2.2) (F.zfj p.2.1 fs)) (Nat.beq p.1 f)) l
def zEe(mask:Nat)(l:List EnP):Orc:=fun f fs=>
 @Bool.rec (fun _=>Option F) none (zyI f fs l) (Nat.beq (Nat.mod (Nat.div mask (Nat.pow 2 f)) 2) 1)
theorem zuF{pr:Pr}{f:Nat}{fs:List F}{x:F}:∀{l:List EnP},zoK pr l->zyI f fs l=some x->Ans pr f fs x
 |[],_,h=>by cases h
 |p::l,ha,h=>by
  have e:zyI f fs (p::l)= @Bool.rec (fun _=>Option F) (zyI f fs l) (@Bool.rec (fun _=>Option F) (zyI f fs l) (some p.2.2) (F.zfj p.2.1 fs)) (Nat.beq p.1 f):=rfl;rw[e]at h;cases hb:Nat.beq p.1 f with
  |false=>rw[hb]at h;exact zuF ha.2 h
  |true=>
   rw[hb]at h;cases hq:F.zfj p.2.1 fs with
   |false=>rw[hq]at h;exact zuF ha.2 h
   |true=>
    rw[hq]at h;cases h;rw[<-Z88 hb,<-F.zgw _ _ hq];exact ha.1
def zW2{pr:Pr}{mask:Nat}{l:List EnP}(ha:zoK pr l):zjY pr (zEe mask l):=by
 intro f fs x h;unfold zEe at h;cases hb:Nat.beq (Nat.mod (Nat.div mask (Nat.pow 2 f)) 2) 1 with
 |false=>rw[hb]at h;cases h
 |true=>rw[hb]at h;exact zuF ha h
def zd2{pr:Pr}{mask n:Nat}{l:List EnP}{e:EnP}(ha:zoK pr l)(h:zEq (zEe mask l) pr n e.1 e.2.1=some e.2.2):zab pr e:=
 zas (zW2 ha) h
end Go.Vse
end
section
namespace Go.Vse
variable [Globs]
section
variable (K:Nat->Option Nat)(spq:O A->Bool)
def okS(i:Nat):Bool:=match K i with
 |some _=>false
 |none=>true
def okD':Option Nat->Bool
 |some i=>okS K i
 |none=>true
end
def zJJ{K:Nat->Option Nat}{i:Nat}(h:okS K i=true):K i=none:=by
 unfold okS at h;split at h
 .cases h
 .assumption
def Inn(K:Nat->Option Nat)(u u':Nat->D)(t t':T D):Prop:=
 ∀i k,K i=some k->t.get i=t'.get i\/(t.get i=some (u k)/\t'.get i=some (u' k))
structure Ag(K:Nat->Option Nat)(u u':Nat->D)(s s':St):Prop where
 out:∀n,K n=none->s.tm.get n=s'.tm.get n
 inn:Inn K u u' s.tm s'.tm
 h:s.h=s'.h
 c:s.c=s'.c
 lw:s.lw=s'.lw
 mx:s.mx=s'.mx
section
variable {K:Nat->Option Nat}{spq:O A->Bool}{u u':Nat->D}{cl:Cl}
def zqN{t:T D}{dst:Option Nat}{d:D}(n:Nat):(zdp t dst d).get n=if dst=some n then some d else t.get n:=by
 cases dst with
 |none=>simp[zdp]
 |some i=>
  simp only[zdp,T.za0,Z45]
  by_cases h:n=i
  .subst h;simp
  .rw[Z49 h,Z49 (fun e=>h e.symm)]
theorem Ag.put{s s':St}(a:Ag K u u' s s'){dst:Option Nat}(hd:okD' K dst=true)(d:D)(h:T Ob)(c lw mx:Nat):
  Ag K u u' {tm:=zdp s.tm dst d,h,c,lw,mx} {tm:=zdp s'.tm dst d,h,c,lw,mx}:=by
 refine⟨fun n hn=> ?_,fun n k hn=> ?_,rfl,rfl,rfl,rfl⟩
 .simp only[zqN];split
  .rfl
  .exact a.out n hn
 .simp only[zqN];have:dst≠some n:=by
   rintro rfl;have:=zJJ hd;rw[hn]at this;cases this
  rw[Z49 this,Z49 this];exact a.inn n k hn
theorem Ag.zl2{s s':St}(a:Ag K u u' s s'){j k:Nat}(hj:K j=some k)(h:T Ob)(c lw mx:Nat):
  Ag K u u' {tm:=zdp s.tm (some j) (u k),h,c,lw,mx} {tm:=zdp s'.tm (some j) (u' k),h,c,lw,mx}:=by
 refine⟨fun n hn=> ?_,fun n m hn=> ?_,rfl,rfl,rfl,rfl⟩
 .simp only[zqN];have:¬(some j=some n):=by
   intro e;cases e;rw[hj]at hn;cases hn
  rw[Z49 this,Z49 this];exact a.out n hn
 .simp only[zqN]
  by_cases e:some j=some n
  .cases e;rw[hj]at hn;cases hn;simp
  .rw[Z49 e,Z49 e];exact a.inn n m hn
end
end Go.Vse
end
