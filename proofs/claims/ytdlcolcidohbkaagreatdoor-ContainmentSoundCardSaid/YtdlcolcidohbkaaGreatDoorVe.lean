/- The evaluator and its soundness. Conditions: none. -/
import Derived.Test.YtdlcolcidohbkaaGreatDoorVd
import Derived.Test.YtdlcolcidohbkaaGreatDoorVc
set_option linter.all false
noncomputable section
section
namespace Go.Vse
variable [Globs]
def Rt(tm:TM)(t:T D):Prop:=∀i,getM tm i=t.get i
def Rt.put{tm:TM}{t:T D}(h:Rt tm t)(dst:Option Nat)(d:D):Rt (zkr tm dst d) (zbX t dst d):=by
 intro i;cases dst with
 |none=>exact h i
 |some j=>
  have e:zkr tm (some j) d=znZ tm j (some d):=rfl;rw[e,zsl,h i];simp only[zbX,T.zab]
def F.zzs(x:F):x.dk=x.d:=by cases x<;>rfl
section
variable {tm:TM}{t:T D}
def zha(h:Rt tm t)(x:A):zdU tm x=zae t x:=by
 cases x with
 |t n=>exact h n
 |k x=>exact congrArg some (F.zzs x)
 |x=>rfl
 |g cs=>rfl
theorem zlW(h:Rt tm t):∀l,znJ tm l=zat (zae t) l
 |[]=>rfl
 |x::l=>by
  have e:znJ tm (x::l)=oL (zdU tm x) fun y=>oL (znJ tm l) fun m=>some (y::m):=rfl
  rw[e,zha h,zlW h l,zat];cases zae t x with
  |none=>rfl
  |some y=>cases zat (zae t) l<;>rfl
theorem zw2(h:Rt tm t):∀l,zAw tm l=zat (fun(p:Nat×Nat×A)=>do some (p.1,p.2.1,<-zae t p.2.2)) l
 |[]=>rfl
 |x::l=>by
  have e:zAw tm (x::l)=oL (zdU tm x.2.2) fun y=>oL (zAw tm l) fun m=>some ((x.1,x.2.1,y)::m):=rfl
  rw[e,zha h,zw2 h l,zat];cases zae t x.2.2 with
  |none=>rfl
  |some y=>
   simp only[Z47,Z46];cases zat _ l<;>rfl
theorem zw5(h:Rt tm t):∀l,zAy tm l=zat (fun(p:Nat×A)=>do some (p.1,<-zae t p.2)) l
 |[]=>rfl
 |x::l=>by
  have e:zAy tm (x::l)=oL (zdU tm x.2) fun y=>oL (zAy tm l) fun m=>some ((x.1,y)::m):=rfl
  rw[e,zha h,zw5 h l,zat];cases zae t x.2 with
  |none=>rfl
  |some y=>
   simp only[Z47,Z46];cases zat _ l<;>rfl
def zJv(h:Rt tm t)(x:Option A):zpx tm x=zdp (zae t) x:=by
 cases x with
 |none=>rfl
 |some x=>
  have e:zpx tm (some x)=oL (zdU tm x) fun y=>some (some y):=rfl
  rw[e,zha h,zdp];cases zae t x<;>rfl
def oKb{α:Type}(x:Option α)(k:α->Option Rs):oK x k=x.bind k:=by cases x<;>rfl
def zPv(h:Rt tm t)(hp:Nat->Option Ob)(c:Nat)(o:O A)(hk:kcl o= .n):opK o tm hp c=(o.res (zae t)).bind (opv hp c):=by
 cases o<;>first|rfl|(simp only[opK,ra,raa,zFd,rp,rq,rll,raoo,zGW,oKb,zha h,zw2 h,zw5 h,zlW h,zJv h,O.res,Z47,Option.bind_assoc,Z46];rfl)|(cases hk;done)
def ztm{f:A->Option D}{o:O A}{o':O D}(hk:kcl o= .n)(hr:o.res f=some o'):kindOf o'= .n:=by
 cases o<;>first|(simp only[O.res]at hr;(repeat obtain⟨_,_,hr⟩ :=zay hr);cases hr;rfl)|(cases hk;done)
end
end Go.Vse
end
section
namespace Go.Vse
variable [Globs]
def znB{α:Type}(t:T α):t.gk=t.get:=funext (T.zqv t)
structure RS(k:SK)(s:St):Prop where
 tm:Rt k.tm s.tm
 h:k.h=s.h
 c:k.c=s.c
 lw:k.lw=s.lw
 mx:k.mx=s.mx
theorem zr5:∀(l:List (Nat×Option Ob)) (h:T Ob),zn4 h l=wrT h l
 |[],_=>rfl
 |(id,some ob)::l,h=>by rw[zn4,wrT,zr5 l,T.zmS];rfl
 |(id,none)::l,h=>by rw[zn4,wrT,zr5 l,T.zmS];rfl
theorem zsU:∀(l:List (Nat×Option Ob)) (m:Nat),zn3 m l=zdL m l
 |[],_=>rfl
 |(id,o)::l,m=>by
  rw[zn3,zdL,zsU l]
  by_cases hlt:id<m
  .rw[Z51 hlt,show Nat.blt id m=true by simpa [Z79]using hlt]
  .rw[Z49 hlt,show Nat.blt id m=false by
    cases hc:Nat.blt id m with
    |false=>rfl
    |true=>exact absurd (by simpa [Z79]using hc) hlt]
def zJp(a b:Nat):zlx a b=Nat.max a b:=by
 unfold zlx
 by_cases hle:a<=b
 .rw[show Nat.ble a b=true by simpa [Z150]using hle];exact (Z162 hle).symm
 .rw[show Nat.ble a b=false by
   cases hc:Nat.ble a b with
   |false=>rfl
   |true=>exact absurd (by simpa [Z150]using hc) hle]
  exact (Z169 (Z110 (Z163 hle))).symm
def zB6(tm:TM)(h:T Ob)(c lw mx:Nat)(p:Fp):fin tm h c lw mx p=some (⟨tm,h,c,lw,Nat.max mx (c+1)⟩,p):=by
 unfold fin
 by_cases hle:mx<=c+1
 .rw[show Nat.ble mx (Nat.succ c)=true by simpa [Z150]using hle,show Nat.max mx (c+1)=c+1 from Z162 hle]
 .rw[show Nat.ble mx (Nat.succ c)=false by
   cases hc:Nat.ble mx (Nat.succ c)with
   |false=>rfl
   |true=>exact absurd (by simpa [Z150]using hc) hle,show Nat.max mx (c+1)=mx from Z169 (by omega)]
def zIv(tm:TM)(h:T Ob)(c lw mx:Nat)(p:Fp):fin2 tm h c lw mx p=some (⟨tm,h,c,lw,Nat.max mx (c+1)⟩,p):=by
 unfold fin2;rw[show Nat.ble lw lw=true by simp[Z150],zB6]
section
variable {tm:TM}{t:T D}
theorem zxI(ht:Rt tm t){h:T Ob}{c lw mx:Nat}{dst:Option Nat}{r:Option Rs}{k:SK}{p:Fp}(hs:zpL tm h c lw mx dst r=some (k,p)):
  ∃s,zcw ⟨t,h,c,lw,mx⟩ dst r=some (s,p)/\RS k s:=by
 cases r with
 |none=>cases hs
 |some r=>
  obtain⟨d,rd,wr,c'⟩ :=r;cases wr with
  |nil=>
   have e:zpL tm h c lw mx dst (some ⟨d,rd,[],c'⟩)=fin (zkr tm dst d) h c' lw mx ⟨false,rd,[],c,Nat.succ c',h,h⟩ :=rfl;rw[e,zB6]at hs;cases hs;exact⟨_,rfl,⟨ht.put dst d,rfl,rfl,rfl,rfl⟩⟩
  |cons x wr=>
   have e:zpL tm h c lw mx dst (some ⟨d,rd,x::wr,c'⟩)= @Bool.rec (fun _=>Option (SK×Fp)) none
    (fin2 (zkr tm dst d) (zn4 h (x::wr)) c' (zn3 lw (x::wr)) mx ⟨false,rd,(x::wr).map (·.1),c,Nat.succ c',h,zn4 h (x::wr)⟩) (zas c' (x::wr)):=rfl
   rw[e]at hs;cases hw:zas c' (x::wr)with
   |false=>rw[hw]at hs;cases hs
   |true=>
    rw[hw]at hs;simp only[zIv,zr5,zsU,Z45,Z66]at hs;obtain⟨rfl,rfl⟩ :=hs;refine⟨⟨zbX t dst d,wrT h (x::wr),c',zdL lw (x::wr),Nat.max mx (c'+1)⟩,?_,⟨ht.put dst d,rfl,rfl,rfl,rfl⟩⟩;simp only[zcw,hw];rfl
theorem zxJ(ht:Rt tm t){h:T Ob}{c lw mx:Nat}{dst:Option Nat}{q:Option CR}{k:SK}{p:Fp}(hs:zpM tm h c lw mx dst q=some (k,p)):
  ∃s,zfg ⟨t,h,c,lw,mx⟩ dst q=some (s,p)/\RS k s:=by
 cases q with
 |none=>cases hs
 |some q=>
  obtain⟨d,h',c',lw',mx'⟩ :=q;have e:zpM tm h c lw mx dst (some ⟨d,h',c',lw',mx'⟩)= @Bool.rec (fun _=>Option (SK×Fp)) none
   (some (⟨zkr tm dst d,h',c',@Bool.rec (fun _=>Nat) lw' lw (Nat.ble lw lw'),zlx mx mx'⟩,⟨true,[],[],c,mx',h,h'⟩)) (Nat.ble (zlx mx mx') (zlx mx mx')):=rfl
  rw[e,show Nat.ble (zlx mx mx') (zlx mx mx')=true by simp[Z150]]at hs;cases hs;refine⟨_,rfl,⟨ht.put dst d,rfl,rfl,?_,zJp _ _⟩⟩;simp only
  by_cases hle:lw<=lw'
  .rw[show Nat.ble lw lw'=true by simpa [Z150]using hle];exact (Z73 hle).symm
  .rw[show Nat.ble lw lw'=false by
    cases hc:Nat.ble lw lw' with
    |false=>rfl
    |true=>exact absurd (by simpa [Z150]using hc) hle]
   exact (Z202 (Z110 (Z163 hle))).symm
def zF0(ht:Rt tm t)(g:Option (Nat×Bool)):zBd tm g=zbQ t g:=by
 cases g with
 |none=>rfl
 |some p=>
  obtain⟨s,w⟩ :=p;have e:zBd tm (some (s,w))=oL (getM tm s) (ztC w):=rfl;rw[e,ht s];simp only[zbQ];cases t.get s with
  |none=>rfl
  |some d=>
   have e2:oL (some d) (ztC w)=ztC w d:=rfl;rw[e2];cases d with
   |f x=>
    cases x with
    |b x=>cases x<;>cases w<;>rfl
    |_=>rfl
   |_=>rfl
end
def EV(p:Nat->Prop):Prop:=∃N,∀n,N<=n->p n
def EV.and{p q:Nat->Prop}(hp:EV p)(hq:EV q):EV fun n=>p n/\q n:=by
 obtain⟨N,h1⟩ :=hp;obtain⟨M,h2⟩ :=hq;exact⟨N+M,fun n hn=>⟨h1 n (by omega),h2 n (by omega)⟩⟩
def EV.mono{p q:Nat->Prop}(hp:EV p)(h:∀n,p n->q n):EV q:=hp.imp fun _ h1 n hn=>h n (h1 n hn)
def EV.all{p:Nat->Prop}(h:∀n,p n):EV p:=⟨0,fun n _=>h n⟩
def EV.ge(N:Nat):EV fun n=>N<=n:=⟨N,fun _ h=>h⟩
def Con(pr:Pr)(f:Nat)(args:List D)(h:T Ob)(c:Nat)(q:CR):Prop:=EV fun n=>zbW pr n f args h c=some q
def Ans(pr:Pr)(f:Nat)(fs:List F)(x:F):Prop:=∃q rd,Con pr f (F.dL fs) .e 0 q/\frz q.h.get 12 q.d=some (x,rd)
section
variable {pr:Pr}{orc:Orc}{clK:Cl}
def ziO(pr:Pr)(orc:Orc):Prop:=∀f fs x,orc f fs=some x->Ans pr f fs x
def zl4(pr:Pr)(clK:Cl):Prop:=∀f args h c q,clK f args h c=some q->Con pr f args h c q
theorem zBF(ho:ziO pr orc)(hc:zl4 pr clK){h:Nat->Option Ob}{c f:Nat}{args:List D}{r:Rs}(hs:znq orc clK h c f args=some r):
  EV fun n=>zez (zbW pr n) h c f args=some r:=by
 unfold znq at hs;split at hs
 .cases hs
 .rename_i fs rd hfz;split at hs
  .rename_i x hx;obtain⟨q,rd',h1,h2⟩ :=ho f fs x hx;refine h1.mono fun n hn=> ?_
   simp only[zez,hfz,hn,h2];rw[<-hs,F.zzs]
  .split at hs
   .cases hs
   .rename_i q hq;split at hs
    .cases hs
    .rename_i x rd' hx;refine (hc _ _ _ _ _ hq).mono fun n hn=> ?_
     rw[znB]at hx;simp only[zez,hfz,hn,hx];rw[<-hs,F.zzs]
theorem zFR(ho:ziO pr orc)(hc:zl4 pr clK){tm:TM}{t:T D}(ht:Rt tm t){o:O A}{gd:Option (Nat×Bool)}{dst:Option Nat}{h:T Ob}{c lw mx:Nat}{k:SK}{p:Fp}
  (hs:ztz orc clK o dst tm h c lw mx=some (k,p)):∃s,RS k s/\EV fun n=>step (zbW pr n) ⟨t,h,c,lw,mx⟩ ⟨dst,gd,o⟩ =some (s,p):=by
 unfold ztz at hs;cases hk:kcl o with
 |p f args=>
  have ho':o= .callp f args:=by cases o<;>simp[kcl]at hk;obtain⟨rfl,rfl⟩ :=hk;rfl
  subst ho';rw[hk]at hs;simp only[zlW ht]at hs;cases hm:zat (zae t) args with
  |none=>rw[hm]at hs;cases hs
  |some ds=>
   rw[hm]at hs;have hs':zpL tm h c lw mx dst (znq orc clK h.gk c f ds)=some (k,p):=hs;cases hr:znq orc clK h.gk c f ds with
   |none=>rw[hr]at hs';cases hs'
   |some r=>
    rw[hr]at hs';obtain⟨s,h1,h2⟩ :=zxI ht hs';refine⟨s,h2,(zBF ho hc hr).mono fun n hn=> ?_⟩;simp only[step,O.res,Z47,hm,Z46,kindOf];rw[znB]at hn;rw[hn];exact h1
 |q f args=>
  have ho':o= .call f args:=by cases o<;>simp[kcl]at hk;obtain⟨rfl,rfl⟩ :=hk;rfl
  subst ho';rw[hk]at hs;simp only[zlW ht]at hs;cases hm:zat (zae t) args with
  |none=>rw[hm]at hs;cases hs
  |some ds=>
   rw[hm]at hs;have hs':zpM tm h c lw mx dst (clK f ds h c)=some (k,p):=hs;cases hr:clK f ds h c with
   |none=>rw[hr]at hs';cases hs'
   |some r=>
    rw[hr]at hs';obtain⟨s,h1,h2⟩ :=zxJ ht hs';refine⟨s,h2,(hc _ _ _ _ _ hr).mono fun n hn=> ?_⟩;simp only[step,O.res,Z47,hm,Z46,kindOf];rw[hn];exact h1
 |v x args=>
  have ho':o= .callv x args:=by cases o<;>simp[kcl]at hk;obtain⟨rfl,rfl⟩ :=hk;rfl
  subst ho';rw[hk]at hs;simp only[zlW ht,zha ht]at hs;cases hx:zae t x with
  |none=>rw[hx]at hs;cases hs
  |some d=>
   rw[hx]at hs;cases hm:zat (zae t) args with
   |none=>rw[hm]at hs;cases hs
   |some ds=>
    rw[hm]at hs;have hs':zup clK dst ds tm h c lw mx d=some (k,p):=hs;have main:∀f as,kindOf (.callv d ds)= .q f as->zpM tm h c lw mx dst (clK f as h c)=some (k,p)->
      ∃s,RS k s/\EV fun n=>step (zbW pr n) ⟨t,h,c,lw,mx⟩ ⟨dst,gd,.callv x args⟩ =some (s,p):=by
     intro f as hkd hs';cases hr:clK f as h c with
     |none=>rw[hr]at hs';cases hs'
     |some r=>
      rw[hr]at hs';obtain⟨s,h1,h2⟩ :=zxJ ht hs';refine⟨s,h2,(hc _ _ _ _ _ hr).mono fun n hn=> ?_⟩;simp only[step,O.res,Z47,hm,hx,Z46,hkd];rw[hn];exact h1
    unfold zup at hs';split at hs'
    .exact main _ _ rfl hs'
    .exact main _ _ rfl hs'
    .cases hs'
 |n=>
  rw[hk]at hs;have hs':zpL tm h c lw mx dst (opK o tm h.gk c)=some (k,p):=hs;rw[zPv ht _ _ _ hk]at hs';cases hr:o.res (zae t)with
  |none=>rw[hr]at hs';cases hs'
  |some o'=>
   rw[hr]at hs';simp only[Z46]at hs';obtain⟨s,h1,h2⟩ :=zxI ht hs';refine⟨s,h2,EV.all fun n=> ?_⟩;simp only[step,hr,ztm hk hr];rw[znB]at h1;exact h1
theorem zxi(ho:ziO pr orc)(hc:zl4 pr clK){k k':SK}{s:St}(hr:RS k s){o:Op}{p:Fp}(hs:zpv orc clK k o=some (k',p)):
  ∃s',RS k' s'/\EV fun n=>zdR (zbW pr n) s o=some (s',p):=by
 obtain⟨tm,h,c,lw,mx⟩ :=k;obtain⟨t,h',c',lw',mx'⟩ :=s;obtain⟨ht,e1,e2,e3,e4⟩ :=hr;simp only at ht e1 e2 e3 e4;subst e1 e2 e3 e4;obtain⟨dst,gd,o⟩ :=o;have hs':zEA orc clK dst gd o tm h c lw mx=some (k',p):=hs;unfold zEA at hs';rw[zF0 ht]at hs';cases hw:zbQ t gd with
 |none=>rw[hw]at hs';cases hs'
 |some b=>
  rw[hw]at hs';cases b with
  |true=>
   obtain⟨s,h1,h2⟩ :=zFR (gd:=gd) ho hc ht (show ztz orc clK o dst tm h c lw mx=some (k',p)from hs');refine⟨s,h1,h2.mono fun n hn=> ?_⟩;simp only[zdR,hw];exact hn
  |false=>
   have hs2:some (SK.mk (zkr tm dst (.f .un)) h c lw mx,Fp.mk false [] [] c c h h)=some (k',p):=hs';cases hs2;refine⟨⟨zbX t dst (.f .un),h,c,lw,mx⟩,⟨ht.put dst (.f .un),rfl,rfl,rfl,rfl⟩,EV.all fun n=> ?_⟩;simp only[zdR,hw]
theorem zxq(ho:ziO pr orc)(hc:zl4 pr clK):∀(l:List Op) (k k':SK) (s:St),RS k s->runK orc clK l k=some k'->∃s',RS k' s'/\EV fun n=>zeU (zbW pr n) l s=some s'
 |[],k,k',s,hr,hs=>by
  cases hs;exact⟨s,hr,EV.all fun n=>rfl⟩
 |o::l,k,k',s,hr,hs=>by
  have e:runK orc clK (o::l) k= @Option.rec (SK×Fp) (fun _=>Option SK) none (fun p=>@Prod.rec SK Fp (fun _=>Option SK) (fun s' _=>runK orc clK l s') p) (zpv orc clK k o):=rfl;rw[e]at hs;cases h1:zpv orc clK k o with
  |none=>rw[h1]at hs;cases hs
  |some y=>
   obtain⟨k1,p⟩ :=y;rw[h1]at hs;obtain⟨s1,r1,ev1⟩ :=zxi ho hc hr h1;obtain⟨s2,r2,ev2⟩ :=zxq ho hc l k1 k' s1 r1 hs;refine⟨s2,r2,(ev1.and ev2).mono fun n ⟨a,b⟩ => ?_⟩;simp only[zeU,a];exact b
def zoM{p q:Fp}(h:p.zkY=true):q.apart p=true/\p.apart q=true:=by
 obtain⟨all,rd,wr,lo,hi,h1,h2⟩ :=p;obtain⟨all',rd',wr',lo',hi',h1',h2'⟩ :=q;have e:Fp.zkY ⟨all,rd,wr,lo,hi,h1,h2⟩ = @Bool.rec (fun _=>Bool) (@List.rec Nat (fun _=>Bool) (@List.rec Nat (fun _=>Bool) true (fun _ _ _=>false) wr) (fun _ _ _=>false) rd) false all:=rfl;rw[e]at h;cases all with
 |true=>cases h
 |false=>
  cases rd with
  |cons _ _=>cases h
  |nil=>
   cases wr with
   |cons _ _=>cases h
   |nil=>cases all'<;>simp[Fp.apart]
inductive Imp:List Fp->List (Nat×Fp)->Prop where
 |nil:Imp [] []
 |skip {l m p}:Imp l m->p.zkY=true->Imp (l++[p]) m
 |keep {l m p}:Imp l m->Imp (l++[p]) ((l.length,p)::m)
theorem zhN(p:Fp)(mask:Nat):∀(l:List Fp) (q:Fp) (i:Nat),zb6 p mask (l++[q]) i=(zb6 p mask l i&&(!mask.testBit (i+l.length)||q.apart p))
 |[],q,i=>by simp[zb6]
 |x::l,q,i=>by
  simp only[Z29,zb6,zhN p mask l q (i+1),Z23];rw[show i+1+l.length=i+(l.length+1) by omega,Z155]
def zBB{p:Fp}{mask:Nat}{l:List Fp}{m:List (Nat×Fp)}(hi:Imp l m):zi4 p mask m=true->zb6 p mask l 0=true:=by
 induction hi with
 |nil=>intro _;rfl
 |skip _ hl ih=>
  intro h;rw[zhN,ih h,(zoM (q:=p) hl).2];simp
 | @keep l m q _ ih=>
  intro h;rw[zhN];unfold zi4 at h;have hb:mask.testBit l.length=Nat.beq (Nat.mod (Nat.div mask (Nat.pow 2 l.length)) 2) 1:=by
   rw[Z138];have:∀x:Nat,decide (x=1)=Nat.beq x 1:=fun x=>by
    cases hx:Nat.beq x 1 with
    |true=>simpa using Z88 hx
    |false=>simpa using Nat.ne_of_beq_eq_false hx
   exact this _
  rw[Z25,hb];split at h
  .rename_i hbt;split at h
   .rename_i ha;rw[ih h,ha];simp
   .cases h
  .rename_i hbf;rw[ih h,hbf];simp
theorem zsm{p:Fp}(h:p.zkY=true)(mask:Nat):∀(l:List Fp) (i:Nat),zb6 p mask l i=true
 |[],_=>rfl
 |q::l,i=>by simp[zb6,(zoM (q:=q) h).1,zsm h mask l (i+1)]
theorem zBO(ho:ziO pr orc)(hc:zl4 pr clK):∀(l:List (Op×Nat)) (fps:List Fp) (m:List (Nat×Fp)) (k k':SK) (s:St),Imp fps m->RS k s->
  drK orc clK l fps.length m k=some k'->∃s',RS k' s'/\EV fun n=>zeS (zbW pr n) l fps s=some s'
 |[],fps,m,k,k',s,_,hr,hs=>by
  cases hs;exact⟨s,hr,EV.all fun n=>rfl⟩
 |(o,mask)::l,fps,m,k,k',s,hm,hr,hs=>by
  have e:drK orc clK ((o,mask)::l) fps.length m k= @Option.rec (SK×Fp) (fun _=>Option SK) none (fun p=>@Prod.rec SK Fp (fun _=>Option SK) (fun s' p=>
   @Bool.rec (fun _=>Option SK) (@Bool.rec (fun _=>Option SK) none (drK orc clK l (Nat.succ fps.length) ((fps.length,p)::m) (znY s' p.hi)) (zi4 p mask m)) (drK orc clK l (Nat.succ fps.length) m (znY s' p.hi)) p.zkY) p) (zpv orc clK k o):=rfl
  rw[e]at hs;cases h1:zpv orc clK k o with
  |none=>rw[h1]at hs;cases hs
  |some y=>
   obtain⟨k1,p⟩ :=y;rw[h1]at hs;obtain⟨s1,r1,ev1⟩ :=zxi ho hc hr h1;have hrs:RS (znY k1 p.hi) {s1 with c:=p.hi}:=by
    obtain⟨tm,h,c,lw,mx⟩ :=k1;exact⟨r1.tm,r1.h,rfl,r1.lw,r1.mx⟩
   have hlen:Nat.succ fps.length=(fps++[p]).length:=by simp
   have fin:∀m',Imp (fps++[p]) m'->zb6 p mask fps 0=true->drK orc clK l (Nat.succ fps.length) m' (znY k1 p.hi)=some k'->∃s',RS k' s'/\EV fun n=>zeS (zbW pr n) ((o,mask)::l) fps s=some s':=by
    intro m' hm' ha hd;rw[hlen]at hd;obtain⟨s2,r2,ev2⟩ :=zBO ho hc l (fps++[p]) m' _ k' _ hm' hrs hd;refine⟨s2,r2,(ev1.and ev2).mono fun n ⟨a,b⟩ => ?_⟩;simp only[zeS,a,ha,Z60];exact b
   have hs':@Bool.rec (fun _=>Option SK) (@Bool.rec (fun _=>Option SK) none (drK orc clK l (Nat.succ fps.length) ((fps.length,p)::m) (znY k1 p.hi)) (zi4 p mask m)) (drK orc clK l (Nat.succ fps.length) m (znY k1 p.hi)) p.zkY=some k':=hs;cases hl:p.zkY with
   |true=>
    rw[hl]at hs';exact fin m (hm.skip hl) (zsm hl mask fps 0) hs'
   |false=>
    rw[hl]at hs';cases ha:zi4 p mask m with
    |false=>rw[ha]at hs';cases hs'
    |true=>
     rw[ha]at hs';exact fin _ hm.keep (zBB hm ha) hs'
theorem zrJ{body:St->Option (Ex×St)}:∀(n m:Nat) (s:St) (r:Ex×St),n<=m->iter body n s=some r->iter body m s=some r
 |0,_,_,_,_,h=>by cases h
 |n+1,0,_,_,h,_=>by omega
 |n+1,m+1,s,r,hle,h=>by
  simp only[iter]at h|-;cases hb:body s with
  |none=>simp only[hb]at h;cases h
  |some y=>
   obtain⟨x,s'⟩ :=y;cases x with
   |nrm=>
    simp only[hb]at h|-;exact zrJ n m s' r (by omega) h
   |exit i=>simp only[hb]at h|-;exact h
   |ret=>simp only[hb]at h|-;exact h
def RX(r:Ex×SK)(r':Ex×St):Prop:=r.1=r'.1/\RS r.2 r'.2
theorem zv9{r:Option (Ex×SK)}{kk:SK->Option (Ex×SK)}{y:Ex×SK}(h:zq5 r kk=some y):
  (∃k,r=some (.nrm,k)/\kk k=some y)\/(∃x k,r=some (x,k)/\x≠ .nrm/\y=(x,k)):=by
 cases r with
 |none=>cases h
 |some z=>
  obtain⟨x,k⟩ :=z;cases x with
  |nrm=>exact .inl ⟨k,rfl,h⟩
  |exit i=>cases h;exact .inr ⟨_,_,rfl,by simp,rfl⟩
  |ret=>cases h;exact .inr ⟨_,_,rfl,by simp,rfl⟩
theorem zh0(ho:ziO pr orc)(hc:zl4 pr clK)(lf:Nat):∀(c:C) (k:SK) (s:St) (r:Ex×SK),RS k s->evK orc clK lf c k=some r->
  ∃r',RX r r'/\EV fun n=>evC (zbW pr n) n c s=some r'
 | .skip,k,s,r,hr,hs=>by cases hs;exact⟨(.nrm,s),⟨rfl,hr⟩,EV.all fun n=>rfl⟩
 | .exit id,k,s,r,hr,hs=>by cases hs;exact⟨(.exit id,s),⟨rfl,hr⟩,EV.all fun n=>rfl⟩
 | .ret,k,s,r,hr,hs=>by cases hs;exact⟨(.ret,s),⟨rfl,hr⟩,EV.all fun n=>rfl⟩
 | .reg ops,k,s,r,hr,hs=>by
  have hs':zAD (runK orc clK ops k)=some r:=hs;cases h1:runK orc clK ops k with
  |none=>rw[h1]at hs';cases hs'
  |some k1=>
   rw[h1]at hs';cases hs';obtain⟨s1,r1,ev1⟩ :=zxq ho hc ops k k1 s hr h1;exact⟨(.nrm,s1),⟨rfl,r1⟩,ev1.mono fun n hn=>by simp only[evC,hn]⟩
 | .dreg ops,k,s,r,hr,hs=>by
  have hs':zAD (drK orc clK ops 0 [] k)=some r:=hs;cases h1:drK orc clK ops 0 [] k with
  |none=>rw[h1]at hs';cases hs'
  |some k1=>
   rw[h1]at hs';cases hs';obtain⟨s1,r1,ev1⟩ :=zBO ho hc ops [] [] k k1 s .nil hr h1;exact⟨(.nrm,s1),⟨rfl,r1⟩,ev1.mono fun n hn=>by simp only[evC,hn]⟩
 | .seq a b,k,s,r,hr,hs=>by
  have hs':zq5 (evK orc clK lf a k) (evK orc clK lf b)=some r:=hs;rcases zv9 hs' with⟨k1,h1,h2⟩ |⟨x,k1,h1,hx,rfl⟩
  .obtain⟨⟨x',s1⟩,⟨e1,r1⟩,ev1⟩ :=zh0 ho hc lf a k s _ hr h1;simp only at e1 r1;subst e1;obtain⟨r2,x2,ev2⟩ :=zh0 ho hc lf b k1 s1 _ r1 h2;exact⟨r2,x2,(ev1.and ev2).mono fun n ⟨p,q⟩ =>by simp only[evC,p];exact q⟩
  .obtain⟨⟨x',s1⟩,⟨e1,r1⟩,ev1⟩ :=zh0 ho hc lf a k s _ hr h1;simp only at e1 r1;subst e1;refine⟨(x,s1),⟨rfl,r1⟩,ev1.mono fun n p=> ?_⟩;simp only[evC,p];cases x<;>simp_all
 | .cond x a b,k,s,r,hr,hs=>by
  have hs':@Option.rec D (fun _=>Option (Ex×SK)) none (fun d=>@Option.rec Bool (fun _=>Option (Ex×SK)) none (fun b'=>@Bool.rec (fun _=>Option (Ex×SK)) (evK orc clK lf b k) (evK orc clK lf a k) b') (zs8 d)) (zdU k.tm x)=some r:=hs;rw[zha hr.tm]at hs';cases hx:zae s.tm x with
  |none=>rw[hx]at hs';cases hs'
  |some d=>
   rw[hx]at hs';cases hd:zs8 d with
   |none=>simp only[hd]at hs';cases hs'
   |some b'=>
    simp only[hd]at hs';have hde:d= .f (.b b'):=by
     unfold zs8 at hd;split at hd
     .cases hd;rfl
     .cases hd
    subst hde;cases b' with
    |true=>
     obtain⟨r2,x2,ev2⟩ :=zh0 ho hc lf a k s _ hr hs';exact⟨r2,x2,ev2.mono fun n p=>by simp only[evC,hx];exact p⟩
    |false=>
     obtain⟨r2,x2,ev2⟩ :=zh0 ho hc lf b k s _ hr hs';exact⟨r2,x2,ev2.mono fun n p=>by simp only[evC,hx];exact p⟩
 | .blk id c,k,s,r,hr,hs=>by
  have hs':blkK id (evK orc clK lf c k)=some r:=hs;cases h1:evK orc clK lf c k with
  |none=>rw[h1]at hs';cases hs'
  |some y=>
   obtain⟨x,k1⟩ :=y;rw[h1]at hs';obtain⟨⟨x',s1⟩,⟨e1,r1⟩,ev1⟩ :=zh0 ho hc lf c k s _ hr h1;simp only at e1 r1;subst e1;cases x with
   |nrm=>cases hs';exact⟨(.nrm,s1),⟨rfl,r1⟩,ev1.mono fun n p=>by simp only[evC,p]⟩
   |ret=>cases hs';exact⟨(.ret,s1),⟨rfl,r1⟩,ev1.mono fun n p=>by simp only[evC,p]⟩
   |exit i=>
    have hs2:@Bool.rec (fun _=>Option (Ex×SK)) (some (.exit i,k1)) (some (.nrm,k1)) (Nat.beq i id)=some r:=hs';cases hb:Nat.beq i id with
    |true=>
     rw[hb]at hs2;cases hs2;exact⟨(.nrm,s1),⟨rfl,r1⟩,ev1.mono fun n p=>by simp only[evC,p];rw[Z51 (Z88 hb)]⟩
    |false=>
     rw[hb]at hs2;cases hs2;exact⟨(.exit i,s1),⟨rfl,r1⟩,ev1.mono fun n p=>by simp only[evC,p];rw[Z49 (Nat.ne_of_beq_eq_false hb)]⟩
 | .loop c,k,s,r,hr,hs=>by
  have hs':ztk (evK orc clK lf c) lf k=some r:=hs;have key:∀(m:Nat) (k:SK) (s:St),RS k s->ztk (evK orc clK lf c) m k=some r->∃r',RX r r'/\EV fun n=>iter (evC (zbW pr n) n c) m s=some r':=by
   intro m
   induction m with
   |zero=>intro k s _ h;cases h
   |succ m ih=>
    intro k s hr h;have h':zq5 (evK orc clK lf c k) (ztk (evK orc clK lf c) m)=some r:=h;rcases zv9 h' with⟨k1,h1,h2⟩ |⟨x,k1,h1,hx,rfl⟩
    .obtain⟨⟨x',s1⟩,⟨e1,r1⟩,ev1⟩ :=zh0 ho hc lf c k s _ hr h1;simp only at e1 r1;subst e1;obtain⟨r2,x2,ev2⟩ :=ih k1 s1 r1 h2;exact⟨r2,x2,(ev1.and ev2).mono fun n ⟨p,q⟩ =>by simp only[iter,p];exact q⟩
    .obtain⟨⟨x',s1⟩,⟨e1,r1⟩,ev1⟩ :=zh0 ho hc lf c k s _ hr h1;simp only at e1 r1;subst e1;refine⟨(x,s1),⟨rfl,r1⟩,ev1.mono fun n p=> ?_⟩;simp only[iter,p];cases x<;>simp_all
  obtain⟨r',x',ev⟩ :=key lf k s hr hs';exact⟨r',x',(ev.and (EV.ge lf)).mono fun n ⟨p,q⟩ =>by simp only[evC];exact zrJ lf n s r' q p⟩
theorem zDf:∀(l:List D) (i:Nat) (tm:TM) (t:T D),Rt tm t->Rt (tmK l i tm) (zak l i t)
 |[],_,_,_,h=>h
 |d::l,i,tm,t,h=>by
  rw[tmK,zak];refine zDf l (i+1) _ _ fun j=> ?_
  rw[zsl,h j,T.zab]
def zFk{k:SK}{s:St}(hr:RS k s)(v:Rv):zAT k v=resV s v:=by
 cases v with
 |t n=>exact hr.tm n
 |cell n g sz=>
  simp only[zAT,resV,hr.tm n,hr.h,znB];cases s.tm.get n<;>rfl
theorem zvq{k:SK}{s:St}(hr:RS k s):∀l,ztv k l=zat (resV s) l
 |[]=>rfl
 |x::l=>by
  rw[ztv,zat,zFk hr,zvq hr l];cases resV s x with
  |none=>rfl
  |some y=>cases zat (resV s) l<;>rfl
def zFi{k:SK}{s:St}(hr:RS k s)(l:List Rv):zAS k l=resD s l:=by
 unfold zAS resD;rw[zvq hr];cases zat (resV s) l with
 |none=>rfl
 |some m=>
  cases m with
  |nil=>rfl
  |cons a m=>cases m<;>rfl
theorem zuC(ho:ziO pr orc):∀n,zl4 pr (zta orc pr n)
 |0=>fun f args h c q hq=>by cases hq
 |n+1=>fun f args h c q hq=>by
  simp only[zta]at hq;cases hf:pr.fn f with
  |some fn=>
   simp only[hf]at hq;unfold fnK at hq;split at hq
   .cases hq
   .cases hq
   .rename_i x k hne hev;have hr0:RS (SK.mk (tmK args 0 {}) h c c c) (St.mk (zak args 0 .e) h c c c):=⟨zDf args 0 {} .e fun i=>by rw[zD9];rfl,rfl,rfl,rfl,rfl⟩
    obtain⟨⟨x',s⟩,⟨e1,r1⟩,ev1⟩ :=zh0 ho (zuC ho n) n fn.body _ _ _ hr0 hev;simp only at e1 r1;subst e1;split at hq
    .cases hq
    .rename_i d hd;rw[zFi r1]at hd;have key:EV fun m=>zfd (evC (zbW pr m) m) fn args h c=some q:=by
      refine ev1.mono fun m hm=> ?_
      simp only[zfd,hm];have fin:(match resD s fn.res with|none=>none|some d=>if Nat.beq s.lw c&&d.isF then some (CR.mk d h c c s.mx)else some (CR.mk d s.h s.c s.lw s.mx))=some q:=by
       simp only[hd];rw[<-r1.lw,<-r1.mx,<-r1.h,<-r1.c];split at hq
       .rename_i hb;split at hq
        .rename_i hi;rw[hb,hi];simpa using hq
        .rename_i hi;rw[hb,hi];simpa using hq
       .rename_i hb;rw[hb];simpa using hq
      cases x with
      |nrm=>exact fin
      |ret=>exact fin
      |exit i=>exact absurd rfl (hne i)
     obtain⟨N,hN⟩ :=key;refine⟨N+1,fun m hm=> ?_⟩;obtain⟨m,rfl⟩ :∃m',m=m'+1:=⟨m - 1,by omega⟩
     simp only[zbW,hf];exact hN m (by omega)
  |none=>
   simp only[hf]at hq;refine⟨1,fun m hm=> ?_⟩;obtain⟨m,rfl⟩ :∃m',m=m'+1:=⟨m - 1,by omega⟩
   simp only[zbW,hf];exact hq
end
end Go.Vse
end
section
namespace Go.Vse
variable [Globs]
section
variable (pr:Pr)
def zc0(r:Option (St×Fp))(Q:St->Fp->Prop):Prop:=
 match r with
 |some (s',p)=>Q s' p
 |none=>False
def zbl(o:Op)(s:St)(Q:St->Fp->Prop):Prop:=
 match zbQ s.tm o.gd with
 |none=>False
 |some false=>Q {s with tm:=zbX s.tm o.dst (.f .un)} {all:=false,rd:=[],wr:=[],lo:=s.c,hi:=s.c,h:=s.h,h':=s.h}
 |some true=>match o.o.res (zae s.tm)with
  |none=>False
  |some o'=>match kindOf o' with
   | .p f args=>match zbU s.h.get args with
    |none=>False
    |some (fs,rd)=>∃x,Ans pr f fs x/\zc0 (zcw s o.dst (some {d:=x.d,rd,wr:=zau s.h.get rd,c:=s.c})) Q
   | .q f args=>∃q,Con pr f args s.h s.c q/\zc0 (zfg s o.dst (some q)) Q
   | .n=>zc0 (zcw s o.dst (opv s.h.get s.c o')) Q
   | .bad=>False
def wpO:List Op->St->(St->Prop)->Prop
 |[],s,Q=>Q s
 |o::l,s,Q=>zbl pr o s fun s' _=>wpO l s' Q
def wpD:List (Op×Nat)->List Fp->St->(St->Prop)->Prop
 |[],_,s,Q=>Q s
 |(o,mask)::l,fps,s,Q=>zbl pr o s fun s' p=>zb6 p mask fps 0=true/\wpD l (fps++[p]) {s' with c:=p.hi} Q
def wpC:C->St->(Ex->St->Prop)->Prop
 | .skip,s,Q=>Q .nrm s
 | .reg ops,s,Q=>wpO pr ops s (Q .nrm)
 | .dreg ops,s,Q=>wpD pr ops [] s (Q .nrm)
 | .seq a b,s,Q=>wpC a s fun x s'=>match x with
  | .nrm=>wpC b s' Q
  |x=>Q x s'
 | .cond x a b,s,Q=>match zae s.tm x with
  |some (.f (.b true))=>wpC a s Q
  |some (.f (.b false))=>wpC b s Q
  |_=>False
 | .blk id c,s,Q=>wpC c s fun x s'=>match x with
  | .exit i=>if i=id then Q .nrm s' else Q (.exit i) s'
  |x=>Q x s'
 | .loop c,s,Q=>∃x s' m,Q x s'/\EV fun n=>iter (evC (zbW pr n) n c) m s=some (x,s')
 | .exit id,s,Q=>Q (.exit id) s
 | .ret,s,Q=>Q .ret s
variable {pr}
def zpP{o:Op}{s:St}{Q:St->Fp->Prop}(h:zbl pr o s Q):∃s' p,Q s' p/\EV fun n=>zdR (zbW pr n) s o=some (s',p):=by
 unfold zbl at h;split at h
 .exact h.elim
 .rename_i hw;exact⟨_,_,h,EV.all fun n=>by simp only[zdR,hw]⟩
 .rename_i hw;split at h
  .exact h.elim
  .rename_i o' hr;split at h
   .rename_i f args hk;split at h
    .exact h.elim
    .rename_i fs rd hfz;obtain⟨x,⟨q,rd',hc,hx⟩,h⟩ :=h;unfold zc0 at h;split at h
     .rename_i s' p hst;refine⟨s',p,h,hc.mono fun n hn=> ?_⟩;simp only[zdR,hw,step,hr,hk,zez,hfz,hn,hx];exact hst
     .exact h.elim
   .rename_i f args hk;obtain⟨q,hc,h⟩ :=h;unfold zc0 at h;split at h
    .rename_i s' p hst;refine⟨s',p,h,hc.mono fun n hn=> ?_⟩;simp only[zdR,hw,step,hr,hk,hn];exact hst
    .exact h.elim
   .rename_i hk;unfold zc0 at h;split at h
    .rename_i s' p hst;refine⟨s',p,h,EV.all fun n=> ?_⟩;simp only[zdR,hw,step,hr,hk];exact hst
    .exact h.elim
   .exact h.elim
theorem zwd:∀(l:List Op) (s:St) (Q:St->Prop),wpO pr l s Q->∃s',Q s'/\EV fun n=>zeU (zbW pr n) l s=some s'
 |[],s,Q,h=>⟨s,h,EV.all fun _=>rfl⟩
 |o::l,s,Q,h=>by
  obtain⟨s1,p,h1,e1⟩ :=zpP h;obtain⟨s2,h2,e2⟩ :=zwd l s1 Q h1;exact⟨s2,h2,(e1.and e2).mono fun n ⟨a,b⟩ =>by simp only[zeU,a];exact b⟩
theorem zDm:∀(l:List (Op×Nat)) (fps:List Fp) (s:St) (Q:St->Prop),wpD pr l fps s Q->∃s',Q s'/\EV fun n=>zeS (zbW pr n) l fps s=some s'
 |[],_,s,Q,h=>⟨s,h,EV.all fun _=>rfl⟩
 |(o,mask)::l,fps,s,Q,h=>by
  obtain⟨s1,p,⟨ha,h1⟩,e1⟩ :=zpP h;obtain⟨s2,h2,e2⟩ :=zDm l (fps++[p]) {s1 with c:=p.hi} Q h1;exact⟨s2,h2,(e1.and e2).mono fun n ⟨a,b⟩ =>by simp only[zeS,a,ha,Z60];exact b⟩
theorem ze1:∀(c:C) (s:St) (Q:Ex->St->Prop),wpC pr c s Q->∃x s',Q x s'/\EV fun n=>evC (zbW pr n) n c s=some (x,s')
 | .skip,s,Q,h=>⟨_,s,h,EV.all fun _=>rfl⟩
 | .exit id,s,Q,h=>⟨_,s,h,EV.all fun _=>rfl⟩
 | .ret,s,Q,h=>⟨_,s,h,EV.all fun _=>rfl⟩
 | .reg ops,s,Q,h=>by
  obtain⟨s',h1,e1⟩ :=zwd ops s _ h;exact⟨.nrm,s',h1,e1.mono fun n hn=>by simp only[evC,hn]⟩
 | .dreg ops,s,Q,h=>by
  obtain⟨s',h1,e1⟩ :=zDm ops [] s _ h;exact⟨.nrm,s',h1,e1.mono fun n hn=>by simp only[evC,hn]⟩
 | .seq a b,s,Q,h=>by
  obtain⟨x,s1,h1,e1⟩ :=ze1 a s _ h;cases x with
  |nrm=>
   obtain⟨x2,s2,h2,e2⟩ :=ze1 b s1 Q h1;exact⟨x2,s2,h2,(e1.and e2).mono fun n ⟨p,q⟩ =>by simp only[evC,p];exact q⟩
  |exit i=>exact⟨.exit i,s1,h1,e1.mono fun n p=>by simp only[evC,p]⟩
  |ret=>exact⟨.ret,s1,h1,e1.mono fun n p=>by simp only[evC,p]⟩
 | .cond x a b,s,Q,h=>by
  unfold wpC at h;split at h
  .rename_i hx;obtain⟨x2,s2,h2,e2⟩ :=ze1 a s Q h;exact⟨x2,s2,h2,e2.mono fun n p=>by simp only[evC,hx];exact p⟩
  .rename_i hx;obtain⟨x2,s2,h2,e2⟩ :=ze1 b s Q h;exact⟨x2,s2,h2,e2.mono fun n p=>by simp only[evC,hx];exact p⟩
  .exact h.elim
 | .blk id c,s,Q,h=>by
  obtain⟨x,s1,h1,e1⟩ :=ze1 c s _ h;cases x with
  |nrm=>exact⟨.nrm,s1,h1,e1.mono fun n p=>by simp only[evC,p]⟩
  |ret=>exact⟨.ret,s1,h1,e1.mono fun n p=>by simp only[evC,p]⟩
  |exit i=>
   by_cases hi:i=id
   .simp only[hi,Z60]at h1;exact⟨.nrm,s1,h1,e1.mono fun n p=>by simp only[evC,p,hi,Z60]⟩
   .simp only[hi,Z63]at h1;exact⟨.exit i,s1,h1,e1.mono fun n p=>by simp only[evC,p,hi,Z63]⟩
 | .loop c,s,Q,h=>by
  obtain⟨x,s',m,h1,e1⟩ :=h;exact⟨x,s',h1,(e1.and (EV.ge m)).mono fun n ⟨p,q⟩ =>by simp only[evC];exact zrJ m n s _ q p⟩
theorem zRC{c:C}{Q:Ex->St->Prop}(I:Nat->St->Prop)(hstep:∀k s,I k s->wpC pr c s fun x s'=>match x with
  | .nrm=>∃k',k'<k/\I k' s'
  |x=>Q x s'):∀(k:Nat) (s:St),I k s->wpC pr (.loop c) s Q:=by
 intro k
 induction k using Nat.strongRecOn with
 |ind k ih=>
  intro s hI;obtain⟨x,s1,hq,ev⟩ :=ze1 c s _ (hstep k s hI);cases x with
  |nrm=>
   obtain⟨k',hlt,hI'⟩ :=hq;obtain⟨x2,s2,m,h2,e2⟩ :=ih k' hlt s1 hI';exact⟨x2,s2,m+1,h2,(ev.and e2).mono fun n ⟨p,q⟩ =>by simp only[iter,p];exact q⟩
  |exit i=>exact⟨.exit i,s1,1,hq,ev.mono fun n p=>by simp only[iter,p]⟩
  |ret=>exact⟨.ret,s1,1,hq,ev.mono fun n p=>by simp only[iter,p]⟩
def st0(args:List D)(h:T Ob)(c:Nat):St:={tm:=zak args 0 .e,h,c,lw:=c,mx:=c}
end
end Go.Vse
end
section
namespace Go.Vse
variable [Globs]
def St.up(s:St)(dst:Option Nat)(d:D):St:={s with tm:=zbX s.tm dst d,mx:=Nat.max s.mx (s.c+1)}
def St.aft(s:St)(dst:Option Nat)(d:D)(wr:List (Nat×Option Ob))(c:Nat):St:=
 {tm:=zbX s.tm dst d,h:=wrT s.h wr,c,lw:=zdL s.lw wr,mx:=Nat.max s.mx (c+1)}
def zsE(t:T D)(i j:Nat)(d:D):(zbX t (some i) d).get j=if j=i then some d else t.get j:=T.zab ..
def zCr(t:T D)(d:D):zbX t none d=t:=rfl
def zbk(s:St)(dst:Option Nat)(d:D):(s.up dst d).tm=zbX s.tm dst d:=rfl
def zcr(s:St)(dst:Option Nat)(d:D):(s.up dst d).h=s.h:=rfl
def zcp(s:St)(dst:Option Nat)(d:D):(s.up dst d).c=s.c:=rfl
def zHc(s:St)(dst:Option Nat)(d:D):(s.up dst d).lw=s.lw:=rfl
def za0(s:St)(dst:Option Nat)(d:D)(wr:List (Nat×Option Ob))(c:Nat):(s.aft dst d wr c).tm=zbX s.tm dst d:=rfl
def zbh(s:St)(dst:Option Nat)(d:D)(wr:List (Nat×Option Ob))(c:Nat):(s.aft dst d wr c).h=wrT s.h wr:=rfl
def zbf(s:St)(dst:Option Nat)(d:D)(wr:List (Nat×Option Ob))(c:Nat):(s.aft dst d wr c).c=c:=rfl
def zBl(s:St)(dst:Option Nat)(d:D)(wr:List (Nat×Option Ob))(c:Nat):(s.aft dst d wr c).lw=zdL s.lw wr:=rfl
section
variable {pr:Pr}{l:List Op}{s:St}{Q:St->Prop}{dst:Option Nat}
theorem zxW{o:O A}{o':O D}(hr:o.res (zae s.tm)=some o')(hk:kindOf o'= .n){r:Rs}(hv:opv s.h.get s.c o'=some r)(hw:zas r.c r.wr=true)
  {R:St->Fp->Prop}(h:R (s.aft dst r.d r.wr r.c) {all:=false,rd:=r.rd,wr:=r.wr.map (·.1),lo:=s.c,hi:=r.c+1,h:=s.h,h':=wrT s.h r.wr}):
  zbl pr ⟨dst,none,o⟩ s R:=by
 simp only[zbl,zbQ,hr,hk,hv,zc0,zcw,hw];exact h
theorem wpO_n{o:O A}{o':O D}(hr:o.res (zae s.tm)=some o')(hk:kindOf o'= .n){r:Rs}(hv:opv s.h.get s.c o'=some r)(hw:zas r.c r.wr=true)
  (h:wpO pr l (s.aft dst r.d r.wr r.c) Q):wpO pr (⟨dst,none,o⟩ ::l) s Q:=zxW hr hk hv hw h
def zBh{o:O A}{o':O D}{d:D}{rd:List Nat}(hr:o.res (zae s.tm)=some o')(hk:kindOf o'= .n)(hv:opv s.h.get s.c o'=some {d,rd,c:=s.c})
  (h:wpO pr l (s.up dst d) Q):wpO pr (⟨dst,none,o⟩ ::l) s Q:=zxW hr hk hv rfl h
def zRA{q x y:A}(h:∃b d e,zae s.tm q=some (.f (.b b))/\zae s.tm x=some d/\zae s.tm y=some e/\wpO pr l (s.up dst (if b then d else e)) Q):wpO pr (⟨dst,none,.pick q x y⟩ ::l) s Q:=by
 obtain⟨b,d,e,h1,h2,h3,h⟩ :=h;exact zBh (o':= .pick (.f (.b b)) d e) (rd:=[]) (by simp[O.res,h1,h2,h3]) rfl rfl h
def w_bin{op:BinOp}{x y:A}(h:∃a b,zae s.tm x=some (.f a)/\zae s.tm y=some (.f b)/\∃z,zaK op a b=some z/\wpO pr l (s.up dst (.f z)) Q):wpO pr (⟨dst,none,.bin op x y⟩ ::l) s Q:=by
 obtain⟨a,b,h1,h2,z,h3,h⟩ :=h;exact zBh (o':= .bin op (.f a) (.f b)) (rd:=[]) (by simp[O.res,h1,h2]) rfl (by simp[opv,h3,okF]) h
def w_not{x:A}(h:∃b,zae s.tm x=some (.f (.b b))/\wpO pr l (s.up dst (.f (.b !b))) Q):wpO pr (⟨dst,none,.un .not x⟩ ::l) s Q:=by
 obtain⟨b,h1,h⟩ :=h;exact zBh (o':= .un .not (.f (.b b))) (rd:=[]) (by simp[O.res,h1]) rfl rfl h
def faB(off:Nat):D->Option D
 | .ptr id es i j=>some (.ptr id es i (j+off))
 | .fptr cs=>some (.fptr (cs.drop off))
 |_=>none
def iaB(es:Nat)(x:D)(i:Nat):Option D:=
 match x with
 | .f (.sl es' els)=>if es=es' then(els[i]?).map D.fptr else none
 | .sl id off m es' _ _=>if es=es'/\i<m then some (.ptr id es (off+i) 0)else none
 |_=>none
theorem zKX{f:Nat}{args:List A}(h:∃ds,zat (zae s.tm) args=some ds/\∃fs rd,zbU s.h.get ds=some (fs,rd)/\∃x,Ans pr f fs x/\zas s.c (zau s.h.get rd)=true/\wpO pr l (s.aft dst x.d (zau s.h.get rd) s.c) Q):
  wpO pr (⟨dst,none,.callp f args⟩ ::l) s Q:=by
 obtain⟨ds,h1,fs,rd,h2,x,h3,h4,h⟩ :=h;simp only[wpO,zbl,zbQ,O.res,h1,Z47,Z46,kindOf,h2];refine⟨x,h3,?_⟩;simp only[zc0,zcw,h4];exact h
def St.cal(s:St)(dst:Option Nat)(q:CR):St:={tm:=zbX s.tm dst q.d,h:=q.h,c:=q.c,lw:=Nat.min s.lw q.lw,mx:=Nat.max s.mx q.mx}
def zRz{f:Nat}{args:List A}(h:∃ds,zat (zae s.tm) args=some ds/\∃q,Con pr f ds s.h s.c q/\wpO pr l (s.cal dst q) Q):wpO pr (⟨dst,none,.call f args⟩ ::l) s Q:=by
 obtain⟨ds,h1,q,h2,h⟩ :=h;simp only[wpO,zbl,zbQ,O.res,h1,Z47,Z46,kindOf];exact⟨q,h2,h⟩
def zLR{x:A}{a b:C}{Q:Ex->St->Prop}(h:∃t,zae s.tm x=some (.f (.b t))/\(if t then wpC pr a s Q else wpC pr b s Q)):wpC pr (.cond x a b) s Q:=by
 obtain⟨t,h1,h⟩ :=h;unfold wpC;rw[h1];cases t<;>simpa using h
def zLV{Q:Ex->St->Prop}:wpC pr .skip s Q=Q .nrm s:=rfl
def zLT{id:Nat}{Q:Ex->St->Prop}:wpC pr (.exit id) s Q=Q (.exit id) s:=rfl
def c_ret{Q:Ex->St->Prop}:wpC pr .ret s Q=Q .ret s:=rfl
def zPC(t:T D)(n:Nat):zae t (.t n)=t.get n:=rfl
def zPx(t:T D)(x:F):zae t (.k x)=some x.d:=rfl
def zHS(a b:Int):zaK .lss (.i .i64 a) (.i .i64 b)=some (.b (decide (a<b))):=rfl
def zHR(a b:Int):zaK .leq (.i .i64 a) (.i .i64 b)=some (.b (decide (a<=b))):=rfl
def zHO(a b:Int):zaK .geq (.i .i64 a) (.i .i64 b)=some (.b (decide (a≥b))):=rfl
def zHP(a b:Int):zaK .gtr (.i .i64 a) (.i .i64 b)=some (.b (decide (a>b))):=rfl
def zHL(a b:Int):zaK .eql (.i .i64 a) (.i .i64 b)=some (.b (a==b)):=rfl
def zHT(a b:Int):zaK .neq (.i .i64 a) (.i .i64 b)=some (.b (a != b)):=rfl
def zHJ(a b:Int):zaK .add (.i .i64 a) (.i .i64 b)=some (.i .i64 (IntKind.i64.wrap (a+b))):=rfl
def zH0(a b:Int):zaK .sub (.i .i64 a) (.i .i64 b)=some (.i .i64 (IntKind.i64.wrap (a - b))):=rfl
def zHV(a b:Int)(h:b≠0):zaK .rem (.i .i64 a) (.i .i64 b)=some (.i .i64 (a.tmod b)):=by
 simp[zaK,zuo,Go.binOp,Go.Op.intDiv,h,ziX];rfl
def zHU(a b:Int)(h:b≠0):zaK .quo (.i .i64 a) (.i .i64 b)=some (.i .i64 (IntKind.i64.wrap (a.tdiv b))):=by
 simp[zaK,zuo,Go.binOp,Go.Op.intDiv,h,ziX];rfl
end
end Go.Vse
end
section
namespace Go.Vse
variable [Globs]
open Go.RowKit
section
variable {P:Program}{pur:Nat->Bool}{pr:Pr}
def zgS:Mu:=fun _ _=>False
def zrt(H:Array Obj):Prop:=∀n cs,Globs.data n=some cs->za1 H zgS n 0 cs
def zBi:zal zgS (T.e:T Ob).get (fun _=>none)=zgS:=by
 rw[zgj,zfv]
def sim_e(H:Array Obj)(hg:zrt H):Sim zgS H (T.e:T Ob).get (fun _=>none) (fun _=>False):=
 ⟨fun id ob h=>by simp[T.zAn]at h,fun id b h=>by simp at h,fun id id' b h=>by simp at h,fun id b i h=>by simp at h,fun id ob h=>by simp[T.zAn]at h,fun b i h=>h.elim,fun n cs h=>by rw[zBi];exact hg n cs h⟩
theorem land(hp:zmb P pur pr){f:Nat}{fs:List F}{vs:List Value}{w:World}(hgl:zrt w.heap)(hrel:zaM w.heap zgS fs vs){q:CR}(hc:Con pr f (F.dL fs) .e 0 q){b:Bool}(hd:q.d= .f (.b b)):
  Calls P f ⟨vs⟩ w fun e w'=>e= .returned (.bool b)/\Below w.heap.size w w':=by
 obtain⟨N,hN⟩ :=hc;have ok:=zfj hp N f _ _ _ _ (hN N (Z2 _));obtain⟨_,_,_,h⟩ :=ok;have hargs:zaq w.heap (zal zgS (T.e:T Ob).get (fun _=>none)) (fun _=>none) (fun _=>False) (F.dL fs) vs:=by
  rw[zBi];exact zaM.dL fs vs hrel
 refine (h zgS (fun _=>none) (fun _=>False) w vs (sim_e _ hgl) (fun id _ _ h=>h) hargs).mono fun e w' ⟨v,he,hb,ρ',hr,_,hev⟩ => ?_
 rw[hd]at hr;simp only[Rel,zaj]at hr;subst hr;subst he;exact⟨rfl,hb.os,hb.tape,hb.output,hev.size,fun k hk=>(hev.blk k hk fun id h=>by simp at h).1⟩
theorem zqV{H:Array Obj}{b:Nat}{k:IntKind}:∀(zs:List Int) (o:Nat),(∀i,i<zs.length->zbn H b (o+i)=some (.int k (zs.getD i 0)))->za1 H zgS b o (zs.map fun z=> .i k z)
 |[],_,_=>by simp only[Z85,za1]
 |z::zs,o,h=>by
  simp only[Z10,za1,zaj];refine⟨⟨fun h=>h,_,?_,rfl,rfl⟩,zqV zs (o+1) fun i hi=> ?_⟩
  .have:=h 0 (by simp);simpa using this
  .have:=h (i+1) (by simp;omega);rw[show o+(i+1)=o+1+i by omega]at this;simpa using this
def zsH{w:World}{g:Nat}{k:IntKind}{zs:List Int}(h:∀i,i<zs.length->w.cell? ⟨g,i,none⟩ =some (.int k (zs.getD i 0))):za1 w.heap zgS g 0 (zs.map fun z=> .i k z):=
 zqV zs 0 fun i hi=>by rw[Z25,<-zlM];exact h i hi
def zpG(k:IntKind)(isNil:Bool)(len:Nat)(zs:List Int):F:=if isNil then .nils else .sl 1 ((zs.take len).map fun z=>[.i k z])
theorem zqW{H:Array Obj}{b:Nat}{k:IntKind}:∀(zs:List Int) (o:Nat),(∀i,i<zs.length->zbn H b (o+i)=some (.int k (zs.getD i 0)))->zb7 H zgS b 1 o (zs.map fun z=>[.i k z])
 |[],_,_=>by simp only[Z85,zb7]
 |z::zs,o,h=>by
  simp only[Z10,zb7,List.length_singleton,za1,zaj];refine⟨trivial,⟨⟨fun h=>h,_,?_,rfl,rfl⟩,trivial⟩,zqW zs (o+1) fun i hi=> ?_⟩
  .have:=h 0 (by simp);simpa using this
  .have:=h (i+1) (by simp;omega);rw[show o+(i+1)=o+1+i by omega]at this;simpa using this
theorem zJH{w:World}{k:IntKind}{a:Option Addr}{len cap:Nat}{zs:List Int}
  (h:(a=none/\len=0/\cap=0/\zs=[])\/∃x,a=some x/\len<=cap/\zs.length=cap/\(∀i,i<zs.length->w.cell? (x.add i)=some (.int k (zs.getD i 0)))):
  zaj w.heap zgS (zpG k a.isNone len zs) (.slice a len cap):=by
 rcases h with⟨rfl,rfl,rfl,rfl⟩ |⟨x,rfl,hl,hz,hc⟩
 .simp only[zpG,Option.isNone_none,Z60,zaj]
 .have hlen:((zs.take len).map fun z=>[F.i k z]).length=len:=by simp;omega
  have e:zpG k (some x).isNone len zs= .sl 1 ((zs.take len).map fun z=>[.i k z]):=by simp[zpG]
  rw[e];simp only[zaj];rw[hlen];have hx:len≠0->x=⟨x.block,x.off,none⟩ :=by
   intro hne;have h0:=hc 0 (by omega);obtain⟨b,o,sp⟩ :=x;cases sp with
   |none=>rfl
   |some s=>
    simp only[World.cell?,Addr.add]at h0;split at h0<;>simp at h0
  refine⟨x,cap,rfl,hl,x.block,x.off,fun hne=>hx (fun e0=>hne (by simp[e0])),?_⟩
  by_cases hne:len=0
  .subst hne;simp only[Z173,Z85,zb7]
  .refine zqW _ _ fun i hi=> ?_
   have hi':i<len:=by simp at hi;omega
   have h1:=hc i (by omega);rw[hx hne]at h1;have h2:(⟨x.block,x.off,none⟩ :Addr).add i=⟨x.block,x.off+i,none⟩ :=zcM _ _ _;rw[h2,zlM]at h1;rw[h1]
   congr 2
   simp only[Z48,Z75,hi',Z60]
end
end Go.Vse
end
section
namespace Go.Vse
variable [Globs]
def zkC(orc:Orc)(pr:Pr)(n f:Nat)(fs:List F):Option F:=
 match zta orc pr n f (F.dL fs) .e 0 with
 |none=>none
 |some q=>match frz q.h.gk 12 q.d with
  |some (x,_)=>some x
  |none=>none
def zgn{orc:Orc}{pr:Pr}(ho:ziO pr orc){n f:Nat}{fs:List F}{x:F}(h:zkC orc pr n f fs=some x):Ans pr f fs x:=by
 unfold zkC at h;split at h
 .cases h
 .rename_i q hq;split at h
  .rename_i y rd hy;cases h;rw[znB]at hy;exact⟨q,rd,zuC ho n _ _ _ _ _ hq,hy⟩
  .cases h
def zEF:Orc:=fun _ _=>none
def ziy(pr:Pr):ziO pr zEF:=fun _ _ _ h=>by cases h
end Go.Vse
end
section
namespace Go.Vse
variable [Globs]
section
variable {pr:Pr}{l:List Op}{s:St}{Q:St->Prop}{dst:Option Nat}
theorem zd2{o:O A}{o':O D}(hr:o.res (zae s.tm)=some o')(hk:kindOf o'= .n):
  wpO pr (⟨dst,none,o⟩ ::l) s Q↔∃r,opv s.h.get s.c o'=some r/\zas r.c r.wr=true/\wpO pr l (s.aft dst r.d r.wr r.c) Q:=by
 constructor
 .intro h;simp only[wpO,zbl,zbQ,hr,hk]at h;unfold zc0 at h;split at h
  .rename_i s' p hs;cases hv:opv s.h.get s.c o' with
   |none=>rw[hv]at hs;cases hs
   |some r=>
    rw[hv]at hs;simp only[zcw]at hs;cases hw:zas r.c r.wr with
    |false=>rw[hw]at hs;cases hs
    |true=>
     rw[hw]at hs;simp only[Z89,cond_false,Z45,Z66]at hs;obtain⟨rfl,rfl⟩ :=hs;exact⟨r,rfl,hw,h⟩
  .exact h.elim
 .rintro⟨r,hv,hw,h⟩;exact wpO_n hr hk hv hw h
def zdu{o:O A}(hr:o.res (zae s.tm)=none):wpO pr (⟨dst,none,o⟩ ::l) s Q↔False:=by
 simp[wpO,zbl,zbQ,hr]
def zhL(d:D):s.aft dst d [] s.c=s.up dst d:=rfl
def x_nil:wpO pr [] s Q↔Q s:=Iff.rfl
def x_mv{x:A}:wpO pr (⟨dst,none,.mv x⟩ ::l) s Q↔∃d,zae s.tm x=some d/\wpO pr l (s.up dst d) Q:=by
 cases hx:zae s.tm x with
 |none=>rw[zdu (by simp[O.res,hx])];simp
 |some d=>rw[zd2 (o':= .mv d) (by simp[O.res,hx]) rfl];simp[opv,okD,zas,zhL]
def zRJ{q x y:A}:wpO pr (⟨dst,none,.pick q x y⟩ ::l) s Q↔∃b,zae s.tm q=some (.f (.b b))/\∃d,zae s.tm x=some d/\∃e,zae s.tm y=some e/\wpO pr l (s.up dst (if b then d else e)) Q:=by
 constructor
 .intro h;cases hq:zae s.tm q with
  |none=>exact ((zdu (by simp[O.res,hq])).1 h).elim
  |some z=>
   cases hx:zae s.tm x with
   |none=>exact ((zdu (by simp[O.res,hq,hx])).1 h).elim
   |some d=>
    cases hy:zae s.tm y with
    |none=>exact ((zdu (by simp[O.res,hq,hx,hy])).1 h).elim
    |some e=>
     obtain⟨r,hv,_,h⟩ :=(zd2 (o':= .pick z d e) (by simp[O.res,hq,hx,hy]) rfl).1 h;cases z with
     |f z=>
      cases z with
      |b b=>simp only[opv,okD,Z45]at hv;subst hv;exact⟨b,rfl,d,rfl,e,rfl,h⟩
      |_=>simp[opv]at hv
     |_=>simp[opv]at hv
 .rintro⟨b,h1,d,h2,e,h3,h⟩;exact zRA ⟨b,d,e,h1,h2,h3,h⟩
def x_ld{g:Bool}{n:Nat}{x:A}:wpO pr (⟨dst,none,.ld g n x⟩ ::l) s Q↔∃p,zae s.tm x=some p/\∃y,zc3 g n s.h.get p=some y/\wpO pr l (s.up dst y.1) Q:=by
 cases hx:zae s.tm x with
 |none=>rw[zdu (by simp[O.res,hx])];simp
 |some p=>
  rw[zd2 (o':= .ld g n p) (by simp[O.res,hx]) rfl];cases hl:zc3 g n s.h.get p with
  |none=>simp[opv,hl]
  |some y=>obtain⟨d,rd⟩ :=y;simp[opv,hl,zas,zhL]
def x_bin{op:BinOp}{x y:A}:wpO pr (⟨dst,none,.bin op x y⟩ ::l) s Q↔∃a,zae s.tm x=some (.f a)/\∃b,zae s.tm y=some (.f b)/\∃z,zaK op a b=some z/\wpO pr l (s.up dst (.f z)) Q:=by
 constructor
 .intro h;cases hx:zae s.tm x with
  |none=>exact ((zdu (by simp[O.res,hx])).1 h).elim
  |some d=>
   cases hy:zae s.tm y with
   |none=>exact ((zdu (by simp[O.res,hx,hy])).1 h).elim
   |some e=>
    obtain⟨r,hv,_,h⟩ :=(zd2 (o':= .bin op d e) (by simp[O.res,hx,hy]) rfl).1 h;cases d with
    |f a=>
     cases e with
     |f b=>
      cases hz:zaK op a b with
      |none=>simp[opv,hz]at hv
      |some z=>simp only[opv,hz,okF,Z45]at hv;subst hv;exact⟨a,rfl,b,rfl,z,hz,h⟩
     |_=>simp[opv]at hv
    |_=>simp[opv]at hv
 .rintro⟨a,h1,b,h2,z,h3,h⟩;exact w_bin ⟨a,b,h1,h2,z,h3,h⟩
def x_not{x:A}:wpO pr (⟨dst,none,.un .not x⟩ ::l) s Q↔∃b,zae s.tm x=some (.f (.b b))/\wpO pr l (s.up dst (.f (.b !b))) Q:=by
 constructor
 .intro h;cases hx:zae s.tm x with
  |none=>exact ((zdu (by simp[O.res,hx])).1 h).elim
  |some d=>
   obtain⟨r,hv,_,h⟩ :=(zd2 (o':= .un .not d) (by simp[O.res,hx]) rfl).1 h;cases d with
   |f z=>
    cases z with
    |b b=>simp only[opv,okF,Z45]at hv;subst hv;exact⟨b,rfl,h⟩
    |i k n=>simp[opv,ziX,Go.Op.unary,Go.stuck]at hv
    |_=>simp[opv]at hv
   |_=>simp[opv]at hv
 .rintro⟨b,h1,h⟩;exact w_not ⟨b,h1,h⟩
def x_len{x:A}:wpO pr (⟨dst,none,.len x⟩ ::l) s Q↔∃v,zae s.tm x=some v/\∃n,zci v=some n/\wpO pr l (s.up dst (.f (.i .i64 n))) Q:=by
 cases hx:zae s.tm x with
 |none=>rw[zdu (by simp[O.res,hx])];simp
 |some v=>
  rw[zd2 (o':= .len v) (by simp[O.res,hx]) rfl];cases hl:zci v with
  |none=>simp[opv,hl]
  |some n=>simp[opv,hl,okF,zas,zhL]
def x_fa{off:Nat}{x:A}:wpO pr (⟨dst,none,.fa off x⟩ ::l) s Q↔∃v,zae s.tm x=some v/\∃d,faB off v=some d/\wpO pr l (s.up dst d) Q:=by
 cases hx:zae s.tm x with
 |none=>rw[zdu (by simp[O.res,hx])];simp
 |some v=>
  rw[zd2 (o':= .fa off v) (by simp[O.res,hx]) rfl];cases v<;>simp[opv,faB,okD,zas,zhL]
def x_ext{x:A}{i:Nat}:wpO pr (⟨dst,none,.ext x i⟩ ::l) s Q↔∃cs,zae s.tm x=some (.tu cs)/\∃d,cs[i]? =some d/\wpO pr l (s.up dst d) Q:=by
 cases hx:zae s.tm x with
 |none=>rw[zdu (by simp[O.res,hx])];simp
 |some v=>
  rw[zd2 (o':= .ext v i) (by simp[O.res,hx]) rfl];cases v with
  |tu cs=>
   cases hc:cs[i]? with
   |none=>simp[opv,hc]
   |some d=>simp[opv,hc,okD,zas,zhL]
  |_=>simp[opv]
def x_box{x:A}:wpO pr (⟨dst,none,.box x⟩ ::l) s Q↔∃d,zae s.tm x=some d/\∃cs,d.cells=some cs/\wpO pr l (s.aft dst (.ptr s.c cs.length 0 0) [(s.c,some (.arr cs.length 0 [cs]))] (s.c+1)) Q:=by
 cases hx:zae s.tm x with
 |none=>rw[zdu (by simp[O.res,hx])];simp
 |some d=>
  rw[zd2 (o':= .box d) (by simp[O.res,hx]) rfl];cases hc:d.cells with
  |none=>simp[opv,hc]
  |some cs=>simp[opv,hc,zas,Z79]
def x_new{cs:List F}:wpO pr (⟨dst,none,.new cs⟩ ::l) s Q↔wpO pr l (s.aft dst (.ptr s.c cs.length 0 0) [(s.c,some (.arr cs.length 0 [cs.map D.f]))] (s.c+1)) Q:=by
 rw[zd2 (o':= .new cs) rfl rfl];simp[opv,zas,Z79]
def x_st{n:Nat}{x v:A}:wpO pr (⟨dst,none,.st n x v⟩ ::l) s Q↔∃p,zae s.tm x=some p/\∃d,zae s.tm v=some d/\∃y,zd7 n s.h.get p d=some y/\y.1<s.c/\wpO pr l (s.aft dst (.f .un) [(y.1,some y.2)] s.c) Q:=by
 cases hx:zae s.tm x with
 |none=>rw[zdu (by simp[O.res,hx])];simp
 |some p=>
  cases hv:zae s.tm v with
  |none=>rw[zdu (by simp[O.res,hx,hv])];simp
  |some d=>
   rw[zd2 (o':= .st n p d) (by simp[O.res,hx,hv]) rfl];cases hs:zd7 n s.h.get p d with
   |none=>simp[opv,hs]
   |some y=>
    obtain⟨id,ob⟩ :=y;simp[opv,hs,zas,Z79];exact⟨fun h=>⟨id,ob,⟨rfl,rfl⟩,h⟩,fun⟨_,_,⟨e1,e2⟩,h⟩ =>by subst e1 e2;exact h⟩
def x_ia{es:Nat}{x i:A}:wpO pr (⟨dst,none,.ia es x i⟩ ::l) s Q↔∃v,zae s.tm x=some v/\∃w,zae s.tm i=some w/\∃n,zbv w=some n/\∃d,iaB es v n=some d/\wpO pr l (s.up dst d) Q:=by
 cases hx:zae s.tm x with
 |none=>rw[zdu (by simp[O.res,hx])];simp
 |some v=>
  cases hy:zae s.tm i with
  |none=>rw[zdu (by simp[O.res,hx,hy])];simp
  |some w=>
   rw[zd2 (o':= .ia es v w) (by simp[O.res,hx,hy]) rfl];cases hn:zbv w with
   |none=>simp[opv,hn]
   |some n=>
    cases v with
    |f z=>
     cases z with
     |sl es' els=>
      by_cases he:es=es'
      .subst he;cases hel:els[n]? with
       |none=>simp[opv,hn,iaB,hel]
       |some el=>simp[opv,hn,iaB,hel,okD,zas,zhL]
      .simp[opv,hn,iaB,he]
     |_=>simp[opv,hn,iaB]
    |sl id off m es' lim ex=>
     by_cases he:es=es'/\n<m
     .simp[opv,hn,iaB,he,okD,zas,zhL]
     .simp[opv,hn,iaB,he]
    |_=>simp[opv,hn,iaB]
def fnD(f:Nat):List D->D
 |[]=> .f (.fn f)
 |y=> .fn f [] y
def x_mkf{f:Nat}{b:List A}:wpO pr (⟨dst,none,.mkf f [] b⟩ ::l) s Q↔∃y,zat (zae s.tm) b=some y/\wpO pr l (s.up dst (fnD f y)) Q:=by
 cases hy:zat (zae s.tm) b with
 |none=>rw[zdu (by simp[O.res,zat,hy])];simp
 |some y=>
  rw[zd2 (o':= .mkf f [] y) (by simp[O.res,zat,hy]) rfl];cases y<;>simp[opv,okD,okF,zas,zhL,fnD]
def x_bld{z:List F}{ps:List (Nat×Nat×A)}:wpO pr (⟨dst,none,.bld z ps⟩ ::l) s Q↔∃qs,zat (fun(p:Nat×Nat×A)=>(zae s.tm p.2.2).map fun d=>(p.1,p.2.1,d)) ps=some qs/\∃cs,zdH (z.map D.f) qs=some cs/\wpO pr l (s.up dst (.ag cs)) Q:=by
 have e:zat (fun(p:Nat×Nat×A)=>(zae s.tm p.2.2).map fun d=>(p.1,p.2.1,d)) ps=zat (fun x=>match x with|(o,n,x)=>do some (o,n,<-zae s.tm x)) ps:=by
  congr 1
  funext p
  obtain⟨o,n,x⟩ :=p;simp only;cases zae s.tm x<;>rfl
 rw[e];cases hq:zat (fun x=>match x with|(o,n,x)=>do some (o,n,<-zae s.tm x)) ps with
 |none=>rw[zdu (by simp only[O.res];rw[hq];rfl)];simp
 |some qs=>
  rw[zd2 (o':= .bld z qs) (by simp only[O.res];rw[hq];rfl) rfl];cases hf:zdH (z.map D.f) qs with
  |none=>simp[opv,hf]
  |some cs=>simp[opv,hf,okD,zas,zhL]
def zK7{f:Nat}{args:List A}:wpO pr (⟨dst,none,.callp f args⟩ ::l) s Q↔∃ds,zat (zae s.tm) args=some ds/\∃y,zbU s.h.get ds=some y/\∃x,Ans pr f y.1 x/\zas s.c (zau s.h.get y.2)=true/\wpO pr l (s.aft dst x.d (zau s.h.get y.2) s.c) Q:=by
 constructor
 .intro h;simp only[wpO,zbl,zbQ,O.res,Z47]at h;cases hm:zat (zae s.tm) args with
  |none=>simp[hm]at h
  |some ds=>
   simp only[hm,Z46,kindOf]at h;cases hf:zbU s.h.get ds with
   |none=>simp[hf]at h
   |some y=>
    obtain⟨fs,rd⟩ :=y;simp only[hf]at h;obtain⟨x,h1,h2⟩ :=h;refine⟨ds,rfl,(fs,rd),hf,x,h1,?_⟩;unfold zc0 at h2;simp only[zcw]at h2;cases hw:zas s.c (zau s.h.get rd)with
    |false=>simp[hw]at h2
    |true=>simp only[hw,Z89,cond_false]at h2;exact⟨rfl,h2⟩
 .rintro⟨ds,h1,⟨fs,rd⟩,h2,x,h3,h4,h⟩;exact zKX ⟨ds,h1,fs,rd,h2,x,h3,h4,h⟩
def zRH{f:Nat}{args:List A}:wpO pr (⟨dst,none,.call f args⟩ ::l) s Q↔∃ds,zat (zae s.tm) args=some ds/\∃q,Con pr f ds s.h s.c q/\wpO pr l (s.cal dst q) Q:=by
 constructor
 .intro h;simp only[wpO,zbl,zbQ,O.res,Z47]at h;cases hm:zat (zae s.tm) args with
  |none=>simp[hm]at h
  |some ds=>
   simp only[hm,Z46,kindOf]at h;obtain⟨q,h1,h2⟩ :=h;exact⟨ds,rfl,q,h1,h2⟩
 .rintro⟨ds,h1,q,h2,h⟩;exact zRz ⟨ds,h1,q,h2,h⟩
def zRI{x:A}{a b:C}{Q:Ex->St->Prop}:wpC pr (.cond x a b) s Q↔∃t,zae s.tm x=some (.f (.b t))/\(if t then wpC pr a s Q else wpC pr b s Q):=by
 constructor
 .intro h;unfold wpC at h;split at h
  .rename_i hx;exact⟨true,hx,by simpa using h⟩
  .rename_i hx;exact⟨false,hx,by simpa using h⟩
  .exact h.elim
 .exact zLR
end
end Go.Vse
end
section
namespace Go.Vse
variable [Globs]
def oB{α:Type}(o:Option α)(k:α->Prop):Prop:=
 match o with
 |some a=>k a
 |none=>False
@[congr] theorem oB_congr{α:Type}{o o':Option α}{k:α->Prop}(h:o=o'):oB o k=oB o' k:=by rw[h]
def zJs{α:Type}(a:α)(k:α->Prop):oB (some a) k=k a:=rfl
def zfM{α:Type}(o:Option α)(k:α->Prop):(∃a,o=some a/\k a)↔oB o k:=by
 cases o with
 |none=>simp[oB]
 |some a=>simp[oB]
def asB:D->Option Bool
 | .f (.b b)=>some b
 |_=>none
def asF:D->Option F
 | .f x=>some x
 |_=>none
def zyB:D->Option (List D)
 | .tu cs=>some cs
 |_=>none
def zuE(o:Option D)(k:Bool->Prop):(∃b,o=some (.f (.b b))/\k b)↔oB (o.bind asB) k:=by
 cases o with
 |none=>simp[oB]
 |some d=>
  cases d with
  |f x=>cases x<;>simp[oB,asB]
  |_=>simp[oB,asB]
def zB5(o:Option D)(k:F->Prop):(∃b,o=some (.f b)/\k b)↔oB (o.bind asF) k:=by
 cases o with
 |none=>simp[oB]
 |some d=>cases d<;>simp[oB,asF]
def zIs(o:Option D)(k:List D->Prop):(∃b,o=some (.tu b)/\k b)↔oB (o.bind zyB) k:=by
 cases o with
 |none=>simp[oB]
 |some d=>cases d<;>simp[oB,zyB]
def asB_b(b:Bool):asB (.f (.b b))=some b:=rfl
def asF_f(x:F):asF (.f x)=some x:=rfl
def zHz(cs:List D):zyB (.tu cs)=some cs:=rfl
theorem znG{f:D->Option (F×List Nat)}(hf:∀d x rd,d.isF=true->f d=some (x,rd)->rd=[]):∀(ds:List D) (xs:List F) (rd:List Nat),D.zh4 ds=true->zaT f ds=some (xs,rd)->rd=[]
 |[],xs,rd,_,h=>by simp[zaT]at h;exact h.2
 |d::ds,xs,rd,hi,h=>by
  simp only[D.zh4,Z14]at hi;unfold zaT at h;split at h
  .cases h
  .rename_i x r hx;split at h
   .cases h
   .rename_i m r' hm;simp only[Z45,Z66]at h;rw[<-h.2,hf d x r hi.1 hx,znG hf ds m r' hi.2 hm];rfl
theorem zos{h:Nat->Option Ob}:∀(k:Nat) (d:D) (x:F) (rd:List Nat),d.isF=true->frz h k d=some (x,rd)->rd=[]
 |0,_,_,_,_,h=>by simp[frz]at h
 |k+1,d,x,rd,hi,hf=>by
  unfold frz at hf;split at hf
  .simp at hf;exact hf.2
  .split at hf
   .rename_i l r hm;simp only[Z45,Z66]at hf;rw[<-hf.2];exact znG (zos k) _ _ _ hi hm
   .cases hf
  .split at hf
   .rename_i l r hm;simp only[Z45,Z66]at hf;rw[<-hf.2];exact znG (zos k) _ _ _ hi hm
   .cases hf
  .simp[D.isF]at hi
  .cases hf
def zuB(res:List Rv)(y:F)(x:Ex)(s:St):Prop:=
 (match x with| .exit _=>False|_=>True)/\∃d,resD s res=some d/\∃rd,frz s.h.get 12 d=some (y,rd)
def zK1{pr:Pr}{c:C}{s:St}{Q:Ex->St->Prop}{f:Nat}{fn:Fn}(hf:pr.fn f=some fn){fs:List F}{y:F}(hb:fn.body=c)(hs:s=st0 (F.dL fs) .e 0)(hQ:Q=zuB fn.res y)(hw:wpC pr c s Q):Ans pr f fs y:=by
 subst hb hs hQ;obtain⟨x,s,⟨hx,d,hd,rd,hz⟩,ev⟩ :=ze1 _ _ _ hw;refine⟨if Nat.beq s.lw 0&&d.isF then ⟨d,.e,0,0,s.mx⟩else ⟨d,s.h,s.c,s.lw,s.mx⟩,rd,?_,?_⟩
 .have key:EV fun m=>zfd (evC (zbW pr m) m) fn (F.dL fs) .e 0=some (if Nat.beq s.lw 0&&d.isF then ⟨d,.e,0,0,s.mx⟩else ⟨d,s.h,s.c,s.lw,s.mx⟩):=by
   refine ev.mono fun m hm=> ?_
   unfold zfd;unfold st0 at hm;rw[hm];cases x with
   |exit i=>exact hx.elim
   |nrm=>simp only[hd];split<;>rfl
   |ret=>simp only[hd];split<;>rfl
  obtain⟨N,hN⟩ :=key;refine⟨N+1,fun m hm=> ?_⟩;obtain⟨m,rfl⟩ :∃m',m=m'+1:=⟨m - 1,by omega⟩
  simp only[zbW,hf];exact hN m (by omega)
 .split
  .rename_i hb;simp only[Z14]at hb;have hr:=zos 12 d y rd hb.2 hz;subst hr;exact zhr 12 d y [] hz fun id hid=>by simp at hid
  .exact hz
def zcf{pr:Pr}{f:Nat}{fn:Fn}(hf:pr.fn f=some fn){fs:List F}{y:F}(hw:wpC pr fn.body (st0 (F.dL fs) .e 0) (zuB fn.res y)):Ans pr f fs y:=
 zK1 hf rfl rfl rfl hw
section
variable {pr:Pr}{l:List Op}{s:St}{Q:St->Prop}{dst:Option Nat}
def y_mv{x:A}:wpO pr (⟨dst,none,.mv x⟩ ::l) s Q↔oB (zae s.tm x) fun d=>wpO pr l (s.up dst d) Q:=by rw[x_mv,zfM]
def zRP{q x y:A}:wpO pr (⟨dst,none,.pick q x y⟩ ::l) s Q↔oB ((zae s.tm q).bind asB) fun b=>oB (zae s.tm x) fun d=>oB (zae s.tm y) fun e=>wpO pr l (s.up dst (if b then d else e)) Q:=by
 rw[zRJ,zuE];simp only[zfM]
def y_ld{g:Bool}{n:Nat}{x:A}:wpO pr (⟨dst,none,.ld g n x⟩ ::l) s Q↔oB (zae s.tm x) fun p=>oB (zc3 g n s.h.get p) fun y=>wpO pr l (s.up dst y.1) Q:=by rw[x_ld];simp only[zfM]
def y_bin{op:BinOp}{x y:A}:wpO pr (⟨dst,none,.bin op x y⟩ ::l) s Q↔oB ((zae s.tm x).bind asF) fun a=>oB ((zae s.tm y).bind asF) fun b=>oB (zaK op a b) fun z=>wpO pr l (s.up dst (.f z)) Q:=by
 rw[x_bin,zB5];simp only[zB5,zfM]
def y_not{x:A}:wpO pr (⟨dst,none,.un .not x⟩ ::l) s Q↔oB ((zae s.tm x).bind asB) fun b=>wpO pr l (s.up dst (.f (.b !b))) Q:=by rw[x_not,zuE]
def y_len{x:A}:wpO pr (⟨dst,none,.len x⟩ ::l) s Q↔oB (zae s.tm x) fun v=>oB (zci v) fun n=>wpO pr l (s.up dst (.f (.i .i64 n))) Q:=by rw[x_len];simp only[zfM]
def y_fa{off:Nat}{x:A}:wpO pr (⟨dst,none,.fa off x⟩ ::l) s Q↔oB (zae s.tm x) fun v=>oB (faB off v) fun d=>wpO pr l (s.up dst d) Q:=by rw[x_fa];simp only[zfM]
def y_ext{x:A}{i:Nat}:wpO pr (⟨dst,none,.ext x i⟩ ::l) s Q↔oB ((zae s.tm x).bind zyB) fun cs=>oB cs[i]? fun d=>wpO pr l (s.up dst d) Q:=by rw[x_ext,zIs];simp only[zfM]
def y_box{x:A}:wpO pr (⟨dst,none,.box x⟩ ::l) s Q↔oB (zae s.tm x) fun d=>oB d.cells fun cs=>wpO pr l (s.aft dst (.ptr s.c cs.length 0 0) [(s.c,some (.arr cs.length 0 [cs]))] (s.c+1)) Q:=by rw[x_box];simp only[zfM]
def y_st{n:Nat}{x v:A}:wpO pr (⟨dst,none,.st n x v⟩ ::l) s Q↔oB (zae s.tm x) fun p=>oB (zae s.tm v) fun d=>oB (zd7 n s.h.get p d) fun y=>y.1<s.c/\wpO pr l (s.aft dst (.f .un) [(y.1,some y.2)] s.c) Q:=by
 rw[x_st];simp only[zfM]
def y_ia{es:Nat}{x i:A}:wpO pr (⟨dst,none,.ia es x i⟩ ::l) s Q↔oB (zae s.tm x) fun v=>oB (zae s.tm i) fun w=>oB (zbv w) fun n=>oB (iaB es v n) fun d=>wpO pr l (s.up dst d) Q:=by rw[x_ia];simp only[zfM]
def y_mkf{f:Nat}{b:List A}:wpO pr (⟨dst,none,.mkf f [] b⟩ ::l) s Q↔oB (zat (zae s.tm) b) fun y=>wpO pr l (s.up dst (fnD f y)) Q:=by rw[x_mkf,zfM]
def y_bld{z:List F}{ps:List (Nat×Nat×A)}:wpO pr (⟨dst,none,.bld z ps⟩ ::l) s Q↔oB (zat (fun(p:Nat×Nat×A)=>(zae s.tm p.2.2).map fun d=>(p.1,p.2.1,d)) ps) fun qs=>oB (zdH (z.map D.f) qs) fun cs=>wpO pr l (s.up dst (.ag cs)) Q:=by
 rw[x_bld];simp only[zfM]
def zK9{f:Nat}{args:List A}:wpO pr (⟨dst,none,.callp f args⟩ ::l) s Q↔oB (zat (zae s.tm) args) fun ds=>oB (zbU s.h.get ds) fun y=>∃x,Ans pr f y.1 x/\zas s.c (zau s.h.get y.2)=true/\wpO pr l (s.aft dst x.d (zau s.h.get y.2) s.c) Q:=by
 rw[zK7];simp only[zfM]
def zRK{f:Nat}{args:List A}:wpO pr (⟨dst,none,.call f args⟩ ::l) s Q↔oB (zat (zae s.tm) args) fun ds=>∃q,Con pr f ds s.h s.c q/\wpO pr l (s.cal dst q) Q:=by rw[zRH,zfM]
def zfL:D->Option (Nat×List D×List D)
 | .fn f a b=>some (f,a,b)
 | .f (.fn f)=>some (f,[],[])
 |_=>none
def zHw(f:Nat)(a b:List D):zfL (.fn f a b)=some (f,a,b):=rfl
def zLF(f:Nat):zfL (.f (.fn f))=some (f,[],[]):=rfl
def zLc{x:A}{args:List A}:wpO pr (⟨dst,none,.callv x args⟩ ::l) s Q↔oB ((zae s.tm x).bind zfL) fun g=>oB (zat (zae s.tm) args) fun ds=>∃q,Con pr g.1 (g.2.1++ds++g.2.2) s.h s.c q/\wpO pr l (s.cal dst q) Q:=by
 cases hx:zae s.tm x with
 |none=>simp[wpO,zbl,zbQ,O.res,hx,oB]
 |some d=>
  cases hm:zat (zae s.tm) args with
  |none=>cases d with
   |f y=>cases y<;>simp[wpO,zbl,zbQ,O.res,hx,hm,oB,zfL]
   |_=>simp[wpO,zbl,zbQ,O.res,hx,hm,oB,zfL]
  |some ds=>
   cases d with
   |f y=>
    cases y with
    |fn f=>simp only[wpO,zbl,zbQ,O.res,hx,hm,Z47,Z46,kindOf,oB,zfL,Z28,Z22];exact Iff.rfl
    |_=>simp[wpO,zbl,zbQ,O.res,hx,hm,oB,zfL,kindOf]
   |fn f a b=>simp only[wpO,zbl,zbQ,O.res,hx,hm,Z47,Z46,kindOf,oB,zfL];exact Iff.rfl
   |_=>simp[wpO,zbl,zbQ,O.res,hx,hm,oB,zfL,kindOf]
def zRO{x:A}{a b:C}{Q:Ex->St->Prop}:wpC pr (.cond x a b) s Q↔oB ((zae s.tm x).bind asB) fun t=>if t then wpC pr a s Q else wpC pr b s Q:=by rw[zRI,zuE]
end
end Go.Vse
end
section
namespace Go.Vse
variable [Globs]
def zcJ(a b:List Nat):Prop:=∀x∈a,x∉b
section
variable (pr:Pr)
def zcY:Nat->List (List Nat×List Nat)->List Nat->List Nat->Prop
 |_,[],_,_=>True
 |m,(r,w)::L,rd,wr=>(m%2=1->zcJ rd w/\zcJ wr w/\zcJ wr r)/\zcY (m/2) L rd wr
def wpE:List (List Nat×List Nat)->List (Op×Nat)->St->(St->Prop)->Prop
 |_,[],s,Q=>Q s
 |L,(o,mask)::l,s,Q=>zbl pr o s fun s' p=>p.all=false/\zcY mask L p.rd p.wr/\wpE (L++[(p.rd,p.wr)]) l {s' with c:=p.hi} Q
variable {pr}
def zrj{o:Op}{s:St}{Q Q':St->Fp->Prop}(hQ:∀s p,Q s p->Q' s p)(h:zbl pr o s Q):zbl pr o s Q':=by
 have m0:∀r,zc0 r Q->zc0 r Q':=by
  intro r h;unfold zc0 at h|-;split
  .exact hQ _ _ h
  .exact h
 unfold zbl at h|-;split
 .simp_all
 .rename_i hw;simp only[hw]at h;exact hQ _ _ h
 .rename_i hw;simp only[hw]at h;split
  .simp_all
  .rename_i o' hr;simp only[hr]at h;split
   .rename_i hk;simp only[hk]at h;split
    .simp_all
    .rename_i hf;simp only[hf]at h;obtain⟨x,h1,h2⟩ :=h;exact⟨x,h1,m0 _ h2⟩
   .rename_i hk;simp only[hk]at h;obtain⟨q,h1,h2⟩ :=h;exact⟨q,h1,m0 _ h2⟩
   .rename_i hk;simp only[hk]at h;exact m0 _ h
   .rename_i hk;simp only[hk]at h
theorem zeo:∀(m:Nat) (L:List (List Nat×List Nat)),zcY m L [] []↔True
 |_,[]=>Iff.rfl
 |m,(r,w)::L=>by simp[zcY,zcJ,zeo (m/2) L]
theorem zp5{p:Fp}(hp:p.all=false){mask:Nat}:∀(fps:List Fp) (i:Nat),(∀q∈fps,q.all=false)->zcY (mask/2 ^ i) (fps.map fun q=>(q.rd,q.wr)) p.rd p.wr->zb6 p mask fps i=true
 |[],_,_,_=>rfl
 |q::l,i,hf,h=>by
  simp only[Z10,zcY]at h;have h2:=zp5 hp l (i+1) (fun x hx=>hf x (by simp[hx])) (by rw[Z195,<-Nat.div_div_eq_div_mul];exact h.2);simp only[zb6,h2,Z187,Z115,Z80];cases hb:mask.testBit i with
  |false=>exact .inl rfl
  |true=>
   right;rw[Z138]at hb;obtain⟨d1,d2,d3⟩ :=h.1 (of_decide_eq_true hb);have q1:=hf q (by simp);simp only[Fp.apart,q1,hp,Z14,Z50,Z80,Z114,Z65];exact⟨⟨fun x hx hm=>d1 x hx hm,fun x hx hm=>d3 x hm hx⟩,fun x hx hm=>d2 x hm hx⟩
theorem zHj:∀(l:List (Op×Nat)) (fps:List Fp) (s:St) (Q:St->Prop),(∀q∈fps,q.all=false)->wpE pr (fps.map fun q=>(q.rd,q.wr)) l s Q->wpD pr l fps s Q
 |[],_,_,_,_,h=>h
 |(o,mask)::l,fps,s,Q,hf,h=>by
  refine zrj (fun s' p ⟨h1,h2,h3⟩ =>⟨?_,zHj l (fps++[p]) _ Q ?_ (by simpa using h3)⟩) h
  .exact zp5 h1 fps 0 hf (by simpa using h2)
  .intro q hq;rcases Z4.1 hq with hq|hq
   .exact hf q hq
   .simp only[Z31]at hq;subst hq;exact h1
def zLS{ops:List (Op×Nat)}{s:St}{Q:Ex->St->Prop}(h:wpE pr [] ops s (Q .nrm)):wpC pr (.dreg ops) s Q:=
 zHj ops [] s _ (fun q hq=>by simp at hq) h
def St.ue(s:St)(dst:Option Nat)(d:D):St:={s with tm:=zbX s.tm dst d,c:=s.c+1,mx:=Nat.max s.mx (s.c+1)}
def St.ae(s:St)(dst:Option Nat)(d:D)(wr:List (Nat×Option Ob))(c:Nat):St:=
 {tm:=zbX s.tm dst d,h:=wrT s.h wr,c:=c+1,lw:=zdL s.lw wr,mx:=Nat.max s.mx (c+1)}
def St.se(s:St)(dst:Option Nat):St:={s with tm:=zbX s.tm dst (.f .un)}
def zbj(s:St)(dst:Option Nat)(d:D):(s.ue dst d).tm=zbX s.tm dst d:=rfl
def zco(s:St)(dst:Option Nat)(d:D):(s.ue dst d).h=s.h:=rfl
def zcn(s:St)(dst:Option Nat)(d:D):(s.ue dst d).c=s.c+1:=rfl
def zG5(s:St)(dst:Option Nat)(d:D):(s.ue dst d).lw=s.lw:=rfl
def zbd(s:St)(dst:Option Nat)(d:D)(wr:List (Nat×Option Ob))(c:Nat):(s.ae dst d wr c).tm=zbX s.tm dst d:=rfl
def zcb(s:St)(dst:Option Nat)(d:D)(wr:List (Nat×Option Ob))(c:Nat):(s.ae dst d wr c).h=wrT s.h wr:=rfl
def zca(s:St)(dst:Option Nat)(d:D)(wr:List (Nat×Option Ob))(c:Nat):(s.ae dst d wr c).c=c+1:=rfl
def zF7(s:St)(dst:Option Nat)(d:D)(wr:List (Nat×Option Ob))(c:Nat):(s.ae dst d wr c).lw=zdL s.lw wr:=rfl
def zbi(s:St)(dst:Option Nat):(s.se dst).tm=zbX s.tm dst (.f .un):=rfl
def zcm(s:St)(dst:Option Nat):(s.se dst).h=s.h:=rfl
def zcj(s:St)(dst:Option Nat):(s.se dst).c=s.c:=rfl
def zGZ(s:St)(dst:Option Nat):(s.se dst).lw=s.lw:=rfl
variable {l:List (Op×Nat)}{s:St}{Q:St->Prop}{dst:Option Nat}{L:List (List Nat×List Nat)}{mask:Nat}
def zmq(b:List Nat):zcJ [] b↔True:=by simp[zcJ]
def zns(x:Nat)(a b:List Nat):zcJ (x::a) b↔x∉b/\zcJ a b:=by simp[zcJ]
def e_nil:wpE pr L [] s Q↔Q s:=Iff.rfl
def ziP(d:D):s.ae dst d [] s.c=s.ue dst d:=rfl
theorem zcE{o:O A}(hk:kcl o= .n):wpE pr L ((⟨dst,none,o⟩,mask)::l) s Q↔oB ((o.res (zae s.tm)).bind (opv s.h.get s.c)) fun r=>zas r.c r.wr=true/\
    zcY mask L r.rd (r.wr.map (·.1))/\wpE pr (L++[(r.rd,r.wr.map (·.1))]) l (s.ae dst r.d r.wr r.c) Q:=by
  simp only[wpE,zbl,zbQ];cases hr:o.res (zae s.tm)with
  |none=>exact Iff.rfl
  | some o'=>
    simp only[Z46,ztm hk hr];cases hv:opv s.h.get s.c o' with
    |none=>exact Iff.rfl
    | some r=>
      simp only[zc0,zcw,oB];cases hw:zas r.c r.wr with
      |false=>simp
      |true=>simp only[Z89,cond_false,true_and];exact Iff.rfl
def zdK{l:List Op}{o:O A}(hk:kcl o= .n):wpO pr (⟨dst,none,o⟩ ::l) s Q↔oB ((o.res (zae s.tm)).bind (opv s.h.get s.c)) fun r=>zas r.c r.wr=true/\wpO pr l (s.aft dst r.d r.wr r.c) Q:=by
 simp only[wpO,zbl,zbQ];cases hr:o.res (zae s.tm)with
 |none=>exact Iff.rfl
 |some o'=>
  simp only[Z46,ztm hk hr];cases hv:opv s.h.get s.c o' with
  |none=>exact Iff.rfl
  |some r=>
   simp only[zc0,zcw,oB];cases hw:zas r.c r.wr with
   |false=>simp
   |true=>simp only[Z89,cond_false,true_and];exact Iff.rfl
def e_mv{x:A}:wpE pr L ((⟨dst,none,.mv x⟩,mask)::l) s Q↔oB (zae s.tm x) fun d=>wpE pr (L++[([],[])]) l (s.ue dst d) Q:=by
 rw[zcE rfl];cases hx:zae s.tm x<;>simp[O.res,hx,opv,okD,oB,zas,zcJ,ziP,zeo]
def e_ld{g:Bool}{n:Nat}{x:A}:wpE pr L ((⟨dst,none,.ld g n x⟩,mask)::l) s Q↔oB (zae s.tm x) fun p=>oB (zc3 g n s.h.get p) fun y=>zcY mask L y.2 []/\wpE pr (L++[(y.2,[])]) l (s.ue dst y.1) Q:=by
 rw[zcE rfl];cases hx:zae s.tm x with
 |none=>simp[O.res,hx,oB]
 |some p=>
  cases hl:zc3 g n s.h.get p with
  |none=>simp[O.res,hx,opv,hl,oB]
  |some y=>obtain⟨d,rd⟩ :=y;simp[O.res,hx,opv,hl,oB,zas,zcJ,ziP,zeo]
def e_bin{op:BinOp}{x y:A}:wpE pr L ((⟨dst,none,.bin op x y⟩,mask)::l) s Q↔oB ((zae s.tm x).bind asF) fun a=>oB ((zae s.tm y).bind asF) fun b=>oB (zaK op a b) fun z=>wpE pr (L++[([],[])]) l (s.ue dst (.f z)) Q:=by
 rw[zcE rfl];cases hx:zae s.tm x with
 |none=>simp[O.res,hx,oB]
 |some d=>
  cases hy:zae s.tm y with
  |none=>cases d<;>simp[O.res,hx,hy,oB,asF]
  |some e=>
   cases d with
   |f a=>
    cases e with
    |f b=>
     cases hz:zaK op a b<;>simp[O.res,hx,hy,oB,asF,opv,hz,okF,zas,zcJ,ziP,zeo]
    |_=>simp[O.res,hx,hy,oB,asF,opv]
   |_=>simp[O.res,hx,hy,oB,asF,opv]
def zMk{q x y:A}:wpE pr L ((⟨dst,none,.pick q x y⟩,mask)::l) s Q↔oB ((zae s.tm q).bind asB) fun b=>oB (zae s.tm x) fun d=>oB (zae s.tm y) fun e=>wpE pr (L++[([],[])]) l (s.ue dst (if b then d else e)) Q:=by
 rw[zcE rfl];cases hq:zae s.tm q with
 |none=>simp[O.res,hq,oB]
 |some z=>
  cases hx:zae s.tm x with
  |none=>
   cases z with
   |f z=>cases z<;>simp[O.res,hq,hx,oB,asB]
   |_=>simp[O.res,hq,hx,oB,asB]
  |some d=>
   cases hy:zae s.tm y with
   |none=>
    cases z with
    |f z=>cases z<;>simp[O.res,hq,hx,hy,oB,asB]
    |_=>simp[O.res,hq,hx,hy,oB,asB]
   |some e=>
    cases z with
    |f z=>cases z<;>simp[O.res,hq,hx,hy,oB,asB,opv,okD,zas,zcJ,ziP,zeo]
    |_=>simp[O.res,hq,hx,hy,oB,asB,opv]
def e_eqb{ne:Bool}{x y:A}:wpE pr L ((⟨dst,none,.eqb ne x y⟩,mask)::l) s Q↔oB ((zae s.tm x).bind asB) fun a=>oB ((zae s.tm y).bind asB) fun b=>wpE pr (L++[([],[])]) l (s.ue dst (.f (.b (if ne then !(a==b)else a==b)))) Q:=by
 rw[zcE rfl];cases hx:zae s.tm x with
 |none=>simp[O.res,hx,oB]
 |some d=>
  cases hy:zae s.tm y with
  |none=>
   cases d with
   |f z=>cases z<;>simp[O.res,hx,hy,oB,asB]
   |_=>simp[O.res,hx,hy,oB,asB]
  |some e=>
   cases d with
   |f z=>
    cases z with
    |b a=>
     cases e with
     |f z'=>cases z'<;>simp[O.res,hx,hy,oB,asB,opv,okF,zas,zcJ,ziP,zeo]
     |_=>simp[O.res,hx,hy,oB,asB,opv]
    |_=>simp[O.res,hx,hy,oB,asB,opv]
   |_=>simp[O.res,hx,hy,oB,asB,opv]
def e_len{x:A}:wpE pr L ((⟨dst,none,.len x⟩,mask)::l) s Q↔oB (zae s.tm x) fun v=>oB (zci v) fun n=>wpE pr (L++[([],[])]) l (s.ue dst (.f (.i .i64 n))) Q:=by
 rw[zcE rfl];cases hx:zae s.tm x with
 |none=>simp[O.res,hx,oB]
 |some v=>cases hl:zci v<;>simp[O.res,hx,oB,opv,hl,okF,zas,zcJ,ziP,zeo]
def e_fa{off:Nat}{x:A}:wpE pr L ((⟨dst,none,.fa off x⟩,mask)::l) s Q↔oB (zae s.tm x) fun v=>oB (faB off v) fun d=>wpE pr (L++[([],[])]) l (s.ue dst d) Q:=by
 rw[zcE rfl];cases hx:zae s.tm x with
 |none=>simp[O.res,hx,oB]
 |some v=>cases v<;>simp[O.res,hx,oB,opv,faB,okD,zas,zcJ,ziP,zeo]
def e_ia{es:Nat}{x i:A}:wpE pr L ((⟨dst,none,.ia es x i⟩,mask)::l) s Q↔oB (zae s.tm x) fun v=>oB (zae s.tm i) fun w=>oB (zbv w) fun n=>oB (iaB es v n) fun d=>wpE pr (L++[([],[])]) l (s.ue dst d) Q:=by
 rw[zcE rfl];cases hx:zae s.tm x with
 |none=>simp[O.res,hx,oB]
 |some v=>
  cases hy:zae s.tm i with
  |none=>simp[O.res,hx,hy,oB]
  |some w=>
   cases hn:zbv w with
   |none=>simp[O.res,hx,hy,opv,hn,oB]
   |some n=>
    cases v with
    |f z=>
     cases z with
     |sl es' els=>
      by_cases he:es=es'
      .subst he;cases hel:els[n]? <;>simp[O.res,hx,hy,oB,opv,hn,iaB,hel,okD,zas,zcJ,ziP,zeo]
      .simp[O.res,hx,hy,oB,opv,hn,iaB,he]
     |_=>simp[O.res,hx,hy,oB,opv,hn,iaB]
    |sl id off m es' lim ex=>
     by_cases he:es=es'/\n<m
     .simp[O.res,hx,hy,oB,opv,hn,iaB,he,okD,zas,zcJ,ziP,zeo]
     .simp[O.res,hx,hy,oB,opv,hn,iaB,he]
    |_=>simp[O.res,hx,hy,oB,opv,hn,iaB]
def e_bld{z:List F}{ps:List (Nat×Nat×A)}:wpE pr L ((⟨dst,none,.bld z ps⟩,mask)::l) s Q↔oB (zat (fun(p:Nat×Nat×A)=>(zae s.tm p.2.2).map fun d=>(p.1,p.2.1,d)) ps) fun qs=>oB (zdH (z.map D.f) qs) fun cs=>wpE pr (L++[([],[])]) l (s.ue dst (.ag cs)) Q:=by
 have e:zat (fun(p:Nat×Nat×A)=>(zae s.tm p.2.2).map fun d=>(p.1,p.2.1,d)) ps=zat (fun x=>match x with|(o,n,x)=>do some (o,n,<-zae s.tm x)) ps:=by
  congr 1
  funext p
  obtain⟨o,n,x⟩ :=p;simp only;cases zae s.tm x<;>rfl
 rw[e,zcE rfl];simp only[O.res];cases hq:zat (fun x=>match x with|(o,n,x)=>do some (o,n,<-zae s.tm x)) ps with
 |none=>simp[oB]
 |some qs=>cases hf:zdH (z.map D.f) qs<;>simp[oB,opv,hf,okD,zas,zcJ,ziP,zeo]
def e_new{cs:List F}:wpE pr L ((⟨dst,none,.new cs⟩,mask)::l) s Q↔zcY mask L [] [s.c]/\wpE pr (L++[([],[s.c])]) l (s.ae dst (.ptr s.c cs.length 0 0) [(s.c,some (.arr cs.length 0 [cs.map D.f]))] (s.c+1)) Q:=by
 rw[zcE rfl];simp[O.res,oB,opv,zas,zcJ,Z79]
def e_st{n:Nat}{x v:A}:wpE pr L ((⟨dst,none,.st n x v⟩,mask)::l) s Q↔oB (zae s.tm x) fun p=>oB (zae s.tm v) fun d=>oB (zd7 n s.h.get p d) fun y=>y.1<s.c/\zcY mask L [y.1] [y.1]/\wpE pr (L++[([y.1],[y.1])]) l (s.ae dst (.f .un) [(y.1,some y.2)] s.c) Q:=by
 rw[zcE rfl];cases hx:zae s.tm x with
 |none=>simp[O.res,hx,oB]
 |some p=>
  cases hv:zae s.tm v with
  |none=>simp[O.res,hx,hv,oB]
  |some d=>
   cases hs:zd7 n s.h.get p d with
   |none=>simp[O.res,hx,hv,oB,opv,hs]
   |some y=>obtain⟨id,ob⟩ :=y;simp[O.res,hx,hv,oB,opv,hs,zas,zcJ,Z79]
theorem zIl{f:Nat}{args:List A}:wpE pr L ((⟨dst,none,.callp f args⟩,mask)::l) s Q↔oB (zat (zae s.tm) args) fun ds=>oB (zbU s.h.get ds) fun y=>∃x,Ans pr f y.1 x/\zas s.c (zau s.h.get y.2)=true/\
      zcY mask L y.2 ((zau s.h.get y.2).map (·.1))/\wpE pr (L++[(y.2,(zau s.h.get y.2).map (·.1))]) l (s.ae dst x.d (zau s.h.get y.2) s.c) Q:=by
  simp only[wpE,zbl,zbQ,O.res,Z47];cases hm:zat (zae s.tm) args with
  |none=>simp[oB]
  | some ds=>
    simp only[Z46,kindOf,oB];cases hf:zbU s.h.get ds with
    |none=>exact Iff.rfl
    | some y=>
      obtain⟨fs,rd⟩ :=y;simp only;refine exists_congr fun x=>and_congr_right fun _=> ?_
      simp only[zc0,zcw];cases hw:zas s.c (zau s.h.get rd)with
      |false=>simp
      |true=>simp only[Z89,cond_false,true_and];exact Iff.rfl
def asG:D->Option (Option Bool)
 | .f (.b b)=>some (some b)
 | .f .un=>some none
 |_=>none
def asG_b(b:Bool):asG (.f (.b b))=some (some b):=rfl
def zLH:asG (.f .un)=some none:=rfl
def zj6{t:T D}{g:Nat}{w:Bool}:zbQ t (some (g,w))=((t.get g).bind asG).map (· ==some w):=by
  simp only[zbQ];cases t.get g with
  |none=>rfl
  | some d=>
    cases d with
    | f x=>
      cases x with
      |b b=>cases b<;>cases w<;>rfl
      |_=>rfl
    |_=>rfl
def zLe{l:List Op}{g:Nat}{w:Bool}{o:O A}:wpO pr (⟨dst,some (g,w),o⟩ ::l) s Q↔oB ((s.tm.get g).bind asG) fun x=>if x==some w then wpO pr (⟨dst,none,o⟩ ::l) s Q else wpO pr l (s.se dst) Q:=by
 cases hx:(s.tm.get g).bind asG with
 |none=>
  have:zbQ s.tm (some (g,w))=none:=by rw[zj6,hx];rfl
  simp[wpO,zbl,this,oB]
 |some x=>
  have hw:zbQ s.tm (some (g,w))=some (x==some w):=by rw[zj6,hx];rfl
  simp only[oB];cases hb:x==some w with
  |true=>rw[hb]at hw;simp only[wpO,zbl,hw,Z60];exact Iff.rfl
  |false=>rw[hb]at hw;simp only[wpO,zbl,hw];exact Iff.rfl
def zIm{g:Nat}{w:Bool}{o:O A}:wpE pr L ((⟨dst,some (g,w),o⟩,mask)::l) s Q↔oB ((s.tm.get g).bind asG) fun x=>if x==some w then wpE pr L ((⟨dst,none,o⟩,mask)::l) s Q else wpE pr (L++[([],[])]) l (s.se dst) Q:=by
 cases hx:(s.tm.get g).bind asG with
 |none=>
  have:zbQ s.tm (some (g,w))=none:=by rw[zj6,hx];rfl
  simp[wpE,zbl,this,oB]
 |some x=>
  have hw:zbQ s.tm (some (g,w))=some (x==some w):=by rw[zj6,hx];rfl
  simp only[oB];cases hb:x==some w with
  |true=>rw[hb]at hw;simp only[wpE,zbl,hw,Z60];exact Iff.rfl
  |false=>
   rw[hb]at hw;simp only[wpE,zbl,hw];constructor
   .rintro⟨_,_,h⟩;exact h
   .intro h;exact⟨trivial,(zeo _ _).2 trivial,h⟩
end
end Go.Vse
end
section
namespace Go.Vse
variable [Globs]
abbrev EnP:=Nat×List F×F
def zl2(pr:Pr)(e:EnP):Prop:=Ans pr e.1 e.2.1 e.2.2
def zgD(pr:Pr):List EnP->Prop
 |[]=>True
 |e::l=>zl2 pr e/\zgD pr l
def zva(f:Nat)(fs:List F)(l:List EnP):Option F:=
 @List.rec EnP (fun _=>Option F) none (fun p _ ih=>@Bool.rec (fun _=>Option F) ih (@Bool.rec (fun _=>Option F) ih (some p.2.2) (F.zdv p.2.1 fs)) (Nat.beq p.1 f)) l
def zEG(mask:Nat)(l:List EnP):Orc:=fun f fs=>
 @Bool.rec (fun _=>Option F) none (zva f fs l) (Nat.beq (Nat.mod (Nat.div mask (Nat.pow 2 f)) 2) 1)
theorem zrP{pr:Pr}{f:Nat}{fs:List F}{x:F}:∀{l:List EnP},zgD pr l->zva f fs l=some x->Ans pr f fs x
 |[],_,h=>by cases h
 |p::l,ha,h=>by
  have e:zva f fs (p::l)= @Bool.rec (fun _=>Option F) (zva f fs l) (@Bool.rec (fun _=>Option F) (zva f fs l) (some p.2.2) (F.zdv p.2.1 fs)) (Nat.beq p.1 f):=rfl;rw[e]at h;cases hb:Nat.beq p.1 f with
  |false=>rw[hb]at h;exact zrP ha.2 h
  |true=>
   rw[hb]at h;cases hq:F.zdv p.2.1 fs with
   |false=>rw[hq]at h;exact zrP ha.2 h
   |true=>
    rw[hq]at h;cases h;rw[<-Z88 hb,<-F.zfh _ _ hq];exact ha.1
def zJw{pr:Pr}{mask:Nat}{l:List EnP}(ha:zgD pr l):ziO pr (zEG mask l):=by
 intro f fs x h;unfold zEG at h;cases hb:Nat.beq (Nat.mod (Nat.div mask (Nat.pow 2 f)) 2) 1 with
 |false=>rw[hb]at h;cases h
 |true=>rw[hb]at h;exact zrP ha h
end Go.Vse
end
section
namespace Go.Vse
variable [Globs]
section
variable (K:Nat->Option Nat)(spq:O A->Bool)
def okS(i:Nat):Bool:=match K i with
 |some _=>false
 |none=>true
def okD':Option Nat->Bool
 |some i=>okS K i
 |none=>true
end
def zEz{K:Nat->Option Nat}{i:Nat}(h:okS K i=true):K i=none:=by
 unfold okS at h;split at h
 .cases h
 .assumption
def Inn(K:Nat->Option Nat)(u u':Nat->D)(t t':T D):Prop:=
 ∀i k,K i=some k->t.get i=t'.get i\/(t.get i=some (u k)/\t'.get i=some (u' k))
structure Ag(K:Nat->Option Nat)(u u':Nat->D)(s s':St):Prop where
 out:∀n,K n=none->s.tm.get n=s'.tm.get n
 inn:Inn K u u' s.tm s'.tm
 h:s.h=s'.h
 c:s.c=s'.c
 lw:s.lw=s'.lw
 mx:s.mx=s'.mx
section
variable {K:Nat->Option Nat}{spq:O A->Bool}{u u':Nat->D}{cl:Cl}
def zoC{t:T D}{dst:Option Nat}{d:D}(n:Nat):(zbX t dst d).get n=if dst=some n then some d else t.get n:=by
 cases dst with
 |none=>simp[zbX]
 |some i=>
  simp only[zbX,T.zab,Z45]
  by_cases h:n=i
  .subst h;simp
  .rw[Z49 h,Z49 (fun e=>h e.symm)]
theorem Ag.put{s s':St}(a:Ag K u u' s s'){dst:Option Nat}(hd:okD' K dst=true)(d:D)(h:T Ob)(c lw mx:Nat):
  Ag K u u' {tm:=zbX s.tm dst d,h,c,lw,mx} {tm:=zbX s'.tm dst d,h,c,lw,mx}:=by
 refine⟨fun n hn=> ?_,fun n k hn=> ?_,rfl,rfl,rfl,rfl⟩
 .simp only[zoC];split
  .rfl
  .exact a.out n hn
 .simp only[zoC];have:dst≠some n:=by
   rintro rfl;have:=zEz hd;rw[hn]at this;cases this
  rw[Z49 this,Z49 this];exact a.inn n k hn
theorem Ag.zkr{s s':St}(a:Ag K u u' s s'){j k:Nat}(hj:K j=some k)(h:T Ob)(c lw mx:Nat):
  Ag K u u' {tm:=zbX s.tm (some j) (u k),h,c,lw,mx} {tm:=zbX s'.tm (some j) (u' k),h,c,lw,mx}:=by
 refine⟨fun n hn=> ?_,fun n m hn=> ?_,rfl,rfl,rfl,rfl⟩
 .simp only[zoC];have:¬(some j=some n):=by
   intro e;cases e;rw[hj]at hn;cases hn
  rw[Z49 this,Z49 this];exact a.out n hn
 .simp only[zoC]
  by_cases e:some j=some n
  .cases e;rw[hj]at hn;cases hn;simp
  .rw[Z49 e,Z49 e];exact a.inn n m hn
end
end Go.Vse
end
section
namespace Go.Vse
open Go.RowKit
open Go (BinOp IntKind UnOp)
set_option maxRecDepth 100000
set_option maxHeartbeats 4000000
set_option linter.unusedSimpArgs false
section
variable [Globs]
variable {pr:Pr}{s:St}{Q:St->Prop}{dst:Option Nat}{L:List (List Nat×List Nat)}{mask:Nat}
end
end Go.Vse
end
section
namespace Go.Vse
open Go.RowKit
open Go (BinOp IntKind UnOp)
set_option maxRecDepth 100000
set_option maxHeartbeats 4000000
section
variable [Globs]
variable {P:Program}{amb:Mu}{ρ:Nat->Option Nat}{c:Nat->Prop}{h:Hp}
end
end Go.Vse
end
section
namespace Go.Vse
open Go.RowKit
open Go (BinOp IntKind UnOp)
set_option maxRecDepth 100000
set_option maxHeartbeats 4000000
set_option linter.unusedSimpArgs false
section
variable [Globs]
variable {pr:Pr}{s:St}{Q:St->Prop}{dst:Option Nat}{L:List (List Nat×List Nat)}{mask:Nat}
end
end Go.Vse
end
section
namespace Go.Vse
open Go.RowKit
open Go (BinOp IntKind UnOp)
set_option maxRecDepth 100000
set_option maxHeartbeats 4000000
section
variable [Globs]
variable {P:Program}{pur:Nat->Bool}
def zgW.same{f:Nat}{args:List D}{h:T Ob}{n:Nat}{q q':CR}(hq:zgW P f args h n q)(hd:q'.d=q.d)(hh:∀i,q'.h.get i=q.h.get i)(hc:q'.c=q.c)(hl:q'.lw=q.lw)(hm:q'.mx=q.mx):zgW P f args h n q':=by
 obtain⟨h1,h2,h3,h4⟩ :=hq;refine⟨h1,by omega,by omega,fun amb ρ c w vs hs hf ha=> ?_⟩;rw[hm]at hf;refine (h4 amb ρ c w vs hs hf ha).mono ?_;rintro e w' ⟨v,he,hb,ρ',k1,k2,k3⟩;have hg:q'.h.get=q.h.get:=funext hh;refine⟨v,he,hb,ρ',?_,?_,?_⟩
 .rw[hd,hg,hc];exact k1
 .rw[hg,hc];exact k2
 .rw[hg,hc,hl,hm];exact k3
structure Apart(w:World)(b bv ov:Nat):Prop where
 ne:bv≠b
 sh:∃tA kA tB kB,w.shape? bv=some (tA,kA)/\w.shape? b=some (tB,kB)/\kB≠0/\w.frozen? ⟨bv,ov,none⟩ =false/\w.frozen? ⟨bv,kA,none⟩ =false
end
end Go.Vse
end
