/- Calls that work on the caller's heap: rules for them, calls that leave the heap as it is, regions that draw their order with such calls. -/
import Derived.Test.YtdlcolcidohbkaaGreatDoorHa
import Derived.Test.YtdlcolcidohbkaaGreatDoorVe
import Derived.Maps.RangeRun
set_option linter.all false
section
namespace Go.Vse
open Go (BinOp IntKind UnOp)
set_option maxRecDepth 100000
mutual
theorem F.zik:∀x:F,x.beq x=true
 | .b x=>by simp[F.beq]
 | .i k n=>by cases k<;>simp[F.beq]<;>rfl
 | .s l=>by simp[F.beq]
 | .nils| .nilp| .nilm| .nilf| .nili| .un=>by simp[F.beq]
 | .ag cs=>by simp only[F.beq];exact F.zdn cs
 | .tu cs=>by simp only[F.beq];exact F.zdn cs
 | .sl e l=>by simp only[F.beq,beq_self_eq_true,Z103];exact F.zhP l
 | .fn x=>by simp[F.beq]
theorem F.zdn:∀l:List F,F.zdv l l=true
 |[]=>rfl
 |x::l=>by simp only[F.zdv,F.zik x,F.zdn l,Z133]
theorem F.zhP:∀l:List (List F),F.zeN l l=true
 |[]=>rfl
 |x::l=>by simp only[F.zeN,F.zdn x,F.zhP l,Z133]
end
mutual
theorem D.zik:∀x:D,x.beq x=true
 | .f x=>F.zik x
 | .ag x=>by simp only[D.beq];exact D.zdn x
 | .tu x=>by simp only[D.beq];exact D.zdn x
 | .sl .. =>by simp[D.beq]
 | .ptr .. =>by simp[D.beq]
 | .fptr x=>by simp only[D.beq];exact F.zdn x
 | .mp x=>by simp[D.beq]
 | .fn x a b=>by simp only[D.beq,beq_self_eq_true,Z103,D.zdn a,D.zdn b,Z133]
theorem D.zdn:∀l:List D,D.zdv l l=true
 |[]=>rfl
 |x::l=>by simp only[D.zdv,D.zik x,D.zdn l,Z133]
end
theorem D.zhP:∀l:List (List D),D.zeN l l=true
 |[]=>rfl
 |x::l=>by simp only[D.zeN,D.zdn x,D.zhP l,Z133]
theorem Ob.zsb:∀l:List (F×D),Ob.znm l l=true
 |[]=>rfl
 |(a,x)::l=>by simp only[Ob.znm,F.zik a,D.zik x,Ob.zsb l,Z133]
theorem Ob.zkP:∀x:Option Ob,Ob.zrz x x=true
 |none=>rfl
 |some (.arr a b c)=>by simp only[Ob.zrz,Ob.beq,beq_self_eq_true,Z103,D.zhP]
 |some (.map a)=>by simp only[Ob.zrz,Ob.beq,Ob.zsb]
variable [Globs]
def zpR(pr:Pr):Prop:=∀f args h c q,Con pr f args h c q->c<=q.c/\q.c<=q.mx
def zut{P:Go.Program}{pur:Nat->Bool}{pr:Pr}(hp:zmb P pur pr):zpR pr:=by
 intro f args h c q ⟨N,hN⟩;obtain⟨_,h1,h2,_⟩ :=zfj hp N f args h c q (hN N (Z2 _));exact⟨h1,h2⟩
def RO(pr:Pr)(f:Nat)(args:List D)(h:T Ob)(c:Nat)(d:D):Prop:=∃mx,c<=mx/\Con pr f args h c ⟨d,h,c,c,mx⟩
def zDX(res:List Rv)(c:Nat)(d:D)(x:Ex)(s:St):Prop:=(match x with| .exit _=>False|_=>True)/\resD s res=some d/\s.lw=c
def zfz{res:List Rv}{c:Nat}{d:D}{s:St}:zDX res c d .ret s=(resD s res=some d/\s.lw=c):=by simp[zDX]
def zjE{pr:Pr}(hle:zpR pr){f:Nat}{fn:Fn}(hf:pr.fn f=some fn){args:List D}{h:T Ob}{c:Nat}{d:D}(hd:d.isF=true)(hw:wpC pr fn.body (st0 args h c) (zDX fn.res c d)):RO pr f args h c d:=by
 obtain⟨x,s,⟨hx,hr,hl⟩,ev⟩ :=ze1 _ _ _ hw;have key:EV fun m=>zfd (evC (zbW pr m) m) fn args h c=some ⟨d,h,c,c,s.mx⟩ :=by
  refine ev.mono fun m hm=> ?_
  unfold zfd;unfold st0 at hm;rw[hm];cases x with
  |exit i=>exact hx.elim
  |nrm=>simp only[hr];simp[hl,hd]
  |ret=>simp only[hr];simp[hl,hd]
 have hq:Con pr f args h c ⟨d,h,c,c,s.mx⟩ :=by
  obtain⟨N,hN⟩ :=key;refine⟨N+1,fun m hm=> ?_⟩;obtain⟨m,rfl⟩ :∃m',m=m'+1:=⟨m - 1,by omega⟩
  simp only[zbW,hf];exact hN m (by omega)
 exact⟨s.mx,(hle _ _ _ _ _ hq).2,hq⟩
def zDW(res:List Rv)(h:T Ob)(c:Nat)(P:D->T Ob->Nat->Prop)(x:Ex)(s:St):Prop:=
 (match x with| .exit _=>False|_=>True)/\oB (resD s res) fun d=>P d s.h s.c/\(s.lw=c->d.isF=true->P d h c)
def zqh{res:List Rv}{h:T Ob}{c:Nat}{P:D->T Ob->Nat->Prop}{s:St}:zDW res h c P .ret s=oB (resD s res) fun d=>P d s.h s.c/\(s.lw=c->d.isF=true->P d h c):=by simp[zDW]
def Eff(pr:Pr)(f:Nat)(args:List D)(h:T Ob)(c:Nat)(P:D->T Ob->Nat->Prop):Prop:=∃q,Con pr f args h c q/\P q.d q.h q.c/\c<=q.c/\q.c<=q.mx
def zuw{pr:Pr}(hle:zpR pr){f:Nat}{fn:Fn}(hf:pr.fn f=some fn){args:List D}{h:T Ob}{c:Nat}{P:D->T Ob->Nat->Prop}(hw:wpC pr fn.body (st0 args h c) (zDW fn.res h c P)):Eff pr f args h c P:=by
 obtain⟨x,s,⟨hx,hr⟩,ev⟩ :=ze1 _ _ _ hw;cases hd:resD s fn.res with
 |none=>rw[hd]at hr;exact hr.elim
 |some d=>
  rw[hd]at hr;obtain⟨h1,h2⟩ :=hr;have key:EV fun m=>zfd (evC (zbW pr m) m) fn args h c=some (if Nat.beq s.lw c&&d.isF then ⟨d,h,c,c,s.mx⟩else ⟨d,s.h,s.c,s.lw,s.mx⟩):=by
   refine ev.mono fun m hm=> ?_
   unfold zfd;unfold st0 at hm;rw[hm];cases x with
   |exit i=>exact hx.elim
   |nrm=>simp only[hd];split<;>rfl
   |ret=>simp only[hd];split<;>rfl
  have hq:Con pr f args h c (if Nat.beq s.lw c&&d.isF then ⟨d,h,c,c,s.mx⟩else ⟨d,s.h,s.c,s.lw,s.mx⟩):=by
   obtain⟨N,hN⟩ :=key;refine⟨N+1,fun m hm=> ?_⟩;obtain⟨m,rfl⟩ :∃m',m=m'+1:=⟨m - 1,by omega⟩
   simp only[zbW,hf];exact hN m (by omega)
  refine⟨_,hq,?_,hle _ _ _ _ _ hq⟩;split
  .rename_i hb;simp only[Z14]at hb;exact h2 (Z88 hb.1) hb.2
  .exact h1
def St.um(s:St)(dst:Option Nat)(d:D)(mx:Nat):St:={s with tm:=zbX s.tm dst d,mx:=Nat.max s.mx mx}
def zHb(s:St)(dst:Option Nat)(d:D)(mx:Nat):(s.um dst d mx).tm=zbX s.tm dst d:=rfl
def um_h(s:St)(dst:Option Nat)(d:D)(mx:Nat):(s.um dst d mx).h=s.h:=rfl
def um_c(s:St)(dst:Option Nat)(d:D)(mx:Nat):(s.um dst d mx).c=s.c:=rfl
def zG9(s:St)(dst:Option Nat)(d:D)(mx:Nat):(s.um dst d mx).lw=s.lw:=rfl
def zGn(s:St)(dst:Option Nat)(q:CR):(s.cal dst q).tm=zbX s.tm dst q.d:=rfl
def ca_h(s:St)(dst:Option Nat)(q:CR):(s.cal dst q).h=q.h:=rfl
def ca_c(s:St)(dst:Option Nat)(q:CR):(s.cal dst q).c=q.c:=rfl
def zGl(s:St)(dst:Option Nat)(q:CR):(s.cal dst q).lw=Nat.min s.lw q.lw:=rfl
def St.ug(s:St)(dst:Option Nat)(d:D)(mx:Nat):St:={s with tm:=zbX s.tm dst d,c:=mx,mx:=Nat.max s.mx mx}
def zG8(s:St)(dst:Option Nat)(d:D)(mx:Nat):(s.ug dst d mx).tm=zbX s.tm dst d:=rfl
def ug_h(s:St)(dst:Option Nat)(d:D)(mx:Nat):(s.ug dst d mx).h=s.h:=rfl
def ug_c(s:St)(dst:Option Nat)(d:D)(mx:Nat):(s.ug dst d mx).c=mx:=rfl
def zG6(s:St)(dst:Option Nat)(d:D)(mx:Nat):(s.ug dst d mx).lw=s.lw:=rfl
def St.cg(s:St)(dst:Option Nat)(q:CR):St:={tm:=zbX s.tm dst q.d,h:=q.h,c:=q.mx,lw:=Nat.min s.lw q.lw,mx:=Nat.max s.mx q.mx}
def zGr(s:St)(dst:Option Nat)(q:CR):(s.cg dst q).tm=zbX s.tm dst q.d:=rfl
def cg_h(s:St)(dst:Option Nat)(q:CR):(s.cg dst q).h=q.h:=rfl
def cg_c(s:St)(dst:Option Nat)(q:CR):(s.cg dst q).c=q.mx:=rfl
def zGp(s:St)(dst:Option Nat)(q:CR):(s.cg dst q).lw=Nat.min s.lw q.lw:=rfl
def zkK(m:Nat):zdL m []=m:=rfl
def wl_c(m id:Nat)(o:Option Ob)(l:List (Nat×Option Ob)):zdL m ((id,o)::l)=zdL (if id<m then id else m) l:=rfl
def zjK{m id:Nat}{o:Option Ob}{l:List (Nat×Option Ob)}(h:m<=id):zdL m ((id,o)::l)=zdL m l:=by rw[wl_c,Z49 (by omega)]
section
variable {pr:Pr}{s:St}{Q:St->Prop}{dst:Option Nat}{mask:Nat}
structure WQ(pr:Pr)(f:Nat)(ds:List D)(s:St)(dst:Option Nat)(l:List Go.Vse.Op)(Q:St->Prop):Prop where
 out:∃q,Con pr f ds s.h s.c q/\wpO pr l (s.cal dst q) Q
def zO9{l:List Go.Vse.Op}{f:Nat}{args:List A}:wpO pr (⟨dst,none,.call f args⟩ ::l) s Q↔oB (zat (zae s.tm) args) fun ds=>WQ pr f ds s dst l Q:=by
 rw[zRK];cases zat (zae s.tm) args with
 |none=>exact Iff.rfl
 |some ds=>exact⟨fun h=>⟨h⟩,fun h=>h.out⟩
def zJd{l:List Go.Vse.Op}{x:A}{args:List A}:wpO pr (⟨dst,none,.callv x args⟩ ::l) s Q↔oB ((zae s.tm x).bind zfL) fun g=>oB (zat (zae s.tm) args) fun ds=>WQ pr g.1 (g.2.1++ds++g.2.2) s dst l Q:=by
 rw[zLc];cases (zae s.tm x).bind zfL with
 |none=>exact Iff.rfl
 |some g=>
  simp only[oB];cases zat (zae s.tm) args with
  |none=>exact Iff.rfl
  |some ds=>exact⟨fun h=>⟨h⟩,fun h=>h.out⟩
def zk6{f:Nat}{ds:List D}{l:List Go.Vse.Op}{d:D}(he:RO pr f ds s.h s.c d)(e3:s.lw<=s.c)(k:∀mx,wpO pr l (s.um dst d mx) Q):WQ pr f ds s dst l Q:=by
 obtain⟨mx,h1,h2⟩ :=he;refine⟨_,h2,?_⟩;have e:s.cal dst ⟨d,s.h,s.c,s.c,mx⟩ =s.um dst d mx:=by
  simp only[St.cal,St.um,Z73 e3]
 rw[e];exact k mx
inductive En where
 |n (rd wr:List Nat)
 |r
 |q (h h':T Ob)
def Fits:En->Fp->Prop
 | .n rd wr,p=>p.all=false/\p.rd=rd/\p.wr=wr
 | .r,p=>p.all=true/\p.h=p.h'
 | .q h h',p=>p.all=true/\p.h=h/\p.h'=h'
def ck1:En->En->Prop
 | .n r w,.n rd wr=>zcJ rd w/\zcJ wr w/\zcJ wr r
 | .r,.n _ wr=>wr=[]
 | .n _ w,.r=>w=[]
 | .q h h',.n rd wr=>wr=[]/\∀x∈rd,h.get x=h'.get x
 | .n r w,.q h h'=>w=[]/\∀x∈r,h.get x=h'.get x
 |_,_=>False
def ckG:Nat->List En->En->Prop
 |_,[],_=>True
 |m,a::L,e=>(m%2=1->ck1 a e)/\ckG (m/2) L e
def cg_n{m:Nat}{e:En}:ckG m [] e=True:=rfl
def zIb{m:Nat}{a e:En}{L:List En}:ckG m (a::L) e=((m%2=1->ck1 a e)/\ckG (m/2) L e):=rfl
def c1_nn{r w rd wr:List Nat}:ck1 (.n r w) (.n rd wr)=(zcJ rd w/\zcJ wr w/\zcJ wr r):=rfl
def zzq(a:List Nat):zcJ a []=True:=by simp[zcJ]
def c1_rn{rd wr:List Nat}:ck1 .r (.n rd wr)=(wr=[]):=rfl
def c1_nr{r w:List Nat}:ck1 (.n r w) .r=(w=[]):=rfl
def c1_qn{h h':T Ob}{rd wr:List Nat}:ck1 (.q h h') (.n rd wr)=(wr=[]/\∀x∈rd,h.get x=h'.get x):=rfl
def c1_nq{h h':T Ob}{r w:List Nat}:ck1 (.n r w) (.q h h')=(w=[]/\∀x∈r,h.get x=h'.get x):=rfl
def wpG(pr:Pr):List En->List (Go.Vse.Op×Nat)->St->(St->Prop)->Prop
 |_,[],s,Q=>Q s
 |L,(o,mask)::l,s,Q=>zbl pr o s fun s' p=>∃e,Fits e p/\ckG mask L e/\wpG pr (L++[e]) l {s' with c:=p.hi} Q
def zL2{a e:En}{q p:Fp}(h1:Fits a q)(h2:Fits e p)(h:ck1 a e):q.apart p=true:=by
 cases a with
 |n r w=>
  obtain⟨q1,rfl,rfl⟩ :=h1;cases e with
  |n rd wr=>
   obtain⟨p1,rfl,rfl⟩ :=h2;obtain⟨d1,d2,d3⟩ :=h;simp only[Fp.apart,q1,p1,Z14,Z50,Z80,Z114,Z65];exact⟨⟨fun x hx hm=>d1 x hx hm,fun x hx hm=>d3 x hm hx⟩,fun x hx hm=>d2 x hm hx⟩
  |r=>
   obtain⟨p1,p2⟩ :=h2;have hw:q.wr=[]:=h;simp only[Fp.apart,q1,p1,hw,Z165,Z103,Z50,Fp.same,p2];exact fun x _=>Ob.zkP _
  |q h0 h1=>
   obtain⟨p1,p2,p3⟩ :=h2;obtain⟨hw,hs⟩ :=h;simp only[Fp.apart,q1,p1,hw,Z165,Z103,Z50,Fp.same,p2,p3];exact fun x hx=>by rw[hs x hx];exact Ob.zkP _
 |r=>
  obtain⟨q1,q2⟩ :=h1;cases e with
  |n rd wr=>
   obtain⟨p1,rfl,rfl⟩ :=h2;have hw:p.wr=[]:=h;simp only[Fp.apart,q1,p1,hw,Z165,Z103,Z50,Fp.same,q2];exact fun x _=>Ob.zkP _
  |r=>exact h.elim
  |q=>exact h.elim
 |q h0 h1'=>
  obtain⟨q1,q2,q3⟩ :=h1;cases e with
  |n rd wr=>
   obtain⟨p1,rfl,rfl⟩ :=h2;obtain⟨hw,hs⟩ :=h;simp only[Fp.apart,q1,p1,hw,Z165,Z103,Z50,Fp.same,q2,q3];exact fun x hx=>by rw[hs x hx];exact Ob.zkP _
  |r=>exact h.elim
  |q=>exact h.elim
def zpS:List En->List Fp->Prop
 |[],[]=>True
 |e::L,p::l=>Fits e p/\zpS L l
 |_,_=>False
theorem zqo{e:En}{p:Fp}(h:Fits e p):∀{L:List En} {l:List Fp},zpS L l->zpS (L++[e]) (l++[p])
 |[],[],_=>⟨h,trivial⟩
 |_::_,_::_,hl=>⟨hl.1,zqo h hl.2⟩
 |[],_::_,hl=>hl.elim
 |_::_,[],hl=>hl.elim
theorem zBI{e:En}{p:Fp}(h2:Fits e p){mask:Nat}:∀(L:List En) (l:List Fp) (i:Nat),zpS L l->ckG (mask/2 ^ i) L e->zb6 p mask l i=true
 |[],[],_,_,_=>rfl
 |a::L,q::l,i,hf,h=>by
  have h3:=zBI h2 L l (i+1) hf.2 (by rw[Z195,<-Nat.div_div_eq_div_mul];exact h.2);simp only[zb6,h3,Z187,Z115,Z80];cases hb:mask.testBit i with
  |false=>exact .inl rfl
  |true=>
   right;rw[Z138]at hb;exact zL2 hf.1 h2 (h.1 (of_decide_eq_true hb))
 |[],_::_,_,hf,_=>hf.elim
 |_::_,[],_,hf,_=>hf.elim
theorem zHk:∀(l:List (Go.Vse.Op×Nat)) (L:List En) (fps:List Fp) (s:St) (Q:St->Prop),zpS L fps->wpG pr L l s Q->wpD pr l fps s Q
 |[],_,_,_,_,_,h=>h
 |(o,mask)::l,L,fps,s,Q,hf,h=>by
  refine zrj (fun s' p ⟨e,h1,h2,h3⟩ =>⟨?_,zHk l (L++[e]) (fps++[p]) _ Q (zqo h1 hf) h3⟩) h;exact zBI h1 L fps 0 hf (by simpa using h2)
def zgi{ops:List (Go.Vse.Op×Nat)}{s:St}{Q:Ex->St->Prop}(h:wpG pr [] ops s (Q .nrm)):WD pr ops s Q:=⟨zHk ops [] [] s _ trivial h⟩
variable {L:List En}
def g_nil:wpG pr L [] s Q↔Q s:=Iff.rfl
def zcx{l:List (Go.Vse.Op×Nat)}{o:O A}(hk:kcl o= .n):wpG pr L ((⟨dst,none,o⟩,mask)::l) s Q↔oB ((o.res (zae s.tm)).bind (opv s.h.get s.c)) fun r=>zas r.c r.wr=true/\ckG mask L (.n r.rd (r.wr.map (·.1)))/\wpG pr (L++[.n r.rd (r.wr.map (·.1))]) l (s.ae dst r.d r.wr r.c) Q:=by
  simp only[wpG,zbl,zbQ];cases hr:o.res (zae s.tm)with
  |none=>exact Iff.rfl
  | some o'=>
    simp only[Z46,ztm hk hr];cases hv:opv s.h.get s.c o' with
    |none=>exact Iff.rfl
    | some r=>
      simp only[zc0,zcw,oB];cases hw:zas r.c r.wr with
      |false=>simp
      | true=>
        simp only[Z89,cond_false,true_and];constructor
        . rintro⟨e,h1,h2,h3⟩;cases e with
          |n rd wr=>obtain⟨_,rfl,rfl⟩ :=h1;exact⟨h2,h3⟩
          |r=>exact absurd h1.1 (by simp)
          |q=>exact absurd h1.1 (by simp)
        . rintro⟨h2,h3⟩;exact⟨.n r.rd (r.wr.map (·.1)),⟨rfl,rfl,rfl⟩,h2,h3⟩
def zIE{l:List (Go.Vse.Op×Nat)}{g:Nat}{w:Bool}{o:O A}:wpG pr L ((⟨dst,some (g,w),o⟩,mask)::l) s Q↔oB ((s.tm.get g).bind asG) fun x=>if x==some w then wpG pr L ((⟨dst,none,o⟩,mask)::l) s Q else ckG mask L (.n [] [])/\wpG pr (L++[.n [] []]) l (s.se dst) Q:=by
 cases hx:(s.tm.get g).bind asG with
 |none=>
  have:zbQ s.tm (some (g,w))=none:=by rw[zj6,hx];rfl
  simp[wpG,zbl,this,oB]
 |some x=>
  have hw:zbQ s.tm (some (g,w))=some (x==some w):=by rw[zj6,hx];rfl
  simp only[oB];cases hb:x==some w with
  |true=>rw[hb]at hw;simp only[wpG,zbl,hw,Z60];exact Iff.rfl
  |false=>
   rw[hb]at hw;simp only[wpG,zbl,hw];constructor
   .rintro⟨e,h1,h2,h3⟩;cases e with
    |n rd wr=>obtain⟨_,rfl,rfl⟩ :=h1;exact⟨h2,h3⟩
    |r=>exact absurd h1.1 (by simp)
    |q=>exact absurd h1.1 (by simp)
   .rintro⟨h2,h3⟩;exact⟨.n [] [],⟨rfl,rfl,rfl⟩,h2,h3⟩
structure WG(pr:Pr)(f:Nat)(ds:List D)(L:List En)(mask:Nat)(l:List (Go.Vse.Op×Nat))(s:St)(dst:Option Nat)(Q:St->Prop):Prop where
 out:∃q,Con pr f ds s.h s.c q/\∃e,(e= .r/\s.h=q.h\/e= .q s.h q.h)/\ckG mask L e/\wpG pr (L++[e]) l (s.cg dst q) Q
def g_call{l:List (Go.Vse.Op×Nat)}{f:Nat}{args:List A}:wpG pr L ((⟨dst,none,.call f args⟩,mask)::l) s Q↔oB (zat (zae s.tm) args) fun ds=>WG pr f ds L mask l s dst Q:=by
 simp only[wpG,zbl,zbQ,O.res,Z47];cases zat (zae s.tm) args with
 |none=>exact Iff.rfl
 |some ds=>
  simp only[Z46,kindOf,oB,zc0,zfg];constructor
  .rintro⟨q,h1,e,h2,h3,h4⟩;cases e with
   |n rd wr=>exact absurd h2.1 (by simp)
   |r=>exact⟨q,h1,.r,.inl ⟨rfl,h2.2⟩,h3,h4⟩
   |q h0 h1'=>obtain⟨_,rfl,rfl⟩ :=h2;exact⟨q,h1,.q _ _,.inr rfl,h3,h4⟩
  .rintro⟨q,h1,e,h2,h3,h4⟩;rcases h2 with⟨rfl,h2⟩ |rfl
   .exact⟨q,h1,.r,⟨rfl,h2⟩,h3,h4⟩
   .exact⟨q,h1,.q _ _,⟨rfl,rfl,rfl⟩,h3,h4⟩
def zID{l:List (Go.Vse.Op×Nat)}{x:A}{args:List A}:wpG pr L ((⟨dst,none,.callv x args⟩,mask)::l) s Q↔oB ((zae s.tm x).bind zfL) fun g=>oB (zat (zae s.tm) args) fun ds=>WG pr g.1 (g.2.1++ds++g.2.2) L mask l s dst Q:=by
 have key:∀f ds,(∃q,Con pr f ds s.h s.c q/\∃e,Fits e {all:=true,rd:=[],wr:=[],lo:=s.c,hi:=q.mx,h:=s.h,h':=q.h}/\ckG mask L e/\wpG pr (L++[e]) l (s.cg dst q) Q)↔WG pr f ds L mask l s dst Q:=by
  intro f ds;constructor
  .rintro⟨q,h1,e,h2,h3,h4⟩;cases e with
   |n rd wr=>exact absurd h2.1 (by simp)
   |r=>exact⟨q,h1,.r,.inl ⟨rfl,h2.2⟩,h3,h4⟩
   |q h0 h1'=>obtain⟨_,rfl,rfl⟩ :=h2;exact⟨q,h1,.q _ _,.inr rfl,h3,h4⟩
  .rintro⟨q,h1,e,h2,h3,h4⟩;rcases h2 with⟨rfl,h2⟩ |rfl
   .exact⟨q,h1,.r,⟨rfl,h2⟩,h3,h4⟩
   .exact⟨q,h1,.q _ _,⟨rfl,rfl,rfl⟩,h3,h4⟩
 simp only[wpG,zbl,zbQ,O.res,Z47];cases zae s.tm x with
 |none=>simp[oB]
 |some d=>
  cases zat (zae s.tm) args with
  |none=>cases d with
   |f y=>cases y<;>simp[oB,zfL]
   |_=>simp[oB,zfL]
  |some ds=>
   cases d with
   |f y=>
    cases y with
    |fn g=>simp only[Z46,kindOf,oB,zc0,zfg,zfL,Z28,Z22];exact key _ _
    |_=>simp[oB,zfL,kindOf]
   |fn g a b=>simp only[Z46,kindOf,oB,zc0,zfg,zfL];exact key _ _
   |_=>simp[oB,zfL,kindOf]
def wg_e{f:Nat}{ds:List D}{l:List (Go.Vse.Op×Nat)}{h:T Ob}{c:Nat}{P:D->T Ob->Nat->Prop}(e1:s.h=h)(e2:s.c=c)(he:Eff pr f ds h c P)(k:∀d' h' c' lw mx,P d' h' c'->c<=c'->c'<=mx->ckG mask L (.q h h')/\wpG pr (L++[.q h h']) l (s.cg dst ⟨d',h',c',lw,mx⟩) Q):WG pr f ds L mask l s dst Q:=by
 subst e1 e2;obtain⟨q,h1,h2,h3,h4⟩ :=he;have:=k q.d q.h q.c q.lw q.mx h2 h3 h4;exact⟨q,h1,.q _ _,.inr rfl,this.1,this.2⟩
theorem zIB{l:List (Go.Vse.Op×Nat)}{f:Nat}{args:List A}:wpG pr L ((⟨dst,none,.callp f args⟩,mask)::l) s Q↔oB (zat (zae s.tm) args) fun ds=>oB (zbU s.h.get ds) fun y=>aB pr f (fw y.1) fun x=>zas s.c (zau s.h.get y.2)=true/\
    ckG mask L (.n y.2 ((zau s.h.get y.2).map (·.1)))/\wpG pr (L++[.n y.2 ((zau s.h.get y.2).map (·.1))]) l (s.ae dst x.d (zau s.h.get y.2) s.c) Q:=by
  simp only[wpG,zbl,zbQ,O.res,Z47];cases zat (zae s.tm) args with
  |none=>exact Iff.rfl
  | some ds=>
    simp only[Z46,kindOf,oB];cases zbU s.h.get ds with
    |none=>exact Iff.rfl
    | some y=>
      obtain⟨fs,rd⟩ :=y;simp only[aB,fw];refine exists_congr fun x=>and_congr_right fun _=> ?_
      simp only[zc0,zcw];cases hw:zas s.c (zau s.h.get rd)with
      |false=>simp
      | true=>
        simp only[Z89,cond_false,true_and];constructor
        . rintro⟨e,h1,h2,h3⟩;cases e with
          |n rd' wr=>obtain⟨_,rfl,rfl⟩ :=h1;exact⟨h2,h3⟩
          |r=>exact absurd h1.1 (by simp)
          |q=>exact absurd h1.1 (by simp)
        . rintro⟨h2,h3⟩;exact⟨.n rd ((zau s.h.get rd).map (·.1)),⟨rfl,rfl,rfl⟩,h2,h3⟩
def g_mv{l:List (Go.Vse.Op×Nat)}{x:A}:wpG pr L ((⟨dst,none,.mv x⟩,mask)::l) s Q↔oB (((O.mv x).res (zae s.tm)).bind (opv s.h.get s.c)) fun r=>zas r.c r.wr=true/\ckG mask L (.n r.rd (r.wr.map (·.1)))/\wpG pr (L++[.n r.rd (r.wr.map (·.1))]) l (s.ae dst r.d r.wr r.c) Q:=zcx rfl
def zOJ{l:List (Go.Vse.Op×Nat)}{q x y:A}:wpG pr L ((⟨dst,none,.pick q x y⟩,mask)::l) s Q↔oB (((O.pick q x y).res (zae s.tm)).bind (opv s.h.get s.c)) fun r=>zas r.c r.wr=true/\ckG mask L (.n r.rd (r.wr.map (·.1)))/\wpG pr (L++[.n r.rd (r.wr.map (·.1))]) l (s.ae dst r.d r.wr r.c) Q:=zcx rfl
def g_new{l:List (Go.Vse.Op×Nat)}{cs:List F}:wpG pr L ((⟨dst,none,.new cs⟩,mask)::l) s Q↔oB (((O.new cs).res (zae s.tm)).bind (opv s.h.get s.c)) fun r=>zas r.c r.wr=true/\ckG mask L (.n r.rd (r.wr.map (·.1)))/\wpG pr (L++[.n r.rd (r.wr.map (·.1))]) l (s.ae dst r.d r.wr r.c) Q:=zcx rfl
def g_box{l:List (Go.Vse.Op×Nat)}{x:A}:wpG pr L ((⟨dst,none,.box x⟩,mask)::l) s Q↔oB (((O.box x).res (zae s.tm)).bind (opv s.h.get s.c)) fun r=>zas r.c r.wr=true/\ckG mask L (.n r.rd (r.wr.map (·.1)))/\wpG pr (L++[.n r.rd (r.wr.map (·.1))]) l (s.ae dst r.d r.wr r.c) Q:=zcx rfl
def g_bld{l:List (Go.Vse.Op×Nat)}{z:List F}{ps:List (Nat×Nat×A)}:wpG pr L ((⟨dst,none,.bld z ps⟩,mask)::l) s Q↔oB (((O.bld z ps).res (zae s.tm)).bind (opv s.h.get s.c)) fun r=>zas r.c r.wr=true/\ckG mask L (.n r.rd (r.wr.map (·.1)))/\wpG pr (L++[.n r.rd (r.wr.map (·.1))]) l (s.ae dst r.d r.wr r.c) Q:=zcx rfl
def g_bsl{l:List (Go.Vse.Op×Nat)}{es m:Nat}{z:List F}{ps:List (Nat×A)}:wpG pr L ((⟨dst,none,.bsl es z m ps⟩,mask)::l) s Q↔oB (((O.bsl es z m ps).res (zae s.tm)).bind (opv s.h.get s.c)) fun r=>zas r.c r.wr=true/\ckG mask L (.n r.rd (r.wr.map (·.1)))/\wpG pr (L++[.n r.rd (r.wr.map (·.1))]) l (s.ae dst r.d r.wr r.c) Q:=zcx rfl
def g_bsf{l:List (Go.Vse.Op×Nat)}{es m:Nat}{z:List F}{ps:List (Nat×A)}:wpG pr L ((⟨dst,none,.bsf es z m ps⟩,mask)::l) s Q↔oB (((O.bsf es z m ps).res (zae s.tm)).bind (opv s.h.get s.c)) fun r=>zas r.c r.wr=true/\ckG mask L (.n r.rd (r.wr.map (·.1)))/\wpG pr (L++[.n r.rd (r.wr.map (·.1))]) l (s.ae dst r.d r.wr r.c) Q:=zcx rfl
def g_ld{l:List (Go.Vse.Op×Nat)}{g:Bool}{n:Nat}{x:A}:wpG pr L ((⟨dst,none,.ld g n x⟩,mask)::l) s Q↔oB (((O.ld g n x).res (zae s.tm)).bind (opv s.h.get s.c)) fun r=>zas r.c r.wr=true/\ckG mask L (.n r.rd (r.wr.map (·.1)))/\wpG pr (L++[.n r.rd (r.wr.map (·.1))]) l (s.ae dst r.d r.wr r.c) Q:=zcx rfl
def g_st{l:List (Go.Vse.Op×Nat)}{n:Nat}{x v:A}:wpG pr L ((⟨dst,none,.st n x v⟩,mask)::l) s Q↔oB (((O.st n x v).res (zae s.tm)).bind (opv s.h.get s.c)) fun r=>zas r.c r.wr=true/\ckG mask L (.n r.rd (r.wr.map (·.1)))/\wpG pr (L++[.n r.rd (r.wr.map (·.1))]) l (s.ae dst r.d r.wr r.c) Q:=zcx rfl
def g_nck{l:List (Go.Vse.Op×Nat)}{x:A}:wpG pr L ((⟨dst,none,.nck x⟩,mask)::l) s Q↔oB (((O.nck x).res (zae s.tm)).bind (opv s.h.get s.c)) fun r=>zas r.c r.wr=true/\ckG mask L (.n r.rd (r.wr.map (·.1)))/\wpG pr (L++[.n r.rd (r.wr.map (·.1))]) l (s.ae dst r.d r.wr r.c) Q:=zcx rfl
def g_bin{l:List (Go.Vse.Op×Nat)}{op:BinOp}{x y:A}:wpG pr L ((⟨dst,none,.bin op x y⟩,mask)::l) s Q↔oB (((O.bin op x y).res (zae s.tm)).bind (opv s.h.get s.c)) fun r=>zas r.c r.wr=true/\ckG mask L (.n r.rd (r.wr.map (·.1)))/\wpG pr (L++[.n r.rd (r.wr.map (·.1))]) l (s.ae dst r.d r.wr r.c) Q:=zcx rfl
def g_eqb{l:List (Go.Vse.Op×Nat)}{ne:Bool}{x y:A}:wpG pr L ((⟨dst,none,.eqb ne x y⟩,mask)::l) s Q↔oB (((O.eqb ne x y).res (zae s.tm)).bind (opv s.h.get s.c)) fun r=>zas r.c r.wr=true/\ckG mask L (.n r.rd (r.wr.map (·.1)))/\wpG pr (L++[.n r.rd (r.wr.map (·.1))]) l (s.ae dst r.d r.wr r.c) Q:=zcx rfl
def g_eqn{l:List (Go.Vse.Op×Nat)}{kd:Nat}{ne:Bool}{x y:A}:wpG pr L ((⟨dst,none,.eqn kd ne x y⟩,mask)::l) s Q↔oB (((O.eqn kd ne x y).res (zae s.tm)).bind (opv s.h.get s.c)) fun r=>zas r.c r.wr=true/\ckG mask L (.n r.rd (r.wr.map (·.1)))/\wpG pr (L++[.n r.rd (r.wr.map (·.1))]) l (s.ae dst r.d r.wr r.c) Q:=zcx rfl
def g_eqa{l:List (Go.Vse.Op×Nat)}{ks:List Nat}{ne:Bool}{x y:A}:wpG pr L ((⟨dst,none,.eqa ks ne x y⟩,mask)::l) s Q↔oB (((O.eqa ks ne x y).res (zae s.tm)).bind (opv s.h.get s.c)) fun r=>zas r.c r.wr=true/\ckG mask L (.n r.rd (r.wr.map (·.1)))/\wpG pr (L++[.n r.rd (r.wr.map (·.1))]) l (s.ae dst r.d r.wr r.c) Q:=zcx rfl
def g_un{l:List (Go.Vse.Op×Nat)}{op:UnOp}{x:A}:wpG pr L ((⟨dst,none,.un op x⟩,mask)::l) s Q↔oB (((O.un op x).res (zae s.tm)).bind (opv s.h.get s.c)) fun r=>zas r.c r.wr=true/\ckG mask L (.n r.rd (r.wr.map (·.1)))/\wpG pr (L++[.n r.rd (r.wr.map (·.1))]) l (s.ae dst r.d r.wr r.c) Q:=zcx rfl
def g_cvi{l:List (Go.Vse.Op×Nat)}{k:IntKind}{x:A}:wpG pr L ((⟨dst,none,.cvi k x⟩,mask)::l) s Q↔oB (((O.cvi k x).res (zae s.tm)).bind (opv s.h.get s.c)) fun r=>zas r.c r.wr=true/\ckG mask L (.n r.rd (r.wr.map (·.1)))/\wpG pr (L++[.n r.rd (r.wr.map (·.1))]) l (s.ae dst r.d r.wr r.c) Q:=zcx rfl
def g_mks{l:List (Go.Vse.Op×Nat)}{es b:Nat}{z:List F}{x y:A}:wpG pr L ((⟨dst,none,.mks es b z x y⟩,mask)::l) s Q↔oB (((O.mks es b z x y).res (zae s.tm)).bind (opv s.h.get s.c)) fun r=>zas r.c r.wr=true/\ckG mask L (.n r.rd (r.wr.map (·.1)))/\wpG pr (L++[.n r.rd (r.wr.map (·.1))]) l (s.ae dst r.d r.wr r.c) Q:=zcx rfl
def g_slc{l:List (Go.Vse.Op×Nat)}{es:Nat}{x:A}{lo hi mx:Option A}:wpG pr L ((⟨dst,none,.slc es x lo hi mx⟩,mask)::l) s Q↔oB (((O.slc es x lo hi mx).res (zae s.tm)).bind (opv s.h.get s.c)) fun r=>zas r.c r.wr=true/\ckG mask L (.n r.rd (r.wr.map (·.1)))/\wpG pr (L++[.n r.rd (r.wr.map (·.1))]) l (s.ae dst r.d r.wr r.c) Q:=zcx rfl
def g_fa{l:List (Go.Vse.Op×Nat)}{off:Nat}{x:A}:wpG pr L ((⟨dst,none,.fa off x⟩,mask)::l) s Q↔oB (((O.fa off x).res (zae s.tm)).bind (opv s.h.get s.c)) fun r=>zas r.c r.wr=true/\ckG mask L (.n r.rd (r.wr.map (·.1)))/\wpG pr (L++[.n r.rd (r.wr.map (·.1))]) l (s.ae dst r.d r.wr r.c) Q:=zcx rfl
def g_fld{l:List (Go.Vse.Op×Nat)}{g:Bool}{off n:Nat}{x:A}:wpG pr L ((⟨dst,none,.fld g off n x⟩,mask)::l) s Q↔oB (((O.fld g off n x).res (zae s.tm)).bind (opv s.h.get s.c)) fun r=>zas r.c r.wr=true/\ckG mask L (.n r.rd (r.wr.map (·.1)))/\wpG pr (L++[.n r.rd (r.wr.map (·.1))]) l (s.ae dst r.d r.wr r.c) Q:=zcx rfl
def g_ia{l:List (Go.Vse.Op×Nat)}{es:Nat}{x i:A}:wpG pr L ((⟨dst,none,.ia es x i⟩,mask)::l) s Q↔oB (((O.ia es x i).res (zae s.tm)).bind (opv s.h.get s.c)) fun r=>zas r.c r.wr=true/\ckG mask L (.n r.rd (r.wr.map (·.1)))/\wpG pr (L++[.n r.rd (r.wr.map (·.1))]) l (s.ae dst r.d r.wr r.c) Q:=zcx rfl
def g_ext{l:List (Go.Vse.Op×Nat)}{i:Nat}{x:A}:wpG pr L ((⟨dst,none,.ext x i⟩,mask)::l) s Q↔oB (((O.ext x i).res (zae s.tm)).bind (opv s.h.get s.c)) fun r=>zas r.c r.wr=true/\ckG mask L (.n r.rd (r.wr.map (·.1)))/\wpG pr (L++[.n r.rd (r.wr.map (·.1))]) l (s.ae dst r.d r.wr r.c) Q:=zcx rfl
def g_app{l:List (Go.Vse.Op×Nat)}{es b:Nat}{x y:A}:wpG pr L ((⟨dst,none,.app es b x y⟩,mask)::l) s Q↔oB (((O.app es b x y).res (zae s.tm)).bind (opv s.h.get s.c)) fun r=>zas r.c r.wr=true/\ckG mask L (.n r.rd (r.wr.map (·.1)))/\wpG pr (L++[.n r.rd (r.wr.map (·.1))]) l (s.ae dst r.d r.wr r.c) Q:=zcx rfl
def g_len{l:List (Go.Vse.Op×Nat)}{x:A}:wpG pr L ((⟨dst,none,.len x⟩,mask)::l) s Q↔oB (((O.len x).res (zae s.tm)).bind (opv s.h.get s.c)) fun r=>zas r.c r.wr=true/\ckG mask L (.n r.rd (r.wr.map (·.1)))/\wpG pr (L++[.n r.rd (r.wr.map (·.1))]) l (s.ae dst r.d r.wr r.c) Q:=zcx rfl
def g_mm{l:List (Go.Vse.Op×Nat)}{mx:Bool}{x y:A}:wpG pr L ((⟨dst,none,.mm mx x y⟩,mask)::l) s Q↔oB (((O.mm mx x y).res (zae s.tm)).bind (opv s.h.get s.c)) fun r=>zas r.c r.wr=true/\ckG mask L (.n r.rd (r.wr.map (·.1)))/\wpG pr (L++[.n r.rd (r.wr.map (·.1))]) l (s.ae dst r.d r.wr r.c) Q:=zcx rfl
def g_mmk{l:List (Go.Vse.Op×Nat)}:wpG pr L ((⟨dst,none,.mmk⟩,mask)::l) s Q↔oB (((O.mmk).res (zae s.tm)).bind (opv s.h.get s.c)) fun r=>zas r.c r.wr=true/\ckG mask L (.n r.rd (r.wr.map (·.1)))/\wpG pr (L++[.n r.rd (r.wr.map (·.1))]) l (s.ae dst r.d r.wr r.c) Q:=zcx rfl
def g_mup{l:List (Go.Vse.Op×Nat)}{kd:Nat}{m k v:A}:wpG pr L ((⟨dst,none,.mup kd m k v⟩,mask)::l) s Q↔oB (((O.mup kd m k v).res (zae s.tm)).bind (opv s.h.get s.c)) fun r=>zas r.c r.wr=true/\ckG mask L (.n r.rd (r.wr.map (·.1)))/\wpG pr (L++[.n r.rd (r.wr.map (·.1))]) l (s.ae dst r.d r.wr r.c) Q:=zcx rfl
def g_mlk{l:List (Go.Vse.Op×Nat)}{kd:Nat}{z:F}{ok:Bool}{m k:A}:wpG pr L ((⟨dst,none,.mlk kd z ok m k⟩,mask)::l) s Q↔oB (((O.mlk kd z ok m k).res (zae s.tm)).bind (opv s.h.get s.c)) fun r=>zas r.c r.wr=true/\ckG mask L (.n r.rd (r.wr.map (·.1)))/\wpG pr (L++[.n r.rd (r.wr.map (·.1))]) l (s.ae dst r.d r.wr r.c) Q:=zcx rfl
def g_clr{l:List (Go.Vse.Op×Nat)}{es:Nat}{z:List F}{x:A}:wpG pr L ((⟨dst,none,.clr es z x⟩,mask)::l) s Q↔oB (((O.clr es z x).res (zae s.tm)).bind (opv s.h.get s.c)) fun r=>zas r.c r.wr=true/\ckG mask L (.n r.rd (r.wr.map (·.1)))/\wpG pr (L++[.n r.rd (r.wr.map (·.1))]) l (s.ae dst r.d r.wr r.c) Q:=zcx rfl
def g_mkf{l:List (Go.Vse.Op×Nat)}{f:Nat}{a b:List A}:wpG pr L ((⟨dst,none,.mkf f a b⟩,mask)::l) s Q↔oB (((O.mkf f a b).res (zae s.tm)).bind (opv s.h.get s.c)) fun r=>zas r.c r.wr=true/\ckG mask L (.n r.rd (r.wr.map (·.1)))/\wpG pr (L++[.n r.rd (r.wr.map (·.1))]) l (s.ae dst r.d r.wr r.c) Q:=zcx rfl
def e_box{l:List (Go.Vse.Op×Nat)}{L:List (List Nat×List Nat)}{x:A}:wpE pr L ((⟨dst,none,.box x⟩,mask)::l) s Q↔oB (((O.box x).res (zae s.tm)).bind (opv s.h.get s.c)) fun r=>zas r.c r.wr=true/\zcY mask L r.rd (r.wr.map (·.1))/\wpE pr (L++[(r.rd,r.wr.map (·.1))]) l (s.ae dst r.d r.wr r.c) Q:=zcE rfl
def o_nck{l:List Go.Vse.Op}{x:A}:wpO pr (⟨dst,none,.nck x⟩ ::l) s Q↔oB (((O.nck x).res (zae s.tm)).bind (opv s.h.get s.c)) fun r=>zas r.c r.wr=true/\wpO pr l (s.aft dst r.d r.wr r.c) Q:=zdK rfl
def e_nck{l:List (Go.Vse.Op×Nat)}{L:List (List Nat×List Nat)}{x:A}:wpE pr L ((⟨dst,none,.nck x⟩,mask)::l) s Q↔oB (((O.nck x).res (zae s.tm)).bind (opv s.h.get s.c)) fun r=>zas r.c r.wr=true/\zcY mask L r.rd (r.wr.map (·.1))/\wpE pr (L++[(r.rd,r.wr.map (·.1))]) l (s.ae dst r.d r.wr r.c) Q:=zcE rfl
def o_mmk{l:List Go.Vse.Op}:wpO pr (⟨dst,none,.mmk⟩ ::l) s Q↔oB (((O.mmk).res (zae s.tm)).bind (opv s.h.get s.c)) fun r=>zas r.c r.wr=true/\wpO pr l (s.aft dst r.d r.wr r.c) Q:=zdK rfl
def e_mmk{l:List (Go.Vse.Op×Nat)}{L:List (List Nat×List Nat)}:wpE pr L ((⟨dst,none,.mmk⟩,mask)::l) s Q↔oB (((O.mmk).res (zae s.tm)).bind (opv s.h.get s.c)) fun r=>zas r.c r.wr=true/\zcY mask L r.rd (r.wr.map (·.1))/\wpE pr (L++[(r.rd,r.wr.map (·.1))]) l (s.ae dst r.d r.wr r.c) Q:=zcE rfl
def o_mup{l:List Go.Vse.Op}{kd:Nat}{m k v:A}:wpO pr (⟨dst,none,.mup kd m k v⟩ ::l) s Q↔oB (((O.mup kd m k v).res (zae s.tm)).bind (opv s.h.get s.c)) fun r=>zas r.c r.wr=true/\wpO pr l (s.aft dst r.d r.wr r.c) Q:=zdK rfl
def e_mup{l:List (Go.Vse.Op×Nat)}{L:List (List Nat×List Nat)}{kd:Nat}{m k v:A}:wpE pr L ((⟨dst,none,.mup kd m k v⟩,mask)::l) s Q↔oB (((O.mup kd m k v).res (zae s.tm)).bind (opv s.h.get s.c)) fun r=>zas r.c r.wr=true/\zcY mask L r.rd (r.wr.map (·.1))/\wpE pr (L++[(r.rd,r.wr.map (·.1))]) l (s.ae dst r.d r.wr r.c) Q:=zcE rfl
def o_mlk{l:List Go.Vse.Op}{kd:Nat}{z:F}{ok:Bool}{m k:A}:wpO pr (⟨dst,none,.mlk kd z ok m k⟩ ::l) s Q↔oB (((O.mlk kd z ok m k).res (zae s.tm)).bind (opv s.h.get s.c)) fun r=>zas r.c r.wr=true/\wpO pr l (s.aft dst r.d r.wr r.c) Q:=zdK rfl
def e_mlk{l:List (Go.Vse.Op×Nat)}{L:List (List Nat×List Nat)}{kd:Nat}{z:F}{ok:Bool}{m k:A}:wpE pr L ((⟨dst,none,.mlk kd z ok m k⟩,mask)::l) s Q↔oB (((O.mlk kd z ok m k).res (zae s.tm)).bind (opv s.h.get s.c)) fun r=>zas r.c r.wr=true/\zcY mask L r.rd (r.wr.map (·.1))/\wpE pr (L++[(r.rd,r.wr.map (·.1))]) l (s.ae dst r.d r.wr r.c) Q:=zcE rfl
def o_clr{l:List Go.Vse.Op}{es:Nat}{z:List F}{x:A}:wpO pr (⟨dst,none,.clr es z x⟩ ::l) s Q↔oB (((O.clr es z x).res (zae s.tm)).bind (opv s.h.get s.c)) fun r=>zas r.c r.wr=true/\wpO pr l (s.aft dst r.d r.wr r.c) Q:=zdK rfl
end
omit [Globs]in
section
def rs_mv(f:A->Option D)(x:A):O.res f (.mv x)=(f x).bind fun x=>some (.mv x):=rfl
def zJX(f:A->Option D)(q x y:A):O.res f (.pick q x y)=(f q).bind fun q=>(f x).bind fun x=>(f y).bind fun y=>some (.pick q x y):=rfl
def zQG(f:A->Option D)(cs:List F):O.res f (.new cs)=some (.new cs):=rfl
def zP7(f:A->Option D)(x:A):O.res f (.box x)=(f x).bind fun x=>some (.box x):=rfl
def rs_ld(f:A->Option D)(g:Bool)(n:Nat)(x:A):O.res f (.ld g n x)=(f x).bind fun x=>some (.ld g n x):=rfl
def rs_st(f:A->Option D)(n:Nat)(x v:A):O.res f (.st n x v)=(f x).bind fun x=>(f v).bind fun v=>some (.st n x v):=rfl
def zQF(f:A->Option D)(x:A):O.res f (.nck x)=(f x).bind fun x=>some (.nck x):=rfl
def zP6(f:A->Option D)(op:BinOp)(x y:A):O.res f (.bin op x y)=(f x).bind fun x=>(f y).bind fun y=>some (.bin op x y):=rfl
def rs_fa(f:A->Option D)(o:Nat)(x:A):O.res f (.fa o x)=(f x).bind fun x=>some (.fa o x):=rfl
def rs_ia(f:A->Option D)(es:Nat)(x i:A):O.res f (.ia es x i)=(f x).bind fun x=>(f i).bind fun i=>some (.ia es x i):=rfl
def zQt(f:A->Option D)(x:A):O.res f (.len x)=(f x).bind fun x=>some (.len x):=rfl
def zQC(f:A->Option D):O.res f (.mmk)=some (.mmk):=rfl
def zQE(f:A->Option D)(kd:Nat)(m k v:A):O.res f (.mup kd m k v)=(f m).bind fun m=>(f k).bind fun k=>(f v).bind fun v=>some (.mup kd m k v):=rfl
def zQA(f:A->Option D)(kd:Nat)(z:F)(ok:Bool)(m k:A):O.res f (.mlk kd z ok m k)=(f m).bind fun m=>(f k).bind fun k=>some (.mlk kd z ok m k):=rfl
def zQc(f:A->Option D)(es:Nat)(z:List F)(x:A):O.res f (.clr es z x)=(f x).bind fun x=>some (.clr es z x):=rfl
def zQu(f:A->Option D)(g:Nat)(a b:List A):O.res f (.mkf g a b)=(zat f a).bind fun a=>(zat f b).bind fun b=>some (.mkf g a b):=rfl
end
def v_mv(h:Nat->Option Ob)(c:Nat)(d:D):opv h c (.mv d)=some {d,c}:=rfl
def zRt(h:Nat->Option Ob)(c:Nat)(b:Bool)(x y:D):opv h c (.pick (.f (.b b)) x y)=some {d:=if b then x else y,c}:=rfl
def v_new(h:Nat->Option Ob)(c:Nat)(cs:List F):opv h c (.new cs)=some {d:= .ptr c cs.length 0 0,wr:=[(c,some (.arr cs.length 0 [cs.map D.f]))],c:=c+1}:=rfl
def v_box(h:Nat->Option Ob)(c:Nat)(x:D):opv h c (.box x)=om x.cells fun cs=>some {d:= .ptr c cs.length 0 0,wr:=[(c,some (.arr cs.length 0 [cs]))],c:=c+1}:=by
 simp only[opv,om];cases x.cells<;>rfl
def v_ld(h:Nat->Option Ob)(c:Nat)(g:Bool)(n:Nat)(x:D):opv h c (.ld g n x)=om (zc3 g n h x) fun p=>some {d:=p.1,rd:=p.2,c}:=by
 simp only[opv,om];cases zc3 g n h x<;>rfl
def v_st(h:Nat->Option Ob)(c:Nat)(n:Nat)(x v:D):opv h c (.st n x v)=om (zd7 n h x v) fun p=>some {d:= .f .un,rd:=[p.1],wr:=[(p.1,some p.2)],c}:=by
 simp only[opv,om];cases zd7 n h x v<;>rfl
def zKS(h:Nat->Option Ob)(c a b e f:Nat):opv h c (.nck (.ptr a b e f))=some {d:= .ptr a b e f,c}:=rfl
def v_bin(h:Nat->Option Ob)(c:Nat)(op:BinOp)(x y:F):opv h c (.bin op (.f x) (.f y))=om (zaK op x y) fun z=>some {d:= .f z,c}:=by
 simp only[opv,om];cases zaK op x y<;>rfl
def v_fa(h:Nat->Option Ob)(c o:Nat)(x:D):opv h c (.fa o x)=om (faB o x) fun d=>some {d,c}:=by
 simp only[opv,om];cases x with
 |f y=>cases y<;>rfl
 |_=>rfl
def v_ia(h:Nat->Option Ob)(c es:Nat)(x i:D):opv h c (.ia es x i)=om (zbv i) fun n=>om (iaB es x n) fun d=>some {d,c}:=by
 simp only[opv,om,okD];cases zbv i with
 |none=>rfl
 |some n=>
  simp only[Z46];cases x with
  |f y=>
   cases y with
   |sl e l=>
    simp only[iaB];split
    .cases l[n]? <;>rfl
    .rfl
   |_=>rfl
  |sl id off m e lim ex=>simp only[iaB];split<;>rfl
  |_=>rfl
def v_len(h:Nat->Option Ob)(c:Nat)(x:D):opv h c (.len x)=om (zci x) fun n=>some {d:= .f (.i .i64 n),c}:=by
 simp only[opv,om];cases zci x<;>rfl
def v_mmk(h:Nat->Option Ob)(c:Nat):opv h c .mmk=some {d:= .mp c,wr:=[(c,some (.map []))],c:=c+1}:=rfl
def v_bld(h:Nat->Option Ob)(c:Nat)(z:List F)(ps:List (Nat×Nat×D)):opv h c (.bld z ps)=om (zdH (z.map D.f) ps) fun cs=>some {d:= .ag cs,c}:=by
 simp only[opv,om];cases zdH (z.map D.f) ps<;>rfl
theorem v_mks(h:Nat->Option Ob)(c es byt:Nat)(z:List F)(l m:D):opv h c (.mks es byt z l m)=om (zbv l) fun l=>om (zbv m) fun m=>if l<=m/\m<=zav/\m*byt<=zav then
    some {d:= .sl c 0 l es m true,wr:=[(c,some (.arr es 0 (List.replicate m (z.map D.f))))],c:=c+1} else none:=by
 simp only[opv,om];cases zbv l with
 |none=>rfl
 |some a=>cases zbv m<;>rfl
def upM(id:Nat)(kd:Nat)(k:F)(v:D)(c:Nat)(ents:List (F×D)):Option (Option (Nat×D))->Option Rs
 |some (some (i,_))=>some {d:= .f .un,rd:=[id],wr:=[(id,some (.map (ents.set i (k,v))))],c}
 |some none=>some {d:= .f .un,rd:=[id],wr:=[(id,some (.map (ents++[(k,v)])))],c}
 |none=>none
def up_s{id kd i:Nat}{k:F}{v w:D}{c:Nat}{ents:List (F×D)}:upM id kd k v c ents (some (some (i,w)))=some {d:= .f .un,rd:=[id],wr:=[(id,some (.map (ents.set i (k,v))))],c}:=rfl
def up_n{id kd:Nat}{k:F}{v:D}{c:Nat}{ents:List (F×D)}:upM id kd k v c ents (some none)=some {d:= .f .un,rd:=[id],wr:=[(id,some (.map (ents++[(k,v)])))],c}:=rfl
def upO(id kd:Nat)(k:F)(v:D)(c:Nat):Ob->Option Rs
 | .map ents=>if zfJ kd k=true then upM id kd k v c ents (zc1 kd k ents 0)else none
 |_=>none
def upO_m{id kd:Nat}{k:F}{v:D}{c:Nat}{ents:List (F×D)}:upO id kd k v c (.map ents)=if zfJ kd k=true then upM id kd k v c ents (zc1 kd k ents 0)else none:=rfl
def v_mup(h:Nat->Option Ob)(c kd id:Nat)(k:F)(v:D):opv h c (.mup kd (.mp id) (.f k) v)=om (h id) (upO id kd k v c):=by
 simp only[opv,om];cases h id with
 |none=>rfl
 |some o=>
  cases o with
  |arr=>rfl
  |map ents=>
   simp only[Z46,upO];split
   .cases zc1 kd k ents 0 with
    |none=>rfl
    |some x=>cases x with
     |none=>rfl
     |some y=>rfl
   .rfl
def lkM(id:Nat)(z:F)(ok:Bool)(c:Nat):Option (Option (Nat×D))->Option Rs
 |some (some (_,v))=>some {d:=if ok then .tu [v,.f (.b true)]else v,rd:=[id],c}
 |some none=>some {d:=if ok then .tu [z.d,.f (.b false)]else z.d,rd:=[id],c}
 |none=>none
def lk_s{id i:Nat}{z:F}{ok:Bool}{c:Nat}{v:D}:lkM id z ok c (some (some (i,v)))=some {d:=if ok then .tu [v,.f (.b true)]else v,rd:=[id],c}:=rfl
def lk_n{id:Nat}{z:F}{ok:Bool}{c:Nat}:lkM id z ok c (some none)=some {d:=if ok then .tu [z.d,.f (.b false)]else z.d,rd:=[id],c}:=rfl
def lkO(id kd:Nat)(z:F)(ok:Bool)(k:F)(c:Nat):Ob->Option Rs
 | .map ents=>if zfJ kd k=true then lkM id z ok c (zc1 kd k ents 0)else none
 |_=>none
def lkO_m{id kd:Nat}{z:F}{ok:Bool}{k:F}{c:Nat}{ents:List (F×D)}:lkO id kd z ok k c (.map ents)=if zfJ kd k=true then lkM id z ok c (zc1 kd k ents 0)else none:=rfl
def v_mlk(h:Nat->Option Ob)(c kd id:Nat)(z:F)(ok:Bool)(k:F):opv h c (.mlk kd z ok (.mp id) (.f k))=om (h id) (lkO id kd z ok k c):=by
 simp only[opv,om];cases h id with
 |none=>simp
 |some o=>
  cases o with
  |arr=>simp[lkO]
  |map ents=>
   simp only[Z46,lkO];split
   .cases zc1 kd k ents 0 with
    |none=>rfl
    |some x=>cases x with
     |none=>rfl
     |some y=>rfl
   .rfl
def sk_s(x:List UInt8):zfJ 1 (.s x)=true:=rfl
def sk_i(k:IntKind)(x:Int):zfJ 0 (.i k x)=true:=rfl
def ce_mp(x:Nat):(D.mp x).cells=some [.mp x]:=rfl
def ce_fn(x:Nat)(a b:List D):(D.fn x a b).cells=some [.fn x a b]:=rfl
def zH6:(D.f .nilf).cells=some [.f .nilf]:=rfl
def zH8:(D.f .nilp).cells=some [.f .nilp]:=rfl
def zLW(n:Nat):(D.f (.fn n)).cells=some [.f (.fn n)]:=rfl
def zMe:(F.nilp).d= .f .nilp:=rfl
def zMb:(F.nilf).d= .f .nilf:=rfl
def d_fn(n:Nat):(F.fn n).d= .f (.fn n):=rfl
def zMc:(F.nilm).d= .f .nilm:=rfl
def h8_mp(a:Nat)(l:List (List D)):hd8 ([.mp a]::l)=false:=rfl
def h8_fn(x:Nat)(a b:List D)(l:List (List D)):hd8 ([.fn x a b]::l)=false:=rfl
def zIV(l:List (List D)):hd8 ([.f .nilf]::l)=false:=rfl
def zIW(l:List (List D)):hd8 ([.f .nilp]::l)=false:=rfl
def D.oid:D->Option Nat
 | .sl id _ _ _ _ _=>some id
 |_=>none
def zPu(a b c d e:Nat)(x:Bool):(D.sl a b c d e x).oid=some a:=rfl
def oid_f(x:F):(D.f x).oid=none:=rfl
def if_sl(a b c d e:Nat)(x:Bool):(D.sl a b c d e x).isF=false:=rfl
def if_f(x:F):(D.f x).isF=true:=rfl
def zOZ(a b c d:Nat):(D.ptr a b c d).isF=false:=rfl
def if_ag(l:List D):(D.ag l).isF=D.zh4 l:=rfl
def if_tu(l:List D):(D.tu l).isF=D.zh4 l:=rfl
def if_n:D.zh4 []=true:=rfl
def if_c(d:D)(l:List D):D.zh4 (d::l)=(d.isF&&D.zh4 l):=rfl
def Gro(h:T Ob)(lo c es:Nat)(d:D)(els:List (List D)):Prop:=
 (d= .f .nils/\els=[])\/∃id ro,d= .sl id 0 els.length es els.length false/\els≠[]/\h.get id=some (.arr es ro els)/\ro<=els.length/\lo<=id/\id<c
omit [Globs]in
def Gro.nil{h:T Ob}{lo c es:Nat}:Gro h lo c es (.f .nils) []:= .inl ⟨rfl,rfl⟩
omit [Globs]in
def zaX{h h':T Ob}{lo c c' es:Nat}{d:D}{els:List (List D)}(hg:Gro h lo c es d els)(hc:c<=c')(hh:∀id,lo<=id->id<c->h'.get id=h.get id):Gro h' lo c' es d els:=by
 rcases hg with h|⟨id,ro,h1,h2,h3,h4,h5,h6⟩
 .exact .inl h
 .exact .inr ⟨id,ro,h1,h2,by rw[hh id h5 h6];exact h3,h4,h5,by omega⟩
omit [Globs]in
def zbY{h:T Ob}{lo c es:Nat}{d:D}{els:List (List D)}(hg:Gro h lo c es d els):d.cells=some [d]:=by
 rcases hg with⟨rfl,_⟩ |⟨id,ro,rfl,_⟩ <;>rfl
omit [Globs]in
def zer{h:T Ob}{lo c es:Nat}{d:D}{els:List (List D)}(hg:Gro h lo c es d els):zci d=some els.length:=by
 rcases hg with⟨rfl,rfl⟩ |⟨id,ro,rfl,_⟩ <;>rfl
theorem zot{h:T Ob}{lo c es byt:Nat}{d:D}{els new:List (List D)}{rd:List Nat}(hg:Gro h lo c es d els)(hlo:lo<=c)(hlen:els.length+new.length<=1000000)(hb:byt<=1000):
  ∃r,za3 es byt h.get c d new rd=some r/\zas r.c r.wr=true/\Gro (wrT h r.wr) lo r.c es r.d (els++new)/\c<=r.c/\(∀id,id<c->d.oid≠some id->(wrT h r.wr).get id=h.get id)/\
   (∀x,x∈r.wr.map (·.1)->x=c\/d.oid=some x)/\(∀x,x∈r.rd->x∈rd\/d.oid=some x)/\(∀x,r.d.oid=some x->x=c\/d.oid=some x):=by
 have hm:∀n,n<=1000000->n<=zav:=fun n hn=>by have:=zcL (n:=n) (by omega);simpa using this
 have hmb:∀n,n<=1000000->n*byt<=zav:=fun n hn=>by
  have:n*byt<=1000000*1000:=Z144 hn hb;have h2:=zcL (n:=n*byt) (by omega);simpa using h2
 by_cases h0:new.length=0
 .have hn:new=[]:=Z17.1 h0;subst hn;rcases hg with⟨rfl,rfl⟩ |⟨id,ro,rfl,he,ho,hr,hl,hc⟩
  .exact⟨{d:= .f .nils,rd,c},by rw[zhm];simp,rfl,.inl ⟨rfl,rfl⟩,Z2 _,fun _ _ _=>rfl,by simp,fun x hx=> .inl hx,by simp[D.oid]⟩
  .exact⟨{d:= .sl id 0 els.length es els.length false,rd,c},by rw[zkN];simp,rfl,.inr ⟨id,ro,by simp,by simpa using he,by simpa [wrT]using ho,by simpa using hr,hl,hc⟩,Z2 _,fun _ _ _=>rfl,by simp,fun x hx=> .inl hx,fun x hx=> .inr hx⟩
 .rcases hg with⟨rfl,rfl⟩ |⟨id,ro,rfl,he,ho,hr,hl,hc⟩
  .refine⟨{d:= .sl c 0 new.length es new.length false,rd,wr:=[(c,some (.arr es 0 new))],c:=c+1},?_,?_,.inr ⟨c,0,rfl,?_,?_,Z61 _,hlo,by simp⟩,by simp,?_,by simp,fun x hx=> .inl hx,by simp[D.oid]⟩
   .rw[zhm,Z49 h0,Z51 ⟨hm _ (by simpa using hlen),hmb _ (by simpa using hlen)⟩]
   .simp[zas,Z79]
   .simpa using fun e=>h0 (by simp[e])
   .simp[wrT,T.zab]
   .intro i hi _;have:i≠c:=by omega
    simp[wrT,T.zab,this]
  .refine⟨{d:= .sl c 0 (els.length+new.length) es (els.length+new.length) false,rd:=id::rd,wr:=[(id,none),(c,some (.arr es ro (els++new)))],c:=c+1},?_,?_,.inr ⟨c,ro,by simp,?_,?_,by simp;omega,hlo,by simp⟩,by simp,?_,?_,?_,by simp[D.oid]⟩
   .rw[zkN,Z49 h0,ho];have h1:¬(0+els.length+new.length<=els.length):=by omega
    have h2:=hm (els.length+new.length) hlen;have h3:=hmb (els.length+new.length) hlen;simp[om,apO,h1,h2,h3,hr];omega
   .simp[zas,Z79];omega
   .simp[he]
   .simp[wrT,T.zab]
   .intro i hi hne;have h1:i≠c:=by omega
    have h2:i≠id:=fun e=>hne (by rw[e];rfl)
    simp[wrT,T.zab,T.zbB,h1,h2]
   .intro x hx;simp only[Z10,Z85,Z5,Z164,or_false]at hx;rcases hx with rfl|rfl
    .exact .inr rfl
    .exact .inl rfl
   .intro x hx;rcases Z5.1 hx with rfl|hx
    .exact .inr rfl
    .exact .inl hx
def rulI [Globs]:=
 (qI @g_mv (qI @zOJ (qI @g_new (qI @g_box (qI @g_bld (qI @g_bsl (qI @g_bsf (qI @g_ld (qI @g_st (qI @g_nck (qI @g_bin (qI @g_eqb (qI @g_eqn (qI @g_eqa (qI @g_un (qI @g_cvi (qI @g_mks (qI @g_slc (qI @g_fa (qI @g_fld (qI @g_ia (qI @g_ext (qI @g_app (qI @g_len (qI @g_mm (qI @g_mmk (qI @g_mup (qI @g_mlk (qI @g_clr (qI @g_mkf (qI @e_box (qI @o_nck (qI @e_nck (qI @o_mmk (qI @e_mmk (qI @o_mup (qI @e_mup (qI @o_mlk (qI @e_mlk (qI @o_clr (qI @rs_mv (qI @zJX (qI @zQG (qI @zP7 (qI @rs_ld (qI @rs_st (qI @zQF (qI @zP6 (qI @rs_fa (qI @rs_ia (qI @zQt (qI @zQC (qI @zQE (qI @zQA (qI @zQc (qI @zQu (qI @zHb (qI @um_h (qI @um_c (qI @zG9 (qI @zGn (qI @ca_h (qI @ca_c (qI @zGl (qI @zG8 (qI @ug_h (qI @ug_c (qI @zG6 (qI @zGr (qI @cg_h (qI @cg_c (qI @zGp (qI @zkK (qI @zO9 (qI @zJd (qI @cg_n (qI @zIb (qI @c1_nn (qI @zzq (qI @c1_rn (qI @c1_nr (qI @c1_qn (qI @c1_nq (qI @g_nil (qI @zIE (qI @g_call (qI @zID (qI @zIB (qI @v_mv (qI @zRt (qI @v_new (qI @v_box (qI @v_ld (qI @v_st (qI @zKS (qI @v_bin (qI @v_fa (qI @v_ia (qI @v_len (qI @v_mmk (qI @v_bld (qI @v_mks (qI @up_s (qI @up_n (qI @upO_m (qI @v_mup (qI @lk_s (qI @lk_n (qI @lkO_m (qI @v_mlk (qI @sk_s (qI @sk_i (qI @ce_mp (qI @ce_fn (qI @zH6 (qI @zH8 (qI @zLW (qI @zMe (qI @zMb (qI @d_fn (qI @zMc (qI @h8_mp (qI @h8_fn (qI @zIV (qI @zIW (qI @zPu (qI @oid_f (qI @if_sl (qI @if_f (qI @zOZ (qI @if_ag (qI @if_tu (qI @if_n (qI @if_c True.intro))))))))))))))))))))))))))))))))))))))))))))))))))))))))))))))))))))))))))))))))))))))))))))))))))))))))))))))))))))))))))))))))))))))
def rW [Globs]:=And.intro rulI rR
def rG [Globs]:=qI @zbj (qI @zco (qI @zcn (qI @zG5 (qI @zbd (qI @zcb (qI @zca (qI @zF7 (qI @zbi (qI @zcm (qI @zcj (qI @zGZ (qI @zbk (qI @zcr (qI @zcp (qI @zHc (qI @za0 (qI @zbh (qI @zbf (qI @zBl (qI @zHb (qI @um_h (qI @um_c (qI @zG9 (qI @zG8 (qI @ug_h (qI @ug_c (qI @zG6 (qI @zGr (qI @cg_h (qI @cg_c (qI @zGp (qI @zGn (qI @ca_h (qI @ca_c (qI @zGl (qI @zct (qI @zcu (qI @zcs (@zkK)))))))))))))))))))))))))))))))))))))))
end Go.Vse
end
section
namespace Go.Vse.Sm
def cop(c:CQ):CQ:=⟨c.as,c.cs,c.ne,false⟩
def CmOk(k:Cm):Prop:=zDr k.l/\zDr k.r
def AtOk(a:Atm):Prop:=(∀t∈a.ts,zDr t)/\a.ts.length<1000
structure zma(c:CQ):Prop where
 as:∀a∈c.as,AtOk a
 cs:∀k∈c.cs,CmOk k
 la:c.as.length<1000
 lc:c.cs.length<1000
structure CqSm(c:CQ):Prop extends zma c where
 sa:c.as.length<=12
 st:∀a∈c.as,a.ts.length<=12
 sc:c.cs.length<=200
 s2:∀a∈c.as,a.ts.length<=2
structure CqG(c:CQ):Prop extends CqSm c where
 tn:∀a∈c.as,a.ts≠[]
end Go.Vse.Sm
namespace Go.Vse
open Sm
end Go.Vse
end
section
namespace Go.Vse
open Go.RowKit
open Go (BinOp IntKind UnOp)
set_option maxRecDepth 100000
set_option maxHeartbeats 4000000
variable [Globs]
section
variable {amb:Mu}{h:Hp}{ρ:Nat->Option Nat}{c:Nat->Prop}
end
section
variable {P:Program}
theorem zgW.frozen{f:Nat}{args:List D}{h:T Ob}{fs:List F}{rd:List Nat}{q:CR}(hq:zgW P f (F.dL fs) .e 0 q)(hfz:zbU h.get args=some (fs,rd))
  {amb:Mu}{ρ:Nat->Option Nat}{c:Nat->Prop}{w:World}{vs:List Value}(s:Sim amb w.heap h.get ρ c)(hargs:zaq w.heap (zal amb h.get ρ) ρ c args vs):
  ∃g,g=zbu h.get (zau h.get rd)/\Sim amb w.heap g ρ c/\Evo amb (fun id=>id∈(zau h.get rd).map (·.1)) w.heap h.get ρ c w.heap g ρ c/\
   Calls P f ⟨vs⟩ w fun e w'=>∃v,e= .returned v/\Base w w'/\∃ρ',Rel w'.heap (zal (zal amb g ρ) q.h.get ρ') ρ' (UX (fun _=>False) 0 q.c) q.d v/\Sim (zal amb g ρ) w'.heap q.h.get ρ' (UX (fun _=>False) 0 q.c)/\
    w.heap.size<=w'.heap.size/\(∀b,b<w.heap.size->w'.heap[b]? =w.heap[b]?)/\∀id b,ρ' id=some b->w.heap.size<=b:=by
 obtain⟨hen,_,_,hcall⟩ :=hq;obtain⟨s1,e1,_,m1⟩ :=Sim.marks (h:=h.get) (fun id=>id∈(zau h.get rd).map (·.1)) rd h.get (fun _=> .inl rfl) s (fun p hp=>Z12.2 ⟨p,hp,rfl⟩);refine⟨_,rfl,s1,e1,?_⟩;generalize hg:zbu h.get (zau h.get rd)=g at s1 e1 m1;have hok:zgP amb h.get ρ rd (zal amb g ρ):=by
  refine⟨fun b o hm hx=> ?_,fun id hid es ro els b ho hb j hj hx=> ?_⟩
  .rcases hx with hx|⟨id,ob,h1,h2,h3⟩
   .exact hm (.inl hx)
   .obtain⟨_,ob0,h0⟩ :=s.dom id b h2;refine hm (.inr ⟨id,ob0,h0,h2,?_⟩)
    by_cases hW:id∈(zau h.get rd).map (·.1)
    .cases ob0 with
     |map e0=>trivial
     |arr es ro els=>
      rcases (Sim.marks (h:=h.get) (amb:=amb) (H:=w.heap) (ρ:=ρ) (c:=c) (fun _=>True) rd h.get (fun _=> .inl rfl) s (fun _ _=>trivial)).2.2.1 id with hh|⟨es',ro',els',k1,k2,k3⟩
      .rw[hg]at hh;rw[hh,h0]at h1;cases h1;exact h3
      .rw[hg,h1]at k3;rw[h0]at k1;cases k1;cases k3;exact Z3 (Z9 es (Z110 k2)) h3
    .have:=(e1.low id hW (s.lt id ob0 h0)).1;rw[this,h0]at h1;cases h1;exact h3
  .rcases hx with hx|⟨id',ob,h1,h2,h3⟩
   .exact s.out id b j hb hx
   .have hii:=s.inj id id' b hb h2;subst hii;obtain⟨ro',k1,k2⟩ :=m1 id (.inr hid) es ro els ho;rw[k1]at h1;cases h1;have:els.length*es<=j:=Z3 (Z9 es k2) h3;omega
 have hfl:zaM w.heap (zal amb g ρ) fs vs:=zhy (fun d x rd v=>ziq s 12 d x rd v) args fs rd vs hfz hok hargs;have hsim0:Sim (zal amb g ρ) w.heap (T.e:T Ob).get (fun _=>none) (fun _=>False):=by
  rw[zgj];refine⟨fun id ob ho=>by simp at ho,fun id b hb=>by simp at hb,fun id id' b hb=>by simp at hb,fun id b i hb=>by simp at hb,fun id ob ho=>by simp at ho,fun b i hx=> ?_,fun n cs hg=>by rw[zfv];exact s1.glob n cs hg⟩;rcases hx with hx|⟨id,ob,h1,h2,h3⟩
  .exact s1.amb b i hx
  .exact (s1.dom id b h2).1
 have hc0:=hcall (zal amb g ρ) (fun _=>none) (fun _=>False) w vs hsim0 (fun _ _ _ hx=>hx) (by rw[zgj,zfv];exact zaM.dL fs vs hfl);refine hc0.mono fun e w' ⟨v,he,hb,ρ',k1,k2,k3⟩ =>⟨v,he,hb,ρ',k1,k2,k3.size,fun b hlt=>(k3.blk b hlt (fun id=>by simp)).1,fun id b hx=> ?_⟩
 rcases Z145 b w.heap.size with hlt|hge
 .exact absurd hx ((k3.blk b hlt (fun id=>by simp)).2 id)
 .exact hge
end
end Go.Vse
end
section
namespace Go.Vse
open Go.RowKit
open Go (BinOp IntKind UnOp)
set_option maxRecDepth 100000
set_option maxHeartbeats 4000000
section
variable [Globs]
variable {P:Program}{amb:Mu}{ρ:Nat->Option Nat}{c:Nat->Prop}{h:Hp}
def zgW.widen{f:Nat}{args:List D}{h:T Ob}{n:Nat}{q q':CR}(hq:zgW P f args h n q)(hd:q'.d=q.d)(hh:∀i,q'.h.get i=q.h.get i)(hc:q.c<=q'.c)(hm:q.mx<=q'.mx)(hl:q'.lw<=q.lw)(hcm:q'.c<=q'.mx):zgW P f args h n q':=by
 obtain⟨h1,h2,h3,h4⟩ :=hq;refine⟨h1,by omega,hcm,fun amb ρ c w vs hs hf ha=> ?_⟩;refine (h4 amb ρ c w vs hs (fun id a b=>hf id a (by omega)) ha).mono ?_;rintro e w' ⟨v,he,hb,ρ',k1,k2,k3⟩;have hg:q'.h.get=q.h.get:=funext hh;have hw:∀i,UX c n q.c i->UX c n q'.c i:=fun i hi=>hi.elim .inl fun e=> .inr ⟨e.1,by omega⟩
 refine⟨v,he,hb,ρ',?_,?_,?_⟩
 .rw[hd,hg];exact Rel.keep ⟨fun _ _ _ h e=>⟨e,h⟩,fun _ _ _ h=>h,fun _ _ h=>h,hw⟩ _ _ k1
 .rw[hg];exact k2.widen hw
 .rw[hg];exact (k3.widen hw).mono fun i _ hi=>⟨by omega,by omega⟩
structure ApartR(w:World)(b bv:Nat)(o:Nat):Prop where
 ne:b≠bv
 sh:∃tA kA tB kB,w.shape? b=some (tA,kA)/\w.shape? bv=some (tB,kB)/\kB≠0/\w.frozen? ⟨b,o,none⟩ =false/\w.frozen? ⟨b,kA,none⟩ =false
end
end Go.Vse
end
section
namespace Go.Vse
variable [Globs]
open Go (BinOp IntKind UnOp)
set_option maxRecDepth 100000
def FrQ(h:T Ob)(c:Nat)(h':T Ob)(lw:Nat):Prop:=∀id,id<lw->id<c->h'.get id=h.get id
def ztE(cl:Cl):Prop:=∀f args h c q,cl f args h c=some q->FrQ h c q.h q.lw
omit [Globs]in
theorem zwe:∀(l:List (Nat×Option Ob)) (h:T Ob) (id:Nat),(∀x∈l.map (·.1),x≠id)->(wrT h l).get id=h.get id
 |[],_,_,_=>rfl
 |(x,some ob)::l,h,id,hn=>by
  rw[wrT,zwe l _ id fun y hy=>hn y (by simp at hy|-;exact .inr hy),T.zab,Z49];exact fun e=>hn x (by simp) e.symm
 |(x,none)::l,h,id,hn=>by
  rw[wrT,zwe l _ id fun y hy=>hn y (by simp at hy|-;exact .inr hy),T.zbB,Z49];exact fun e=>hn x (by simp) e.symm
def zvX{s s':St}{dst:Option Nat}{r:Option Rs}{p:Fp}(hs:zcw s dst r=some (s',p)):FrQ s.h s.c s'.h s'.lw:=by
 cases r with
 |none=>simp[zcw]at hs
 |some r=>
  have h2:=(zgx hs).2;simp only[Z66]at h2;obtain⟨rfl,_⟩ :=h2;intro id h1 _;exact zwe _ _ _ fun x hx e=>by
   have:=(zhk r.wr s.lw).2 x hx;simp only at h1;omega
def zu9{cl:Cl}(hcl:ztE cl){co:Op}{s s':St}{p:Fp}(hs:zdR cl s co=some (s',p)):FrQ s.h s.c s'.h s'.lw:=by
 unfold zdR at hs;split at hs
 .simp at hs
 .unfold step at hs;split at hs
  .simp at hs
  .split at hs
   .exact zvX hs
   .rename_i f args hk;cases hv:cl f args s.h s.c with
    |none=>rw[hv]at hs;simp[zfg]at hs
    |some q=>
     rw[hv]at hs;simp only[zfg,Z45,Z66]at hs;obtain⟨rfl,_⟩ :=hs;intro id h1 h2;simp only at h1;exact hcl _ _ _ _ _ hv id (Z15 h1 (Z201 _ _)) h2
   .exact zvX hs
   .simp at hs
 .simp only[Z45,Z66]at hs;obtain⟨rfl,_⟩ :=hs;exact fun _ _ _=>rfl
omit [Globs]in
def FrQ.tr{h h1 h2:T Ob}{c c1 l1 l2:Nat}(a:FrQ h c h1 l1)(b:FrQ h1 c1 h2 l2)(hc:c<=c1)(hl:l2<=l1):FrQ h c h2 l2:=fun id x y=>(b id x (by omega)).trans (a id (by omega) y)
section
variable {P:Go.Program}
theorem zsL{cl:Cl}(hcl:ztE cl)(hc:zd5 P cl):∀(l:List Op) (s s':St),zeU cl l s=some s'->s.c<=s.mx->FrQ s.h s.c s'.h s'.lw
 |[],s,s',h,_=>by cases h;exact fun _ _ _=>rfl
 |o::l,s,s',h,hm=>by
  simp only[zeU]at h;split at h
  .cases h
  .rename_i s1 p h1;have m1:=zjw hc h1 hm;have m2:=zgO hc l s1 s' h m1.2.1;exact (zu9 hcl h1).tr (zsL hcl hc l s1 s' h m1.2.1) m1.1 m2.2.2.2
def zEB{cl:Cl}(hc:zd5 P cl){co:Op}{s s':St}{p:Fp}(hs:zdR cl s co=some (s',p))(hm:s.c<=s.mx):s.c<=p.hi/\p.hi<=s'.mx:=by
 have norm:∀r:Option Rs,(∀x,r=some x->s.c<=x.c)->zcw s co.dst r=some (s',p)->s.c<=p.hi/\p.hi<=s'.mx:=by
  intro r hr hs;cases r with
  |none=>simp[zcw]at hs
  |some r=>
   have h2:=(zgx hs).2;simp only[Z66]at h2;obtain⟨rfl,rfl⟩ :=h2;exact⟨Z3 (hr r rfl) (Z128 _),Z78 _ _⟩
 unfold zdR at hs;split at hs
 .simp at hs
 .unfold step at hs;split at hs
  .simp at hs
  .split at hs
   .rename_i f args hk;refine norm _ (fun r hv=> ?_) hs;unfold zez at hv
    (repeat' split at hv)<;>first|(simp at hv;done)|(simp only[Z45]at hv;subst hv;exact Z2 _)
   .rename_i f args hk;cases hv:cl f args s.h s.c with
    |none=>rw[hv]at hs;simp[zfg]at hs
    |some q=>
     rw[hv]at hs;simp only[zfg,Z45,Z66]at hs;obtain⟨rfl,rfl⟩ :=hs;obtain⟨_,h1,h2,_⟩ :=hc _ _ _ _ _ hv;exact⟨Z3 h1 h2,Z78 _ _⟩
   .exact norm _ (fun r hv=>zqM hv) hs
   .simp at hs
 .simp only[Z45,Z66]at hs;obtain⟨rfl,rfl⟩ :=hs;exact⟨Z2 _,hm⟩
theorem zvE{cl:Cl}(hcl:ztE cl)(hc:zd5 P cl):∀(l:List (Op×Nat)) (fps:List Fp) (s s':St),zeS cl l fps s=some s'->s.c<=s.mx->FrQ s.h s.c s'.h s'.lw
 |[],_,s,s',h,_=>by cases h;exact fun _ _ _=>rfl
 |(o,mask)::l,fps,s,s',h,hm=>by
  simp only[zeS]at h;split at h
  .cases h
  .rename_i s1 p h1;split at h
   .have m0:=zEB hc h1 hm;have m2:=zjH hc l _ {s1 with c:=p.hi} s' h m0.2;exact (zu9 hcl h1).tr (zvE hcl hc l _ {s1 with c:=p.hi} s' h m0.2) m0.1 m2.2.2.2
   .cases h
theorem zwZ{body:St->Option (Ex×St)}(hb:∀s x s',body s=some (x,s')->s.c<=s.mx->zf8 s s')(hf:∀s x s',body s=some (x,s')->s.c<=s.mx->FrQ s.h s.c s'.h s'.lw):∀(n:Nat) (s:St) (x:Ex) (s':St),iter body n s=some (x,s')->s.c<=s.mx->FrQ s.h s.c s'.h s'.lw
 |0,_,_,_,h,_=>by cases h
 |n+1,s,x,s',h,hm=>by
  simp only[iter]at h;split at h
  .rename_i s1 h1;have m1:=hb _ _ _ h1 hm;have m2:=zkW hb n s1 x s' h m1.2.1;exact (hf _ _ _ h1 hm).tr (zwZ hb hf n s1 x s' h m1.2.1) m1.1 m2.2.2.2
  .exact hf _ _ _ h hm
theorem zgK{cl:Cl}(hcl:ztE cl)(hc:zd5 P cl)(lf:Nat):∀(cc:C) (s:St) (x:Ex) (s':St),evC cl lf cc s=some (x,s')->s.c<=s.mx->FrQ s.h s.c s'.h s'.lw
 | .skip,s,x,s',h,_=>by cases h;exact fun _ _ _=>rfl
 | .exit _,s,x,s',h,_=>by cases h;exact fun _ _ _=>rfl
 | .ret,s,x,s',h,_=>by cases h;exact fun _ _ _=>rfl
 | .reg ops,s,x,s',h,hm=>by
  simp only[evC]at h;split at h
  .rename_i s1 h1;cases h;exact zsL hcl hc _ _ _ h1 hm
  .cases h
 | .dreg ops,s,x,s',h,hm=>by
  simp only[evC]at h;split at h
  .rename_i s1 h1;cases h;exact zvE hcl hc _ _ _ _ h1 hm
  .cases h
 | .seq a b,s,x,s',h,hm=>by
  simp only[evC]at h;split at h
  .rename_i s1 h1;have m1:=zcQ hc lf _ _ _ _ h1 hm;have m2:=zcQ hc lf _ _ _ _ h m1.2.1;exact (zgK hcl hc lf a _ _ _ h1 hm).tr (zgK hcl hc lf b _ _ _ h m1.2.1) m1.1 m2.2.2.2
  .exact zgK hcl hc lf a _ _ _ h hm
 | .cond y a b,s,x,s',h,hm=>by
  simp only[evC]at h;split at h
  .exact zgK hcl hc lf a _ _ _ h hm
  .exact zgK hcl hc lf b _ _ _ h hm
  .cases h
 | .blk id c,s,x,s',h,hm=>by
  simp only[evC]at h;split at h
  .rename_i i s1 h1;have:=zgK hcl hc lf c _ _ _ h1 hm;split at h<;>(cases h;exact this)
  .exact zgK hcl hc lf c _ _ _ h hm
 | .loop c,s,x,s',h,hm=>by
  simp only[evC]at h;exact zwZ (fun s x s'=>zcQ hc lf c s x s') (fun s x s'=>zgK hcl hc lf c s x s') _ _ _ _ h hm
def zDp(pr:Pr):Prop:=∀f args h c q,pr.exq f args h c=some q->FrQ h c q.h q.lw
theorem zrF{pur:Nat->Bool}{pr:Pr}(hp:zmb P pur pr)(he:zDp pr):∀n,ztE (zbW pr n)
 |0=>fun f args h c q hq=>by simp[zbW]at hq
 |n+1=>fun f args h c q hq=>by
  simp only[zbW]at hq;split at hq
  .rename_i fn hfn;unfold zfd at hq;split at hq
   .cases hq
   .cases hq
   .rename_i x s hev;have:=zgK (zrF hp he n) (zfj hp n) n _ _ _ _ hev (Z2 _);split at hq
    .cases hq
    .split at hq<;>(cases hq;first|exact fun _ _ _=>rfl|exact this)
  .split at hq
   .cases hq;exact fun _ _ _=>rfl
   .exact he _ _ _ _ _ hq
end
structure Kps(pr:Pr):Prop where
 le:zpR pr
 fr:∀f args h c q,Con pr f args h c q->FrQ h c q.h q.lw
 ev:∀n cc s x s',evC (zbW pr n) n cc s=some (x,s')->s.c<=s.mx->FrQ s.h s.c s'.h s'.lw
def zPm{P:Go.Program}{pur:Nat->Bool}{pr:Pr}(hp:zmb P pur pr)(he:zDp pr):Kps pr:=
 ⟨zut hp,fun f args h c q ⟨N,hN⟩ =>zrF hp he N f args h c q (hN N (Z2 _)),fun n cc s x s' h hm=>zgK (zrF hp he n) (zfj hp n) n cc s x s' h hm⟩
def zuz(res:List Rv)(P:D->T Ob->Nat->Prop)(x:Ex)(s:St):Prop:=
 (match x with| .exit _=>False|_=>True)/\oB (resD s res) fun d=>P d s.h s.c
def zaR{res:List Rv}{P:D->T Ob->Nat->Prop}{s:St}:zuz res P .ret s=oB (resD s res) fun d=>P d s.h s.c:=by simp[zuz]
def znw{res:List Rv}{P:D->T Ob->Nat->Prop}{s:St}:zuz res P .nrm s=oB (resD s res) fun d=>P d s.h s.c:=by simp[zuz]
def zb2{pr:Pr}(hk:Kps pr){f:Nat}{fn:Fn}(hf:pr.fn f=some fn){args:List D}{h:T Ob}{c:Nat}{P:D->T Ob->Nat->Prop}(hP:∀d h' c',P d h' c'->d.isF=true->(∀id,id<c->h'.get id=h.get id)->P d h c)(hw:wpC pr fn.body (st0 args h c) (zuz fn.res P)):Eff pr f args h c P:=by
 obtain⟨x,s,⟨hx,hr⟩,ev⟩ :=ze1 _ _ _ hw;cases hd:resD s fn.res with
 |none=>rw[hd]at hr;exact hr.elim
 |some d=>
  rw[hd]at hr;have hr:P d s.h s.c:=hr;have hfr:FrQ h c s.h s.lw:=by
   obtain⟨N,hN⟩ :=ev;exact hk.ev N _ _ _ _ (hN N (Z2 _)) (Z2 _)
  have key:EV fun m=>zfd (evC (zbW pr m) m) fn args h c=some (if Nat.beq s.lw c&&d.isF then ⟨d,h,c,c,s.mx⟩else ⟨d,s.h,s.c,s.lw,s.mx⟩):=by
   refine ev.mono fun m hm=> ?_
   unfold zfd;unfold st0 at hm;rw[hm];cases x with
   |exit i=>exact hx.elim
   |nrm=>simp only[hd];split<;>rfl
   |ret=>simp only[hd];split<;>rfl
  have hq:Con pr f args h c (if Nat.beq s.lw c&&d.isF then ⟨d,h,c,c,s.mx⟩else ⟨d,s.h,s.c,s.lw,s.mx⟩):=by
   obtain⟨N,hN⟩ :=key;refine⟨N+1,fun m hm=> ?_⟩;obtain⟨m,rfl⟩ :∃m',m=m'+1:=⟨m - 1,by omega⟩
   simp only[zbW,hf];exact hN m (by omega)
  refine⟨_,hq,?_,hk.le _ _ _ _ _ hq⟩;split
  .rename_i hb;simp only[Z14]at hb;have e:=Z88 hb.1;exact hP _ _ _ hr hb.2 fun id hid=>hfr id (by omega) hid
  .exact hr
def zkw{pr:Pr}{f:Nat}{args:List D}{h:T Ob}{c:Nat}{d:D}(hr:RO pr f args h c d):Eff pr f args h c (fun d' h' c'=>d'=d/\h'=h/\c'=c):=by
 obtain⟨mx,h1,h2⟩ :=hr;exact⟨_,h2,⟨rfl,rfl,rfl⟩,Z2 _,h1⟩
def Rg:List (Nat×D)->St->Prop
 |[],_=>True
 |(n,d)::l,s=>s.tm.get n=some d/\Rg l s
theorem Rg.mono{s s':St}{n:Nat}(ht:∀k,k≠n->s'.tm.get k=s.tm.get k):∀(l:List (Nat×D)),(l.all fun p=>p.1 != n)=true->Rg l s->Rg l s'
 |[],_,_=>trivial
 |(k,d)::l,hn,h=>by
  simp only[List.all_cons,Z14]at hn;refine⟨?_,Rg.mono ht l hn.2 h.2⟩;rw[ht k (by simpa using hn.1)];exact h.1
structure WW(pr:Pr)(l:List Op)(s:St)(Q:St->Prop):Prop where
 out:wpO pr l s Q
section
variable {pr:Pr}{s:St}{Q:St->Prop}
def zbR{n f:Nat}{ds:List D}{l:List Op}{h:T Ob}{c:Nat}{P:D->T Ob->Nat->Prop}(rs:List (Nat×D))(he:Eff pr f ds h c P)(e1:s.h=h)(e2:s.c=c)(hr:Rg rs s)(hn:(rs.all fun p=>p.1 != n)=true)(k:∀s' d,P d s'.h s'.c->c<=s'.c->s'.tm.get n=some d->Rg rs s'->WW pr l s' Q):WQ pr f ds s (some n) l Q:=by
 subst e1 e2;obtain⟨q,h1,h2,h3,h4⟩ :=he;refine⟨q,h1,?_⟩;refine (k (s.cal (some n) q) q.d h2 h3 ?_ ?_).out
 .simp[St.cal,zbX,T.zab]
 .exact Rg.mono (fun k hk=>by simp[St.cal,zbX,T.zab,hk]) rs hn hr
def zr3{ops:List (Op×Nat)}{Q:Ex->St->Prop}(P:St->Prop)(h:∀K:Ex->St->Prop,(∀s',P s'->K .nrm s')->WD pr ops s K)(h2:∀s',P s'->Q .nrm s'):WD pr ops s Q:=h Q h2
def zRB{ops:List (Op×Nat)}{Q:Ex->St->Prop}(P:St->Prop)(h1:P s)(h2:∀s,P s->WD pr ops s Q):WD pr ops s Q:=h2 s h1
structure WV(pr:Pr)(L:List En)(l:List (Op×Nat))(s:St)(Q:St->Prop):Prop where
 out:wpG pr L l s Q
def zm1{n f mask:Nat}{ds:List D}{L:List En}{l:List (Op×Nat)}{h:T Ob}{c:Nat}{P:D->T Ob->Nat->Prop}(rs:List (Nat×D))(he:Eff pr f ds h c P)(e1:s.h=h)(e2:s.c=c)(hr:Rg rs s)(hn:(rs.all fun p=>p.1 != n)=true)(k:∀s' d c',P d s'.h c'->c<=c'->c'<=s'.c->s'.tm.get n=some d->Rg rs s'->ckG mask L (.q h s'.h)/\WV pr (L++[.q h s'.h]) l s' Q):WG pr f ds L mask l s (some n) Q:=by
 subst e1 e2;obtain⟨q,h1,h2,h3,h4⟩ :=he;have:=k (s.cg (some n) q) q.d q.c h2 h3 h4 (by simp[St.cg,zbX,T.zab]) (Rg.mono (fun k hk=>by simp[St.cg,zbX,T.zab,hk]) rs hn hr);exact⟨q,h1,.q _ _,.inr rfl,this.1,this.2.out⟩
def C.l:C->C
 | .seq a _=>a
 |c=>c
def C.r:C->C
 | .seq _ b=>b
 |c=>c
def C.b:C->C
 | .blk _ c=>c
 |c=>c
def C.o:C->C
 | .loop c=>c
 |c=>c
structure WC(pr:Pr)(c:C)(s:St)(Q:Ex->St->Prop):Prop where
 out:wpC pr c s Q
end
end Go.Vse
end
section
namespace Go.Vse
variable [Globs]
open Go.RowKit
set_option maxHeartbeats 1000000
omit [Globs]in
def znF{H:Array Obj}{μ:Mu}{ρ:Nat->Option Nat}{c:Nat->Prop}{r:Nat}{x x':Option Nat}{y y' z z':Nat}{u u':Array Nat}(hr:H[r]? =some (.mapIter x y u z)):Keep H μ ρ c (H.setIfInBounds r (.mapIter x' y' u' z')) μ ρ c:=by
 refine⟨fun b o v hm hv=>⟨?_,hm⟩,fun _ _ _ hx=>hx,fun b x hx=> ?_,fun _ h=>h⟩
 .unfold zbn at hv|-
  by_cases hb:r=b
  .subst hb;rw[hr]at hv;simp at hv
  .rw[Z93 hb];exact hv
 .unfold zcZ at hx|-
  by_cases hb:r=b
  .subst hb;rw[hr]at hx;simp at hx
  .rw[Z93 hb];exact hx
def Sim.iter{amb:Mu}{H:Array Obj}{h:Hp}{ρ:Nat->Option Nat}{c:Nat->Prop}(s:Sim amb H h ρ c){r:Nat}{x x':Option Nat}{y y' z z':Nat}{u u':Array Nat}(hr:H[r]? =some (.mapIter x y u z)):Sim amb (H.setIfInBounds r (.mapIter x' y' u' z')) h ρ c:=by
 refine⟨fun id ob ho=> ?_,fun id b hb=>by simpa using s.dom id b hb,s.inj,s.out,s.lt,fun b i hx=>by simpa using s.amb b i hx,fun n cs hg=>za1.keep (znF (ρ:=ρ) (c:=c) hr).cell _ _ _ (s.glob n cs hg)⟩;obtain⟨b,hb,hob⟩ :=s.obj id ob ho;have hne:r≠b:=by
  rintro rfl;cases ob with
  |arr es ro els=>obtain⟨cs,elem,fr,h1,_⟩ :=hob;rw[hr]at h1;cases h1
  |map ents=>obtain⟨es,clock,h1,_⟩ :=hob;rw[hr]at h1;cases h1
 exact⟨b,hb,hob.keep (znF hr) (Z93 hne)⟩
section
variable {P:Program}{amb:Mu}{pur pu:Nat->Bool}{nt:Nat}{w0:World}
structure AtS(amb:Mu)(w0:World)(nt:Nat)(s:St)(ρ:Nat->Option Nat)(a:Act)(w:World):Prop where
 ss:SS amb nt s.tm.get s.h.get ρ (fun id=>id<s.c) a w
 m:s.c<=s.mx
 b:Base w0 w
 z:w0.heap.size<=w.heap.size
 o:∀b,b<w0.heap.size->w.heap[b]? =w0.heap[b]?
 r:∀id b,ρ id=some b->w0.heap.size<=b
structure ItR(w0 w:World)(ρ:Nat->Option Nat)(r m bm:Nat)(es:Array MapEntry)(cl since:Nat)(seen:Array Nat)(c0:Nat):Prop where
 i:w.heap[r]? =some (.mapIter (some bm) since seen c0)
 n:∀id,ρ id≠some r
 z:w0.heap.size<=r
 m:ρ m=some bm
 e:w.heap[bm]? =some (.map es cl)
omit [Globs]in
def ux_lt{n m:Nat}(h:n<=m):UX (fun id=>id<n) n m=fun id=>id<m:=by
 funext id
 refine propext ⟨fun hx=> ?_,fun hx=> ?_⟩
 .rcases hx with hx|hx
  .exact Z15 hx h
  .exact hx.2
 .by_cases h1:id<n
  .exact .inl h1
  .exact .inr ⟨by omega,hx⟩
def KpI(w0:World)(s s':St)(ρ ρ':Nat->Option Nat)(w w':World):Prop:=∀r m bm es cl since seen c0,ItR w0 w ρ r m bm es cl since seen c0->m<s.c->m<s'.lw->ItR w0 w' ρ' r m bm es cl since seen c0
theorem AtS.after{s s':St}{ρ:Nat->Option Nat}{a a':Act}{w w':World}(hA:AtS amb w0 nt s ρ a w)(hm:zf8 s s')(h:After amb nt s s' ρ (fun id=>id<s.c) w a' w'):
  ∃ρ',AtS amb w0 nt s' ρ' a' w'/\KpI w0 s s' ρ ρ' w w':=by
 obtain⟨hb,ρ',ss,ev⟩ :=h;rw[ux_lt hm.1]at ss ev;have hun:∀b,b<w0.heap.size->∀id,ρ id≠some b:=fun b hb id h=>by have:=hA.r id b h;omega
 refine⟨ρ',⟨ss,hm.2.1,hA.b.trans hb,Z3 hA.z ev.size,fun b hb=> ?_,fun id b hb=> ?_⟩,fun r m bm es cl since seen c0 hI h1 h2=> ?_⟩
 .exact (ev.blk b (Z15 hb hA.z) (hun b hb)).1.trans (hA.o b hb)
 .rcases Z145 b w0.heap.size with hlt|hge
  .exact absurd hb ((ev.blk b (Z15 hlt hA.z) (hun b hlt)).2 id)
  .exact hge
 .have hr:r<w.heap.size:=(Z44.1 hI.i).1;obtain⟨k1,k2⟩ :=ev.blk r hr hI.n;obtain⟨k3,k4,k5⟩ :=ev.low m (fun h=>by omega) h1;exact⟨k1.trans hI.i,k2,hI.z,k4.trans hI.m,(k5 bm hI.m).trans hI.e⟩
theorem zp0{pr:Pr}(hp:zmb P pur pr){code:Code}{cc:C}(hc:zdi P pu nt code=some cc){s:St}{ρ:Nat->Option Nat}{a:Act}{w:World}(hA:AtS amb w0 nt s ρ a w){K:Ex->St->Prop}(hw:wpC pr cc s K){Q:Exit->Act->World->Prop}
  (hQ:∀x s' ρ' a' w',K x s'->AtS amb w0 nt s' ρ' a' w'->KpI w0 s s' ρ ρ' w w'->Q (zuD x) a' w'):code.wp P Q a w:=by
 obtain⟨x,s',hK,N,hN⟩ :=ze1 _ _ _ hw;have hev:=hN N (Z2 _);have hm:=zcQ (zfj hp N) N cc s x s' hev hA.m;refine zfu (pur:=pu) (zfj hp N) N code cc hc s s' x hev hA.m ρ _ a w hA.ss (fun id h1 _ h2=>by omega) Q fun a' w' h=> ?_
 obtain⟨ρ',h1,h2⟩ :=hA.after hm h;exact hQ x s' ρ' a' w' hK h1 h2
theorem zpZ{pr:Pr}(hp:zmb P pur pr){ops:Array Oper}{o:Oper}{co:Op}{i:Nat}(hc:zbS P pu nt ops o=some co)(hi:ops[i]? =some o){s:St}{ρ:Nat->Option Nat}{a:Act}{w:World}(hA:AtS amb w0 nt s ρ a w){K:St->Prop}(hw:wpO pr [co] s K)
  {KK:Act->World->Prop}{Q:Exit->Act->World->Prop}(hK:∀s' ρ' a' w',K s'->AtS amb w0 nt s' ρ' a' w'->KK a' w'):wpOp P ops Q i KK a w:=by
 obtain⟨s',p,hs,N,hN⟩ :=zpP hw;have h1:=hN N (Z2 _);have hm:=zjw (zfj hp N) h1 hA.m;refine zsz (pur:=pu) (zfj hp N) hc h1 hA.ss (fun id h1 _ h2=>by omega) hi fun a' w' ρ' hb ss' ev'=> ?_
 obtain⟨ρ2,k1,_⟩ :=hA.after hm ⟨hb,ρ',ss',ev'⟩;exact hK s' ρ2 a' w' hs k1
def SS.free{tm:Tm}{h:Hp}{ρ:Nat->Option Nat}{c:Nat->Prop}{a:Act}{w:World}(ss:SS amb nt tm h ρ c a w){j:Nat}(hj:tm j=none)(v:Value):SS amb nt tm h ρ c (a.put (some j) v) w:=by
 refine⟨ss.sim,fun i d hi=> ?_,by simpa [Act.put]using ss.nt,ss.df⟩;obtain⟨u,h1,h2⟩ :=ss.tmr i d hi;refine⟨u,?_,h2⟩;have hne:j≠i:=fun e=>by subst e;rw[hj]at hi;cases hi
 simp only[Act.put];rw[Z93 hne];exact h1
def AtS.free{s:St}{ρ:Nat->Option Nat}{a:Act}{w:World}(hA:AtS amb w0 nt s ρ a w){j:Nat}(hj:s.tm.get j=none)(v:Value):AtS amb w0 nt s ρ (a.put (some j) v) w:=
 ⟨hA.ss.free hj v,hA.m,hA.b,hA.z,hA.o,hA.r⟩
def AtS.drew{s:St}{ρ:Nat->Option Nat}{a:Act}{w:World}(hA:AtS amb w0 nt s ρ a w):AtS amb w0 nt s ρ a {w with drawn:=w.drawn+1}:=
 ⟨⟨hA.ss.sim,hA.ss.tmr,hA.ss.nt,hA.ss.df⟩,hA.m,⟨hA.b.os,hA.b.tape,hA.b.output,Nat.le_succ_of_le hA.b.drawn⟩,hA.z,hA.o,hA.r⟩
def AtS.grow{s:St}{ρ:Nat->Option Nat}{a:Act}{w w':World}(hA:AtS amb w0 nt s ρ a w)(hb:Base w w')(hz:w.heap.size<=w'.heap.size)(ho:∀b,b<w.heap.size->w'.heap[b]? =w.heap[b]?):AtS amb w0 nt s ρ a w':=by
 obtain⟨s1,e1⟩ :=hA.ss.sim.grown hz ho (fun _=>True);exact⟨⟨s1,fun i d hi=>let ⟨u,h1,h2⟩ :=hA.ss.tmr i d hi;⟨u,h1,Rel.keep e1.keep d u h2⟩,hA.ss.nt,hA.ss.df⟩,hA.m,hA.b.trans hb,Z3 hA.z hz,fun b hlt=>(ho b (Z15 hlt hA.z)).trans (hA.o b hlt),hA.r⟩
theorem AtS.iter{s:St}{ρ:Nat->Option Nat}{a:Act}{w w1 w':World}(hA:AtS amb w0 nt s ρ a w){r m bm:Nat}{es:Array MapEntry}{cl since c0:Nat}{seen:Array Nat}(hI:ItR w0 w ρ r m bm es cl since seen c0)(hw:w1=w\/w1=w.drew){since' c0':Nat}{seen':Array Nat}(hw':w'=ChangeMaps.setBlock w1 r (.mapIter (some bm) since' seen' c0')):
  AtS amb w0 nt s ρ a w'/\ItR w0 w' ρ r m bm es cl since' seen' c0':=by
 have hr:r<w.heap.size:=(Z44.1 hI.i).1;have hne:r≠bm:=by rintro rfl;have h1:=hI.i;rw[hI.e]at h1;cases h1
 have hh:w'.heap=w.heap.setIfInBounds r (.mapIter (some bm) since' seen' c0'):=by
  subst hw';rcases hw with rfl|rfl<;>rfl
 have hb:Base w w':=by
  subst hw';rcases hw with rfl|rfl
  .exact⟨rfl,rfl,rfl,Z2 _⟩
  .exact⟨rfl,rfl,rfl,Z128 _⟩
 have hk:=znF (μ:=zal amb s.h.get ρ) (ρ:=ρ) (c:=fun id=>id<s.c) (x':=some bm) (y':=since') (u':=seen') (z':=c0') hI.i;refine⟨⟨⟨by rw[hh];exact hA.ss.sim.iter hI.i,fun i d hi=> ?_,hA.ss.nt,hA.ss.df⟩,hA.m,hA.b.trans hb,by rw[hh,Array.size_setIfInBounds];exact hA.z,fun b hlt=> ?_,hA.r⟩,⟨?_,hI.n,hI.z,hI.m,?_⟩⟩
 .obtain⟨u,h1,h2⟩ :=hA.ss.tmr i d hi;exact⟨u,h1,by rw[hh];exact Rel.keep hk d u h2⟩
 .rw[hh,Z93 (by have:=hI.z;omega)];exact hA.o b hlt
 .rw[hh,Z123 hr]
 .rw[hh,Z93 hne];exact hI.e
omit [Globs]in
mutual
theorem F.d_isF:∀x:F,x.d.isF=true
 | .ag cs=>by simp only[F.d,D.isF];exact F.zqc cs
 | .tu cs=>by simp only[F.d,D.isF];exact F.zqc cs
 | .b _| .i .. | .s _| .nils| .nilp| .nilm| .nilf| .nili| .un| .sl .. | .fn _=>rfl
theorem F.zqc:∀l:List F,D.zh4 (F.dL l)=true
 |[]=>rfl
 |x::l=>by simp only[F.dL,D.zh4,F.d_isF x,F.zqc l,Z133]
end
theorem zBJ{f:Nat}{F1:Func}{code:Code}{rs:List Rv}(hF:P.funcs[f]? =some F1)(hname:F1.name≠ "runtime.NumGoroutine")(hb:F1.body=some code)(hrs:zat (zio P) F1.results.toList=some rs){fs:List F}{x:F}(hl:fs.length<=F1.ntmps)
  (H:∀(amb:Mu) (w0:World) (a:Act),AtS amb w0 F1.ntmps (st0 (F.dL fs) .e 0) (fun _=>none) a w0->code.wp P (fun e a' w'=>(e= .normal\/e= .ret)/\∃s ρ d rd,AtS amb w0 F1.ntmps s ρ a' w'/\resD s rs=some d/\frz s.h.get 12 d=some (x,rd)) a w0):
  zgW P f (F.dL fs) .e 0 ⟨.f x,.e,0,0,0⟩ :=by
 refine⟨⟨F1,hF,by simp[hb],hname⟩,Z2 _,Z2 _,fun amb ρ c w vs hsim hfree hargs=> ?_⟩;have hem:zal amb (T.e:T Ob).get ρ=amb:=by rw[zgj];exact zfv amb ρ
 have hem2:zal amb (T.e:T Ob).get (fun _=>none)=amb:=by rw[zgj];exact zfv amb _
 refine calls_of_wp hF hb ?_;have hargs2:zaq w.heap (zal amb (T.e:T Ob).get (fun _=>none)) (fun _=>none) (fun id=>id<0) (F.dL fs) vs:=zaq.frozen (fun b o h=>by rw[hem]at h;rw[hem2];exact h) _ _ (F.zqc fs) hargs;obtain⟨hlen,hget⟩ :=hargs2.get;have s0:Sim amb w.heap (T.e:T Ob).get (fun _=>none) (fun id=>id<0):=⟨fun id ob h=>by simp[T.get]at h,fun id b h=>by simp at h,fun id id' b h=>by simp at h,fun id b i h=>by simp at h,fun id ob h=>by simp[T.get]at h,hsim.amb,fun n cs hg=>by have:=hsim.glob n cs hg;rw[hem]at this;rw[hem2];exact this⟩
 have ss0:SS amb F1.ntmps (zak (F.dL fs) 0 .e).get (T.e:T Ob).get (fun _=>none) (fun id=>id<0) {tmps:=(⟨vs⟩ :Array Value)++Array.replicate (F1.ntmps - (⟨vs⟩ :Array Value).size) undef,defers:=[]} w:=by
  refine⟨s0,fun i d hi=> ?_,by simp;omega,rfl⟩;rw[zpN]at hi;split at hi
  .rename_i hlt;obtain⟨v,hv,hr⟩ :=hget i d (by simpa using hi);refine⟨v,?_,hr⟩;have hiv:i<vs.length:=by omega
   rw[Array.getElem?_append_left (by simpa using hiv)];simpa using hv
  .simp[T.get]at hi
 refine Code.wp_mono (fun e a' w' hh=> ?_) (H amb w _ ⟨ss0,Z2 _,Base.refl _,Z2 _,fun _ _=>rfl,fun id b h=>by simp at h⟩);obtain⟨he,s,ρ',d,rd,hA,hd,hfz⟩ :=hh;obtain⟨v,hrun,hrel⟩ :=zm5 (P:=P) hA.ss hrs hd;have fin:zgV amb w (T.e:T Ob).get ρ c 0 ⟨.f x,.e,0,0,0⟩ v w':=by
  obtain⟨s1,e1⟩ :=hsim.grown hA.z hA.o (fun id=>0<=id/\id<0);refine⟨hA.b,ρ,?_,?_,?_⟩
  .simp only[Rel];refine ziq hA.ss.sim 12 d x rd v hfz ⟨fun b o hx hy=>hx ?_,fun id _ es ro els b ho hb j _ hy=> ?_⟩ hrel
   .rw[hem]at hy;exact .inl hy
   .rw[hem]at hy;exact hA.ss.sim.out id b j hb hy
  .simp only[zei];exact s1
  .simp only[zei];exact e1
 rcases he with rfl|rfl
 .exact⟨hA.ss.df,v,hrun,v,rfl,fin⟩
 .exact⟨hA.ss.df,v,hrun,v,rfl,fin⟩
def zi7{ops:Array Oper}{o:Oper}{i:Nat}(hi:ops[i]? =some o)(hg:o.guard=none){a:Act}{w w':World}{v:Value}(hd:Does P (execOp a.eval o) w v w'){KK:Act->World->Prop}{Q:Exit->Act->World->Prop}(hK:KK (a.put o.dst v) w'):wpOp P ops Q i KK a w:=by
 refine ziN hi (fun _=>zi2.wp (R:=fun u w1=>u=v/\w1=w') (.inl ⟨v,w',hd,rfl,rfl⟩) fun u w1 ⟨h1,h2⟩ =>by rw[h1,h2];exact hK) fun hf=> ?_
 simp[Region.wanted,hg]at hf
def zzx{o:Oper}{ev:Operand->Value}{t:TypeId}{x:Operand}{w w':World}{v:Value}(hop:o.op= .range t x)(h:(Instr.range t (ev x)).run P w= .ok v w'):Does P (execOp ev o) w v w':=by
 have:execOp ev o=(do pure (Next.value (<-Instr.range t (ev x))):Sem Next):=by simp[execOp,hop]
 rw[this];exact za2 h
def zsc{o:Oper}{ev:Operand->Value}{x:Operand}{w w':World}{v:Value}(hop:o.op= .next x false)(h:(Instr.next (ev x) false o.type).run P w= .ok v w'):Does P (execOp ev o) w v w':=by
 have:execOp ev o=(do pure (Next.value (<-Instr.next (ev x) false o.type)):Sem Next):=by simp[execOp,hop]
 rw[this];exact za2 h
def zzw{o:Oper}{ev:Operand->Value}{x:Operand}{w w':World}{v:Value}(hop:o.op= .entry x)(h:(Instr.entry (ev x)).run P w= .ok v w'):Does P (execOp ev o) w v w':=by
 have:execOp ev o=(do pure (Next.value (<-Instr.entry (ev x))):Sem Next):=by simp[execOp,hop]
 rw[this];exact za2 h
def zpa{o:Oper}{ev:Operand->Value}{x:Operand}{i:Nat}{w:World}{vs:Array Value}{v:Value}(hop:o.op= .extract x i)(hx:ev x= .tuple vs)(hv:vs[i]? =some v):Does P (execOp ev o) w v w:=by
 have:execOp ev o=(do pure (Next.value (<-Instr.extract (ev x) i)):Sem Next):=by simp[execOp,hop]
 rw[this];exact za2 (by simp[Instr.extract,hx,hv])
def zwm{o:Oper}{ev:Operand->Value}{x:Operand}{w:World}(hop:o.op= .assign x):Does P (execOp ev o) w (ev x) w:=by
 have:execOp ev o=(do pure (Next.value (<-pure (ev x))):Sem Next):=by simp[execOp,hop]
 rw[this];exact za2 (by simp)
theorem zAO{s:St}{ρ:Nat->Option Nat}{a:Act}{w:World}(hA:AtS amb w0 nt s ρ a w){m:Nat}{ents:List (F×D)}(hm:s.h.get m=some (.map ents)){v:Value}(hv:Rel w.heap (zal amb s.h.get ρ) ρ (fun id=>id<s.c) (.mp m) v){t kt et:TypeId}(hu:P.underlying t=some (.map kt et)):
  ∃bm es cl w',(Instr.range t v).run P w= .ok (.pointer (some ⟨w.heap.size,0,none⟩)) w'/\AtS amb w0 nt s ρ a w'/\ItR w0 w' ρ w.heap.size m bm es cl cl #[] cl/\za4 w'.heap (zal amb s.h.get ρ) ρ (fun id=>id<s.c) ents es.toList/\zfy es.toList cl:=by
 obtain⟨b,hb,es,cl,h1,h2,h3⟩ :=hA.ss.sim.obj m _ hm;simp only[Rel]at hv;obtain⟨_,rr,rfl,hrr⟩ :=hv;have:=hrr b hb;subst this;have hlt:rr<w.heap.size:=(Z44.1 h1).1;have ho:∀b,b<w.heap.size->(w.alloc (.mapIter (some rr) cl #[] cl)).heap[b]? =w.heap[b]? :=fun b hb=>heap_alloc_old w _ hb
 have hz:w.heap.size<=(w.alloc (.mapIter (some rr) cl #[] cl)).heap.size:=by show _<=(w.heap.push _).size;simp
 refine⟨rr,es,cl,w.alloc (.mapIter (some rr) cl #[] cl),run_range_map w t kt et rr es cl hu h1,hA.grow ⟨rfl,rfl,rfl,Z2 _⟩ hz ho,⟨heap_alloc_new w _,fun id h=> ?_,hA.z,hb,(ho rr hlt).trans h1⟩,?_,h3⟩
 .have:=(hA.ss.sim.dom id _ h).1;omega
 .exact za4.keep (hA.ss.sim.grown hz ho (fun _=>True)).2.keep _ _ h2
end
end Go.Vse
end
section
namespace Go.Vse
variable [Globs]
open Go.RowKit
section
variable {P:Program}{amb:Mu}{pur pu:Nat->Bool}{nt:Nat}{w0:World}
omit [Globs]in
def zK5{o:Oper}{a:Act}{w:World}{K K':Act->World->Prop}{Q Q':Exit->Act->World->Prop}(hK:∀a' w',(∃v,a'.tmps=(a.put o.dst v).tmps)->K a' w'->K' a' w')(hQ:∀e a w,e≠ .normal->Q e a w->Q' e a w)(hh:o.wp P a w K Q):o.wp P a w K' Q':=by
 unfold Oper.wp at*;generalize (execOp a.eval o).run P w=r at*;cases r with
 |ok n w'=>
  cases n with
  |value v=>exact hK _ _ ⟨v,rfl⟩ hh
  |skip=>exact hK _ _ ⟨undef,rfl⟩ hh
  |defer d=>exact hK _ _ ⟨undef,by cases h:o.dst<;>simp[Act.put]⟩ hh
  |enter f args=>
   simp only[Oper.upon]at hh|-;refine Calls.mono hh fun e w'' he=> ?_
   cases e with
   |returned v=>exact hK _ _ ⟨v,rfl⟩ he
   |panicked ch=>exact hQ _ _ _ (by simp) he
   |outgrown=>obtain⟨a1,w1,h⟩ :=he;exact⟨a1,w1,hQ _ _ _ (by simp) h⟩
  |row r as=>
   simp only[Oper.upon]at hh|-;exact Rows.mono hh fun v w'' he=>hK _ _ ⟨v,rfl⟩ he
  |_=>exact hh
 |halt x w'=>cases x<;>first|exact hQ _ _ _ (by simp) hh|exact hh
omit [Globs]in
theorem zrm{ops:Array Oper}{Q:Exit->Act->World->Prop}{j:Nat}:∀(l:List Nat) (a:Act) (w:World),(∀i∈l,∀o,ops[i]? =some o->o.dst≠some j)->wpOps P ops Q l a w->wpOps P ops (fun e a' w'=>Q e a' w'/\(e= .normal->a'.tmps[j]? =a.tmps[j]?)) l a w
 |[],a,w,_,h=>⟨h,fun _=>rfl⟩
 |i::l,a,w,hd,h=>by
  have put:∀o v,ops[i]? =some o->(a.put o.dst v).tmps[j]? =a.tmps[j]? :=fun o v ho=>by
   have:=hd i (by simp) o ho;cases h:o.dst with
   |none=>rfl
   |some k=>
    rw[h]at this;simp only[Act.put];exact Z93 fun e=>this (by rw[e])
  have again:∀a' w',a'.tmps[j]? =a.tmps[j]? ->wpOps P ops Q l a' w'->wpOps P ops (fun e a' w'=>Q e a' w'/\(e= .normal->a'.tmps[j]? =a.tmps[j]?)) l a' w':=fun a' w' e h=>by
   have:=zrm (j:=j) l a' w' (fun i hi=>hd i (by simp[hi])) h;rw[e]at this;exact this
  rw[wpOps_cons]at h|-;unfold wpOp at h|-;cases ho:ops[i]? with
  |none=>rw[ho]at h;exact again a w rfl h
  |some o=>
   rw[ho]at h;simp only at h|-;split
   .rename_i hw;rw[Z51 hw]at h;rcases h with h|⟨h1,a1,w1,h2⟩
    .exact .inl (zK5 (fun a' w' ⟨v,e⟩ hk=>again a' w' (by rw[e];exact put o v ho) hk) (fun e a1 w1 hne hq=>⟨hq,fun h=>absurd h hne⟩) h)
    .exact .inr ⟨h1,a1,w1,h2,fun h=>by cases h⟩
   .rename_i hw;rw[Z49 hw]at h;exact again _ _ (put o _ ho) h
theorem zLI{pr:Pr}(hp:zmb P pur pr){id:Nat}{ops:Array Oper}{cs:List Op}(hc:zat (zbS P pu nt ops) ops.toList=some cs){s:St}{ρ:Nat->Option Nat}{a:Act}{w:World}(hA:AtS amb w0 nt s ρ a w){K:Ex->St->Prop}(hw:wpC pr (.reg cs) s K){j:Nat}(hj:∀o∈ops.toList,o.dst≠some j)
  {Q:Exit->Act->World->Prop}(hQ:∀s' ρ' a' w',K .nrm s'->AtS amb w0 nt s' ρ' a' w'->KpI w0 s s' ρ ρ' w w'->a'.tmps[j]? =a.tmps[j]? ->Q .normal a' w'):(Code.region id ops false).wp P Q a w:=by
 obtain⟨s',hK,N,hN⟩ :=zwd _ _ _ hw;have hev:=hN N (Z2 _);have hm:=zgO (zfj hp N) cs s s' hev hA.m;have h1:=zkz (pur:=pu) (zfj hp N) (ops:=ops) (Q:=fun e a' w'=>e= .normal/\After amb nt s s' ρ (fun id=>id<s.c) w a' w') ops.toList 0 cs s s' ρ _ a w (fun j=>by simp) hc hev hA.m hA.ss (fun id h1 _ h2=>by omega) (fun a' w' h=>⟨rfl,h⟩);have e:List.range' 0 ops.toList.length=List.range ops.size:=by simp[List.range_eq_range']
 rw[e]at h1;refine Code.wp_mono (fun e a' w' h=> ?_) (wp_region (zrm (j:=j) _ a w (fun i _ o ho=>hj o (by rw[Array.mem_toList_iff];exact Array.mem_of_getElem? ho)) h1));obtain⟨⟨rfl,h2⟩,h3⟩ :=h;obtain⟨ρ',k1,k2⟩ :=hA.after hm h2;exact hQ s' ρ' a' w' hK k1 k2 (h3 rfl)
theorem zDn{k:Nat}:∀(l:List (Nat×Option Ob)) (m:Nat),k<m->(∀x∈l.map (·.1),k<x)->k<zdL m l
 |[],m,h,_=>h
 |(id,o)::l,m,h,hx=>by
  rw[wl_c];refine zDn l _ ?_ fun x hm=>hx x (by simp at hm|-;exact .inr hm)
  split
  .exact hx id (by simp)
  .exact h
end
end Go.Vse
end
