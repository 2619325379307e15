/- Calls that work on the caller's heap: rules for them, calls that leave the heap as it is, regions that draw their order with such calls. -/
import Derived.Test.YtflgmemhalhdbaaGreatDoorHa
import Derived.Test.YtflgmemhalhdbaaGreatDoorVe
set_option linter.all false
namespace Go.Vse
open Go (BinOp IntKind UnOp)
set_option maxRecDepth 100000
mutual
theorem F.zhD:∀x:F,x.beq x=true
 | .b x=>by simp[F.beq]
 | .i k n=>by cases k<;>simp[F.beq]<;>rfl
 | .s l=>by simp[F.beq]
 | .nils| .nilp| .nilm| .nilf| .nili| .un=>by simp[F.beq]
 | .ag cs=>by simp only[F.beq];exact F.zdx cs
 | .tu cs=>by simp only[F.beq];exact F.zdx cs
 | .sl e l=>by simp only[F.beq,beq_self_eq_true,Z104];exact F.zhg l
 | .fn x=>by simp[F.beq]
theorem F.zdx:∀l:List F,F.zdK l l=true
 |[]=>rfl
 |x::l=>by simp only[F.zdK,F.zhD x,F.zdx l,Z134]
theorem F.zhg:∀l:List (List F),F.zeL l l=true
 |[]=>rfl
 |x::l=>by simp only[F.zeL,F.zdx x,F.zhg l,Z134]
end
mutual
theorem D.zhD:∀x:D,x.beq x=true
 | .f x=>F.zhD x
 | .ag x=>by simp only[D.beq];exact D.zdx x
 | .tu x=>by simp only[D.beq];exact D.zdx x
 | .sl .. =>by simp[D.beq]
 | .ptr .. =>by simp[D.beq]
 | .fptr x=>by simp only[D.beq];exact F.zdx x
 | .mp x=>by simp[D.beq]
 | .fn x a b=>by simp only[D.beq,beq_self_eq_true,Z104,D.zdx a,D.zdx b,Z134]
theorem D.zdx:∀l:List D,D.zdK l l=true
 |[]=>rfl
 |x::l=>by simp only[D.zdK,D.zhD x,D.zdx l,Z134]
end
theorem D.zhg:∀l:List (List D),D.zeL l l=true
 |[]=>rfl
 |x::l=>by simp only[D.zeL,D.zdx x,D.zhg l,Z134]
theorem Ob.zr2:∀l:List (F×D),Ob.zlX l l=true
 |[]=>rfl
 |(a,x)::l=>by simp only[Ob.zlX,F.zhD a,D.zhD x,Ob.zr2 l,Z134]
theorem Ob.zjH:∀x:Option Ob,Ob.zqV x x=true
 |none=>rfl
 |some (.arr a b c)=>by simp only[Ob.zqV,Ob.beq,beq_self_eq_true,Z104,D.zhg]
 |some (.map a)=>by simp only[Ob.zqV,Ob.beq,Ob.zr2]
variable [Globs]
def zsJ(pr:Pr):Prop:=∀f args h c q,Con pr f args h c q->c<=q.c/\q.c<=q.mx
def zEw{P:Go.Program}{pur:Nat->Bool}{pr:Pr}(hp:zye P pur pr):zsJ pr:=by
 intro f args h c q ⟨N,hN⟩;obtain⟨_,h1,h2,_⟩ :=zq3 hp N f args h c q (hN N (Z3 _));exact⟨h1,h2⟩
def RO(pr:Pr)(f:Nat)(args:List D)(h:T Ob)(c:Nat)(d:D):Prop:=∃mx,c<=mx/\Con pr f args h c ⟨d,h,c,c,mx⟩
def zEG(res:List Rv)(c:Nat)(d:D)(x:Ex)(s:St):Prop:=(match x with| .exit _=>False|_=>True)/\resD s res=some d/\s.lw=c
def zaO{res:List Rv}{c:Nat}{d:D}{s:St}:zEG res c d .ret s=(resD s res=some d/\s.lw=c):=by simp[zEG]
def zcA{pr:Pr}(hle:zsJ pr){f:Nat}{fn:Fn}(hf:pr.fn f=some fn){args:List D}{h:T Ob}{c:Nat}{d:D}(hd:d.isF=true)(hw:wpC pr fn.body (st0 args h c) (zEG fn.res c d)):RO pr f args h c d:=by
 obtain⟨x,s,⟨hx,hr,hl⟩,ev⟩ :=zfJ _ _ _ hw;have key:EV fun m=>zgi (evC (zcX pr m) m) fn args h c=some ⟨d,h,c,c,s.mx⟩ :=by
  refine ev.mono fun m hm=> ?_
  unfold zgi;unfold st0 at hm;rw[hm];cases x with
  |exit i=>exact hx.elim
  |nrm=>simp only[hr];simp[hl,hd]
  |ret=>simp only[hr];simp[hl,hd]
 have hq:Con pr f args h c ⟨d,h,c,c,s.mx⟩ :=by
  obtain⟨N,hN⟩ :=key;refine⟨N+1,fun m hm=> ?_⟩;obtain⟨m,rfl⟩ :∃m',m=m'+1:=⟨m - 1,by omega⟩
  simp only[zcX,hf];exact hN m (by omega)
 exact⟨s.mx,(hle _ _ _ _ _ hq).2,hq⟩
def zuu(res:List Rv)(h:T Ob)(c:Nat)(P:D->T Ob->Nat->Prop)(x:Ex)(s:St):Prop:=
 (match x with| .exit _=>False|_=>True)/\oB (resD s res) fun d=>P d s.h s.c/\(s.lw=c->d.isF=true->P d h c)
def zcp{res:List Rv}{h:T Ob}{c:Nat}{P:D->T Ob->Nat->Prop}{s:St}:zuu res h c P .ret s=oB (resD s res) fun d=>P d s.h s.c/\(s.lw=c->d.isF=true->P d h c):=by simp[zuu]
def zfl{res:List Rv}{h:T Ob}{c:Nat}{P:D->T Ob->Nat->Prop}{s:St}:zuu res h c P .nrm s=oB (resD s res) fun d=>P d s.h s.c/\(s.lw=c->d.isF=true->P d h c):=by simp[zuu]
def Eff(pr:Pr)(f:Nat)(args:List D)(h:T Ob)(c:Nat)(P:D->T Ob->Nat->Prop):Prop:=∃q,Con pr f args h c q/\P q.d q.h q.c/\c<=q.c/\q.c<=q.mx
def zcG{pr:Pr}(hle:zsJ pr){f:Nat}{fn:Fn}(hf:pr.fn f=some fn){args:List D}{h:T Ob}{c:Nat}{P:D->T Ob->Nat->Prop}(hw:wpC pr fn.body (st0 args h c) (zuu fn.res h c P)):Eff pr f args h c P:=by
 obtain⟨x,s,⟨hx,hr⟩,ev⟩ :=zfJ _ _ _ hw;cases hd:resD s fn.res with
 |none=>rw[hd]at hr;exact hr.elim
 |some d=>
  rw[hd]at hr;obtain⟨h1,h2⟩ :=hr;have key:EV fun m=>zgi (evC (zcX pr m) m) fn args h c=some (if Nat.beq s.lw c&&d.isF then ⟨d,h,c,c,s.mx⟩else ⟨d,s.h,s.c,s.lw,s.mx⟩):=by
   refine ev.mono fun m hm=> ?_
   unfold zgi;unfold st0 at hm;rw[hm];cases x with
   |exit i=>exact hx.elim
   |nrm=>simp only[hd];split<;>rfl
   |ret=>simp only[hd];split<;>rfl
  have hq:Con pr f args h c (if Nat.beq s.lw c&&d.isF then ⟨d,h,c,c,s.mx⟩else ⟨d,s.h,s.c,s.lw,s.mx⟩):=by
   obtain⟨N,hN⟩ :=key;refine⟨N+1,fun m hm=> ?_⟩;obtain⟨m,rfl⟩ :∃m',m=m'+1:=⟨m - 1,by omega⟩
   simp only[zcX,hf];exact hN m (by omega)
  refine⟨_,hq,?_,hle _ _ _ _ _ hq⟩;split
  .rename_i hb;simp only[Z15]at hb;exact h2 (Z89 hb.1) hb.2
  .exact h1
def St.um(s:St)(dst:Option Nat)(d:D)(mx:Nat):St:={s with tm:=zde s.tm dst d,mx:=Nat.max s.mx mx}
def zJS(s:St)(dst:Option Nat)(d:D)(mx:Nat):(s.um dst d mx).tm=zde s.tm dst d:=rfl
def um_h(s:St)(dst:Option Nat)(d:D)(mx:Nat):(s.um dst d mx).h=s.h:=rfl
def um_c(s:St)(dst:Option Nat)(d:D)(mx:Nat):(s.um dst d mx).c=s.c:=rfl
def zJQ(s:St)(dst:Option Nat)(d:D)(mx:Nat):(s.um dst d mx).lw=s.lw:=rfl
def zHX(s:St)(dst:Option Nat)(q:CR):(s.cal dst q).tm=zde s.tm dst q.d:=rfl
def ca_h(s:St)(dst:Option Nat)(q:CR):(s.cal dst q).h=q.h:=rfl
def ca_c(s:St)(dst:Option Nat)(q:CR):(s.cal dst q).c=q.c:=rfl
def zHW(s:St)(dst:Option Nat)(q:CR):(s.cal dst q).lw=Nat.min s.lw q.lw:=rfl
def St.ug(s:St)(dst:Option Nat)(d:D)(mx:Nat):St:={s with tm:=zde s.tm dst d,c:=mx,mx:=Nat.max s.mx mx}
def zJO(s:St)(dst:Option Nat)(d:D)(mx:Nat):(s.ug dst d mx).tm=zde s.tm dst d:=rfl
def ug_h(s:St)(dst:Option Nat)(d:D)(mx:Nat):(s.ug dst d mx).h=s.h:=rfl
def ug_c(s:St)(dst:Option Nat)(d:D)(mx:Nat):(s.ug dst d mx).c=mx:=rfl
def zJM(s:St)(dst:Option Nat)(d:D)(mx:Nat):(s.ug dst d mx).lw=s.lw:=rfl
def St.cg(s:St)(dst:Option Nat)(q:CR):St:={tm:=zde s.tm dst q.d,h:=q.h,c:=q.mx,lw:=Nat.min s.lw q.lw,mx:=Nat.max s.mx q.mx}
def zHZ(s:St)(dst:Option Nat)(q:CR):(s.cg dst q).tm=zde s.tm dst q.d:=rfl
def cg_h(s:St)(dst:Option Nat)(q:CR):(s.cg dst q).h=q.h:=rfl
def cg_c(s:St)(dst:Option Nat)(q:CR):(s.cg dst q).c=q.mx:=rfl
def zHY(s:St)(dst:Option Nat)(q:CR):(s.cg dst q).lw=Nat.min s.lw q.lw:=rfl
def za9(m:Nat):zda m []=m:=rfl
def zm9(m id:Nat)(o:Option Ob)(l:List (Nat×Option Ob)):zda m ((id,o)::l)=zda (if id<m then id else m) l:=rfl
def za3{m id:Nat}{o:Option Ob}{l:List (Nat×Option Ob)}(h:m<=id):zda m ((id,o)::l)=zda m l:=by rw[zm9,Z50 (by omega)]
section
variable {pr:Pr}{s:St}{Q:St->Prop}{dst:Option Nat}{mask:Nat}
structure WQ(pr:Pr)(f:Nat)(ds:List D)(s:St)(dst:Option Nat)(l:List Go.Vse.Op)(Q:St->Prop):Prop where
 out:∃q,Con pr f ds s.h s.c q/\wpO pr l (s.cal dst q) Q
def zRX{l:List Go.Vse.Op}{f:Nat}{args:List A}:wpO pr (⟨dst,none,.call f args⟩ ::l) s Q↔oB (zat (zad s.tm) args) fun ds=>WQ pr f ds s dst l Q:=by
 rw[zTY];cases zat (zad s.tm) args with
 |none=>exact Iff.rfl
 |some ds=>exact⟨fun h=>⟨h⟩,fun h=>h.out⟩
def zMa{l:List Go.Vse.Op}{x:A}{args:List A}:wpO pr (⟨dst,none,.callv x args⟩ ::l) s Q↔oB ((zad s.tm x).bind zfS) fun g=>oB (zat (zad s.tm) args) fun ds=>WQ pr g.1 (g.2.1++ds++g.2.2) s dst l Q:=by
 rw[zND];cases (zad s.tm x).bind zfS with
 |none=>exact Iff.rfl
 |some g=>
  simp only[oB];cases zat (zad s.tm) args with
  |none=>exact Iff.rfl
  |some ds=>exact⟨fun h=>⟨h⟩,fun h=>h.out⟩
def zbW{f:Nat}{ds:List D}{l:List Go.Vse.Op}{d:D}(he:RO pr f ds s.h s.c d)(e3:s.lw<=s.c)(k:∀mx,wpO pr l (s.um dst d mx) Q):WQ pr f ds s dst l Q:=by
 obtain⟨mx,h1,h2⟩ :=he;refine⟨_,h2,?_⟩;have e:s.cal dst ⟨d,s.h,s.c,s.c,mx⟩ =s.um dst d mx:=by
  simp only[St.cal,St.um,Z74 e3]
 rw[e];exact k mx
def zer{f:Nat}{ds:List D}{l:List Go.Vse.Op}{h:T Ob}{c:Nat}{P:D->T Ob->Nat->Prop}(e1:s.h=h)(e2:s.c=c)(he:Eff pr f ds h c P)(k:∀d' h' c' lw mx,P d' h' c'->c<=c'->wpO pr l (s.cal dst ⟨d',h',c',lw,mx⟩) Q):WQ pr f ds s dst l Q:=by
 subst e1 e2;obtain⟨q,h1,h2,h3,h4⟩ :=he;exact⟨q,h1,k q.d q.h q.c q.lw q.mx h2 h3⟩
inductive En where
 |n (rd wr:List Nat)
 |r
 |q (h h':T Ob)
def Fits:En->Fp->Prop
 | .n rd wr,p=>p.all=false/\p.rd=rd/\p.wr=wr
 | .r,p=>p.all=true/\p.h=p.h'
 | .q h h',p=>p.all=true/\p.h=h/\p.h'=h'
def ck1:En->En->Prop
 | .n r w,.n rd wr=>zcM rd w/\zcM wr w/\zcM wr r
 | .r,.n _ wr=>wr=[]
 | .n _ w,.r=>w=[]
 | .q h h',.n rd wr=>wr=[]/\∀x∈rd,h.get x=h'.get x
 | .n r w,.q h h'=>w=[]/\∀x∈r,h.get x=h'.get x
 |_,_=>False
def ckG:Nat->List En->En->Prop
 |_,[],_=>True
 |m,a::L,e=>(m%2=1->ck1 a e)/\ckG (m/2) L e
def cg_n{m:Nat}{e:En}:ckG m [] e=True:=rfl
def zKU{m:Nat}{a e:En}{L:List En}:ckG m (a::L) e=((m%2=1->ck1 a e)/\ckG (m/2) L e):=rfl
def c1_nn{r w rd wr:List Nat}:ck1 (.n r w) (.n rd wr)=(zcM rd w/\zcM wr w/\zcM wr r):=rfl
def dj_n(a:List Nat):zcM a []=True:=by simp[zcM]
def c1_rn{rd wr:List Nat}:ck1 .r (.n rd wr)=(wr=[]):=rfl
def c1_nr{r w:List Nat}:ck1 (.n r w) .r=(w=[]):=rfl
def c1_qn{h h':T Ob}{rd wr:List Nat}:ck1 (.q h h') (.n rd wr)=(wr=[]/\∀x∈rd,h.get x=h'.get x):=rfl
def c1_nq{h h':T Ob}{r w:List Nat}:ck1 (.n r w) (.q h h')=(w=[]/\∀x∈r,h.get x=h'.get x):=rfl
def wpG(pr:Pr):List En->List (Go.Vse.Op×Nat)->St->(St->Prop)->Prop
 |_,[],s,Q=>Q s
 |L,(o,mask)::l,s,Q=>zbU pr o s fun s' p=>∃e,Fits e p/\ckG mask L e/\wpG pr (L++[e]) l {s' with c:=p.hi} Q
def zQE{a e:En}{q p:Fp}(h1:Fits a q)(h2:Fits e p)(h:ck1 a e):q.apart p=true:=by
 cases a with
 |n r w=>
  obtain⟨q1,rfl,rfl⟩ :=h1;cases e with
  |n rd wr=>
   obtain⟨p1,rfl,rfl⟩ :=h2;obtain⟨d1,d2,d3⟩ :=h;simp only[Fp.apart,q1,p1,Z15,Z51,Z81,Z115,Z66];exact⟨⟨fun x hx hm=>d1 x hx hm,fun x hx hm=>d3 x hm hx⟩,fun x hx hm=>d2 x hm hx⟩
  |r=>
   obtain⟨p1,p2⟩ :=h2;have hw:q.wr=[]:=h;simp only[Fp.apart,q1,p1,hw,Z166,Z104,Z51,Fp.same,p2];exact fun x _=>Ob.zjH _
  |q h0 h1=>
   obtain⟨p1,p2,p3⟩ :=h2;obtain⟨hw,hs⟩ :=h;simp only[Fp.apart,q1,p1,hw,Z166,Z104,Z51,Fp.same,p2,p3];exact fun x hx=>by rw[hs x hx];exact Ob.zjH _
 |r=>
  obtain⟨q1,q2⟩ :=h1;cases e with
  |n rd wr=>
   obtain⟨p1,rfl,rfl⟩ :=h2;have hw:p.wr=[]:=h;simp only[Fp.apart,q1,p1,hw,Z166,Z104,Z51,Fp.same,q2];exact fun x _=>Ob.zjH _
  |r=>exact h.elim
  |q=>exact h.elim
 |q h0 h1'=>
  obtain⟨q1,q2,q3⟩ :=h1;cases e with
  |n rd wr=>
   obtain⟨p1,rfl,rfl⟩ :=h2;obtain⟨hw,hs⟩ :=h;simp only[Fp.apart,q1,p1,hw,Z166,Z104,Z51,Fp.same,q2,q3];exact fun x hx=>by rw[hs x hx];exact Ob.zjH _
  |r=>exact h.elim
  |q=>exact h.elim
def zo9:List En->List Fp->Prop
 |[],[]=>True
 |e::L,p::l=>Fits e p/\zo9 L l
 |_,_=>False
theorem zpJ{e:En}{p:Fp}(h:Fits e p):∀{L:List En} {l:List Fp},zo9 L l->zo9 (L++[e]) (l++[p])
 |[],[],_=>⟨h,trivial⟩
 |_::_,_::_,hl=>⟨hl.1,zpJ h hl.2⟩
 |[],_::_,hl=>hl.elim
 |_::_,[],hl=>hl.elim
theorem zBD{e:En}{p:Fp}(h2:Fits e p){mask:Nat}:∀(L:List En) (l:List Fp) (i:Nat),zo9 L l->ckG (mask/2 ^ i) L e->zcr p mask l i=true
 |[],[],_,_,_=>rfl
 |a::L,q::l,i,hf,h=>by
  have h3:=zBD h2 L l (i+1) hf.2 (by rw[Z196,<-Nat.div_div_eq_div_mul];exact h.2);simp only[zcr,h3,Z188,Z116,Z81];cases hb:mask.testBit i with
  |false=>exact .inl rfl
  |true=>
   right;rw[Z139]at hb;exact zQE hf.1 h2 (h.1 (of_decide_eq_true hb))
 |[],_::_,_,hf,_=>hf.elim
 |_::_,[],_,hf,_=>hf.elim
theorem zJ4:∀(l:List (Go.Vse.Op×Nat)) (L:List En) (fps:List Fp) (s:St) (Q:St->Prop),zo9 L fps->wpG pr L l s Q->wpD pr l fps s Q
 |[],_,_,_,_,_,h=>h
 |(o,mask)::l,L,fps,s,Q,hf,h=>by
  refine zqI (fun s' p ⟨e,h1,h2,h3⟩ =>⟨?_,zJ4 l (L++[e]) (fps++[p]) _ Q (zpJ h1 hf) h3⟩) h;exact zBD h1 L fps 0 hf (by simpa using h2)
def za5{ops:List (Go.Vse.Op×Nat)}{s:St}{Q:Ex->St->Prop}(h:wpG pr [] ops s (Q .nrm)):WD pr ops s Q:=⟨zJ4 ops [] [] s _ trivial h⟩
variable {L:List En}
def g_nil:wpG pr L [] s Q↔Q s:=Iff.rfl
def zcC{l:List (Go.Vse.Op×Nat)}{o:O A}(hk:kcl o= .n):wpG pr L ((⟨dst,none,o⟩,mask)::l) s Q↔oB ((o.res (zad s.tm)).bind (opv s.h.get s.c)) fun r=>zaq r.c r.wr=true/\ckG mask L (.n r.rd (r.wr.map (·.1)))/\wpG pr (L++[.n r.rd (r.wr.map (·.1))]) l (s.ae dst r.d r.wr r.c) Q:=by
  simp only[wpG,zbU,zcj];cases hr:o.res (zad s.tm)with
  |none=>exact Iff.rfl
  | some o'=>
    simp only[Z47,zs8 hk hr];cases hv:opv s.h.get s.c o' with
    |none=>exact Iff.rfl
    | some r=>
      simp only[zc7,zcS,oB];cases hw:zaq r.c r.wr with
      |false=>simp
      | true=>
        simp only[Z90,cond_false,true_and];constructor
        . rintro⟨e,h1,h2,h3⟩;cases e with
          |n rd wr=>obtain⟨_,rfl,rfl⟩ :=h1;exact⟨h2,h3⟩
          |r=>exact absurd h1.1 (by simp)
          |q=>exact absurd h1.1 (by simp)
        . rintro⟨h2,h3⟩;exact⟨.n r.rd (r.wr.map (·.1)),⟨rfl,rfl,rfl⟩,h2,h3⟩
def zLS{l:List (Go.Vse.Op×Nat)}{g:Nat}{w:Bool}{o:O A}:wpG pr L ((⟨dst,some (g,w),o⟩,mask)::l) s Q↔oB ((s.tm.get g).bind asG) fun x=>if x==some w then wpG pr L ((⟨dst,none,o⟩,mask)::l) s Q else ckG mask L (.n [] [])/\wpG pr (L++[.n [] []]) l (s.se dst) Q:=by
 cases hx:(s.tm.get g).bind asG with
 |none=>
  have:zcj s.tm (some (g,w))=none:=by rw[zi2,hx];rfl
  simp[wpG,zbU,this,oB]
 |some x=>
  have hw:zcj s.tm (some (g,w))=some (x==some w):=by rw[zi2,hx];rfl
  simp only[oB];cases hb:x==some w with
  |true=>rw[hb]at hw;simp only[wpG,zbU,hw,Z61];exact Iff.rfl
  |false=>
   rw[hb]at hw;simp only[wpG,zbU,hw];constructor
   .rintro⟨e,h1,h2,h3⟩;cases e with
    |n rd wr=>obtain⟨_,rfl,rfl⟩ :=h1;exact⟨h2,h3⟩
    |r=>exact absurd h1.1 (by simp)
    |q=>exact absurd h1.1 (by simp)
   .rintro⟨h2,h3⟩;exact⟨.n [] [],⟨rfl,rfl,rfl⟩,h2,h3⟩
structure WG(pr:Pr)(f:Nat)(ds:List D)(L:List En)(mask:Nat)(l:List (Go.Vse.Op×Nat))(s:St)(dst:Option Nat)(Q:St->Prop):Prop where
 out:∃q,Con pr f ds s.h s.c q/\∃e,(e= .r/\s.h=q.h\/e= .q s.h q.h)/\ckG mask L e/\wpG pr (L++[e]) l (s.cg dst q) Q
def g_call{l:List (Go.Vse.Op×Nat)}{f:Nat}{args:List A}:wpG pr L ((⟨dst,none,.call f args⟩,mask)::l) s Q↔oB (zat (zad s.tm) args) fun ds=>WG pr f ds L mask l s dst Q:=by
 simp only[wpG,zbU,zcj,O.res,Z48];cases zat (zad s.tm) args with
 |none=>exact Iff.rfl
 |some ds=>
  simp only[Z47,kindOf,oB,zc7,zdi];constructor
  .rintro⟨q,h1,e,h2,h3,h4⟩;cases e with
   |n rd wr=>exact absurd h2.1 (by simp)
   |r=>exact⟨q,h1,.r,.inl ⟨rfl,h2.2⟩,h3,h4⟩
   |q h0 h1'=>obtain⟨_,rfl,rfl⟩ :=h2;exact⟨q,h1,.q _ _,.inr rfl,h3,h4⟩
  .rintro⟨q,h1,e,h2,h3,h4⟩;rcases h2 with⟨rfl,h2⟩ |rfl
   .exact⟨q,h1,.r,⟨rfl,h2⟩,h3,h4⟩
   .exact⟨q,h1,.q _ _,⟨rfl,rfl,rfl⟩,h3,h4⟩
def zLR{l:List (Go.Vse.Op×Nat)}{x:A}{args:List A}:wpG pr L ((⟨dst,none,.callv x args⟩,mask)::l) s Q↔oB ((zad s.tm x).bind zfS) fun g=>oB (zat (zad s.tm) args) fun ds=>WG pr g.1 (g.2.1++ds++g.2.2) L mask l s dst Q:=by
 have key:∀f ds,(∃q,Con pr f ds s.h s.c q/\∃e,Fits e {all:=true,rd:=[],wr:=[],lo:=s.c,hi:=q.mx,h:=s.h,h':=q.h}/\ckG mask L e/\wpG pr (L++[e]) l (s.cg dst q) Q)↔WG pr f ds L mask l s dst Q:=by
  intro f ds;constructor
  .rintro⟨q,h1,e,h2,h3,h4⟩;cases e with
   |n rd wr=>exact absurd h2.1 (by simp)
   |r=>exact⟨q,h1,.r,.inl ⟨rfl,h2.2⟩,h3,h4⟩
   |q h0 h1'=>obtain⟨_,rfl,rfl⟩ :=h2;exact⟨q,h1,.q _ _,.inr rfl,h3,h4⟩
  .rintro⟨q,h1,e,h2,h3,h4⟩;rcases h2 with⟨rfl,h2⟩ |rfl
   .exact⟨q,h1,.r,⟨rfl,h2⟩,h3,h4⟩
   .exact⟨q,h1,.q _ _,⟨rfl,rfl,rfl⟩,h3,h4⟩
 simp only[wpG,zbU,zcj,O.res,Z48];cases zad s.tm x with
 |none=>simp[oB]
 |some d=>
  cases zat (zad s.tm) args with
  |none=>cases d with
   |f y=>cases y<;>simp[oB,zfS]
   |_=>simp[oB,zfS]
  |some ds=>
   cases d with
   |f y=>
    cases y with
    |fn g=>simp only[Z47,kindOf,oB,zc7,zdi,zfS,Z29,Z23];exact key _ _
    |_=>simp[oB,zfS,kindOf]
   |fn g a b=>simp only[Z47,kindOf,oB,zc7,zdi,zfS];exact key _ _
   |_=>simp[oB,zfS,kindOf]
def zbS{f:Nat}{ds:List D}{l:List (Go.Vse.Op×Nat)}{d:D}(he:RO pr f ds s.h s.c d)(e3:s.lw<=s.c)(hc:ckG mask L .r)(k:∀mx,s.c<=mx->wpG pr (L++[.r]) l (s.ug dst d mx) Q):WG pr f ds L mask l s dst Q:=by
 obtain⟨mx,h1,h2⟩ :=he;refine⟨_,h2,.r,.inl ⟨rfl,rfl⟩,hc,?_⟩;have e:s.cg dst ⟨d,s.h,s.c,s.c,mx⟩ =s.ug dst d mx:=by
  simp only[St.cg,St.ug,Z74 e3]
 rw[e];exact k mx h1
def zAJ{f:Nat}{ds:List D}{l:List (Go.Vse.Op×Nat)}{h:T Ob}{c:Nat}{P:D->T Ob->Nat->Prop}(e1:s.h=h)(e2:s.c=c)(he:Eff pr f ds h c P)(k:∀d' h' c' lw mx,P d' h' c'->c<=c'->c'<=mx->ckG mask L (.q h h')/\wpG pr (L++[.q h h']) l (s.cg dst ⟨d',h',c',lw,mx⟩) Q):WG pr f ds L mask l s dst Q:=by
 subst e1 e2;obtain⟨q,h1,h2,h3,h4⟩ :=he;have:=k q.d q.h q.c q.lw q.mx h2 h3 h4;exact⟨q,h1,.q _ _,.inr rfl,this.1,this.2⟩
theorem zLP{l:List (Go.Vse.Op×Nat)}{f:Nat}{args:List A}:wpG pr L ((⟨dst,none,.callp f args⟩,mask)::l) s Q↔oB (zat (zad s.tm) args) fun ds=>oB (zdu s.h.get ds) fun y=>aB pr f (fw y.1) fun x=>zaq s.c (zaw s.h.get y.2)=true/\
    ckG mask L (.n y.2 ((zaw s.h.get y.2).map (·.1)))/\wpG pr (L++[.n y.2 ((zaw s.h.get y.2).map (·.1))]) l (s.ae dst x.d (zaw s.h.get y.2) s.c) Q:=by
  simp only[wpG,zbU,zcj,O.res,Z48];cases zat (zad s.tm) args with
  |none=>exact Iff.rfl
  | some ds=>
    simp only[Z47,kindOf,oB];cases zdu s.h.get ds with
    |none=>exact Iff.rfl
    | some y=>
      obtain⟨fs,rd⟩ :=y;simp only[aB,fw];refine exists_congr fun x=>and_congr_right fun _=> ?_
      simp only[zc7,zcS];cases hw:zaq s.c (zaw s.h.get rd)with
      |false=>simp
      | true=>
        simp only[Z90,cond_false,true_and];constructor
        . rintro⟨e,h1,h2,h3⟩;cases e with
          |n rd' wr=>obtain⟨_,rfl,rfl⟩ :=h1;exact⟨h2,h3⟩
          |r=>exact absurd h1.1 (by simp)
          |q=>exact absurd h1.1 (by simp)
        . rintro⟨h2,h3⟩;exact⟨.n rd ((zaw s.h.get rd).map (·.1)),⟨rfl,rfl,rfl⟩,h2,h3⟩
def g_mv{l:List (Go.Vse.Op×Nat)}{x:A}:wpG pr L ((⟨dst,none,.mv x⟩,mask)::l) s Q↔oB (((O.mv x).res (zad s.tm)).bind (opv s.h.get s.c)) fun r=>zaq r.c r.wr=true/\ckG mask L (.n r.rd (r.wr.map (·.1)))/\wpG pr (L++[.n r.rd (r.wr.map (·.1))]) l (s.ae dst r.d r.wr r.c) Q:=zcC rfl
def zRE{l:List (Go.Vse.Op×Nat)}{q x y:A}:wpG pr L ((⟨dst,none,.pick q x y⟩,mask)::l) s Q↔oB (((O.pick q x y).res (zad s.tm)).bind (opv s.h.get s.c)) fun r=>zaq r.c r.wr=true/\ckG mask L (.n r.rd (r.wr.map (·.1)))/\wpG pr (L++[.n r.rd (r.wr.map (·.1))]) l (s.ae dst r.d r.wr r.c) Q:=zcC rfl
def g_new{l:List (Go.Vse.Op×Nat)}{cs:List F}:wpG pr L ((⟨dst,none,.new cs⟩,mask)::l) s Q↔oB (((O.new cs).res (zad s.tm)).bind (opv s.h.get s.c)) fun r=>zaq r.c r.wr=true/\ckG mask L (.n r.rd (r.wr.map (·.1)))/\wpG pr (L++[.n r.rd (r.wr.map (·.1))]) l (s.ae dst r.d r.wr r.c) Q:=zcC rfl
def g_box{l:List (Go.Vse.Op×Nat)}{x:A}:wpG pr L ((⟨dst,none,.box x⟩,mask)::l) s Q↔oB (((O.box x).res (zad s.tm)).bind (opv s.h.get s.c)) fun r=>zaq r.c r.wr=true/\ckG mask L (.n r.rd (r.wr.map (·.1)))/\wpG pr (L++[.n r.rd (r.wr.map (·.1))]) l (s.ae dst r.d r.wr r.c) Q:=zcC rfl
def g_bld{l:List (Go.Vse.Op×Nat)}{z:List F}{ps:List (Nat×Nat×A)}:wpG pr L ((⟨dst,none,.bld z ps⟩,mask)::l) s Q↔oB (((O.bld z ps).res (zad s.tm)).bind (opv s.h.get s.c)) fun r=>zaq r.c r.wr=true/\ckG mask L (.n r.rd (r.wr.map (·.1)))/\wpG pr (L++[.n r.rd (r.wr.map (·.1))]) l (s.ae dst r.d r.wr r.c) Q:=zcC rfl
def g_bsl{l:List (Go.Vse.Op×Nat)}{es m:Nat}{z:List F}{ps:List (Nat×A)}:wpG pr L ((⟨dst,none,.bsl es z m ps⟩,mask)::l) s Q↔oB (((O.bsl es z m ps).res (zad s.tm)).bind (opv s.h.get s.c)) fun r=>zaq r.c r.wr=true/\ckG mask L (.n r.rd (r.wr.map (·.1)))/\wpG pr (L++[.n r.rd (r.wr.map (·.1))]) l (s.ae dst r.d r.wr r.c) Q:=zcC rfl
def g_bsf{l:List (Go.Vse.Op×Nat)}{es m:Nat}{z:List F}{ps:List (Nat×A)}:wpG pr L ((⟨dst,none,.bsf es z m ps⟩,mask)::l) s Q↔oB (((O.bsf es z m ps).res (zad s.tm)).bind (opv s.h.get s.c)) fun r=>zaq r.c r.wr=true/\ckG mask L (.n r.rd (r.wr.map (·.1)))/\wpG pr (L++[.n r.rd (r.wr.map (·.1))]) l (s.ae dst r.d r.wr r.c) Q:=zcC rfl
def g_ld{l:List (Go.Vse.Op×Nat)}{g:Bool}{n:Nat}{x:A}:wpG pr L ((⟨dst,none,.ld g n x⟩,mask)::l) s Q↔oB (((O.ld g n x).res (zad s.tm)).bind (opv s.h.get s.c)) fun r=>zaq r.c r.wr=true/\ckG mask L (.n r.rd (r.wr.map (·.1)))/\wpG pr (L++[.n r.rd (r.wr.map (·.1))]) l (s.ae dst r.d r.wr r.c) Q:=zcC rfl
def g_st{l:List (Go.Vse.Op×Nat)}{n:Nat}{x v:A}:wpG pr L ((⟨dst,none,.st n x v⟩,mask)::l) s Q↔oB (((O.st n x v).res (zad s.tm)).bind (opv s.h.get s.c)) fun r=>zaq r.c r.wr=true/\ckG mask L (.n r.rd (r.wr.map (·.1)))/\wpG pr (L++[.n r.rd (r.wr.map (·.1))]) l (s.ae dst r.d r.wr r.c) Q:=zcC rfl
def g_nck{l:List (Go.Vse.Op×Nat)}{x:A}:wpG pr L ((⟨dst,none,.nck x⟩,mask)::l) s Q↔oB (((O.nck x).res (zad s.tm)).bind (opv s.h.get s.c)) fun r=>zaq r.c r.wr=true/\ckG mask L (.n r.rd (r.wr.map (·.1)))/\wpG pr (L++[.n r.rd (r.wr.map (·.1))]) l (s.ae dst r.d r.wr r.c) Q:=zcC rfl
def g_bin{l:List (Go.Vse.Op×Nat)}{op:BinOp}{x y:A}:wpG pr L ((⟨dst,none,.bin op x y⟩,mask)::l) s Q↔oB (((O.bin op x y).res (zad s.tm)).bind (opv s.h.get s.c)) fun r=>zaq r.c r.wr=true/\ckG mask L (.n r.rd (r.wr.map (·.1)))/\wpG pr (L++[.n r.rd (r.wr.map (·.1))]) l (s.ae dst r.d r.wr r.c) Q:=zcC rfl
def g_eqb{l:List (Go.Vse.Op×Nat)}{ne:Bool}{x y:A}:wpG pr L ((⟨dst,none,.eqb ne x y⟩,mask)::l) s Q↔oB (((O.eqb ne x y).res (zad s.tm)).bind (opv s.h.get s.c)) fun r=>zaq r.c r.wr=true/\ckG mask L (.n r.rd (r.wr.map (·.1)))/\wpG pr (L++[.n r.rd (r.wr.map (·.1))]) l (s.ae dst r.d r.wr r.c) Q:=zcC rfl
def g_eqn{l:List (Go.Vse.Op×Nat)}{kd:Nat}{ne:Bool}{x y:A}:wpG pr L ((⟨dst,none,.eqn kd ne x y⟩,mask)::l) s Q↔oB (((O.eqn kd ne x y).res (zad s.tm)).bind (opv s.h.get s.c)) fun r=>zaq r.c r.wr=true/\ckG mask L (.n r.rd (r.wr.map (·.1)))/\wpG pr (L++[.n r.rd (r.wr.map (·.1))]) l (s.ae dst r.d r.wr r.c) Q:=zcC rfl
def g_eqa{l:List (Go.Vse.Op×Nat)}{ks:List Nat}{ne:Bool}{x y:A}:wpG pr L ((⟨dst,none,.eqa ks ne x y⟩,mask)::l) s Q↔oB (((O.eqa ks ne x y).res (zad s.tm)).bind (opv s.h.get s.c)) fun r=>zaq r.c r.wr=true/\ckG mask L (.n r.rd (r.wr.map (·.1)))/\wpG pr (L++[.n r.rd (r.wr.map (·.1))]) l (s.ae dst r.d r.wr r.c) Q:=zcC rfl
def g_un{l:List (Go.Vse.Op×Nat)}{op:UnOp}{x:A}:wpG pr L ((⟨dst,none,.un op x⟩,mask)::l) s Q↔oB (((O.un op x).res (zad s.tm)).bind (opv s.h.get s.c)) fun r=>zaq r.c r.wr=true/\ckG mask L (.n r.rd (r.wr.map (·.1)))/\wpG pr (L++[.n r.rd (r.wr.map (·.1))]) l (s.ae dst r.d r.wr r.c) Q:=zcC rfl
def g_cvi{l:List (Go.Vse.Op×Nat)}{k:IntKind}{x:A}:wpG pr L ((⟨dst,none,.cvi k x⟩,mask)::l) s Q↔oB (((O.cvi k x).res (zad s.tm)).bind (opv s.h.get s.c)) fun r=>zaq r.c r.wr=true/\ckG mask L (.n r.rd (r.wr.map (·.1)))/\wpG pr (L++[.n r.rd (r.wr.map (·.1))]) l (s.ae dst r.d r.wr r.c) Q:=zcC rfl
def g_mks{l:List (Go.Vse.Op×Nat)}{es b:Nat}{z:List F}{x y:A}:wpG pr L ((⟨dst,none,.mks es b z x y⟩,mask)::l) s Q↔oB (((O.mks es b z x y).res (zad s.tm)).bind (opv s.h.get s.c)) fun r=>zaq r.c r.wr=true/\ckG mask L (.n r.rd (r.wr.map (·.1)))/\wpG pr (L++[.n r.rd (r.wr.map (·.1))]) l (s.ae dst r.d r.wr r.c) Q:=zcC rfl
def g_slc{l:List (Go.Vse.Op×Nat)}{es:Nat}{x:A}{lo hi mx:Option A}:wpG pr L ((⟨dst,none,.slc es x lo hi mx⟩,mask)::l) s Q↔oB (((O.slc es x lo hi mx).res (zad s.tm)).bind (opv s.h.get s.c)) fun r=>zaq r.c r.wr=true/\ckG mask L (.n r.rd (r.wr.map (·.1)))/\wpG pr (L++[.n r.rd (r.wr.map (·.1))]) l (s.ae dst r.d r.wr r.c) Q:=zcC rfl
def g_fa{l:List (Go.Vse.Op×Nat)}{off:Nat}{x:A}:wpG pr L ((⟨dst,none,.fa off x⟩,mask)::l) s Q↔oB (((O.fa off x).res (zad s.tm)).bind (opv s.h.get s.c)) fun r=>zaq r.c r.wr=true/\ckG mask L (.n r.rd (r.wr.map (·.1)))/\wpG pr (L++[.n r.rd (r.wr.map (·.1))]) l (s.ae dst r.d r.wr r.c) Q:=zcC rfl
def g_fld{l:List (Go.Vse.Op×Nat)}{g:Bool}{off n:Nat}{x:A}:wpG pr L ((⟨dst,none,.fld g off n x⟩,mask)::l) s Q↔oB (((O.fld g off n x).res (zad s.tm)).bind (opv s.h.get s.c)) fun r=>zaq r.c r.wr=true/\ckG mask L (.n r.rd (r.wr.map (·.1)))/\wpG pr (L++[.n r.rd (r.wr.map (·.1))]) l (s.ae dst r.d r.wr r.c) Q:=zcC rfl
def g_ia{l:List (Go.Vse.Op×Nat)}{es:Nat}{x i:A}:wpG pr L ((⟨dst,none,.ia es x i⟩,mask)::l) s Q↔oB (((O.ia es x i).res (zad s.tm)).bind (opv s.h.get s.c)) fun r=>zaq r.c r.wr=true/\ckG mask L (.n r.rd (r.wr.map (·.1)))/\wpG pr (L++[.n r.rd (r.wr.map (·.1))]) l (s.ae dst r.d r.wr r.c) Q:=zcC rfl
def g_ext{l:List (Go.Vse.Op×Nat)}{i:Nat}{x:A}:wpG pr L ((⟨dst,none,.ext x i⟩,mask)::l) s Q↔oB (((O.ext x i).res (zad s.tm)).bind (opv s.h.get s.c)) fun r=>zaq r.c r.wr=true/\ckG mask L (.n r.rd (r.wr.map (·.1)))/\wpG pr (L++[.n r.rd (r.wr.map (·.1))]) l (s.ae dst r.d r.wr r.c) Q:=zcC rfl
def g_app{l:List (Go.Vse.Op×Nat)}{es b:Nat}{x y:A}:wpG pr L ((⟨dst,none,.app es b x y⟩,mask)::l) s Q↔oB (((O.app es b x y).res (zad s.tm)).bind (opv s.h.get s.c)) fun r=>zaq r.c r.wr=true/\ckG mask L (.n r.rd (r.wr.map (·.1)))/\wpG pr (L++[.n r.rd (r.wr.map (·.1))]) l (s.ae dst r.d r.wr r.c) Q:=zcC rfl
def g_len{l:List (Go.Vse.Op×Nat)}{x:A}:wpG pr L ((⟨dst,none,.len x⟩,mask)::l) s Q↔oB (((O.len x).res (zad s.tm)).bind (opv s.h.get s.c)) fun r=>zaq r.c r.wr=true/\ckG mask L (.n r.rd (r.wr.map (·.1)))/\wpG pr (L++[.n r.rd (r.wr.map (·.1))]) l (s.ae dst r.d r.wr r.c) Q:=zcC rfl
def g_mm{l:List (Go.Vse.Op×Nat)}{mx:Bool}{x y:A}:wpG pr L ((⟨dst,none,.mm mx x y⟩,mask)::l) s Q↔oB (((O.mm mx x y).res (zad s.tm)).bind (opv s.h.get s.c)) fun r=>zaq r.c r.wr=true/\ckG mask L (.n r.rd (r.wr.map (·.1)))/\wpG pr (L++[.n r.rd (r.wr.map (·.1))]) l (s.ae dst r.d r.wr r.c) Q:=zcC rfl
def g_mmk{l:List (Go.Vse.Op×Nat)}:wpG pr L ((⟨dst,none,.mmk⟩,mask)::l) s Q↔oB (((O.mmk).res (zad s.tm)).bind (opv s.h.get s.c)) fun r=>zaq r.c r.wr=true/\ckG mask L (.n r.rd (r.wr.map (·.1)))/\wpG pr (L++[.n r.rd (r.wr.map (·.1))]) l (s.ae dst r.d r.wr r.c) Q:=zcC rfl
def g_mup{l:List (Go.Vse.Op×Nat)}{kd:Nat}{m k v:A}:wpG pr L ((⟨dst,none,.mup kd m k v⟩,mask)::l) s Q↔oB (((O.mup kd m k v).res (zad s.tm)).bind (opv s.h.get s.c)) fun r=>zaq r.c r.wr=true/\ckG mask L (.n r.rd (r.wr.map (·.1)))/\wpG pr (L++[.n r.rd (r.wr.map (·.1))]) l (s.ae dst r.d r.wr r.c) Q:=zcC rfl
def g_mlk{l:List (Go.Vse.Op×Nat)}{kd:Nat}{z:F}{ok:Bool}{m k:A}:wpG pr L ((⟨dst,none,.mlk kd z ok m k⟩,mask)::l) s Q↔oB (((O.mlk kd z ok m k).res (zad s.tm)).bind (opv s.h.get s.c)) fun r=>zaq r.c r.wr=true/\ckG mask L (.n r.rd (r.wr.map (·.1)))/\wpG pr (L++[.n r.rd (r.wr.map (·.1))]) l (s.ae dst r.d r.wr r.c) Q:=zcC rfl
def g_clr{l:List (Go.Vse.Op×Nat)}{es:Nat}{z:List F}{x:A}:wpG pr L ((⟨dst,none,.clr es z x⟩,mask)::l) s Q↔oB (((O.clr es z x).res (zad s.tm)).bind (opv s.h.get s.c)) fun r=>zaq r.c r.wr=true/\ckG mask L (.n r.rd (r.wr.map (·.1)))/\wpG pr (L++[.n r.rd (r.wr.map (·.1))]) l (s.ae dst r.d r.wr r.c) Q:=zcC rfl
def g_mkf{l:List (Go.Vse.Op×Nat)}{f:Nat}{a b:List A}:wpG pr L ((⟨dst,none,.mkf f a b⟩,mask)::l) s Q↔oB (((O.mkf f a b).res (zad s.tm)).bind (opv s.h.get s.c)) fun r=>zaq r.c r.wr=true/\ckG mask L (.n r.rd (r.wr.map (·.1)))/\wpG pr (L++[.n r.rd (r.wr.map (·.1))]) l (s.ae dst r.d r.wr r.c) Q:=zcC rfl
def e_box{l:List (Go.Vse.Op×Nat)}{L:List (List Nat×List Nat)}{x:A}:wpE pr L ((⟨dst,none,.box x⟩,mask)::l) s Q↔oB (((O.box x).res (zad s.tm)).bind (opv s.h.get s.c)) fun r=>zaq r.c r.wr=true/\zc3 mask L r.rd (r.wr.map (·.1))/\wpE pr (L++[(r.rd,r.wr.map (·.1))]) l (s.ae dst r.d r.wr r.c) Q:=zcH rfl
def o_nck{l:List Go.Vse.Op}{x:A}:wpO pr (⟨dst,none,.nck x⟩ ::l) s Q↔oB (((O.nck x).res (zad s.tm)).bind (opv s.h.get s.c)) fun r=>zaq r.c r.wr=true/\wpO pr l (s.aft dst r.d r.wr r.c) Q:=zdp rfl
def e_nck{l:List (Go.Vse.Op×Nat)}{L:List (List Nat×List Nat)}{x:A}:wpE pr L ((⟨dst,none,.nck x⟩,mask)::l) s Q↔oB (((O.nck x).res (zad s.tm)).bind (opv s.h.get s.c)) fun r=>zaq r.c r.wr=true/\zc3 mask L r.rd (r.wr.map (·.1))/\wpE pr (L++[(r.rd,r.wr.map (·.1))]) l (s.ae dst r.d r.wr r.c) Q:=zcH rfl
def o_mmk{l:List Go.Vse.Op}:wpO pr (⟨dst,none,.mmk⟩ ::l) s Q↔oB (((O.mmk).res (zad s.tm)).bind (opv s.h.get s.c)) fun r=>zaq r.c r.wr=true/\wpO pr l (s.aft dst r.d r.wr r.c) Q:=zdp rfl
def e_mmk{l:List (Go.Vse.Op×Nat)}{L:List (List Nat×List Nat)}:wpE pr L ((⟨dst,none,.mmk⟩,mask)::l) s Q↔oB (((O.mmk).res (zad s.tm)).bind (opv s.h.get s.c)) fun r=>zaq r.c r.wr=true/\zc3 mask L r.rd (r.wr.map (·.1))/\wpE pr (L++[(r.rd,r.wr.map (·.1))]) l (s.ae dst r.d r.wr r.c) Q:=zcH rfl
def o_mup{l:List Go.Vse.Op}{kd:Nat}{m k v:A}:wpO pr (⟨dst,none,.mup kd m k v⟩ ::l) s Q↔oB (((O.mup kd m k v).res (zad s.tm)).bind (opv s.h.get s.c)) fun r=>zaq r.c r.wr=true/\wpO pr l (s.aft dst r.d r.wr r.c) Q:=zdp rfl
def e_mup{l:List (Go.Vse.Op×Nat)}{L:List (List Nat×List Nat)}{kd:Nat}{m k v:A}:wpE pr L ((⟨dst,none,.mup kd m k v⟩,mask)::l) s Q↔oB (((O.mup kd m k v).res (zad s.tm)).bind (opv s.h.get s.c)) fun r=>zaq r.c r.wr=true/\zc3 mask L r.rd (r.wr.map (·.1))/\wpE pr (L++[(r.rd,r.wr.map (·.1))]) l (s.ae dst r.d r.wr r.c) Q:=zcH rfl
def o_mlk{l:List Go.Vse.Op}{kd:Nat}{z:F}{ok:Bool}{m k:A}:wpO pr (⟨dst,none,.mlk kd z ok m k⟩ ::l) s Q↔oB (((O.mlk kd z ok m k).res (zad s.tm)).bind (opv s.h.get s.c)) fun r=>zaq r.c r.wr=true/\wpO pr l (s.aft dst r.d r.wr r.c) Q:=zdp rfl
def e_mlk{l:List (Go.Vse.Op×Nat)}{L:List (List Nat×List Nat)}{kd:Nat}{z:F}{ok:Bool}{m k:A}:wpE pr L ((⟨dst,none,.mlk kd z ok m k⟩,mask)::l) s Q↔oB (((O.mlk kd z ok m k).res (zad s.tm)).bind (opv s.h.get s.c)) fun r=>zaq r.c r.wr=true/\zc3 mask L r.rd (r.wr.map (·.1))/\wpE pr (L++[(r.rd,r.wr.map (·.1))]) l (s.ae dst r.d r.wr r.c) Q:=zcH rfl
def o_clr{l:List Go.Vse.Op}{es:Nat}{z:List F}{x:A}:wpO pr (⟨dst,none,.clr es z x⟩ ::l) s Q↔oB (((O.clr es z x).res (zad s.tm)).bind (opv s.h.get s.c)) fun r=>zaq r.c r.wr=true/\wpO pr l (s.aft dst r.d r.wr r.c) Q:=zdp rfl
end
omit [Globs]in
section
def rs_mv(f:A->Option D)(x:A):O.res f (.mv x)=(f x).bind fun x=>some (.mv x):=rfl
def zMx(f:A->Option D)(q x y:A):O.res f (.pick q x y)=(f q).bind fun q=>(f x).bind fun x=>(f y).bind fun y=>some (.pick q x y):=rfl
def zS7(f:A->Option D)(cs:List F):O.res f (.new cs)=some (.new cs):=rfl
def zSJ(f:A->Option D)(x:A):O.res f (.box x)=(f x).bind fun x=>some (.box x):=rfl
def rs_ld(f:A->Option D)(g:Bool)(n:Nat)(x:A):O.res f (.ld g n x)=(f x).bind fun x=>some (.ld g n x):=rfl
def rs_st(f:A->Option D)(n:Nat)(x v:A):O.res f (.st n x v)=(f x).bind fun x=>(f v).bind fun v=>some (.st n x v):=rfl
def zS3(f:A->Option D)(x:A):O.res f (.nck x)=(f x).bind fun x=>some (.nck x):=rfl
def zSH(f:A->Option D)(op:BinOp)(x y:A):O.res f (.bin op x y)=(f x).bind fun x=>(f y).bind fun y=>some (.bin op x y):=rfl
def rs_fa(f:A->Option D)(o:Nat)(x:A):O.res f (.fa o x)=(f x).bind fun x=>some (.fa o x):=rfl
def rs_ia(f:A->Option D)(es:Nat)(x i:A):O.res f (.ia es x i)=(f x).bind fun x=>(f i).bind fun i=>some (.ia es x i):=rfl
def zSX(f:A->Option D)(x:A):O.res f (.len x)=(f x).bind fun x=>some (.len x):=rfl
def zS1(f:A->Option D):O.res f (.mmk)=some (.mmk):=rfl
def zS2(f:A->Option D)(kd:Nat)(m k v:A):O.res f (.mup kd m k v)=(f m).bind fun m=>(f k).bind fun k=>(f v).bind fun v=>some (.mup kd m k v):=rfl
def zS0(f:A->Option D)(kd:Nat)(z:F)(ok:Bool)(m k:A):O.res f (.mlk kd z ok m k)=(f m).bind fun m=>(f k).bind fun k=>some (.mlk kd z ok m k):=rfl
def zSQ(f:A->Option D)(es:Nat)(z:List F)(x:A):O.res f (.clr es z x)=(f x).bind fun x=>some (.clr es z x):=rfl
def zSY(f:A->Option D)(g:Nat)(a b:List A):O.res f (.mkf g a b)=(zat f a).bind fun a=>(zat f b).bind fun b=>some (.mkf g a b):=rfl
end
def v_mv(h:Nat->Option Ob)(c:Nat)(d:D):opv h c (.mv d)=some {d,c}:=rfl
def zTI(h:Nat->Option Ob)(c:Nat)(b:Bool)(x y:D):opv h c (.pick (.f (.b b)) x y)=some {d:=if b then x else y,c}:=rfl
def v_new(h:Nat->Option Ob)(c:Nat)(cs:List F):opv h c (.new cs)=some {d:= .ptr c cs.length 0 0,wr:=[(c,some (.arr cs.length 0 [cs.map D.f]))],c:=c+1}:=rfl
def v_box(h:Nat->Option Ob)(c:Nat)(x:D):opv h c (.box x)=om x.cells fun cs=>some {d:= .ptr c cs.length 0 0,wr:=[(c,some (.arr cs.length 0 [cs]))],c:=c+1}:=by
 simp only[opv,om];cases x.cells<;>rfl
def v_ld(h:Nat->Option Ob)(c:Nat)(g:Bool)(n:Nat)(x:D):opv h c (.ld g n x)=om (zbq g n h x) fun p=>some {d:=p.1,rd:=p.2,c}:=by
 simp only[opv,om];cases zbq g n h x<;>rfl
def v_st(h:Nat->Option Ob)(c:Nat)(n:Nat)(x v:D):opv h c (.st n x v)=om (zeh n h x v) fun p=>some {d:= .f .un,rd:=[p.1],wr:=[(p.1,some p.2)],c}:=by
 simp only[opv,om];cases zeh n h x v<;>rfl
def zNq(h:Nat->Option Ob)(c a b e f:Nat):opv h c (.nck (.ptr a b e f))=some {d:= .ptr a b e f,c}:=rfl
def v_bin(h:Nat->Option Ob)(c:Nat)(op:BinOp)(x y:F):opv h c (.bin op (.f x) (.f y))=om (za7 op x y) fun z=>some {d:= .f z,c}:=by
 simp only[opv,om];cases za7 op x y<;>rfl
def v_fa(h:Nat->Option Ob)(c o:Nat)(x:D):opv h c (.fa o x)=om (faB o x) fun d=>some {d,c}:=by
 simp only[opv,om];cases x with
 |f y=>cases y<;>rfl
 |_=>rfl
def v_ia(h:Nat->Option Ob)(c es:Nat)(x i:D):opv h c (.ia es x i)=om (zbR i) fun n=>om (iaB es x n) fun d=>some {d,c}:=by
 simp only[opv,om,okD];cases zbR i with
 |none=>rfl
 |some n=>
  simp only[Z47];cases x with
  |f y=>
   cases y with
   |sl e l=>
    simp only[iaB];split
    .cases l[n]? <;>rfl
    .rfl
   |_=>rfl
  |sl id off m e lim ex=>simp only[iaB];split<;>rfl
  |_=>rfl
def v_len(h:Nat->Option Ob)(c:Nat)(x:D):opv h c (.len x)=om (zbv x) fun n=>some {d:= .f (.i .i64 n),c}:=by
 simp only[opv,om];cases zbv x<;>rfl
def v_mmk(h:Nat->Option Ob)(c:Nat):opv h c .mmk=some {d:= .mp c,wr:=[(c,some (.map []))],c:=c+1}:=rfl
def v_bld(h:Nat->Option Ob)(c:Nat)(z:List F)(ps:List (Nat×Nat×D)):opv h c (.bld z ps)=om (zdR (z.map D.f) ps) fun cs=>some {d:= .ag cs,c}:=by
 simp only[opv,om];cases zdR (z.map D.f) ps<;>rfl
theorem zqH(h:Nat->Option Ob)(c es byt:Nat)(z:List F)(l m:D):opv h c (.mks es byt z l m)=om (zbR l) fun l=>om (zbR m) fun m=>if l<=m/\m<=zak/\m*byt<=zak then
    some {d:= .sl c 0 l es m true,wr:=[(c,some (.arr es 0 (List.replicate m (z.map D.f))))],c:=c+1} else none:=by
 simp only[opv,om];cases zbR l with
 |none=>rfl
 |some a=>cases zbR m<;>rfl
def upM(id:Nat)(kd:Nat)(k:F)(v:D)(c:Nat)(ents:List (F×D)):Option (Option (Nat×D))->Option Rs
 |some (some (i,_))=>some {d:= .f .un,rd:=[id],wr:=[(id,some (.map (ents.set i (k,v))))],c}
 |some none=>some {d:= .f .un,rd:=[id],wr:=[(id,some (.map (ents++[(k,v)])))],c}
 |none=>none
def zGd{id kd i:Nat}{k:F}{v w:D}{c:Nat}{ents:List (F×D)}:upM id kd k v c ents (some (some (i,w)))=some {d:= .f .un,rd:=[id],wr:=[(id,some (.map (ents.set i (k,v))))],c}:=rfl
def zGc{id kd:Nat}{k:F}{v:D}{c:Nat}{ents:List (F×D)}:upM id kd k v c ents (some none)=some {d:= .f .un,rd:=[id],wr:=[(id,some (.map (ents++[(k,v)])))],c}:=rfl
def upO(id kd:Nat)(k:F)(v:D)(c:Nat):Ob->Option Rs
 | .map ents=>if zfR kd k=true then upM id kd k v c ents (zbf kd k ents 0)else none
 |_=>none
def upO_m{id kd:Nat}{k:F}{v:D}{c:Nat}{ents:List (F×D)}:upO id kd k v c (.map ents)=if zfR kd k=true then upM id kd k v c ents (zbf kd k ents 0)else none:=rfl
def v_mup(h:Nat->Option Ob)(c kd id:Nat)(k:F)(v:D):opv h c (.mup kd (.mp id) (.f k) v)=om (h id) (upO id kd k v c):=by
 simp only[opv,om];cases h id with
 |none=>rfl
 |some o=>
  cases o with
  |arr=>rfl
  |map ents=>
   simp only[Z47,upO];split
   .cases zbf kd k ents 0 with
    |none=>rfl
    |some x=>cases x with
     |none=>rfl
     |some y=>rfl
   .rfl
def lkM(id:Nat)(z:F)(ok:Bool)(c:Nat):Option (Option (Nat×D))->Option Rs
 |some (some (_,v))=>some {d:=if ok then .tu [v,.f (.b true)]else v,rd:=[id],c}
 |some none=>some {d:=if ok then .tu [z.d,.f (.b false)]else z.d,rd:=[id],c}
 |none=>none
def zz8{id i:Nat}{z:F}{ok:Bool}{c:Nat}{v:D}:lkM id z ok c (some (some (i,v)))=some {d:=if ok then .tu [v,.f (.b true)]else v,rd:=[id],c}:=rfl
def zz7{id:Nat}{z:F}{ok:Bool}{c:Nat}:lkM id z ok c (some none)=some {d:=if ok then .tu [z.d,.f (.b false)]else z.d,rd:=[id],c}:=rfl
def lkO(id kd:Nat)(z:F)(ok:Bool)(k:F)(c:Nat):Ob->Option Rs
 | .map ents=>if zfR kd k=true then lkM id z ok c (zbf kd k ents 0)else none
 |_=>none
def lkO_m{id kd:Nat}{z:F}{ok:Bool}{k:F}{c:Nat}{ents:List (F×D)}:lkO id kd z ok k c (.map ents)=if zfR kd k=true then lkM id z ok c (zbf kd k ents 0)else none:=rfl
def v_mlk(h:Nat->Option Ob)(c kd id:Nat)(z:F)(ok:Bool)(k:F):opv h c (.mlk kd z ok (.mp id) (.f k))=om (h id) (lkO id kd z ok k c):=by
 simp only[opv,om];cases h id with
 |none=>simp
 |some o=>
  cases o with
  |arr=>simp[lkO]
  |map ents=>
   simp only[Z47,lkO];split
   .cases zbf kd k ents 0 with
    |none=>rfl
    |some x=>cases x with
     |none=>rfl
     |some y=>rfl
   .rfl
def sk_s(x:List UInt8):zfR 1 (.s x)=true:=rfl
def sk_i(k:IntKind)(x:Int):zfR 0 (.i k x)=true:=rfl
def ce_mp(x:Nat):(D.mp x).cells=some [.mp x]:=rfl
def ce_fn(x:Nat)(a b:List D):(D.fn x a b).cells=some [.fn x a b]:=rfl
def zKO:(D.f .nilf).cells=some [.f .nilf]:=rfl
def zKR:(D.f .nilp).cells=some [.f .nilp]:=rfl
def zQt(n:Nat):(D.f (.fn n)).cells=some [.f (.fn n)]:=rfl
def zQO:(F.nilp).d= .f .nilp:=rfl
def zQL:(F.nilf).d= .f .nilf:=rfl
def d_fn(n:Nat):(F.fn n).d= .f (.fn n):=rfl
def zQN:(F.nilm).d= .f .nilm:=rfl
def h8_mp(a:Nat)(l:List (List D)):hd8 ([.mp a]::l)=false:=rfl
def h8_fn(x:Nat)(a b:List D)(l:List (List D)):hd8 ([.fn x a b]::l)=false:=rfl
def zLV(l:List (List D)):hd8 ([.f .nilf]::l)=false:=rfl
def zL0(l:List (List D)):hd8 ([.f .nilp]::l)=false:=rfl
def Frm(h h':T Ob)(c:Nat):Prop:=∀id,id<c->h'.get id=h.get id
def D.oid:D->Option Nat
 | .sl id _ _ _ _ _=>some id
 |_=>none
def zSd(a b c d e:Nat)(x:Bool):(D.sl a b c d e x).oid=some a:=rfl
def oid_f(x:F):(D.f x).oid=none:=rfl
def if_sl(a b c d e:Nat)(x:Bool):(D.sl a b c d e x).isF=false:=rfl
def if_f(x:F):(D.f x).isF=true:=rfl
def zRW(a b c d:Nat):(D.ptr a b c d).isF=false:=rfl
def if_ag(l:List D):(D.ag l).isF=D.zhN l:=rfl
def if_tu(l:List D):(D.tu l).isF=D.zhN l:=rfl
def if_n:D.zhN []=true:=rfl
def if_c(d:D)(l:List D):D.zhN (d::l)=(d.isF&&D.zhN l):=rfl
def Gro(h:T Ob)(lo c es:Nat)(d:D)(els:List (List D)):Prop:=
 (d= .f .nils/\els=[])\/∃id ro,d= .sl id 0 els.length es els.length false/\els≠[]/\h.get id=some (.arr es ro els)/\ro<=els.length/\lo<=id/\id<c
omit [Globs]in
def Gro.nil{h:T Ob}{lo c es:Nat}:Gro h lo c es (.f .nils) []:= .inl ⟨rfl,rfl⟩
omit [Globs]in
def Gro.held{h:T Ob}{lo c es:Nat}{d:D}{els:List (List D)}(hg:Gro h lo c es d els):Held h lo c es d els:=by
 rcases hg with h|⟨id,ro,h1,h2,h3,h4,h5,h6⟩
 .exact .inl h
 .exact .inr ⟨id,ro,h1,h2,h3,h5,h6⟩
omit [Globs]in
def zbh{h h':T Ob}{lo c c' es:Nat}{d:D}{els:List (List D)}(hg:Gro h lo c es d els)(hc:c<=c')(hh:∀id,lo<=id->id<c->h'.get id=h.get id):Gro h' lo c' es d els:=by
 rcases hg with h|⟨id,ro,h1,h2,h3,h4,h5,h6⟩
 .exact .inl h
 .exact .inr ⟨id,ro,h1,h2,by rw[hh id h5 h6];exact h3,h4,h5,by omega⟩
omit [Globs]in
def zbj{h:T Ob}{lo c es:Nat}{d:D}{els:List (List D)}(hg:Gro h lo c es d els):d.cells=some [d]:=by
 rcases hg with⟨rfl,_⟩ |⟨id,ro,rfl,_⟩ <;>rfl
omit [Globs]in
def zdv{h:T Ob}{lo c es:Nat}{d:D}{els:List (List D)}(hg:Gro h lo c es d els):zbv d=some els.length:=by
 rcases hg with⟨rfl,rfl⟩ |⟨id,ro,rfl,_⟩ <;>rfl
theorem zq9{h:T Ob}{lo c es byt:Nat}{d:D}{els new:List (List D)}{rd:List Nat}(hg:Gro h lo c es d els)(hlo:lo<=c)(hlen:els.length+new.length<=1000000)(hb:byt<=1000):
  ∃r,zbr es byt h.get c d new rd=some r/\zaq r.c r.wr=true/\Gro (wrT h r.wr) lo r.c es r.d (els++new)/\c<=r.c/\(∀id,id<c->d.oid≠some id->(wrT h r.wr).get id=h.get id)/\
   (∀x,x∈r.wr.map (·.1)->x=c\/d.oid=some x)/\(∀x,x∈r.rd->x∈rd\/d.oid=some x)/\(∀x,r.d.oid=some x->x=c\/d.oid=some x):=by
 have hm:∀n,n<=1000000->n<=zak:=fun n hn=>by have:=za2 (n:=n) (by omega);simpa using this
 have hmb:∀n,n<=1000000->n*byt<=zak:=fun n hn=>by
  have:n*byt<=1000000*1000:=Z145 hn hb;have h2:=za2 (n:=n*byt) (by omega);simpa using h2
 by_cases h0:new.length=0
 .have hn:new=[]:=Z18.1 h0;subst hn;rcases hg with⟨rfl,rfl⟩ |⟨id,ro,rfl,he,ho,hr,hl,hc⟩
  .exact⟨{d:= .f .nils,rd,c},by rw[ziO];simp,rfl,.inl ⟨rfl,rfl⟩,Z3 _,fun _ _ _=>rfl,by simp,fun x hx=> .inl hx,by simp[D.oid]⟩
  .exact⟨{d:= .sl id 0 els.length es els.length false,rd,c},by rw[znm];simp,rfl,.inr ⟨id,ro,by simp,by simpa using he,by simpa [wrT]using ho,by simpa using hr,hl,hc⟩,Z3 _,fun _ _ _=>rfl,by simp,fun x hx=> .inl hx,fun x hx=> .inr hx⟩
 .rcases hg with⟨rfl,rfl⟩ |⟨id,ro,rfl,he,ho,hr,hl,hc⟩
  .refine⟨{d:= .sl c 0 new.length es new.length false,rd,wr:=[(c,some (.arr es 0 new))],c:=c+1},?_,?_,.inr ⟨c,0,rfl,?_,?_,Z62 _,hlo,by simp⟩,by simp,?_,by simp,fun x hx=> .inl hx,by simp[D.oid]⟩
   .rw[ziO,Z50 h0,Z52 ⟨hm _ (by simpa using hlen),hmb _ (by simpa using hlen)⟩]
   .simp[zaq,Z80]
   .simpa using fun e=>h0 (by simp[e])
   .simp[wrT,T.zab]
   .intro i hi _;have:i≠c:=by omega
    simp[wrT,T.zab,this]
  .refine⟨{d:= .sl c 0 (els.length+new.length) es (els.length+new.length) false,rd:=id::rd,wr:=[(id,none),(c,some (.arr es ro (els++new)))],c:=c+1},?_,?_,.inr ⟨c,ro,by simp,?_,?_,by simp;omega,hlo,by simp⟩,by simp,?_,?_,?_,by simp[D.oid]⟩
   .rw[znm,Z50 h0,ho];have h1:¬(0+els.length+new.length<=els.length):=by omega
    have h2:=hm (els.length+new.length) hlen;have h3:=hmb (els.length+new.length) hlen;simp[om,apO,h1,h2,h3,hr];omega
   .simp[zaq,Z80];omega
   .simp[he]
   .simp[wrT,T.zab]
   .intro i hi hne;have h1:i≠c:=by omega
    have h2:i≠id:=fun e=>hne (by rw[e];rfl)
    simp[wrT,T.zab,T.zeF,h1,h2]
   .intro x hx;simp only[Z11,Z86,Z6,Z165,or_false]at hx;rcases hx with rfl|rfl
    .exact .inr rfl
    .exact .inl rfl
   .intro x hx;rcases Z6.1 hx with rfl|hx
    .exact .inr rfl
    .exact .inl hx
theorem zpR{h:T Ob}{lo c es byt:Nat}{d:D}{els new:List (List D)}{rd:List Nat}{K:Rs->Prop}(hg:Gro h lo c es d els)(hlo:lo<=c)(hlen:els.length+new.length<=1000000)(hb:byt<=1000)
  (hK:∀r:Rs,zaq r.c r.wr=true->Gro (wrT h r.wr) lo r.c es r.d (els++new)->c<=r.c->(∀id,id<c->d.oid≠some id->(wrT h r.wr).get id=h.get id)->(∀x,x∈r.wr.map (·.1)->x=c\/d.oid=some x)->(∀x,x∈r.rd->x∈rd\/d.oid=some x)->K r):oB (zbr es byt h.get c d new rd) K:=by
 obtain⟨r,h1,h2,h3,h4,h5,h6,h7,_⟩ :=zq9 (byt:=byt) (rd:=rd) hg hlo hlen hb;rw[h1];exact hK r h2 h3 h4 h5 h6 h7
def rulI [Globs]:=
 (qI @g_mv (qI @zRE (qI @g_new (qI @g_box (qI @g_bld (qI @g_bsl (qI @g_bsf (qI @g_ld (qI @g_st (qI @g_nck (qI @g_bin (qI @g_eqb (qI @g_eqn (qI @g_eqa (qI @g_un (qI @g_cvi (qI @g_mks (qI @g_slc (qI @g_fa (qI @g_fld (qI @g_ia (qI @g_ext (qI @g_app (qI @g_len (qI @g_mm (qI @g_mmk (qI @g_mup (qI @g_mlk (qI @g_clr (qI @g_mkf (qI @e_box (qI @o_nck (qI @e_nck (qI @o_mmk (qI @e_mmk (qI @o_mup (qI @e_mup (qI @o_mlk (qI @e_mlk (qI @o_clr (qI @rs_mv (qI @zMx (qI @zS7 (qI @zSJ (qI @rs_ld (qI @rs_st (qI @zS3 (qI @zSH (qI @rs_fa (qI @rs_ia (qI @zSX (qI @zS1 (qI @zS2 (qI @zS0 (qI @zSQ (qI @zSY (qI @zJS (qI @um_h (qI @um_c (qI @zJQ (qI @zHX (qI @ca_h (qI @ca_c (qI @zHW (qI @zJO (qI @ug_h (qI @ug_c (qI @zJM (qI @zHZ (qI @cg_h (qI @cg_c (qI @zHY (qI @za9 (qI @zRX (qI @zMa (qI @cg_n (qI @zKU (qI @c1_nn (qI @dj_n (qI @c1_rn (qI @c1_nr (qI @c1_qn (qI @c1_nq (qI @g_nil (qI @zLS (qI @g_call (qI @zLR (qI @zLP (qI @v_mv (qI @zTI (qI @v_new (qI @v_box (qI @v_ld (qI @v_st (qI @zNq (qI @v_bin (qI @v_fa (qI @v_ia (qI @v_len (qI @v_mmk (qI @v_bld (qI @zqH (qI @zGd (qI @zGc (qI @upO_m (qI @v_mup (qI @zz8 (qI @zz7 (qI @lkO_m (qI @v_mlk (qI @sk_s (qI @sk_i (qI @ce_mp (qI @ce_fn (qI @zKO (qI @zKR (qI @zQt (qI @zQO (qI @zQL (qI @d_fn (qI @zQN (qI @h8_mp (qI @h8_fn (qI @zLV (qI @zL0 (qI @zSd (qI @oid_f (qI @if_sl (qI @if_f (qI @zRW (qI @if_ag (qI @if_tu (qI @if_n (qI @if_c True.intro))))))))))))))))))))))))))))))))))))))))))))))))))))))))))))))))))))))))))))))))))))))))))))))))))))))))))))))))))))))))))))))))))))))
def rW [Globs]:=And.intro rulI rR
def rG [Globs]:=qI @zJL (qI @ue_h (qI @ue_c (qI @zJK (qI @zHw (qI @ae_h (qI @ae_c (qI @zHv (qI @zJB (qI @se_h (qI @se_c (qI @zJA (qI @zJV (qI @up_h (qI @up_c (qI @zJU (qI @zBd (qI @zHA (qI @zHz (qI @zBc (qI @zJS (qI @um_h (qI @um_c (qI @zJQ (qI @zJO (qI @ug_h (qI @ug_c (qI @zJM (qI @zHZ (qI @cg_h (qI @cg_c (qI @zHY (qI @zHX (qI @ca_h (qI @ca_c (qI @zHW (qI @wt_n (qI @wt_s (qI @wt_d (@za9)))))))))))))))))))))))))))))))))))))))
end Go.Vse
