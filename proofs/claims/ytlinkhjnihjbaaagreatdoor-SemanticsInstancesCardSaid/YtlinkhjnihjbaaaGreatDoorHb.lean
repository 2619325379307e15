/- Calls that work on the caller's heap: rules for them, calls that leave the heap as it is, regions that draw their order with such calls. -/
import Derived.Test.YtlinkhjnihjbaaaGreatDoorHa
import Derived.Test.YtlinkhjnihjbaaaGreatDoorVe
set_option linter.all false
section
namespace Go.Vse
open Go (BinOp IntKind UnOp)
set_option maxRecDepth 100000
mutual
theorem F.zg7:∀x:F,x.beq x=true
 | .b x=>by simp[F.beq]
 | .i k n=>by cases k<;>simp[F.beq]<;>rfl
 | .s l=>by simp[F.beq]
 | .nils| .nilp| .nilm| .nilf| .nili| .un=>by simp[F.beq]
 | .ag cs=>by simp only[F.beq];exact F.zdf cs
 | .tu cs=>by simp only[F.beq];exact F.zdf cs
 | .sl e l=>by simp only[F.beq,beq_self_eq_true,Z103];exact F.zgO l
 | .fn x=>by simp[F.beq]
theorem F.zdf:∀l:List F,F.zdn l l=true
 |[]=>rfl
 |x::l=>by simp only[F.zdn,F.zg7 x,F.zdf l,Z133]
theorem F.zgO:∀l:List (List F),F.zeh l l=true
 |[]=>rfl
 |x::l=>by simp only[F.zeh,F.zdf x,F.zgO l,Z133]
end
mutual
theorem D.zg7:∀x:D,x.beq x=true
 | .f x=>F.zg7 x
 | .ag x=>by simp only[D.beq];exact D.zdf x
 | .tu x=>by simp only[D.beq];exact D.zdf x
 | .sl .. =>by simp[D.beq]
 | .ptr .. =>by simp[D.beq]
 | .fptr x=>by simp only[D.beq];exact F.zdf x
 | .mp x=>by simp[D.beq]
 | .fn x a b=>by simp only[D.beq,beq_self_eq_true,Z103,D.zdf a,D.zdf b,Z133]
theorem D.zdf:∀l:List D,D.zdn l l=true
 |[]=>rfl
 |x::l=>by simp only[D.zdn,D.zg7 x,D.zdf l,Z133]
end
theorem D.zgO:∀l:List (List D),D.zeh l l=true
 |[]=>rfl
 |x::l=>by simp only[D.zeh,D.zdf x,D.zgO l,Z133]
theorem Ob.zru:∀l:List (F×D),Ob.zlF l l=true
 |[]=>rfl
 |(a,x)::l=>by simp only[Ob.zlF,F.zg7 a,D.zg7 x,Ob.zru l,Z133]
theorem Ob.ziN:∀x:Option Ob,Ob.zqM x x=true
 |none=>rfl
 |some (.arr a b c)=>by simp only[Ob.zqM,Ob.beq,beq_self_eq_true,Z103,D.zgO]
 |some (.map a)=>by simp only[Ob.zqM,Ob.beq,Ob.zru]
variable [Globs]
def zsa(pr:Pr):Prop:=∀f args h c q,Con pr f args h c q->c<=q.c/\q.c<=q.mx
def zDe{P:Go.Program}{pur:Nat->Bool}{pr:Pr}(hp:znD P pur pr):zsa pr:=by
 intro f args h c q ⟨N,hN⟩;obtain⟨_,h1,h2,_⟩ :=zmR hp N f args h c q (hN N (Z2 _));exact⟨h1,h2⟩
def RO(pr:Pr)(f:Nat)(args:List D)(h:T Ob)(c:Nat)(d:D):Prop:=∃mx,c<=mx/\Con pr f args h c ⟨d,h,c,c,mx⟩
def zt4(res:List Rv)(c:Nat)(d:D)(x:Ex)(s:St):Prop:=(match x with| .exit _=>False|_=>True)/\resD s res=some d/\s.lw=c
def zhy{res:List Rv}{c:Nat}{d:D}{s:St}:zt4 res c d .ret s=(resD s res=some d/\s.lw=c):=by simp[zt4]
def zKI{res:List Rv}{c:Nat}{d:D}{s:St}:zt4 res c d .nrm s=(resD s res=some d/\s.lw=c):=by simp[zt4]
def zm3{pr:Pr}(hle:zsa pr){f:Nat}{fn:Fn}(hf:pr.fn f=some fn){args:List D}{h:T Ob}{c:Nat}{d:D}(hd:d.isF=true)(hw:wpC pr fn.body (st0 args h c) (zt4 fn.res c d)):RO pr f args h c d:=by
 obtain⟨x,s,⟨hx,hr,hl⟩,ev⟩ :=zex _ _ _ hw;have key:EV fun m=>zeu (evC (zco pr m) m) fn args h c=some ⟨d,h,c,c,s.mx⟩ :=by
  refine ev.mono fun m hm=> ?_
  unfold zeu;unfold st0 at hm;rw[hm];cases x with
  |exit i=>exact hx.elim
  |nrm=>simp only[hr];simp[hl,hd]
  |ret=>simp only[hr];simp[hl,hd]
 have hq:Con pr f args h c ⟨d,h,c,c,s.mx⟩ :=by
  obtain⟨N,hN⟩ :=key;refine⟨N+1,fun m hm=> ?_⟩;obtain⟨m,rfl⟩ :∃m',m=m'+1:=⟨m - 1,by omega⟩
  simp only[zco,hf];exact hN m (by omega)
 exact⟨s.mx,(hle _ _ _ _ _ hq).2,hq⟩
def ztU(res:List Rv)(h:T Ob)(c:Nat)(P:D->T Ob->Nat->Prop)(x:Ex)(s:St):Prop:=
 (match x with| .exit _=>False|_=>True)/\oB (resD s res) fun d=>P d s.h s.c/\(s.lw=c->d.isF=true->P d h c)
def zo5{res:List Rv}{h:T Ob}{c:Nat}{P:D->T Ob->Nat->Prop}{s:St}:ztU res h c P .ret s=oB (resD s res) fun d=>P d s.h s.c/\(s.lw=c->d.isF=true->P d h c):=by simp[ztU]
def ztV{res:List Rv}{h:T Ob}{c:Nat}{P:D->T Ob->Nat->Prop}{s:St}:ztU res h c P .nrm s=oB (resD s res) fun d=>P d s.h s.c/\(s.lw=c->d.isF=true->P d h c):=by simp[ztU]
def Eff(pr:Pr)(f:Nat)(args:List D)(h:T Ob)(c:Nat)(P:D->T Ob->Nat->Prop):Prop:=∃q,Con pr f args h c q/\P q.d q.h q.c/\c<=q.c/\q.c<=q.mx
def zjT{pr:Pr}(hle:zsa pr){f:Nat}{fn:Fn}(hf:pr.fn f=some fn){args:List D}{h:T Ob}{c:Nat}{P:D->T Ob->Nat->Prop}(hw:wpC pr fn.body (st0 args h c) (ztU fn.res h c P)):Eff pr f args h c P:=by
 obtain⟨x,s,⟨hx,hr⟩,ev⟩ :=zex _ _ _ hw;cases hd:resD s fn.res with
 |none=>rw[hd]at hr;exact hr.elim
 |some d=>
  rw[hd]at hr;obtain⟨h1,h2⟩ :=hr;have key:EV fun m=>zeu (evC (zco pr m) m) fn args h c=some (if Nat.beq s.lw c&&d.isF then ⟨d,h,c,c,s.mx⟩else ⟨d,s.h,s.c,s.lw,s.mx⟩):=by
   refine ev.mono fun m hm=> ?_
   unfold zeu;unfold st0 at hm;rw[hm];cases x with
   |exit i=>exact hx.elim
   |nrm=>simp only[hd];split<;>rfl
   |ret=>simp only[hd];split<;>rfl
  have hq:Con pr f args h c (if Nat.beq s.lw c&&d.isF then ⟨d,h,c,c,s.mx⟩else ⟨d,s.h,s.c,s.lw,s.mx⟩):=by
   obtain⟨N,hN⟩ :=key;refine⟨N+1,fun m hm=> ?_⟩;obtain⟨m,rfl⟩ :∃m',m=m'+1:=⟨m - 1,by omega⟩
   simp only[zco,hf];exact hN m (by omega)
  refine⟨_,hq,?_,hle _ _ _ _ _ hq⟩;split
  .rename_i hb;simp only[Z14]at hb;exact h2 (Z88 hb.1) hb.2
  .exact h1
def St.um(s:St)(dst:Option Nat)(d:D)(mx:Nat):St:={s with tm:=zcr s.tm dst d,mx:=Nat.max s.mx mx}
def zG5(s:St)(dst:Option Nat)(d:D)(mx:Nat):(s.um dst d mx).tm=zcr s.tm dst d:=rfl
def um_h(s:St)(dst:Option Nat)(d:D)(mx:Nat):(s.um dst d mx).h=s.h:=rfl
def um_c(s:St)(dst:Option Nat)(d:D)(mx:Nat):(s.um dst d mx).c=s.c:=rfl
def zG4(s:St)(dst:Option Nat)(d:D)(mx:Nat):(s.um dst d mx).lw=s.lw:=rfl
def zEB(s:St)(dst:Option Nat)(q:CR):(s.cal dst q).tm=zcr s.tm dst q.d:=rfl
def ca_h(s:St)(dst:Option Nat)(q:CR):(s.cal dst q).h=q.h:=rfl
def ca_c(s:St)(dst:Option Nat)(q:CR):(s.cal dst q).c=q.c:=rfl
def zEA(s:St)(dst:Option Nat)(q:CR):(s.cal dst q).lw=Nat.min s.lw q.lw:=rfl
def St.ug(s:St)(dst:Option Nat)(d:D)(mx:Nat):St:={s with tm:=zcr s.tm dst d,c:=mx,mx:=Nat.max s.mx mx}
def zG3(s:St)(dst:Option Nat)(d:D)(mx:Nat):(s.ug dst d mx).tm=zcr s.tm dst d:=rfl
def ug_h(s:St)(dst:Option Nat)(d:D)(mx:Nat):(s.ug dst d mx).h=s.h:=rfl
def ug_c(s:St)(dst:Option Nat)(d:D)(mx:Nat):(s.ug dst d mx).c=mx:=rfl
def zG0(s:St)(dst:Option Nat)(d:D)(mx:Nat):(s.ug dst d mx).lw=s.lw:=rfl
def St.cg(s:St)(dst:Option Nat)(q:CR):St:={tm:=zcr s.tm dst q.d,h:=q.h,c:=q.mx,lw:=Nat.min s.lw q.lw,mx:=Nat.max s.mx q.mx}
def zEJ(s:St)(dst:Option Nat)(q:CR):(s.cg dst q).tm=zcr s.tm dst q.d:=rfl
def cg_h(s:St)(dst:Option Nat)(q:CR):(s.cg dst q).h=q.h:=rfl
def cg_c(s:St)(dst:Option Nat)(q:CR):(s.cg dst q).c=q.mx:=rfl
def zEG(s:St)(dst:Option Nat)(q:CR):(s.cg dst q).lw=Nat.min s.lw q.lw:=rfl
def zmx(m:Nat):zdi m []=m:=rfl
def zEr(m id:Nat)(o:Option Ob)(l:List (Nat×Option Ob)):zdi m ((id,o)::l)=zdi (if id<m then id else m) l:=rfl
def zni{m id:Nat}{o:Option Ob}{l:List (Nat×Option Ob)}(h:m<=id):zdi m ((id,o)::l)=zdi m l:=by rw[zEr,Z49 (by omega)]
section
variable {pr:Pr}{s:St}{Q:St->Prop}{dst:Option Nat}{mask:Nat}
structure WQ(pr:Pr)(f:Nat)(ds:List D)(s:St)(dst:Option Nat)(l:List Go.Vse.Op)(Q:St->Prop):Prop where
 out:∃q,Con pr f ds s.h s.c q/\wpO pr l (s.cal dst q) Q
def zK5{l:List Go.Vse.Op}{f:Nat}{args:List A}:wpO pr (⟨dst,none,.call f args⟩ ::l) s Q↔oB (zas (zah s.tm) args) fun ds=>WQ pr f ds s dst l Q:=by
 rw[zqw];cases zas (zah s.tm) args with
 |none=>exact Iff.rfl
 |some ds=>exact⟨fun h=>⟨h⟩,fun h=>h.out⟩
def zIk{l:List Go.Vse.Op}{x:A}{args:List A}:wpO pr (⟨dst,none,.callv x args⟩ ::l) s Q↔oB ((zah s.tm x).bind zfd) fun g=>oB (zas (zah s.tm) args) fun ds=>WQ pr g.1 (g.2.1++ds++g.2.2) s dst l Q:=by
 rw[znl];cases (zah s.tm x).bind zfd with
 |none=>exact Iff.rfl
 |some g=>
  simp only[oB];cases zas (zah s.tm) args with
  |none=>exact Iff.rfl
  |some ds=>exact⟨fun h=>⟨h⟩,fun h=>h.out⟩
def zh0{f:Nat}{ds:List D}{l:List Go.Vse.Op}{d:D}(he:RO pr f ds s.h s.c d)(e3:s.lw<=s.c)(k:∀mx,wpO pr l (s.um dst d mx) Q):WQ pr f ds s dst l Q:=by
 obtain⟨mx,h1,h2⟩ :=he;refine⟨_,h2,?_⟩;have e:s.cal dst ⟨d,s.h,s.c,s.c,mx⟩ =s.um dst d mx:=by
  simp only[St.cal,St.um,Z73 e3]
 rw[e];exact k mx
def zoe{f:Nat}{ds:List D}{l:List Go.Vse.Op}{h:T Ob}{c:Nat}{P:D->T Ob->Nat->Prop}(e1:s.h=h)(e2:s.c=c)(he:Eff pr f ds h c P)(k:∀d' h' c' lw mx,P d' h' c'->c<=c'->wpO pr l (s.cal dst ⟨d',h',c',lw,mx⟩) Q):WQ pr f ds s dst l Q:=by
 subst e1 e2;obtain⟨q,h1,h2,h3,h4⟩ :=he;exact⟨q,h1,k q.d q.h q.c q.lw q.mx h2 h3⟩
inductive En where
 |n (rd wr:List Nat)
 |r
 |q (h h':T Ob)
def Fits:En->Fp->Prop
 | .n rd wr,p=>p.all=false/\p.rd=rd/\p.wr=wr
 | .r,p=>p.all=true/\p.h=p.h'
 | .q h h',p=>p.all=true/\p.h=h/\p.h'=h'
def ck1:En->En->Prop
 | .n r w,.n rd wr=>zcG rd w/\zcG wr w/\zcG wr r
 | .r,.n _ wr=>wr=[]
 | .n _ w,.r=>w=[]
 | .q h h',.n rd wr=>wr=[]/\∀x∈rd,h.get x=h'.get x
 | .n r w,.q h h'=>w=[]/\∀x∈r,h.get x=h'.get x
 |_,_=>False
def ckG:Nat->List En->En->Prop
 |_,[],_=>True
 |m,a::L,e=>(m%2=1->ck1 a e)/\ckG (m/2) L e
def cg_n{m:Nat}{e:En}:ckG m [] e=True:=rfl
def zHU{m:Nat}{a e:En}{L:List En}:ckG m (a::L) e=((m%2=1->ck1 a e)/\ckG (m/2) L e):=rfl
def c1_nn{r w rd wr:List Nat}:ck1 (.n r w) (.n rd wr)=(zcG rd w/\zcG wr w/\zcG wr r):=rfl
def dj_n(a:List Nat):zcG a []=True:=by simp[zcG]
def c1_rn{rd wr:List Nat}:ck1 .r (.n rd wr)=(wr=[]):=rfl
def c1_nr{r w:List Nat}:ck1 (.n r w) .r=(w=[]):=rfl
def c1_qn{h h':T Ob}{rd wr:List Nat}:ck1 (.q h h') (.n rd wr)=(wr=[]/\∀x∈rd,h.get x=h'.get x):=rfl
def c1_nq{h h':T Ob}{r w:List Nat}:ck1 (.n r w) (.q h h')=(w=[]/\∀x∈r,h.get x=h'.get x):=rfl
def wpG(pr:Pr):List En->List (Go.Vse.Op×Nat)->St->(St->Prop)->Prop
 |_,[],s,Q=>Q s
 |L,(o,mask)::l,s,Q=>zbr pr o s fun s' p=>∃e,Fits e p/\ckG mask L e/\wpG pr (L++[e]) l {s' with c:=p.hi} Q
def zKw{a e:En}{q p:Fp}(h1:Fits a q)(h2:Fits e p)(h:ck1 a e):q.apart p=true:=by
 cases a with
 |n r w=>
  obtain⟨q1,rfl,rfl⟩ :=h1;cases e with
  |n rd wr=>
   obtain⟨p1,rfl,rfl⟩ :=h2;obtain⟨d1,d2,d3⟩ :=h;simp only[Fp.apart,q1,p1,Z14,Z50,Z80,Z114,Z65];exact⟨⟨fun x hx hm=>d1 x hx hm,fun x hx hm=>d3 x hm hx⟩,fun x hx hm=>d2 x hm hx⟩
  |r=>
   obtain⟨p1,p2⟩ :=h2;have hw:q.wr=[]:=h;simp only[Fp.apart,q1,p1,hw,Z165,Z103,Z50,Fp.same,p2];exact fun x _=>Ob.ziN _
  |q h0 h1=>
   obtain⟨p1,p2,p3⟩ :=h2;obtain⟨hw,hs⟩ :=h;simp only[Fp.apart,q1,p1,hw,Z165,Z103,Z50,Fp.same,p2,p3];exact fun x hx=>by rw[hs x hx];exact Ob.ziN _
 |r=>
  obtain⟨q1,q2⟩ :=h1;cases e with
  |n rd wr=>
   obtain⟨p1,rfl,rfl⟩ :=h2;have hw:p.wr=[]:=h;simp only[Fp.apart,q1,p1,hw,Z165,Z103,Z50,Fp.same,q2];exact fun x _=>Ob.ziN _
  |r=>exact h.elim
  |q=>exact h.elim
 |q h0 h1'=>
  obtain⟨q1,q2,q3⟩ :=h1;cases e with
  |n rd wr=>
   obtain⟨p1,rfl,rfl⟩ :=h2;obtain⟨hw,hs⟩ :=h;simp only[Fp.apart,q1,p1,hw,Z165,Z103,Z50,Fp.same,q2,q3];exact fun x hx=>by rw[hs x hx];exact Ob.ziN _
  |r=>exact h.elim
  |q=>exact h.elim
def zoh:List En->List Fp->Prop
 |[],[]=>True
 |e::L,p::l=>Fits e p/\zoh L l
 |_,_=>False
theorem zo9{e:En}{p:Fp}(h:Fits e p):∀{L:List En} {l:List Fp},zoh L l->zoh (L++[e]) (l++[p])
 |[],[],_=>⟨h,trivial⟩
 |_::_,_::_,hl=>⟨hl.1,zo9 h hl.2⟩
 |[],_::_,hl=>hl.elim
 |_::_,[],hl=>hl.elim
theorem zAw{e:En}{p:Fp}(h2:Fits e p){mask:Nat}:∀(L:List En) (l:List Fp) (i:Nat),zoh L l->ckG (mask/2 ^ i) L e->zcf p mask l i=true
 |[],[],_,_,_=>rfl
 |a::L,q::l,i,hf,h=>by
  have h3:=zAw h2 L l (i+1) hf.2 (by rw[Z195,<-Nat.div_div_eq_div_mul];exact h.2);simp only[zcf,h3,Z187,Z115,Z80];cases hb:mask.testBit i with
  |false=>exact .inl rfl
  |true=>
   right;rw[Z138]at hb;exact zKw hf.1 h2 (h.1 (of_decide_eq_true hb))
 |[],_::_,_,hf,_=>hf.elim
 |_::_,[],_,hf,_=>hf.elim
theorem zHq:∀(l:List (Go.Vse.Op×Nat)) (L:List En) (fps:List Fp) (s:St) (Q:St->Prop),zoh L fps->wpG pr L l s Q->wpD pr l fps s Q
 |[],_,_,_,_,_,h=>h
 |(o,mask)::l,L,fps,s,Q,hf,h=>by
  refine zqm (fun s' p ⟨e,h1,h2,h3⟩ =>⟨?_,zHq l (L++[e]) (fps++[p]) _ Q (zo9 h1 hf) h3⟩) h;exact zAw h1 L fps 0 hf (by simpa using h2)
def zKF{ops:List (Go.Vse.Op×Nat)}{s:St}{Q:Ex->St->Prop}(h:wpG pr [] ops s (Q .nrm)):WD pr ops s Q:=⟨zHq ops [] [] s _ trivial h⟩
variable {L:List En}
def g_nil:wpG pr L [] s Q↔Q s:=Iff.rfl
def zcu{l:List (Go.Vse.Op×Nat)}{o:O A}(hk:kcl o= .n):wpG pr L ((⟨dst,none,o⟩,mask)::l) s Q↔oB ((o.res (zah s.tm)).bind (opv s.h.get s.c)) fun r=>zat r.c r.wr=true/\ckG mask L (.n r.rd (r.wr.map (·.1)))/\wpG pr (L++[.n r.rd (r.wr.map (·.1))]) l (s.ae dst r.d r.wr r.c) Q:=by
  simp only[wpG,zbr,zb7];cases hr:o.res (zah s.tm)with
  |none=>exact Iff.rfl
  | some o'=>
    simp only[Z46,zs4 hk hr];cases hv:opv s.h.get s.c o' with
    |none=>exact Iff.rfl
    | some r=>
      simp only[zcW,zcI,oB];cases hw:zat r.c r.wr with
      |false=>simp
      | true=>
        simp only[Z89,cond_false,true_and];constructor
        . rintro⟨e,h1,h2,h3⟩;cases e with
          |n rd wr=>obtain⟨_,rfl,rfl⟩ :=h1;exact⟨h2,h3⟩
          |r=>exact absurd h1.1 (by simp)
          |q=>exact absurd h1.1 (by simp)
        . rintro⟨h2,h3⟩;exact⟨.n r.rd (r.wr.map (·.1)),⟨rfl,rfl,rfl⟩,h2,h3⟩
def zH8{l:List (Go.Vse.Op×Nat)}{g:Nat}{w:Bool}{o:O A}:wpG pr L ((⟨dst,some (g,w),o⟩,mask)::l) s Q↔oB ((s.tm.get g).bind asG) fun x=>if x==some w then wpG pr L ((⟨dst,none,o⟩,mask)::l) s Q else ckG mask L (.n [] [])/\wpG pr (L++[.n [] []]) l (s.se dst) Q:=by
 cases hx:(s.tm.get g).bind asG with
 |none=>
  have:zb7 s.tm (some (g,w))=none:=by rw[zih,hx];rfl
  simp[wpG,zbr,this,oB]
 |some x=>
  have hw:zb7 s.tm (some (g,w))=some (x==some w):=by rw[zih,hx];rfl
  simp only[oB];cases hb:x==some w with
  |true=>rw[hb]at hw;simp only[wpG,zbr,hw,Z60];exact Iff.rfl
  |false=>
   rw[hb]at hw;simp only[wpG,zbr,hw];constructor
   .rintro⟨e,h1,h2,h3⟩;cases e with
    |n rd wr=>obtain⟨_,rfl,rfl⟩ :=h1;exact⟨h2,h3⟩
    |r=>exact absurd h1.1 (by simp)
    |q=>exact absurd h1.1 (by simp)
   .rintro⟨h2,h3⟩;exact⟨.n [] [],⟨rfl,rfl,rfl⟩,h2,h3⟩
structure WG(pr:Pr)(f:Nat)(ds:List D)(L:List En)(mask:Nat)(l:List (Go.Vse.Op×Nat))(s:St)(dst:Option Nat)(Q:St->Prop):Prop where
 out:∃q,Con pr f ds s.h s.c q/\∃e,(e= .r/\s.h=q.h\/e= .q s.h q.h)/\ckG mask L e/\wpG pr (L++[e]) l (s.cg dst q) Q
def g_call{l:List (Go.Vse.Op×Nat)}{f:Nat}{args:List A}:wpG pr L ((⟨dst,none,.call f args⟩,mask)::l) s Q↔oB (zas (zah s.tm) args) fun ds=>WG pr f ds L mask l s dst Q:=by
 simp only[wpG,zbr,zb7,O.res,Z47];cases zas (zah s.tm) args with
 |none=>exact Iff.rfl
 |some ds=>
  simp only[Z46,kindOf,oB,zcW,zgc];constructor
  .rintro⟨q,h1,e,h2,h3,h4⟩;cases e with
   |n rd wr=>exact absurd h2.1 (by simp)
   |r=>exact⟨q,h1,.r,.inl ⟨rfl,h2.2⟩,h3,h4⟩
   |q h0 h1'=>obtain⟨_,rfl,rfl⟩ :=h2;exact⟨q,h1,.q _ _,.inr rfl,h3,h4⟩
  .rintro⟨q,h1,e,h2,h3,h4⟩;rcases h2 with⟨rfl,h2⟩ |rfl
   .exact⟨q,h1,.r,⟨rfl,h2⟩,h3,h4⟩
   .exact⟨q,h1,.q _ _,⟨rfl,rfl,rfl⟩,h3,h4⟩
def zH6{l:List (Go.Vse.Op×Nat)}{x:A}{args:List A}:wpG pr L ((⟨dst,none,.callv x args⟩,mask)::l) s Q↔oB ((zah s.tm x).bind zfd) fun g=>oB (zas (zah s.tm) args) fun ds=>WG pr g.1 (g.2.1++ds++g.2.2) L mask l s dst Q:=by
 have key:∀f ds,(∃q,Con pr f ds s.h s.c q/\∃e,Fits e {all:=true,rd:=[],wr:=[],lo:=s.c,hi:=q.mx,h:=s.h,h':=q.h}/\ckG mask L e/\wpG pr (L++[e]) l (s.cg dst q) Q)↔WG pr f ds L mask l s dst Q:=by
  intro f ds;constructor
  .rintro⟨q,h1,e,h2,h3,h4⟩;cases e with
   |n rd wr=>exact absurd h2.1 (by simp)
   |r=>exact⟨q,h1,.r,.inl ⟨rfl,h2.2⟩,h3,h4⟩
   |q h0 h1'=>obtain⟨_,rfl,rfl⟩ :=h2;exact⟨q,h1,.q _ _,.inr rfl,h3,h4⟩
  .rintro⟨q,h1,e,h2,h3,h4⟩;rcases h2 with⟨rfl,h2⟩ |rfl
   .exact⟨q,h1,.r,⟨rfl,h2⟩,h3,h4⟩
   .exact⟨q,h1,.q _ _,⟨rfl,rfl,rfl⟩,h3,h4⟩
 simp only[wpG,zbr,zb7,O.res,Z47];cases zah s.tm x with
 |none=>simp[oB]
 |some d=>
  cases zas (zah s.tm) args with
  |none=>cases d with
   |f y=>cases y<;>simp[oB,zfd]
   |_=>simp[oB,zfd]
  |some ds=>
   cases d with
   |f y=>
    cases y with
    |fn g=>simp only[Z46,kindOf,oB,zcW,zgc,zfd,Z28,Z22];exact key _ _
    |_=>simp[oB,zfd,kindOf]
   |fn g a b=>simp only[Z46,kindOf,oB,zcW,zgc,zfd];exact key _ _
   |_=>simp[oB,zfd,kindOf]
def wg_e{f:Nat}{ds:List D}{l:List (Go.Vse.Op×Nat)}{h:T Ob}{c:Nat}{P:D->T Ob->Nat->Prop}(e1:s.h=h)(e2:s.c=c)(he:Eff pr f ds h c P)(k:∀d' h' c' lw mx,P d' h' c'->c<=c'->c'<=mx->ckG mask L (.q h h')/\wpG pr (L++[.q h h']) l (s.cg dst ⟨d',h',c',lw,mx⟩) Q):WG pr f ds L mask l s dst Q:=by
 subst e1 e2;obtain⟨q,h1,h2,h3,h4⟩ :=he;have:=k q.d q.h q.c q.lw q.mx h2 h3 h4;exact⟨q,h1,.q _ _,.inr rfl,this.1,this.2⟩
theorem zH5{l:List (Go.Vse.Op×Nat)}{f:Nat}{args:List A}:wpG pr L ((⟨dst,none,.callp f args⟩,mask)::l) s Q↔oB (zas (zah s.tm) args) fun ds=>oB (zcA s.h.get ds) fun y=>aB pr f (fw y.1) fun x=>zat s.c (zaw s.h.get y.2)=true/\
    ckG mask L (.n y.2 ((zaw s.h.get y.2).map (·.1)))/\wpG pr (L++[.n y.2 ((zaw s.h.get y.2).map (·.1))]) l (s.ae dst x.d (zaw s.h.get y.2) s.c) Q:=by
  simp only[wpG,zbr,zb7,O.res,Z47];cases zas (zah s.tm) args with
  |none=>exact Iff.rfl
  | some ds=>
    simp only[Z46,kindOf,oB];cases zcA s.h.get ds with
    |none=>exact Iff.rfl
    | some y=>
      obtain⟨fs,rd⟩ :=y;simp only[aB,fw];refine exists_congr fun x=>and_congr_right fun _=> ?_
      simp only[zcW,zcI];cases hw:zat s.c (zaw s.h.get rd)with
      |false=>simp
      | true=>
        simp only[Z89,cond_false,true_and];constructor
        . rintro⟨e,h1,h2,h3⟩;cases e with
          |n rd' wr=>obtain⟨_,rfl,rfl⟩ :=h1;exact⟨h2,h3⟩
          |r=>exact absurd h1.1 (by simp)
          |q=>exact absurd h1.1 (by simp)
        . rintro⟨h2,h3⟩;exact⟨.n rd ((zaw s.h.get rd).map (·.1)),⟨rfl,rfl,rfl⟩,h2,h3⟩
def g_mv{l:List (Go.Vse.Op×Nat)}{x:A}:wpG pr L ((⟨dst,none,.mv x⟩,mask)::l) s Q↔oB (((O.mv x).res (zah s.tm)).bind (opv s.h.get s.c)) fun r=>zat r.c r.wr=true/\ckG mask L (.n r.rd (r.wr.map (·.1)))/\wpG pr (L++[.n r.rd (r.wr.map (·.1))]) l (s.ae dst r.d r.wr r.c) Q:=zcu rfl
def zKO{l:List (Go.Vse.Op×Nat)}{q x y:A}:wpG pr L ((⟨dst,none,.pick q x y⟩,mask)::l) s Q↔oB (((O.pick q x y).res (zah s.tm)).bind (opv s.h.get s.c)) fun r=>zat r.c r.wr=true/\ckG mask L (.n r.rd (r.wr.map (·.1)))/\wpG pr (L++[.n r.rd (r.wr.map (·.1))]) l (s.ae dst r.d r.wr r.c) Q:=zcu rfl
def g_new{l:List (Go.Vse.Op×Nat)}{cs:List F}:wpG pr L ((⟨dst,none,.new cs⟩,mask)::l) s Q↔oB (((O.new cs).res (zah s.tm)).bind (opv s.h.get s.c)) fun r=>zat r.c r.wr=true/\ckG mask L (.n r.rd (r.wr.map (·.1)))/\wpG pr (L++[.n r.rd (r.wr.map (·.1))]) l (s.ae dst r.d r.wr r.c) Q:=zcu rfl
def g_box{l:List (Go.Vse.Op×Nat)}{x:A}:wpG pr L ((⟨dst,none,.box x⟩,mask)::l) s Q↔oB (((O.box x).res (zah s.tm)).bind (opv s.h.get s.c)) fun r=>zat r.c r.wr=true/\ckG mask L (.n r.rd (r.wr.map (·.1)))/\wpG pr (L++[.n r.rd (r.wr.map (·.1))]) l (s.ae dst r.d r.wr r.c) Q:=zcu rfl
def g_bld{l:List (Go.Vse.Op×Nat)}{z:List F}{ps:List (Nat×Nat×A)}:wpG pr L ((⟨dst,none,.bld z ps⟩,mask)::l) s Q↔oB (((O.bld z ps).res (zah s.tm)).bind (opv s.h.get s.c)) fun r=>zat r.c r.wr=true/\ckG mask L (.n r.rd (r.wr.map (·.1)))/\wpG pr (L++[.n r.rd (r.wr.map (·.1))]) l (s.ae dst r.d r.wr r.c) Q:=zcu rfl
def g_bsl{l:List (Go.Vse.Op×Nat)}{es m:Nat}{z:List F}{ps:List (Nat×A)}:wpG pr L ((⟨dst,none,.bsl es z m ps⟩,mask)::l) s Q↔oB (((O.bsl es z m ps).res (zah s.tm)).bind (opv s.h.get s.c)) fun r=>zat r.c r.wr=true/\ckG mask L (.n r.rd (r.wr.map (·.1)))/\wpG pr (L++[.n r.rd (r.wr.map (·.1))]) l (s.ae dst r.d r.wr r.c) Q:=zcu rfl
def g_bsf{l:List (Go.Vse.Op×Nat)}{es m:Nat}{z:List F}{ps:List (Nat×A)}:wpG pr L ((⟨dst,none,.bsf es z m ps⟩,mask)::l) s Q↔oB (((O.bsf es z m ps).res (zah s.tm)).bind (opv s.h.get s.c)) fun r=>zat r.c r.wr=true/\ckG mask L (.n r.rd (r.wr.map (·.1)))/\wpG pr (L++[.n r.rd (r.wr.map (·.1))]) l (s.ae dst r.d r.wr r.c) Q:=zcu rfl
def g_ld{l:List (Go.Vse.Op×Nat)}{g:Bool}{n:Nat}{x:A}:wpG pr L ((⟨dst,none,.ld g n x⟩,mask)::l) s Q↔oB (((O.ld g n x).res (zah s.tm)).bind (opv s.h.get s.c)) fun r=>zat r.c r.wr=true/\ckG mask L (.n r.rd (r.wr.map (·.1)))/\wpG pr (L++[.n r.rd (r.wr.map (·.1))]) l (s.ae dst r.d r.wr r.c) Q:=zcu rfl
def g_st{l:List (Go.Vse.Op×Nat)}{n:Nat}{x v:A}:wpG pr L ((⟨dst,none,.st n x v⟩,mask)::l) s Q↔oB (((O.st n x v).res (zah s.tm)).bind (opv s.h.get s.c)) fun r=>zat r.c r.wr=true/\ckG mask L (.n r.rd (r.wr.map (·.1)))/\wpG pr (L++[.n r.rd (r.wr.map (·.1))]) l (s.ae dst r.d r.wr r.c) Q:=zcu rfl
def g_nck{l:List (Go.Vse.Op×Nat)}{x:A}:wpG pr L ((⟨dst,none,.nck x⟩,mask)::l) s Q↔oB (((O.nck x).res (zah s.tm)).bind (opv s.h.get s.c)) fun r=>zat r.c r.wr=true/\ckG mask L (.n r.rd (r.wr.map (·.1)))/\wpG pr (L++[.n r.rd (r.wr.map (·.1))]) l (s.ae dst r.d r.wr r.c) Q:=zcu rfl
def g_bin{l:List (Go.Vse.Op×Nat)}{op:BinOp}{x y:A}:wpG pr L ((⟨dst,none,.bin op x y⟩,mask)::l) s Q↔oB (((O.bin op x y).res (zah s.tm)).bind (opv s.h.get s.c)) fun r=>zat r.c r.wr=true/\ckG mask L (.n r.rd (r.wr.map (·.1)))/\wpG pr (L++[.n r.rd (r.wr.map (·.1))]) l (s.ae dst r.d r.wr r.c) Q:=zcu rfl
def g_eqb{l:List (Go.Vse.Op×Nat)}{ne:Bool}{x y:A}:wpG pr L ((⟨dst,none,.eqb ne x y⟩,mask)::l) s Q↔oB (((O.eqb ne x y).res (zah s.tm)).bind (opv s.h.get s.c)) fun r=>zat r.c r.wr=true/\ckG mask L (.n r.rd (r.wr.map (·.1)))/\wpG pr (L++[.n r.rd (r.wr.map (·.1))]) l (s.ae dst r.d r.wr r.c) Q:=zcu rfl
def g_eqn{l:List (Go.Vse.Op×Nat)}{kd:Nat}{ne:Bool}{x y:A}:wpG pr L ((⟨dst,none,.eqn kd ne x y⟩,mask)::l) s Q↔oB (((O.eqn kd ne x y).res (zah s.tm)).bind (opv s.h.get s.c)) fun r=>zat r.c r.wr=true/\ckG mask L (.n r.rd (r.wr.map (·.1)))/\wpG pr (L++[.n r.rd (r.wr.map (·.1))]) l (s.ae dst r.d r.wr r.c) Q:=zcu rfl
def g_eqa{l:List (Go.Vse.Op×Nat)}{ks:List Nat}{ne:Bool}{x y:A}:wpG pr L ((⟨dst,none,.eqa ks ne x y⟩,mask)::l) s Q↔oB (((O.eqa ks ne x y).res (zah s.tm)).bind (opv s.h.get s.c)) fun r=>zat r.c r.wr=true/\ckG mask L (.n r.rd (r.wr.map (·.1)))/\wpG pr (L++[.n r.rd (r.wr.map (·.1))]) l (s.ae dst r.d r.wr r.c) Q:=zcu rfl
def g_un{l:List (Go.Vse.Op×Nat)}{op:UnOp}{x:A}:wpG pr L ((⟨dst,none,.un op x⟩,mask)::l) s Q↔oB (((O.un op x).res (zah s.tm)).bind (opv s.h.get s.c)) fun r=>zat r.c r.wr=true/\ckG mask L (.n r.rd (r.wr.map (·.1)))/\wpG pr (L++[.n r.rd (r.wr.map (·.1))]) l (s.ae dst r.d r.wr r.c) Q:=zcu rfl
def g_cvi{l:List (Go.Vse.Op×Nat)}{k:IntKind}{x:A}:wpG pr L ((⟨dst,none,.cvi k x⟩,mask)::l) s Q↔oB (((O.cvi k x).res (zah s.tm)).bind (opv s.h.get s.c)) fun r=>zat r.c r.wr=true/\ckG mask L (.n r.rd (r.wr.map (·.1)))/\wpG pr (L++[.n r.rd (r.wr.map (·.1))]) l (s.ae dst r.d r.wr r.c) Q:=zcu rfl
def g_mks{l:List (Go.Vse.Op×Nat)}{es b:Nat}{z:List F}{x y:A}:wpG pr L ((⟨dst,none,.mks es b z x y⟩,mask)::l) s Q↔oB (((O.mks es b z x y).res (zah s.tm)).bind (opv s.h.get s.c)) fun r=>zat r.c r.wr=true/\ckG mask L (.n r.rd (r.wr.map (·.1)))/\wpG pr (L++[.n r.rd (r.wr.map (·.1))]) l (s.ae dst r.d r.wr r.c) Q:=zcu rfl
def g_slc{l:List (Go.Vse.Op×Nat)}{es:Nat}{x:A}{lo hi mx:Option A}:wpG pr L ((⟨dst,none,.slc es x lo hi mx⟩,mask)::l) s Q↔oB (((O.slc es x lo hi mx).res (zah s.tm)).bind (opv s.h.get s.c)) fun r=>zat r.c r.wr=true/\ckG mask L (.n r.rd (r.wr.map (·.1)))/\wpG pr (L++[.n r.rd (r.wr.map (·.1))]) l (s.ae dst r.d r.wr r.c) Q:=zcu rfl
def g_fa{l:List (Go.Vse.Op×Nat)}{off:Nat}{x:A}:wpG pr L ((⟨dst,none,.fa off x⟩,mask)::l) s Q↔oB (((O.fa off x).res (zah s.tm)).bind (opv s.h.get s.c)) fun r=>zat r.c r.wr=true/\ckG mask L (.n r.rd (r.wr.map (·.1)))/\wpG pr (L++[.n r.rd (r.wr.map (·.1))]) l (s.ae dst r.d r.wr r.c) Q:=zcu rfl
def g_fld{l:List (Go.Vse.Op×Nat)}{g:Bool}{off n:Nat}{x:A}:wpG pr L ((⟨dst,none,.fld g off n x⟩,mask)::l) s Q↔oB (((O.fld g off n x).res (zah s.tm)).bind (opv s.h.get s.c)) fun r=>zat r.c r.wr=true/\ckG mask L (.n r.rd (r.wr.map (·.1)))/\wpG pr (L++[.n r.rd (r.wr.map (·.1))]) l (s.ae dst r.d r.wr r.c) Q:=zcu rfl
def g_ia{l:List (Go.Vse.Op×Nat)}{es:Nat}{x i:A}:wpG pr L ((⟨dst,none,.ia es x i⟩,mask)::l) s Q↔oB (((O.ia es x i).res (zah s.tm)).bind (opv s.h.get s.c)) fun r=>zat r.c r.wr=true/\ckG mask L (.n r.rd (r.wr.map (·.1)))/\wpG pr (L++[.n r.rd (r.wr.map (·.1))]) l (s.ae dst r.d r.wr r.c) Q:=zcu rfl
def g_ext{l:List (Go.Vse.Op×Nat)}{i:Nat}{x:A}:wpG pr L ((⟨dst,none,.ext x i⟩,mask)::l) s Q↔oB (((O.ext x i).res (zah s.tm)).bind (opv s.h.get s.c)) fun r=>zat r.c r.wr=true/\ckG mask L (.n r.rd (r.wr.map (·.1)))/\wpG pr (L++[.n r.rd (r.wr.map (·.1))]) l (s.ae dst r.d r.wr r.c) Q:=zcu rfl
def g_app{l:List (Go.Vse.Op×Nat)}{es b:Nat}{x y:A}:wpG pr L ((⟨dst,none,.app es b x y⟩,mask)::l) s Q↔oB (((O.app es b x y).res (zah s.tm)).bind (opv s.h.get s.c)) fun r=>zat r.c r.wr=true/\ckG mask L (.n r.rd (r.wr.map (·.1)))/\wpG pr (L++[.n r.rd (r.wr.map (·.1))]) l (s.ae dst r.d r.wr r.c) Q:=zcu rfl
def g_len{l:List (Go.Vse.Op×Nat)}{x:A}:wpG pr L ((⟨dst,none,.len x⟩,mask)::l) s Q↔oB (((O.len x).res (zah s.tm)).bind (opv s.h.get s.c)) fun r=>zat r.c r.wr=true/\ckG mask L (.n r.rd (r.wr.map (·.1)))/\wpG pr (L++[.n r.rd (r.wr.map (·.1))]) l (s.ae dst r.d r.wr r.c) Q:=zcu rfl
def g_mm{l:List (Go.Vse.Op×Nat)}{mx:Bool}{x y:A}:wpG pr L ((⟨dst,none,.mm mx x y⟩,mask)::l) s Q↔oB (((O.mm mx x y).res (zah s.tm)).bind (opv s.h.get s.c)) fun r=>zat r.c r.wr=true/\ckG mask L (.n r.rd (r.wr.map (·.1)))/\wpG pr (L++[.n r.rd (r.wr.map (·.1))]) l (s.ae dst r.d r.wr r.c) Q:=zcu rfl
def g_mmk{l:List (Go.Vse.Op×Nat)}:wpG pr L ((⟨dst,none,.mmk⟩,mask)::l) s Q↔oB (((O.mmk).res (zah s.tm)).bind (opv s.h.get s.c)) fun r=>zat r.c r.wr=true/\ckG mask L (.n r.rd (r.wr.map (·.1)))/\wpG pr (L++[.n r.rd (r.wr.map (·.1))]) l (s.ae dst r.d r.wr r.c) Q:=zcu rfl
def g_mup{l:List (Go.Vse.Op×Nat)}{kd:Nat}{m k v:A}:wpG pr L ((⟨dst,none,.mup kd m k v⟩,mask)::l) s Q↔oB (((O.mup kd m k v).res (zah s.tm)).bind (opv s.h.get s.c)) fun r=>zat r.c r.wr=true/\ckG mask L (.n r.rd (r.wr.map (·.1)))/\wpG pr (L++[.n r.rd (r.wr.map (·.1))]) l (s.ae dst r.d r.wr r.c) Q:=zcu rfl
def g_mlk{l:List (Go.Vse.Op×Nat)}{kd:Nat}{z:F}{ok:Bool}{m k:A}:wpG pr L ((⟨dst,none,.mlk kd z ok m k⟩,mask)::l) s Q↔oB (((O.mlk kd z ok m k).res (zah s.tm)).bind (opv s.h.get s.c)) fun r=>zat r.c r.wr=true/\ckG mask L (.n r.rd (r.wr.map (·.1)))/\wpG pr (L++[.n r.rd (r.wr.map (·.1))]) l (s.ae dst r.d r.wr r.c) Q:=zcu rfl
def g_clr{l:List (Go.Vse.Op×Nat)}{es:Nat}{z:List F}{x:A}:wpG pr L ((⟨dst,none,.clr es z x⟩,mask)::l) s Q↔oB (((O.clr es z x).res (zah s.tm)).bind (opv s.h.get s.c)) fun r=>zat r.c r.wr=true/\ckG mask L (.n r.rd (r.wr.map (·.1)))/\wpG pr (L++[.n r.rd (r.wr.map (·.1))]) l (s.ae dst r.d r.wr r.c) Q:=zcu rfl
def g_mkf{l:List (Go.Vse.Op×Nat)}{f:Nat}{a b:List A}:wpG pr L ((⟨dst,none,.mkf f a b⟩,mask)::l) s Q↔oB (((O.mkf f a b).res (zah s.tm)).bind (opv s.h.get s.c)) fun r=>zat r.c r.wr=true/\ckG mask L (.n r.rd (r.wr.map (·.1)))/\wpG pr (L++[.n r.rd (r.wr.map (·.1))]) l (s.ae dst r.d r.wr r.c) Q:=zcu rfl
def e_box{l:List (Go.Vse.Op×Nat)}{L:List (List Nat×List Nat)}{x:A}:wpE pr L ((⟨dst,none,.box x⟩,mask)::l) s Q↔oB (((O.box x).res (zah s.tm)).bind (opv s.h.get s.c)) fun r=>zat r.c r.wr=true/\zcx mask L r.rd (r.wr.map (·.1))/\wpE pr (L++[(r.rd,r.wr.map (·.1))]) l (s.ae dst r.d r.wr r.c) Q:=zct rfl
def o_nck{l:List Go.Vse.Op}{x:A}:wpO pr (⟨dst,none,.nck x⟩ ::l) s Q↔oB (((O.nck x).res (zah s.tm)).bind (opv s.h.get s.c)) fun r=>zat r.c r.wr=true/\wpO pr l (s.aft dst r.d r.wr r.c) Q:=zdg rfl
def e_nck{l:List (Go.Vse.Op×Nat)}{L:List (List Nat×List Nat)}{x:A}:wpE pr L ((⟨dst,none,.nck x⟩,mask)::l) s Q↔oB (((O.nck x).res (zah s.tm)).bind (opv s.h.get s.c)) fun r=>zat r.c r.wr=true/\zcx mask L r.rd (r.wr.map (·.1))/\wpE pr (L++[(r.rd,r.wr.map (·.1))]) l (s.ae dst r.d r.wr r.c) Q:=zct rfl
def o_mmk{l:List Go.Vse.Op}:wpO pr (⟨dst,none,.mmk⟩ ::l) s Q↔oB (((O.mmk).res (zah s.tm)).bind (opv s.h.get s.c)) fun r=>zat r.c r.wr=true/\wpO pr l (s.aft dst r.d r.wr r.c) Q:=zdg rfl
def e_mmk{l:List (Go.Vse.Op×Nat)}{L:List (List Nat×List Nat)}:wpE pr L ((⟨dst,none,.mmk⟩,mask)::l) s Q↔oB (((O.mmk).res (zah s.tm)).bind (opv s.h.get s.c)) fun r=>zat r.c r.wr=true/\zcx mask L r.rd (r.wr.map (·.1))/\wpE pr (L++[(r.rd,r.wr.map (·.1))]) l (s.ae dst r.d r.wr r.c) Q:=zct rfl
def o_mup{l:List Go.Vse.Op}{kd:Nat}{m k v:A}:wpO pr (⟨dst,none,.mup kd m k v⟩ ::l) s Q↔oB (((O.mup kd m k v).res (zah s.tm)).bind (opv s.h.get s.c)) fun r=>zat r.c r.wr=true/\wpO pr l (s.aft dst r.d r.wr r.c) Q:=zdg rfl
def e_mup{l:List (Go.Vse.Op×Nat)}{L:List (List Nat×List Nat)}{kd:Nat}{m k v:A}:wpE pr L ((⟨dst,none,.mup kd m k v⟩,mask)::l) s Q↔oB (((O.mup kd m k v).res (zah s.tm)).bind (opv s.h.get s.c)) fun r=>zat r.c r.wr=true/\zcx mask L r.rd (r.wr.map (·.1))/\wpE pr (L++[(r.rd,r.wr.map (·.1))]) l (s.ae dst r.d r.wr r.c) Q:=zct rfl
def o_mlk{l:List Go.Vse.Op}{kd:Nat}{z:F}{ok:Bool}{m k:A}:wpO pr (⟨dst,none,.mlk kd z ok m k⟩ ::l) s Q↔oB (((O.mlk kd z ok m k).res (zah s.tm)).bind (opv s.h.get s.c)) fun r=>zat r.c r.wr=true/\wpO pr l (s.aft dst r.d r.wr r.c) Q:=zdg rfl
def e_mlk{l:List (Go.Vse.Op×Nat)}{L:List (List Nat×List Nat)}{kd:Nat}{z:F}{ok:Bool}{m k:A}:wpE pr L ((⟨dst,none,.mlk kd z ok m k⟩,mask)::l) s Q↔oB (((O.mlk kd z ok m k).res (zah s.tm)).bind (opv s.h.get s.c)) fun r=>zat r.c r.wr=true/\zcx mask L r.rd (r.wr.map (·.1))/\wpE pr (L++[(r.rd,r.wr.map (·.1))]) l (s.ae dst r.d r.wr r.c) Q:=zct rfl
def o_clr{l:List Go.Vse.Op}{es:Nat}{z:List F}{x:A}:wpO pr (⟨dst,none,.clr es z x⟩ ::l) s Q↔oB (((O.clr es z x).res (zah s.tm)).bind (opv s.h.get s.c)) fun r=>zat r.c r.wr=true/\wpO pr l (s.aft dst r.d r.wr r.c) Q:=zdg rfl
end
omit [Globs]in
section
def rs_mv(f:A->Option D)(x:A):O.res f (.mv x)=(f x).bind fun x=>some (.mv x):=rfl
def zID(f:A->Option D)(q x y:A):O.res f (.pick q x y)=(f q).bind fun q=>(f x).bind fun x=>(f y).bind fun y=>some (.pick q x y):=rfl
def zLM(f:A->Option D)(cs:List F):O.res f (.new cs)=some (.new cs):=rfl
def zLB(f:A->Option D)(x:A):O.res f (.box x)=(f x).bind fun x=>some (.box x):=rfl
def rs_ld(f:A->Option D)(g:Bool)(n:Nat)(x:A):O.res f (.ld g n x)=(f x).bind fun x=>some (.ld g n x):=rfl
def rs_st(f:A->Option D)(n:Nat)(x v:A):O.res f (.st n x v)=(f x).bind fun x=>(f v).bind fun v=>some (.st n x v):=rfl
def zLL(f:A->Option D)(x:A):O.res f (.nck x)=(f x).bind fun x=>some (.nck x):=rfl
def zLA(f:A->Option D)(op:BinOp)(x y:A):O.res f (.bin op x y)=(f x).bind fun x=>(f y).bind fun y=>some (.bin op x y):=rfl
def rs_fa(f:A->Option D)(o:Nat)(x:A):O.res f (.fa o x)=(f x).bind fun x=>some (.fa o x):=rfl
def rs_ia(f:A->Option D)(es:Nat)(x i:A):O.res f (.ia es x i)=(f x).bind fun x=>(f i).bind fun i=>some (.ia es x i):=rfl
def zLE(f:A->Option D)(x:A):O.res f (.len x)=(f x).bind fun x=>some (.len x):=rfl
def zLI(f:A->Option D):O.res f (.mmk)=some (.mmk):=rfl
def zLK(f:A->Option D)(kd:Nat)(m k v:A):O.res f (.mup kd m k v)=(f m).bind fun m=>(f k).bind fun k=>(f v).bind fun v=>some (.mup kd m k v):=rfl
def zLH(f:A->Option D)(kd:Nat)(z:F)(ok:Bool)(m k:A):O.res f (.mlk kd z ok m k)=(f m).bind fun m=>(f k).bind fun k=>some (.mlk kd z ok m k):=rfl
def zLC(f:A->Option D)(es:Nat)(z:List F)(x:A):O.res f (.clr es z x)=(f x).bind fun x=>some (.clr es z x):=rfl
def zLF(f:A->Option D)(g:Nat)(a b:List A):O.res f (.mkf g a b)=(zas f a).bind fun a=>(zas f b).bind fun b=>some (.mkf g a b):=rfl
end
def v_mv(h:Nat->Option Ob)(c:Nat)(d:D):opv h c (.mv d)=some {d,c}:=rfl
def zMk(h:Nat->Option Ob)(c:Nat)(b:Bool)(x y:D):opv h c (.pick (.f (.b b)) x y)=some {d:=if b then x else y,c}:=rfl
def v_new(h:Nat->Option Ob)(c:Nat)(cs:List F):opv h c (.new cs)=some {d:= .ptr c cs.length 0 0,wr:=[(c,some (.arr cs.length 0 [cs.map D.f]))],c:=c+1}:=rfl
def v_box(h:Nat->Option Ob)(c:Nat)(x:D):opv h c (.box x)=om x.cells fun cs=>some {d:= .ptr c cs.length 0 0,wr:=[(c,some (.arr cs.length 0 [cs]))],c:=c+1}:=by
 simp only[opv,om];cases x.cells<;>rfl
def v_ld(h:Nat->Option Ob)(c:Nat)(g:Bool)(n:Nat)(x:D):opv h c (.ld g n x)=om (zcC g n h x) fun p=>some {d:=p.1,rd:=p.2,c}:=by
 simp only[opv,om];cases zcC g n h x<;>rfl
def v_st(h:Nat->Option Ob)(c:Nat)(n:Nat)(x v:D):opv h c (.st n x v)=om (zda n h x v) fun p=>some {d:= .f .un,rd:=[p.1],wr:=[(p.1,some p.2)],c}:=by
 simp only[opv,om];cases zda n h x v<;>rfl
def zJH(h:Nat->Option Ob)(c a b e f:Nat):opv h c (.nck (.ptr a b e f))=some {d:= .ptr a b e f,c}:=rfl
def v_bin(h:Nat->Option Ob)(c:Nat)(op:BinOp)(x y:F):opv h c (.bin op (.f x) (.f y))=om (zbk op x y) fun z=>some {d:= .f z,c}:=by
 simp only[opv,om];cases zbk op x y<;>rfl
def v_fa(h:Nat->Option Ob)(c o:Nat)(x:D):opv h c (.fa o x)=om (faB o x) fun d=>some {d,c}:=by
 simp only[opv,om];cases x with
 |f y=>cases y<;>rfl
 |_=>rfl
def v_ia(h:Nat->Option Ob)(c es:Nat)(x i:D):opv h c (.ia es x i)=om (zbq i) fun n=>om (iaB es x n) fun d=>some {d,c}:=by
 simp only[opv,om,okD];cases zbq i with
 |none=>rfl
 |some n=>
  simp only[Z46];cases x with
  |f y=>
   cases y with
   |sl e l=>
    simp only[iaB];split
    .cases l[n]? <;>rfl
    .rfl
   |_=>rfl
  |sl id off m e lim ex=>simp only[iaB];split<;>rfl
  |_=>rfl
def v_len(h:Nat->Option Ob)(c:Nat)(x:D):opv h c (.len x)=om (zcE x) fun n=>some {d:= .f (.i .i64 n),c}:=by
 simp only[opv,om];cases zcE x<;>rfl
def v_mmk(h:Nat->Option Ob)(c:Nat):opv h c .mmk=some {d:= .mp c,wr:=[(c,some (.map []))],c:=c+1}:=rfl
def v_bld(h:Nat->Option Ob)(c:Nat)(z:List F)(ps:List (Nat×Nat×D)):opv h c (.bld z ps)=om (zc0 (z.map D.f) ps) fun cs=>some {d:= .ag cs,c}:=by
 simp only[opv,om];cases zc0 (z.map D.f) ps<;>rfl
theorem v_mks(h:Nat->Option Ob)(c es byt:Nat)(z:List F)(l m:D):opv h c (.mks es byt z l m)=om (zbq l) fun l=>om (zbq m) fun m=>if l<=m/\m<=zaC/\m*byt<=zaC then
    some {d:= .sl c 0 l es m true,wr:=[(c,some (.arr es 0 (List.replicate m (z.map D.f))))],c:=c+1} else none:=by
 simp only[opv,om];cases zbq l with
 |none=>rfl
 |some a=>cases zbq m<;>rfl
def upM(id:Nat)(kd:Nat)(k:F)(v:D)(c:Nat)(ents:List (F×D)):Option (Option (Nat×D))->Option Rs
 |some (some (i,_))=>some {d:= .f .un,rd:=[id],wr:=[(id,some (.map (ents.set i (k,v))))],c}
 |some none=>some {d:= .f .un,rd:=[id],wr:=[(id,some (.map (ents++[(k,v)])))],c}
 |none=>none
def up_s{id kd i:Nat}{k:F}{v w:D}{c:Nat}{ents:List (F×D)}:upM id kd k v c ents (some (some (i,w)))=some {d:= .f .un,rd:=[id],wr:=[(id,some (.map (ents.set i (k,v))))],c}:=rfl
def up_n{id kd:Nat}{k:F}{v:D}{c:Nat}{ents:List (F×D)}:upM id kd k v c ents (some none)=some {d:= .f .un,rd:=[id],wr:=[(id,some (.map (ents++[(k,v)])))],c}:=rfl
def upO(id kd:Nat)(k:F)(v:D)(c:Nat):Ob->Option Rs
 | .map ents=>if zfa kd k=true then upM id kd k v c ents (zeo kd k ents 0)else none
 |_=>none
def upO_m{id kd:Nat}{k:F}{v:D}{c:Nat}{ents:List (F×D)}:upO id kd k v c (.map ents)=if zfa kd k=true then upM id kd k v c ents (zeo kd k ents 0)else none:=rfl
def v_mup(h:Nat->Option Ob)(c kd id:Nat)(k:F)(v:D):opv h c (.mup kd (.mp id) (.f k) v)=om (h id) (upO id kd k v c):=by
 simp only[opv,om];cases h id with
 |none=>rfl
 |some o=>
  cases o with
  |arr=>rfl
  |map ents=>
   simp only[Z46,upO];split
   .cases zeo kd k ents 0 with
    |none=>rfl
    |some x=>cases x with
     |none=>rfl
     |some y=>rfl
   .rfl
def lkM(id:Nat)(z:F)(ok:Bool)(c:Nat):Option (Option (Nat×D))->Option Rs
 |some (some (_,v))=>some {d:=if ok then .tu [v,.f (.b true)]else v,rd:=[id],c}
 |some none=>some {d:=if ok then .tu [z.d,.f (.b false)]else z.d,rd:=[id],c}
 |none=>none
def lk_s{id i:Nat}{z:F}{ok:Bool}{c:Nat}{v:D}:lkM id z ok c (some (some (i,v)))=some {d:=if ok then .tu [v,.f (.b true)]else v,rd:=[id],c}:=rfl
def lk_n{id:Nat}{z:F}{ok:Bool}{c:Nat}:lkM id z ok c (some none)=some {d:=if ok then .tu [z.d,.f (.b false)]else z.d,rd:=[id],c}:=rfl
def lkO(id kd:Nat)(z:F)(ok:Bool)(k:F)(c:Nat):Ob->Option Rs
 | .map ents=>if zfa kd k=true then lkM id z ok c (zeo kd k ents 0)else none
 |_=>none
def lkO_m{id kd:Nat}{z:F}{ok:Bool}{k:F}{c:Nat}{ents:List (F×D)}:lkO id kd z ok k c (.map ents)=if zfa kd k=true then lkM id z ok c (zeo kd k ents 0)else none:=rfl
def v_mlk(h:Nat->Option Ob)(c kd id:Nat)(z:F)(ok:Bool)(k:F):opv h c (.mlk kd z ok (.mp id) (.f k))=om (h id) (lkO id kd z ok k c):=by
 simp only[opv,om];cases h id with
 |none=>simp
 |some o=>
  cases o with
  |arr=>simp[lkO]
  |map ents=>
   simp only[Z46,lkO];split
   .cases zeo kd k ents 0 with
    |none=>rfl
    |some x=>cases x with
     |none=>rfl
     |some y=>rfl
   .rfl
def sk_s(x:List UInt8):zfa 1 (.s x)=true:=rfl
def sk_i(k:IntKind)(x:Int):zfa 0 (.i k x)=true:=rfl
def ce_mp(x:Nat):(D.mp x).cells=some [.mp x]:=rfl
def ce_fn(x:Nat)(a b:List D):(D.fn x a b).cells=some [.fn x a b]:=rfl
def zHS:(D.f .nilf).cells=some [.f .nilf]:=rfl
def zHT:(D.f .nilp).cells=some [.f .nilp]:=rfl
def zKt(n:Nat):(D.f (.fn n)).cells=some [.f (.fn n)]:=rfl
def zKD:(F.nilp).d= .f .nilp:=rfl
def zKA:(F.nilf).d= .f .nilf:=rfl
def d_fn(n:Nat):(F.fn n).d= .f (.fn n):=rfl
def zKC:(F.nilm).d= .f .nilm:=rfl
def h8_mp(a:Nat)(l:List (List D)):hd8 ([.mp a]::l)=false:=rfl
def h8_fn(x:Nat)(a b:List D)(l:List (List D)):hd8 ([.fn x a b]::l)=false:=rfl
def zId(l:List (List D)):hd8 ([.f .nilf]::l)=false:=rfl
def zIe(l:List (List D)):hd8 ([.f .nilp]::l)=false:=rfl
def Frm(h h':T Ob)(c:Nat):Prop:=∀id,id<c->h'.get id=h.get id
def D.oid:D->Option Nat
 | .sl id _ _ _ _ _=>some id
 |_=>none
def zK7(a b c d e:Nat)(x:Bool):(D.sl a b c d e x).oid=some a:=rfl
def oid_f(x:F):(D.f x).oid=none:=rfl
def if_sl(a b c d e:Nat)(x:Bool):(D.sl a b c d e x).isF=false:=rfl
def if_f(x:F):(D.f x).isF=true:=rfl
def zKS(a b c d:Nat):(D.ptr a b c d).isF=false:=rfl
def if_ag(l:List D):(D.ag l).isF=D.zgR l:=rfl
def if_tu(l:List D):(D.tu l).isF=D.zgR l:=rfl
def if_n:D.zgR []=true:=rfl
def if_c(d:D)(l:List D):D.zgR (d::l)=(d.isF&&D.zgR l):=rfl
def Gro(h:T Ob)(lo c es:Nat)(d:D)(els:List (List D)):Prop:=
 (d= .f .nils/\els=[])\/∃id ro,d= .sl id 0 els.length es els.length false/\els≠[]/\h.get id=some (.arr es ro els)/\ro<=els.length/\lo<=id/\id<c
omit [Globs]in
def Gro.nil{h:T Ob}{lo c es:Nat}:Gro h lo c es (.f .nils) []:= .inl ⟨rfl,rfl⟩
omit [Globs]in
def zeI{h h':T Ob}{lo c c' es:Nat}{d:D}{els:List (List D)}(hg:Gro h lo c es d els)(hc:c<=c')(hh:∀id,lo<=id->id<c->h'.get id=h.get id):Gro h' lo c' es d els:=by
 rcases hg with h|⟨id,ro,h1,h2,h3,h4,h5,h6⟩
 .exact .inl h
 .exact .inr ⟨id,ro,h1,h2,by rw[hh id h5 h6];exact h3,h4,h5,by omega⟩
omit [Globs]in
def zcN{h:T Ob}{lo c es:Nat}{d:D}{els:List (List D)}(hg:Gro h lo c es d els):d.cells=some [d]:=by
 rcases hg with⟨rfl,_⟩ |⟨id,ro,rfl,_⟩ <;>rfl
theorem zIb{h:T Ob}{lo c es byt:Nat}{d:D}{els new:List (List D)}{rd:List Nat}(hg:Gro h lo c es d els)(hlo:lo<=c)(hlen:els.length+new.length<=1000000)(hb:byt<=1000):
  ∃r,zbv es byt h.get c d new rd=some r/\zat r.c r.wr=true/\Gro (wrT h r.wr) lo r.c es r.d (els++new)/\c<=r.c/\(∀id,id<c->d.oid≠some id->(wrT h r.wr).get id=h.get id)/\
   (∀x,x∈r.wr.map (·.1)->x=c\/d.oid=some x)/\(∀x,x∈r.rd->x∈rd\/d.oid=some x)/\(∀x,r.d.oid=some x->x=c\/d.oid=some x):=by
 have hm:∀n,n<=1000000->n<=zaC:=fun n hn=>by have:=zaN (n:=n) (by omega);simpa using this
 have hmb:∀n,n<=1000000->n*byt<=zaC:=fun n hn=>by
  have:n*byt<=1000000*1000:=Z144 hn hb;have h2:=zaN (n:=n*byt) (by omega);simpa using h2
 by_cases h0:new.length=0
 .have hn:new=[]:=Z17.1 h0;subst hn;rcases hg with⟨rfl,rfl⟩ |⟨id,ro,rfl,he,ho,hr,hl,hc⟩
  .exact⟨{d:= .f .nils,rd,c},by rw[zh5];simp,rfl,.inl ⟨rfl,rfl⟩,Z2 _,fun _ _ _=>rfl,by simp,fun x hx=> .inl hx,by simp[D.oid]⟩
  .exact⟨{d:= .sl id 0 els.length es els.length false,rd,c},by rw[zkz];simp,rfl,.inr ⟨id,ro,by simp,by simpa using he,by simpa [wrT]using ho,by simpa using hr,hl,hc⟩,Z2 _,fun _ _ _=>rfl,by simp,fun x hx=> .inl hx,fun x hx=> .inr hx⟩
 .rcases hg with⟨rfl,rfl⟩ |⟨id,ro,rfl,he,ho,hr,hl,hc⟩
  .refine⟨{d:= .sl c 0 new.length es new.length false,rd,wr:=[(c,some (.arr es 0 new))],c:=c+1},?_,?_,.inr ⟨c,0,rfl,?_,?_,Z61 _,hlo,by simp⟩,by simp,?_,by simp,fun x hx=> .inl hx,by simp[D.oid]⟩
   .rw[zh5,Z49 h0,Z51 ⟨hm _ (by simpa using hlen),hmb _ (by simpa using hlen)⟩]
   .simp[zat,Z79]
   .simpa using fun e=>h0 (by simp[e])
   .simp[wrT,T.zal]
   .intro i hi _;have:i≠c:=by omega
    simp[wrT,T.zal,this]
  .refine⟨{d:= .sl c 0 (els.length+new.length) es (els.length+new.length) false,rd:=id::rd,wr:=[(id,none),(c,some (.arr es ro (els++new)))],c:=c+1},?_,?_,.inr ⟨c,ro,by simp,?_,?_,by simp;omega,hlo,by simp⟩,by simp,?_,?_,?_,by simp[D.oid]⟩
   .rw[zkz,Z49 h0,ho];have h1:¬(0+els.length+new.length<=els.length):=by omega
    have h2:=hm (els.length+new.length) hlen;have h3:=hmb (els.length+new.length) hlen;simp[om,apO,h1,h2,h3,hr];omega
   .simp[zat,Z79];omega
   .simp[he]
   .simp[wrT,T.zal]
   .intro i hi hne;have h1:i≠c:=by omega
    have h2:i≠id:=fun e=>hne (by rw[e];rfl)
    simp[wrT,T.zal,T.zbj,h1,h2]
   .intro x hx;simp only[Z10,Z85,Z5,Z164,or_false]at hx;rcases hx with rfl|rfl
    .exact .inr rfl
    .exact .inl rfl
   .intro x hx;rcases Z5.1 hx with rfl|hx
    .exact .inr rfl
    .exact .inl hx
def rulI [Globs]:=
 (qI @g_mv (qI @zKO (qI @g_new (qI @g_box (qI @g_bld (qI @g_bsl (qI @g_bsf (qI @g_ld (qI @g_st (qI @g_nck (qI @g_bin (qI @g_eqb (qI @g_eqn (qI @g_eqa (qI @g_un (qI @g_cvi (qI @g_mks (qI @g_slc (qI @g_fa (qI @g_fld (qI @g_ia (qI @g_ext (qI @g_app (qI @g_len (qI @g_mm (qI @g_mmk (qI @g_mup (qI @g_mlk (qI @g_clr (qI @g_mkf (qI @e_box (qI @o_nck (qI @e_nck (qI @o_mmk (qI @e_mmk (qI @o_mup (qI @e_mup (qI @o_mlk (qI @e_mlk (qI @o_clr (qI @rs_mv (qI @zID (qI @zLM (qI @zLB (qI @rs_ld (qI @rs_st (qI @zLL (qI @zLA (qI @rs_fa (qI @rs_ia (qI @zLE (qI @zLI (qI @zLK (qI @zLH (qI @zLC (qI @zLF (qI @zG5 (qI @um_h (qI @um_c (qI @zG4 (qI @zEB (qI @ca_h (qI @ca_c (qI @zEA (qI @zG3 (qI @ug_h (qI @ug_c (qI @zG0 (qI @zEJ (qI @cg_h (qI @cg_c (qI @zEG (qI @zmx (qI @zK5 (qI @zIk (qI @cg_n (qI @zHU (qI @c1_nn (qI @dj_n (qI @c1_rn (qI @c1_nr (qI @c1_qn (qI @c1_nq (qI @g_nil (qI @zH8 (qI @g_call (qI @zH6 (qI @zH5 (qI @v_mv (qI @zMk (qI @v_new (qI @v_box (qI @v_ld (qI @v_st (qI @zJH (qI @v_bin (qI @v_fa (qI @v_ia (qI @v_len (qI @v_mmk (qI @v_bld (qI @v_mks (qI @up_s (qI @up_n (qI @upO_m (qI @v_mup (qI @lk_s (qI @lk_n (qI @lkO_m (qI @v_mlk (qI @sk_s (qI @sk_i (qI @ce_mp (qI @ce_fn (qI @zHS (qI @zHT (qI @zKt (qI @zKD (qI @zKA (qI @d_fn (qI @zKC (qI @h8_mp (qI @h8_fn (qI @zId (qI @zIe (qI @zK7 (qI @oid_f (qI @if_sl (qI @if_f (qI @zKS (qI @if_ag (qI @if_tu (qI @if_n (qI @if_c True.intro))))))))))))))))))))))))))))))))))))))))))))))))))))))))))))))))))))))))))))))))))))))))))))))))))))))))))))))))))))))))))))))))))))))
def rW [Globs]:=And.intro rulI rR
def rG [Globs]:=qI @zbf (qI @zbX (qI @zbO (qI @zna (qI @za8 (qI @zbS (qI @zbD (qI @zmE (qI @zbd (qI @zbW (qI @zbU (qI @zm7 (qI @zbh (qI @zbY (qI @zbB (qI @znd (qI @za1 (qI @za9 (qI @za4 (qI @zjq (qI @zG5 (qI @um_h (qI @um_c (qI @zG4 (qI @zG3 (qI @ug_h (qI @ug_c (qI @zG0 (qI @zEJ (qI @cg_h (qI @cg_c (qI @zEG (qI @zEB (qI @ca_h (qI @ca_c (qI @zEA (qI @zca (qI @zcb (qI @zb8 (@zmx)))))))))))))))))))))))))))))))))))))))
end Go.Vse
end
section
namespace Go.Vse.Sm
def cop(c:CQ):CQ:=⟨c.as,c.cs,c.ne,false⟩
def CmOk(k:Cm):Prop:=zCS k.l/\zCS k.r
def AtOk(a:Atm):Prop:=(∀t∈a.ts,zCS t)/\a.ts.length<1000
structure CqOk(c:CQ):Prop where
 as:∀a∈c.as,AtOk a
 cs:∀k∈c.cs,CmOk k
 la:c.as.length<1000
 lc:c.cs.length<1000
structure CqSm(c:CQ):Prop extends CqOk c where
 sa:c.as.length<=12
 st:∀a∈c.as,a.ts.length<=12
 sc:c.cs.length<=200
 s2:∀a∈c.as,a.ts.length<=2
structure CqG(c:CQ):Prop extends CqSm c where
 tn:∀a∈c.as,a.ts≠[]
end Go.Vse.Sm
namespace Go.Vse
open Sm
def fD(l:List (List F)):List (List D):=l.map fun a=>a.map D.f
def zi7(h:T Ob)(n:Nat)(X:F)(l:List (List F)):CR:=match l with
 |[]=>⟨.ag [.f X,.f .nils],h,n,0,n⟩
 |a::m=>⟨.ag [.f X,.sl n 0 (m.length+1) 2 (m.length+1) false],h.set n (.arr 2 0 (fD (a::m))),n+1,0,n+1⟩
end Go.Vse
end
section
namespace Go.Vse
open Go.RowKit
open Go (BinOp IntKind UnOp)
set_option maxRecDepth 100000
set_option maxHeartbeats 4000000
variable [Globs]
section
variable {amb:Mu}{h:Hp}{ρ:Nat->Option Nat}{c:Nat->Prop}
end
section
variable {P:Program}
theorem zfi.frozen{f:Nat}{args:List D}{h:T Ob}{fs:List F}{rd:List Nat}{q:CR}(hq:zfi P f (F.dL fs) .e 0 q)(hfz:zcA h.get args=some (fs,rd))
  {amb:Mu}{ρ:Nat->Option Nat}{c:Nat->Prop}{w:World}{vs:List Value}(s:Sim amb w.heap h.get ρ c)(hargs:zau w.heap (zaq amb h.get ρ) ρ c args vs):
  ∃g,g=zbQ h.get (zaw h.get rd)/\Sim amb w.heap g ρ c/\Evo amb (fun id=>id∈(zaw h.get rd).map (·.1)) w.heap h.get ρ c w.heap g ρ c/\
   Calls P f ⟨vs⟩ w fun e w'=>∃v,e= .returned v/\Base w w'/\∃ρ',Rel w'.heap (zaq (zaq amb g ρ) q.h.get ρ') ρ' (UX (fun _=>False) 0 q.c) q.d v/\Sim (zaq amb g ρ) w'.heap q.h.get ρ' (UX (fun _=>False) 0 q.c)/\
    w.heap.size<=w'.heap.size/\(∀b,b<w.heap.size->w'.heap[b]? =w.heap[b]?)/\∀id b,ρ' id=some b->w.heap.size<=b:=by
 obtain⟨hen,_,_,hcall⟩ :=hq;obtain⟨s1,e1,_,m1⟩ :=Sim.marks (h:=h.get) (fun id=>id∈(zaw h.get rd).map (·.1)) rd h.get (fun _=> .inl rfl) s (fun p hp=>Z12.2 ⟨p,hp,rfl⟩);refine⟨_,rfl,s1,e1,?_⟩;generalize hg:zbQ h.get (zaw h.get rd)=g at s1 e1 m1;have hok:zf1 amb h.get ρ rd (zaq amb g ρ):=by
  refine⟨fun b o hm hx=> ?_,fun id hid es ro els b ho hb j hj hx=> ?_⟩
  .rcases hx with hx|⟨id,ob,h1,h2,h3⟩
   .exact hm (.inl hx)
   .obtain⟨_,ob0,h0⟩ :=s.dom id b h2;refine hm (.inr ⟨id,ob0,h0,h2,?_⟩)
    by_cases hW:id∈(zaw h.get rd).map (·.1)
    .cases ob0 with
     |map e0=>trivial
     |arr es ro els=>
      rcases (Sim.marks (h:=h.get) (amb:=amb) (H:=w.heap) (ρ:=ρ) (c:=c) (fun _=>True) rd h.get (fun _=> .inl rfl) s (fun _ _=>trivial)).2.2.1 id with hh|⟨es',ro',els',k1,k2,k3⟩
      .rw[hg]at hh;rw[hh,h0]at h1;cases h1;exact h3
      .rw[hg,h1]at k3;rw[h0]at k1;cases k1;cases k3;exact Z3 (Z9 es (Z110 k2)) h3
    .have:=(e1.low id hW (s.lt id ob0 h0)).1;rw[this,h0]at h1;cases h1;exact h3
  .rcases hx with hx|⟨id',ob,h1,h2,h3⟩
   .exact s.out id b j hb hx
   .have hii:=s.inj id id' b hb h2;subst hii;obtain⟨ro',k1,k2⟩ :=m1 id (.inr hid) es ro els ho;rw[k1]at h1;cases h1;have:els.length*es<=j:=Z3 (Z9 es k2) h3;omega
 have hfl:zaR w.heap (zaq amb g ρ) fs vs:=zgt (fun d x rd v=>zia s 12 d x rd v) args fs rd vs hfz hok hargs;have hsim0:Sim (zaq amb g ρ) w.heap (T.e:T Ob).get (fun _=>none) (fun _=>False):=by
  rw[zhA];refine⟨fun id ob ho=>by simp at ho,fun id b hb=>by simp at hb,fun id id' b hb=>by simp at hb,fun id b i hb=>by simp at hb,fun id ob ho=>by simp at ho,fun b i hx=> ?_,fun n cs hg=>by rw[zgC];exact s1.glob n cs hg⟩;rcases hx with hx|⟨id,ob,h1,h2,h3⟩
  .exact s1.amb b i hx
  .exact (s1.dom id b h2).1
 have hc0:=hcall (zaq amb g ρ) (fun _=>none) (fun _=>False) w vs hsim0 (fun _ _ _ hx=>hx) (by rw[zhA,zgC];exact zaR.dL fs vs hfl);refine hc0.mono fun e w' ⟨v,he,hb,ρ',k1,k2,k3⟩ =>⟨v,he,hb,ρ',k1,k2,k3.size,fun b hlt=>(k3.blk b hlt (fun id=>by simp)).1,fun id b hx=> ?_⟩
 rcases Z145 b w.heap.size with hlt|hge
 .exact absurd hx ((k3.blk b hlt (fun id=>by simp)).2 id)
 .exact hge
end
end Go.Vse
end
section
namespace Go.Vse
open Go.RowKit
open Go (BinOp IntKind UnOp)
set_option maxRecDepth 100000
set_option maxHeartbeats 4000000
section
variable [Globs]
variable {P:Program}{amb:Mu}{ρ:Nat->Option Nat}{c:Nat->Prop}{h:Hp}
def zfi.widen{f:Nat}{args:List D}{h:T Ob}{n:Nat}{q q':CR}(hq:zfi P f args h n q)(hd:q'.d=q.d)(hh:∀i,q'.h.get i=q.h.get i)(hc:q.c<=q'.c)(hm:q.mx<=q'.mx)(hl:q'.lw<=q.lw)(hcm:q'.c<=q'.mx):zfi P f args h n q':=by
 obtain⟨h1,h2,h3,h4⟩ :=hq;refine⟨h1,by omega,hcm,fun amb ρ c w vs hs hf ha=> ?_⟩;refine (h4 amb ρ c w vs hs (fun id a b=>hf id a (by omega)) ha).mono ?_;rintro e w' ⟨v,he,hb,ρ',k1,k2,k3⟩;have hg:q'.h.get=q.h.get:=funext hh;have hw:∀i,UX c n q.c i->UX c n q'.c i:=fun i hi=>hi.elim .inl fun e=> .inr ⟨e.1,by omega⟩
 refine⟨v,he,hb,ρ',?_,?_,?_⟩
 .rw[hd,hg];exact Rel.keep ⟨fun _ _ _ h e=>⟨e,h⟩,fun _ _ _ h=>h,fun _ _ h=>h,hw⟩ _ _ k1
 .rw[hg];exact k2.widen hw
 .rw[hg];exact (k3.widen hw).mono fun i _ hi=>⟨by omega,by omega⟩
structure ApartR(w:World)(b bv:Nat)(o:Nat):Prop where
 ne:b≠bv
 sh:∃tA kA tB kB,w.shape? b=some (tA,kA)/\w.shape? bv=some (tB,kB)/\kB≠0/\w.frozen? ⟨b,o,none⟩ =false/\w.frozen? ⟨b,kA,none⟩ =false
end
end Go.Vse
end
