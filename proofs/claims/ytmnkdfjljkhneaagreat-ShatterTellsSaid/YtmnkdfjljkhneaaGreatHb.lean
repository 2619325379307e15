/- Calls that work on the caller's heap: rules for them, calls that leave the heap as it is, regions that draw their order with such calls. -/
import Derived.Test.YtmnkdfjljkhneaaGreatHa
import Derived.Test.YtmnkdfjljkhneaaGreatVe
set_option linter.all false
section
namespace Go.Vse
open Go (BinOp IntKind UnOp)
set_option maxRecDepth 100000
mutual
theorem F.zha:∀x:F,x.beq x=true
 | .b x=>by simp[F.beq]
 | .i k n=>by cases k<;>simp[F.beq]<;>rfl
 | .s l=>by simp[F.beq]
 | .nils| .nilp| .nilm| .nilf| .nili| .un=>by simp[F.beq]
 | .ag cs=>by simp only[F.beq];exact F.zdu cs
 | .tu cs=>by simp only[F.beq];exact F.zdu cs
 | .sl e l=>by simp only[F.beq,beq_self_eq_true,Bool.true_and];exact F.zgR l
 | .fn x=>by simp[F.beq]
theorem F.zdu:∀l:List F,F.zdK l l=true
 |[]=>rfl
 |x::l=>by simp only[F.zdK,F.zha x,F.zdu l,Bool.and_self]
theorem F.zgR:∀l:List (List F),F.zeA l l=true
 |[]=>rfl
 |x::l=>by simp only[F.zeA,F.zdu x,F.zgR l,Bool.and_self]
end
mutual
theorem D.zha:∀x:D,x.beq x=true
 | .f x=>F.zha x
 | .ag x=>by simp only[D.beq];exact D.zdu x
 | .tu x=>by simp only[D.beq];exact D.zdu x
 | .sl .. =>by simp[D.beq]
 | .ptr .. =>by simp[D.beq]
 | .fptr x=>by simp only[D.beq];exact F.zdu x
 | .mp x=>by simp[D.beq]
 | .fn x a b=>by simp only[D.beq,beq_self_eq_true,Bool.true_and,D.zdu a,D.zdu b,Bool.and_self]
theorem D.zdu:∀l:List D,D.zdK l l=true
 |[]=>rfl
 |x::l=>by simp only[D.zdK,D.zha x,D.zdu l,Bool.and_self]
end
theorem D.zgR:∀l:List (List D),D.zeA l l=true
 |[]=>rfl
 |x::l=>by simp only[D.zeA,D.zdu x,D.zgR l,Bool.and_self]
theorem Ob.zqI:∀l:List (F×D),Ob.zlk l l=true
 |[]=>rfl
 |(a,x)::l=>by simp only[Ob.zlk,F.zha a,D.zha x,Ob.zqI l,Bool.and_self]
theorem Ob.ziL:∀x:Option Ob,Ob.zpF x x=true
 |none=>rfl
 |some (.arr a b c)=>by simp only[Ob.zpF,Ob.beq,beq_self_eq_true,Bool.true_and,D.zgR]
 |some (.map a)=>by simp only[Ob.zpF,Ob.beq,Ob.zqI]
variable [Globs]
def zrD(pr:Pr):Prop:=∀f args h c q,Con pr f args h c q->c<=q.c/\q.c<=q.mx
def zDO{P:Go.Program}{pur:Nat->Bool}{pr:Pr}(hp:zsh P pur pr):zrD pr:=by
 intro f args h c q ⟨N,hN⟩;obtain⟨_,h1,h2,_⟩ :=zmi hp N f args h c q (hN N (Z2 _));exact⟨h1,h2⟩
def RO(pr:Pr)(f:Nat)(args:List D)(h:T Ob)(c:Nat)(d:D):Prop:=∃mx,c<=mx/\Con pr f args h c ⟨d,h,c,c,mx⟩
def zD9(res:List Rv)(c:Nat)(d:D)(x:Ex)(s:St):Prop:=(match x with| .exit _=>False|_=>True)/\resD s res=some d/\s.lw=c
def za4{res:List Rv}{c:Nat}{d:D}{s:St}:zD9 res c d .ret s=(resD s res=some d/\s.lw=c):=by simp[zD9]
def zdz{pr:Pr}(hle:zrD pr){f:Nat}{fn:Fn}(hf:pr.fn f=some fn){args:List D}{h:T Ob}{c:Nat}{d:D}(hd:d.isF=true)(hw:wpC pr fn.body (st0 args h c) (zD9 fn.res c d)):RO pr f args h c d:=by
 obtain⟨x,s,⟨hx,hr,hl⟩,ev⟩ :=zeO _ _ _ hw;have key:EV fun m=>zeK (evC (zcL pr m) m) fn args h c=some ⟨d,h,c,c,s.mx⟩ :=by
  refine ev.mono fun m hm=> ?_
  unfold zeK;unfold st0 at hm;rw[hm];cases x with
  |exit i=>exact hx.elim
  |nrm=>simp only[hr];simp[hl,hd]
  |ret=>simp only[hr];simp[hl,hd]
 have hq:Con pr f args h c ⟨d,h,c,c,s.mx⟩ :=by
  obtain⟨N,hN⟩ :=key;refine⟨N+1,fun m hm=> ?_⟩;obtain⟨m,rfl⟩ :∃m',m=m'+1:=⟨m - 1,by omega⟩
  simp only[zcL,hf];exact hN m (by omega)
 exact⟨s.mx,(hle _ _ _ _ _ hq).2,hq⟩
def zsS(res:List Rv)(h:T Ob)(c:Nat)(P:D->T Ob->Nat->Prop)(x:Ex)(s:St):Prop:=
 (match x with| .exit _=>False|_=>True)/\oB (resD s res) fun d=>P d s.h s.c/\(s.lw=c->d.isF=true->P d h c)
def zbl{res:List Rv}{h:T Ob}{c:Nat}{P:D->T Ob->Nat->Prop}{s:St}:zsS res h c P .ret s=oB (resD s res) fun d=>P d s.h s.c/\(s.lw=c->d.isF=true->P d h c):=by simp[zsS]
def zjt{res:List Rv}{h:T Ob}{c:Nat}{P:D->T Ob->Nat->Prop}{s:St}:zsS res h c P .nrm s=oB (resD s res) fun d=>P d s.h s.c/\(s.lw=c->d.isF=true->P d h c):=by simp[zsS]
def Eff(pr:Pr)(f:Nat)(args:List D)(h:T Ob)(c:Nat)(P:D->T Ob->Nat->Prop):Prop:=∃q,Con pr f args h c q/\P q.d q.h q.c/\c<=q.c/\q.c<=q.mx
def zci{pr:Pr}(hle:zrD pr){f:Nat}{fn:Fn}(hf:pr.fn f=some fn){args:List D}{h:T Ob}{c:Nat}{P:D->T Ob->Nat->Prop}(hw:wpC pr fn.body (st0 args h c) (zsS fn.res h c P)):Eff pr f args h c P:=by
 obtain⟨x,s,⟨hx,hr⟩,ev⟩ :=zeO _ _ _ hw;cases hd:resD s fn.res with
 |none=>rw[hd]at hr;exact hr.elim
 |some d=>
  rw[hd]at hr;obtain⟨h1,h2⟩ :=hr;have key:EV fun m=>zeK (evC (zcL pr m) m) fn args h c=some (if Nat.beq s.lw c&&d.isF then ⟨d,h,c,c,s.mx⟩else ⟨d,s.h,s.c,s.lw,s.mx⟩):=by
   refine ev.mono fun m hm=> ?_
   unfold zeK;unfold st0 at hm;rw[hm];cases x with
   |exit i=>exact hx.elim
   |nrm=>simp only[hd];split<;>rfl
   |ret=>simp only[hd];split<;>rfl
  have hq:Con pr f args h c (if Nat.beq s.lw c&&d.isF then ⟨d,h,c,c,s.mx⟩else ⟨d,s.h,s.c,s.lw,s.mx⟩):=by
   obtain⟨N,hN⟩ :=key;refine⟨N+1,fun m hm=> ?_⟩;obtain⟨m,rfl⟩ :∃m',m=m'+1:=⟨m - 1,by omega⟩
   simp only[zcL,hf];exact hN m (by omega)
  refine⟨_,hq,?_,hle _ _ _ _ _ hq⟩;split
  .rename_i hb;simp only[Z14]at hb;exact h2 (Nat.eq_of_beq_eq_true hb.1) hb.2
  .exact h1
def St.um(s:St)(dst:Option Nat)(d:D)(mx:Nat):St:={s with tm:=zcE s.tm dst d,mx:=Nat.max s.mx mx}
def zJM(s:St)(dst:Option Nat)(d:D)(mx:Nat):(s.um dst d mx).tm=zcE s.tm dst d:=rfl
def um_h(s:St)(dst:Option Nat)(d:D)(mx:Nat):(s.um dst d mx).h=s.h:=rfl
def um_c(s:St)(dst:Option Nat)(d:D)(mx:Nat):(s.um dst d mx).c=s.c:=rfl
def zJL(s:St)(dst:Option Nat)(d:D)(mx:Nat):(s.um dst d mx).lw=s.lw:=rfl
def zG8(s:St)(dst:Option Nat)(q:CR):(s.cal dst q).tm=zcE s.tm dst q.d:=rfl
def ca_h(s:St)(dst:Option Nat)(q:CR):(s.cal dst q).h=q.h:=rfl
def ca_c(s:St)(dst:Option Nat)(q:CR):(s.cal dst q).c=q.c:=rfl
def zG6(s:St)(dst:Option Nat)(q:CR):(s.cal dst q).lw=Nat.min s.lw q.lw:=rfl
def St.ug(s:St)(dst:Option Nat)(d:D)(mx:Nat):St:={s with tm:=zcE s.tm dst d,c:=mx,mx:=Nat.max s.mx mx}
def zJK(s:St)(dst:Option Nat)(d:D)(mx:Nat):(s.ug dst d mx).tm=zcE s.tm dst d:=rfl
def ug_h(s:St)(dst:Option Nat)(d:D)(mx:Nat):(s.ug dst d mx).h=s.h:=rfl
def ug_c(s:St)(dst:Option Nat)(d:D)(mx:Nat):(s.ug dst d mx).c=mx:=rfl
def zJJ(s:St)(dst:Option Nat)(d:D)(mx:Nat):(s.ug dst d mx).lw=s.lw:=rfl
def St.cg(s:St)(dst:Option Nat)(q:CR):St:={tm:=zcE s.tm dst q.d,h:=q.h,c:=q.mx,lw:=Nat.min s.lw q.lw,mx:=Nat.max s.mx q.mx}
def zHd(s:St)(dst:Option Nat)(q:CR):(s.cg dst q).tm=zcE s.tm dst q.d:=rfl
def cg_h(s:St)(dst:Option Nat)(q:CR):(s.cg dst q).h=q.h:=rfl
def cg_c(s:St)(dst:Option Nat)(q:CR):(s.cg dst q).c=q.mx:=rfl
def zHc(s:St)(dst:Option Nat)(q:CR):(s.cg dst q).lw=Nat.min s.lw q.lw:=rfl
def zcw(m:Nat):zcA m []=m:=rfl
def zGj(m id:Nat)(o:Option Ob)(l:List (Nat×Option Ob)):zcA m ((id,o)::l)=zcA (if id<m then id else m) l:=rfl
def zb7{m id:Nat}{o:Option Ob}{l:List (Nat×Option Ob)}(h:m<=id):zcA m ((id,o)::l)=zcA m l:=by rw[zGj,if_neg (by omega)]
section
variable {pr:Pr}{s:St}{Q:St->Prop}{dst:Option Nat}{mask:Nat}
structure WQ(pr:Pr)(f:Nat)(ds:List D)(s:St)(dst:Option Nat)(l:List Go.Vse.Op)(Q:St->Prop):Prop where
 out:∃q,Con pr f ds s.h s.c q/\wpO pr l (s.cal dst q) Q
def zPv{l:List Go.Vse.Op}{f:Nat}{args:List A}:wpO pr (⟨dst,none,.call f args⟩ ::l) s Q↔oB (zaw (zab s.tm) args) fun ds=>WQ pr f ds s dst l Q:=by
 rw[zRA];cases zaw (zab s.tm) args with
 |none=>exact Iff.rfl
 |some ds=>exact⟨fun h=>⟨h⟩,fun h=>h.out⟩
def zLR{l:List Go.Vse.Op}{x:A}{args:List A}:wpO pr (⟨dst,none,.callv x args⟩ ::l) s Q↔oB ((zab s.tm x).bind zdH) fun g=>oB (zaw (zab s.tm) args) fun ds=>WQ pr g.1 (g.2.1++ds++g.2.2) s dst l Q:=by
 rw[zNv];cases (zab s.tm x).bind zdH with
 |none=>exact Iff.rfl
 |some g=>
  simp only[oB];cases zaw (zab s.tm) args with
  |none=>exact Iff.rfl
  |some ds=>exact⟨fun h=>⟨h⟩,fun h=>h.out⟩
def zdo{f:Nat}{ds:List D}{l:List Go.Vse.Op}{d:D}(he:RO pr f ds s.h s.c d)(e3:s.lw<=s.c)(k:∀mx,wpO pr l (s.um dst d mx) Q):WQ pr f ds s dst l Q:=by
 obtain⟨mx,h1,h2⟩ :=he;refine⟨_,h2,?_⟩;have e:s.cal dst ⟨d,s.h,s.c,s.c,mx⟩ =s.um dst d mx:=by
  simp only[St.cal,St.um,Nat.min_eq_left e3]
 rw[e];exact k mx
def zcz{f:Nat}{ds:List D}{l:List Go.Vse.Op}{h:T Ob}{c:Nat}{P:D->T Ob->Nat->Prop}(e1:s.h=h)(e2:s.c=c)(he:Eff pr f ds h c P)(k:∀d' h' c' lw mx,P d' h' c'->c<=c'->wpO pr l (s.cal dst ⟨d',h',c',lw,mx⟩) Q):WQ pr f ds s dst l Q:=by
 subst e1 e2;obtain⟨q,h1,h2,h3,h4⟩ :=he;exact⟨q,h1,k q.d q.h q.c q.lw q.mx h2 h3⟩
inductive En where
 |n (rd wr:List Nat)
 |r
 |q (h h':T Ob)
def Fits:En->Fp->Prop
 | .n rd wr,p=>p.all=false/\p.rd=rd/\p.wr=wr
 | .r,p=>p.all=true/\p.h=p.h'
 | .q h h',p=>p.all=true/\p.h=h/\p.h'=h'
def ck1:En->En->Prop
 | .n r w,.n rd wr=>zdg rd w/\zdg wr w/\zdg wr r
 | .r,.n _ wr=>wr=[]
 | .n _ w,.r=>w=[]
 | .q h h',.n rd wr=>wr=[]/\∀x∈rd,h.get x=h'.get x
 | .n r w,.q h h'=>w=[]/\∀x∈r,h.get x=h'.get x
 |_,_=>False
def ckG:Nat->List En->En->Prop
 |_,[],_=>True
 |m,a::L,e=>(m%2=1->ck1 a e)/\ckG (m/2) L e
def cg_n{m:Nat}{e:En}:ckG m [] e=True:=rfl
def zKJ{m:Nat}{a e:En}{L:List En}:ckG m (a::L) e=((m%2=1->ck1 a e)/\ckG (m/2) L e):=rfl
def c1_nn{r w rd wr:List Nat}:ck1 (.n r w) (.n rd wr)=(zdg rd w/\zdg wr w/\zdg wr r):=rfl
def dj_n(a:List Nat):zdg a []=True:=by simp[zdg]
def c1_rn{rd wr:List Nat}:ck1 .r (.n rd wr)=(wr=[]):=rfl
def c1_nr{r w:List Nat}:ck1 (.n r w) .r=(w=[]):=rfl
def c1_qn{h h':T Ob}{rd wr:List Nat}:ck1 (.q h h') (.n rd wr)=(wr=[]/\∀x∈rd,h.get x=h'.get x):=rfl
def c1_nq{h h':T Ob}{r w:List Nat}:ck1 (.n r w) (.q h h')=(w=[]/\∀x∈r,h.get x=h'.get x):=rfl
def wpG(pr:Pr):List En->List (Go.Vse.Op×Nat)->St->(St->Prop)->Prop
 |_,[],s,Q=>Q s
 |L,(o,mask)::l,s,Q=>zbS pr o s fun s' p=>∃e,Fits e p/\ckG mask L e/\wpG pr (L++[e]) l {s' with c:=p.hi} Q
def zOI{a e:En}{q p:Fp}(h1:Fits a q)(h2:Fits e p)(h:ck1 a e):q.apart p=true:=by
 cases a with
 |n r w=>
  obtain⟨q1,rfl,rfl⟩ :=h1;cases e with
  |n rd wr=>
   obtain⟨p1,rfl,rfl⟩ :=h2;obtain⟨d1,d2,d3⟩ :=h;simp only[Fp.apart,q1,p1,Z14,List.all_eq_true,Bool.not_eq_true',List.contains_eq_mem,decide_eq_false_iff_not];exact⟨⟨fun x hx hm=>d1 x hx hm,fun x hx hm=>d3 x hm hx⟩,fun x hx hm=>d2 x hm hx⟩
  |r=>
   obtain⟨p1,p2⟩ :=h2;have hw:q.wr=[]:=h;simp only[Fp.apart,q1,p1,hw,List.isEmpty_nil,Bool.true_and,List.all_eq_true,Fp.same,p2];exact fun x _=>Ob.ziL _
  |q h0 h1=>
   obtain⟨p1,p2,p3⟩ :=h2;obtain⟨hw,hs⟩ :=h;simp only[Fp.apart,q1,p1,hw,List.isEmpty_nil,Bool.true_and,List.all_eq_true,Fp.same,p2,p3];exact fun x hx=>by rw[hs x hx];exact Ob.ziL _
 |r=>
  obtain⟨q1,q2⟩ :=h1;cases e with
  |n rd wr=>
   obtain⟨p1,rfl,rfl⟩ :=h2;have hw:p.wr=[]:=h;simp only[Fp.apart,q1,p1,hw,List.isEmpty_nil,Bool.true_and,List.all_eq_true,Fp.same,q2];exact fun x _=>Ob.ziL _
  |r=>exact h.elim
  |q=>exact h.elim
 |q h0 h1'=>
  obtain⟨q1,q2,q3⟩ :=h1;cases e with
  |n rd wr=>
   obtain⟨p1,rfl,rfl⟩ :=h2;obtain⟨hw,hs⟩ :=h;simp only[Fp.apart,q1,p1,hw,List.isEmpty_nil,Bool.true_and,List.all_eq_true,Fp.same,q2,q3];exact fun x hx=>by rw[hs x hx];exact Ob.ziL _
  |r=>exact h.elim
  |q=>exact h.elim
def znS:List En->List Fp->Prop
 |[],[]=>True
 |e::L,p::l=>Fits e p/\znS L l
 |_,_=>False
theorem zoj{e:En}{p:Fp}(h:Fits e p):∀{L:List En} {l:List Fp},znS L l->znS (L++[e]) (l++[p])
 |[],[],_=>⟨h,trivial⟩
 |_::_,_::_,hl=>⟨hl.1,zoj h hl.2⟩
 |[],_::_,hl=>hl.elim
 |_::_,[],hl=>hl.elim
theorem zAq{e:En}{p:Fp}(h2:Fits e p){mask:Nat}:∀(L:List En) (l:List Fp) (i:Nat),znS L l->ckG (mask/2 ^ i) L e->zco p mask l i=true
 |[],[],_,_,_=>rfl
 |a::L,q::l,i,hf,h=>by
  have h3:=zAq h2 L l (i+1) hf.2 (by rw[Nat.pow_succ,<-Nat.div_div_eq_div_mul];exact h.2);simp only[zco,h3,Bool.and_true,Bool.or_eq_true,Bool.not_eq_true'];cases hb:mask.testBit i with
  |false=>exact .inl rfl
  |true=>
   right;rw[Nat.testBit_eq_decide_div_mod_eq]at hb;exact zOI hf.1 h2 (h.1 (of_decide_eq_true hb))
 |[],_::_,_,hf,_=>hf.elim
 |_::_,[],_,hf,_=>hf.elim
theorem zJ8:∀(l:List (Go.Vse.Op×Nat)) (L:List En) (fps:List Fp) (s:St) (Q:St->Prop),znS L fps->wpG pr L l s Q->wpD pr l fps s Q
 |[],_,_,_,_,_,h=>h
 |(o,mask)::l,L,fps,s,Q,hf,h=>by
  refine zpq (fun s' p ⟨e,h1,h2,h3⟩ =>⟨?_,zJ8 l (L++[e]) (fps++[p]) _ Q (zoj h1 hf) h3⟩) h;exact zAq h1 L fps 0 hf (by simpa using h2)
def zgT{ops:List (Go.Vse.Op×Nat)}{s:St}{Q:Ex->St->Prop}(h:wpG pr [] ops s (Q .nrm)):WD pr ops s Q:=⟨zJ8 ops [] [] s _ trivial h⟩
variable {L:List En}
def g_nil:wpG pr L [] s Q↔Q s:=Iff.rfl
def zcH{l:List (Go.Vse.Op×Nat)}{o:O A}(hk:kcl o= .n):wpG pr L ((⟨dst,none,o⟩,mask)::l) s Q↔oB ((o.res (zab s.tm)).bind (opv s.h.get s.c)) fun r=>zay r.c r.wr=true/\ckG mask L (.n r.rd (r.wr.map (·.1)))/\wpG pr (L++[.n r.rd (r.wr.map (·.1))]) l (s.ae dst r.d r.wr r.c) Q:=by
  simp only[wpG,zbS,zcj];cases hr:o.res (zab s.tm)with
  |none=>exact Iff.rfl
  | some o'=>
    simp only[Z46,zr1 hk hr];cases hv:opv s.h.get s.c o' with
    |none=>exact Iff.rfl
    | some r=>
      simp only[zdn,zc3,oB];cases hw:zay r.c r.wr with
      |false=>simp
      | true=>
        simp only[Bool.not_true,cond_false,true_and];constructor
        . rintro⟨e,h1,h2,h3⟩;cases e with
          |n rd wr=>obtain⟨_,rfl,rfl⟩ :=h1;exact⟨h2,h3⟩
          |r=>exact absurd h1.1 (by simp)
          |q=>exact absurd h1.1 (by simp)
        . rintro⟨h2,h3⟩;exact⟨.n r.rd (r.wr.map (·.1)),⟨rfl,rfl,rfl⟩,h2,h3⟩
def zLE{l:List (Go.Vse.Op×Nat)}{g:Nat}{w:Bool}{o:O A}:wpG pr L ((⟨dst,some (g,w),o⟩,mask)::l) s Q↔oB ((s.tm.get g).bind asG) fun x=>if x==some w then wpG pr L ((⟨dst,none,o⟩,mask)::l) s Q else ckG mask L (.n [] [])/\wpG pr (L++[.n [] []]) l (s.se dst) Q:=by
 cases hx:(s.tm.get g).bind asG with
 |none=>
  have:zcj s.tm (some (g,w))=none:=by rw[zin,hx];rfl
  simp[wpG,zbS,this,oB]
 |some x=>
  have hw:zcj s.tm (some (g,w))=some (x==some w):=by rw[zin,hx];rfl
  simp only[oB];cases hb:x==some w with
  |true=>rw[hb]at hw;simp only[wpG,zbS,hw,if_true];exact Iff.rfl
  |false=>
   rw[hb]at hw;simp only[wpG,zbS,hw];constructor
   .rintro⟨e,h1,h2,h3⟩;cases e with
    |n rd wr=>obtain⟨_,rfl,rfl⟩ :=h1;exact⟨h2,h3⟩
    |r=>exact absurd h1.1 (by simp)
    |q=>exact absurd h1.1 (by simp)
   .rintro⟨h2,h3⟩;exact⟨.n [] [],⟨rfl,rfl,rfl⟩,h2,h3⟩
structure WG(pr:Pr)(f:Nat)(ds:List D)(L:List En)(mask:Nat)(l:List (Go.Vse.Op×Nat))(s:St)(dst:Option Nat)(Q:St->Prop):Prop where
 out:∃q,Con pr f ds s.h s.c q/\∃e,(e= .r/\s.h=q.h\/e= .q s.h q.h)/\ckG mask L e/\wpG pr (L++[e]) l (s.cg dst q) Q
def g_call{l:List (Go.Vse.Op×Nat)}{f:Nat}{args:List A}:wpG pr L ((⟨dst,none,.call f args⟩,mask)::l) s Q↔oB (zaw (zab s.tm) args) fun ds=>WG pr f ds L mask l s dst Q:=by
 simp only[wpG,zbS,zcj,O.res,Z47];cases zaw (zab s.tm) args with
 |none=>exact Iff.rfl
 |some ds=>
  simp only[Z46,kindOf,oB,zdn,zgr];constructor
  .rintro⟨q,h1,e,h2,h3,h4⟩;cases e with
   |n rd wr=>exact absurd h2.1 (by simp)
   |r=>exact⟨q,h1,.r,.inl ⟨rfl,h2.2⟩,h3,h4⟩
   |q h0 h1'=>obtain⟨_,rfl,rfl⟩ :=h2;exact⟨q,h1,.q _ _,.inr rfl,h3,h4⟩
  .rintro⟨q,h1,e,h2,h3,h4⟩;rcases h2 with⟨rfl,h2⟩ |rfl
   .exact⟨q,h1,.r,⟨rfl,h2⟩,h3,h4⟩
   .exact⟨q,h1,.q _ _,⟨rfl,rfl,rfl⟩,h3,h4⟩
def zLC{l:List (Go.Vse.Op×Nat)}{x:A}{args:List A}:wpG pr L ((⟨dst,none,.callv x args⟩,mask)::l) s Q↔oB ((zab s.tm x).bind zdH) fun g=>oB (zaw (zab s.tm) args) fun ds=>WG pr g.1 (g.2.1++ds++g.2.2) L mask l s dst Q:=by
 have key:∀f ds,(∃q,Con pr f ds s.h s.c q/\∃e,Fits e {all:=true,rd:=[],wr:=[],lo:=s.c,hi:=q.mx,h:=s.h,h':=q.h}/\ckG mask L e/\wpG pr (L++[e]) l (s.cg dst q) Q)↔WG pr f ds L mask l s dst Q:=by
  intro f ds;constructor
  .rintro⟨q,h1,e,h2,h3,h4⟩;cases e with
   |n rd wr=>exact absurd h2.1 (by simp)
   |r=>exact⟨q,h1,.r,.inl ⟨rfl,h2.2⟩,h3,h4⟩
   |q h0 h1'=>obtain⟨_,rfl,rfl⟩ :=h2;exact⟨q,h1,.q _ _,.inr rfl,h3,h4⟩
  .rintro⟨q,h1,e,h2,h3,h4⟩;rcases h2 with⟨rfl,h2⟩ |rfl
   .exact⟨q,h1,.r,⟨rfl,h2⟩,h3,h4⟩
   .exact⟨q,h1,.q _ _,⟨rfl,rfl,rfl⟩,h3,h4⟩
 simp only[wpG,zbS,zcj,O.res,Z47];cases zab s.tm x with
 |none=>simp[oB]
 |some d=>
  cases zaw (zab s.tm) args with
  |none=>cases d with
   |f y=>cases y<;>simp[oB,zdH]
   |_=>simp[oB,zdH]
  |some ds=>
   cases d with
   |f y=>
    cases y with
    |fn g=>simp only[Z46,kindOf,oB,zdn,zgr,zdH,Z28,Z22];exact key _ _
    |_=>simp[oB,zdH,kindOf]
   |fn g a b=>simp only[Z46,kindOf,oB,zdn,zgr,zdH];exact key _ _
   |_=>simp[oB,zdH,kindOf]
def zk5{f:Nat}{ds:List D}{l:List (Go.Vse.Op×Nat)}{d:D}(he:RO pr f ds s.h s.c d)(e3:s.lw<=s.c)(hc:ckG mask L .r)(k:∀mx,s.c<=mx->wpG pr (L++[.r]) l (s.ug dst d mx) Q):WG pr f ds L mask l s dst Q:=by
 obtain⟨mx,h1,h2⟩ :=he;refine⟨_,h2,.r,.inl ⟨rfl,rfl⟩,hc,?_⟩;have e:s.cg dst ⟨d,s.h,s.c,s.c,mx⟩ =s.ug dst d mx:=by
  simp only[St.cg,St.ug,Nat.min_eq_left e3]
 rw[e];exact k mx h1
def zuK{f:Nat}{ds:List D}{l:List (Go.Vse.Op×Nat)}{h:T Ob}{c:Nat}{P:D->T Ob->Nat->Prop}(e1:s.h=h)(e2:s.c=c)(he:Eff pr f ds h c P)(k:∀d' h' c' lw mx,P d' h' c'->c<=c'->c'<=mx->ckG mask L (.q h h')/\wpG pr (L++[.q h h']) l (s.cg dst ⟨d',h',c',lw,mx⟩) Q):WG pr f ds L mask l s dst Q:=by
 subst e1 e2;obtain⟨q,h1,h2,h3,h4⟩ :=he;have:=k q.d q.h q.c q.lw q.mx h2 h3 h4;exact⟨q,h1,.q _ _,.inr rfl,this.1,this.2⟩
theorem zLB{l:List (Go.Vse.Op×Nat)}{f:Nat}{args:List A}:wpG pr L ((⟨dst,none,.callp f args⟩,mask)::l) s Q↔oB (zaw (zab s.tm) args) fun ds=>oB (zcp s.h.get ds) fun y=>aB pr f (fw y.1) fun x=>zay s.c (zax s.h.get y.2)=true/\
    ckG mask L (.n y.2 ((zax s.h.get y.2).map (·.1)))/\wpG pr (L++[.n y.2 ((zax s.h.get y.2).map (·.1))]) l (s.ae dst x.d (zax s.h.get y.2) s.c) Q:=by
  simp only[wpG,zbS,zcj,O.res,Z47];cases zaw (zab s.tm) args with
  |none=>exact Iff.rfl
  | some ds=>
    simp only[Z46,kindOf,oB];cases zcp s.h.get ds with
    |none=>exact Iff.rfl
    | some y=>
      obtain⟨fs,rd⟩ :=y;simp only[aB,fw];refine exists_congr fun x=>and_congr_right fun _=> ?_
      simp only[zdn,zc3];cases hw:zay s.c (zax s.h.get rd)with
      |false=>simp
      | true=>
        simp only[Bool.not_true,cond_false,true_and];constructor
        . rintro⟨e,h1,h2,h3⟩;cases e with
          |n rd' wr=>obtain⟨_,rfl,rfl⟩ :=h1;exact⟨h2,h3⟩
          |r=>exact absurd h1.1 (by simp)
          |q=>exact absurd h1.1 (by simp)
        . rintro⟨h2,h3⟩;exact⟨.n rd ((zax s.h.get rd).map (·.1)),⟨rfl,rfl,rfl⟩,h2,h3⟩
def g_mv{l:List (Go.Vse.Op×Nat)}{x:A}:wpG pr L ((⟨dst,none,.mv x⟩,mask)::l) s Q↔oB (((O.mv x).res (zab s.tm)).bind (opv s.h.get s.c)) fun r=>zay r.c r.wr=true/\ckG mask L (.n r.rd (r.wr.map (·.1)))/\wpG pr (L++[.n r.rd (r.wr.map (·.1))]) l (s.ae dst r.d r.wr r.c) Q:=zcH rfl
def zPn{l:List (Go.Vse.Op×Nat)}{q x y:A}:wpG pr L ((⟨dst,none,.pick q x y⟩,mask)::l) s Q↔oB (((O.pick q x y).res (zab s.tm)).bind (opv s.h.get s.c)) fun r=>zay r.c r.wr=true/\ckG mask L (.n r.rd (r.wr.map (·.1)))/\wpG pr (L++[.n r.rd (r.wr.map (·.1))]) l (s.ae dst r.d r.wr r.c) Q:=zcH rfl
def g_new{l:List (Go.Vse.Op×Nat)}{cs:List F}:wpG pr L ((⟨dst,none,.new cs⟩,mask)::l) s Q↔oB (((O.new cs).res (zab s.tm)).bind (opv s.h.get s.c)) fun r=>zay r.c r.wr=true/\ckG mask L (.n r.rd (r.wr.map (·.1)))/\wpG pr (L++[.n r.rd (r.wr.map (·.1))]) l (s.ae dst r.d r.wr r.c) Q:=zcH rfl
def g_box{l:List (Go.Vse.Op×Nat)}{x:A}:wpG pr L ((⟨dst,none,.box x⟩,mask)::l) s Q↔oB (((O.box x).res (zab s.tm)).bind (opv s.h.get s.c)) fun r=>zay r.c r.wr=true/\ckG mask L (.n r.rd (r.wr.map (·.1)))/\wpG pr (L++[.n r.rd (r.wr.map (·.1))]) l (s.ae dst r.d r.wr r.c) Q:=zcH rfl
def g_bld{l:List (Go.Vse.Op×Nat)}{z:List F}{ps:List (Nat×Nat×A)}:wpG pr L ((⟨dst,none,.bld z ps⟩,mask)::l) s Q↔oB (((O.bld z ps).res (zab s.tm)).bind (opv s.h.get s.c)) fun r=>zay r.c r.wr=true/\ckG mask L (.n r.rd (r.wr.map (·.1)))/\wpG pr (L++[.n r.rd (r.wr.map (·.1))]) l (s.ae dst r.d r.wr r.c) Q:=zcH rfl
def g_bsl{l:List (Go.Vse.Op×Nat)}{es m:Nat}{z:List F}{ps:List (Nat×A)}:wpG pr L ((⟨dst,none,.bsl es z m ps⟩,mask)::l) s Q↔oB (((O.bsl es z m ps).res (zab s.tm)).bind (opv s.h.get s.c)) fun r=>zay r.c r.wr=true/\ckG mask L (.n r.rd (r.wr.map (·.1)))/\wpG pr (L++[.n r.rd (r.wr.map (·.1))]) l (s.ae dst r.d r.wr r.c) Q:=zcH rfl
def g_bsf{l:List (Go.Vse.Op×Nat)}{es m:Nat}{z:List F}{ps:List (Nat×A)}:wpG pr L ((⟨dst,none,.bsf es z m ps⟩,mask)::l) s Q↔oB (((O.bsf es z m ps).res (zab s.tm)).bind (opv s.h.get s.c)) fun r=>zay r.c r.wr=true/\ckG mask L (.n r.rd (r.wr.map (·.1)))/\wpG pr (L++[.n r.rd (r.wr.map (·.1))]) l (s.ae dst r.d r.wr r.c) Q:=zcH rfl
def g_ld{l:List (Go.Vse.Op×Nat)}{g:Bool}{n:Nat}{x:A}:wpG pr L ((⟨dst,none,.ld g n x⟩,mask)::l) s Q↔oB (((O.ld g n x).res (zab s.tm)).bind (opv s.h.get s.c)) fun r=>zay r.c r.wr=true/\ckG mask L (.n r.rd (r.wr.map (·.1)))/\wpG pr (L++[.n r.rd (r.wr.map (·.1))]) l (s.ae dst r.d r.wr r.c) Q:=zcH rfl
def g_st{l:List (Go.Vse.Op×Nat)}{n:Nat}{x v:A}:wpG pr L ((⟨dst,none,.st n x v⟩,mask)::l) s Q↔oB (((O.st n x v).res (zab s.tm)).bind (opv s.h.get s.c)) fun r=>zay r.c r.wr=true/\ckG mask L (.n r.rd (r.wr.map (·.1)))/\wpG pr (L++[.n r.rd (r.wr.map (·.1))]) l (s.ae dst r.d r.wr r.c) Q:=zcH rfl
def g_nck{l:List (Go.Vse.Op×Nat)}{x:A}:wpG pr L ((⟨dst,none,.nck x⟩,mask)::l) s Q↔oB (((O.nck x).res (zab s.tm)).bind (opv s.h.get s.c)) fun r=>zay r.c r.wr=true/\ckG mask L (.n r.rd (r.wr.map (·.1)))/\wpG pr (L++[.n r.rd (r.wr.map (·.1))]) l (s.ae dst r.d r.wr r.c) Q:=zcH rfl
def g_bin{l:List (Go.Vse.Op×Nat)}{op:BinOp}{x y:A}:wpG pr L ((⟨dst,none,.bin op x y⟩,mask)::l) s Q↔oB (((O.bin op x y).res (zab s.tm)).bind (opv s.h.get s.c)) fun r=>zay r.c r.wr=true/\ckG mask L (.n r.rd (r.wr.map (·.1)))/\wpG pr (L++[.n r.rd (r.wr.map (·.1))]) l (s.ae dst r.d r.wr r.c) Q:=zcH rfl
def g_eqb{l:List (Go.Vse.Op×Nat)}{ne:Bool}{x y:A}:wpG pr L ((⟨dst,none,.eqb ne x y⟩,mask)::l) s Q↔oB (((O.eqb ne x y).res (zab s.tm)).bind (opv s.h.get s.c)) fun r=>zay r.c r.wr=true/\ckG mask L (.n r.rd (r.wr.map (·.1)))/\wpG pr (L++[.n r.rd (r.wr.map (·.1))]) l (s.ae dst r.d r.wr r.c) Q:=zcH rfl
def g_eqn{l:List (Go.Vse.Op×Nat)}{kd:Nat}{ne:Bool}{x y:A}:wpG pr L ((⟨dst,none,.eqn kd ne x y⟩,mask)::l) s Q↔oB (((O.eqn kd ne x y).res (zab s.tm)).bind (opv s.h.get s.c)) fun r=>zay r.c r.wr=true/\ckG mask L (.n r.rd (r.wr.map (·.1)))/\wpG pr (L++[.n r.rd (r.wr.map (·.1))]) l (s.ae dst r.d r.wr r.c) Q:=zcH rfl
def g_eqa{l:List (Go.Vse.Op×Nat)}{ks:List Nat}{ne:Bool}{x y:A}:wpG pr L ((⟨dst,none,.eqa ks ne x y⟩,mask)::l) s Q↔oB (((O.eqa ks ne x y).res (zab s.tm)).bind (opv s.h.get s.c)) fun r=>zay r.c r.wr=true/\ckG mask L (.n r.rd (r.wr.map (·.1)))/\wpG pr (L++[.n r.rd (r.wr.map (·.1))]) l (s.ae dst r.d r.wr r.c) Q:=zcH rfl
def g_un{l:List (Go.Vse.Op×Nat)}{op:UnOp}{x:A}:wpG pr L ((⟨dst,none,.un op x⟩,mask)::l) s Q↔oB (((O.un op x).res (zab s.tm)).bind (opv s.h.get s.c)) fun r=>zay r.c r.wr=true/\ckG mask L (.n r.rd (r.wr.map (·.1)))/\wpG pr (L++[.n r.rd (r.wr.map (·.1))]) l (s.ae dst r.d r.wr r.c) Q:=zcH rfl
def g_cvi{l:List (Go.Vse.Op×Nat)}{k:IntKind}{x:A}:wpG pr L ((⟨dst,none,.cvi k x⟩,mask)::l) s Q↔oB (((O.cvi k x).res (zab s.tm)).bind (opv s.h.get s.c)) fun r=>zay r.c r.wr=true/\ckG mask L (.n r.rd (r.wr.map (·.1)))/\wpG pr (L++[.n r.rd (r.wr.map (·.1))]) l (s.ae dst r.d r.wr r.c) Q:=zcH rfl
def g_mks{l:List (Go.Vse.Op×Nat)}{es b:Nat}{z:List F}{x y:A}:wpG pr L ((⟨dst,none,.mks es b z x y⟩,mask)::l) s Q↔oB (((O.mks es b z x y).res (zab s.tm)).bind (opv s.h.get s.c)) fun r=>zay r.c r.wr=true/\ckG mask L (.n r.rd (r.wr.map (·.1)))/\wpG pr (L++[.n r.rd (r.wr.map (·.1))]) l (s.ae dst r.d r.wr r.c) Q:=zcH rfl
def g_slc{l:List (Go.Vse.Op×Nat)}{es:Nat}{x:A}{lo hi mx:Option A}:wpG pr L ((⟨dst,none,.slc es x lo hi mx⟩,mask)::l) s Q↔oB (((O.slc es x lo hi mx).res (zab s.tm)).bind (opv s.h.get s.c)) fun r=>zay r.c r.wr=true/\ckG mask L (.n r.rd (r.wr.map (·.1)))/\wpG pr (L++[.n r.rd (r.wr.map (·.1))]) l (s.ae dst r.d r.wr r.c) Q:=zcH rfl
def g_fa{l:List (Go.Vse.Op×Nat)}{off:Nat}{x:A}:wpG pr L ((⟨dst,none,.fa off x⟩,mask)::l) s Q↔oB (((O.fa off x).res (zab s.tm)).bind (opv s.h.get s.c)) fun r=>zay r.c r.wr=true/\ckG mask L (.n r.rd (r.wr.map (·.1)))/\wpG pr (L++[.n r.rd (r.wr.map (·.1))]) l (s.ae dst r.d r.wr r.c) Q:=zcH rfl
def g_fld{l:List (Go.Vse.Op×Nat)}{g:Bool}{off n:Nat}{x:A}:wpG pr L ((⟨dst,none,.fld g off n x⟩,mask)::l) s Q↔oB (((O.fld g off n x).res (zab s.tm)).bind (opv s.h.get s.c)) fun r=>zay r.c r.wr=true/\ckG mask L (.n r.rd (r.wr.map (·.1)))/\wpG pr (L++[.n r.rd (r.wr.map (·.1))]) l (s.ae dst r.d r.wr r.c) Q:=zcH rfl
def g_ia{l:List (Go.Vse.Op×Nat)}{es:Nat}{x i:A}:wpG pr L ((⟨dst,none,.ia es x i⟩,mask)::l) s Q↔oB (((O.ia es x i).res (zab s.tm)).bind (opv s.h.get s.c)) fun r=>zay r.c r.wr=true/\ckG mask L (.n r.rd (r.wr.map (·.1)))/\wpG pr (L++[.n r.rd (r.wr.map (·.1))]) l (s.ae dst r.d r.wr r.c) Q:=zcH rfl
def g_ext{l:List (Go.Vse.Op×Nat)}{i:Nat}{x:A}:wpG pr L ((⟨dst,none,.ext x i⟩,mask)::l) s Q↔oB (((O.ext x i).res (zab s.tm)).bind (opv s.h.get s.c)) fun r=>zay r.c r.wr=true/\ckG mask L (.n r.rd (r.wr.map (·.1)))/\wpG pr (L++[.n r.rd (r.wr.map (·.1))]) l (s.ae dst r.d r.wr r.c) Q:=zcH rfl
def g_app{l:List (Go.Vse.Op×Nat)}{es b:Nat}{x y:A}:wpG pr L ((⟨dst,none,.app es b x y⟩,mask)::l) s Q↔oB (((O.app es b x y).res (zab s.tm)).bind (opv s.h.get s.c)) fun r=>zay r.c r.wr=true/\ckG mask L (.n r.rd (r.wr.map (·.1)))/\wpG pr (L++[.n r.rd (r.wr.map (·.1))]) l (s.ae dst r.d r.wr r.c) Q:=zcH rfl
def g_len{l:List (Go.Vse.Op×Nat)}{x:A}:wpG pr L ((⟨dst,none,.len x⟩,mask)::l) s Q↔oB (((O.len x).res (zab s.tm)).bind (opv s.h.get s.c)) fun r=>zay r.c r.wr=true/\ckG mask L (.n r.rd (r.wr.map (·.1)))/\wpG pr (L++[.n r.rd (r.wr.map (·.1))]) l (s.ae dst r.d r.wr r.c) Q:=zcH rfl
def g_mm{l:List (Go.Vse.Op×Nat)}{mx:Bool}{x y:A}:wpG pr L ((⟨dst,none,.mm mx x y⟩,mask)::l) s Q↔oB (((O.mm mx x y).res (zab s.tm)).bind (opv s.h.get s.c)) fun r=>zay r.c r.wr=true/\ckG mask L (.n r.rd (r.wr.map (·.1)))/\wpG pr (L++[.n r.rd (r.wr.map (·.1))]) l (s.ae dst r.d r.wr r.c) Q:=zcH rfl
def g_mmk{l:List (Go.Vse.Op×Nat)}:wpG pr L ((⟨dst,none,.mmk⟩,mask)::l) s Q↔oB (((O.mmk).res (zab s.tm)).bind (opv s.h.get s.c)) fun r=>zay r.c r.wr=true/\ckG mask L (.n r.rd (r.wr.map (·.1)))/\wpG pr (L++[.n r.rd (r.wr.map (·.1))]) l (s.ae dst r.d r.wr r.c) Q:=zcH rfl
def g_mup{l:List (Go.Vse.Op×Nat)}{kd:Nat}{m k v:A}:wpG pr L ((⟨dst,none,.mup kd m k v⟩,mask)::l) s Q↔oB (((O.mup kd m k v).res (zab s.tm)).bind (opv s.h.get s.c)) fun r=>zay r.c r.wr=true/\ckG mask L (.n r.rd (r.wr.map (·.1)))/\wpG pr (L++[.n r.rd (r.wr.map (·.1))]) l (s.ae dst r.d r.wr r.c) Q:=zcH rfl
def g_mlk{l:List (Go.Vse.Op×Nat)}{kd:Nat}{z:F}{ok:Bool}{m k:A}:wpG pr L ((⟨dst,none,.mlk kd z ok m k⟩,mask)::l) s Q↔oB (((O.mlk kd z ok m k).res (zab s.tm)).bind (opv s.h.get s.c)) fun r=>zay r.c r.wr=true/\ckG mask L (.n r.rd (r.wr.map (·.1)))/\wpG pr (L++[.n r.rd (r.wr.map (·.1))]) l (s.ae dst r.d r.wr r.c) Q:=zcH rfl
def g_clr{l:List (Go.Vse.Op×Nat)}{es:Nat}{z:List F}{x:A}:wpG pr L ((⟨dst,none,.clr es z x⟩,mask)::l) s Q↔oB (((O.clr es z x).res (zab s.tm)).bind (opv s.h.get s.c)) fun r=>zay r.c r.wr=true/\ckG mask L (.n r.rd (r.wr.map (·.1)))/\wpG pr (L++[.n r.rd (r.wr.map (·.1))]) l (s.ae dst r.d r.wr r.c) Q:=zcH rfl
def g_mkf{l:List (Go.Vse.Op×Nat)}{f:Nat}{a b:List A}:wpG pr L ((⟨dst,none,.mkf f a b⟩,mask)::l) s Q↔oB (((O.mkf f a b).res (zab s.tm)).bind (opv s.h.get s.c)) fun r=>zay r.c r.wr=true/\ckG mask L (.n r.rd (r.wr.map (·.1)))/\wpG pr (L++[.n r.rd (r.wr.map (·.1))]) l (s.ae dst r.d r.wr r.c) Q:=zcH rfl
def e_box{l:List (Go.Vse.Op×Nat)}{L:List (List Nat×List Nat)}{x:A}:wpE pr L ((⟨dst,none,.box x⟩,mask)::l) s Q↔oB (((O.box x).res (zab s.tm)).bind (opv s.h.get s.c)) fun r=>zay r.c r.wr=true/\zc1 mask L r.rd (r.wr.map (·.1))/\wpE pr (L++[(r.rd,r.wr.map (·.1))]) l (s.ae dst r.d r.wr r.c) Q:=zcG rfl
def zoW{l:List Go.Vse.Op}{x:A}:wpO pr (⟨dst,none,.nck x⟩ ::l) s Q↔oB (((O.nck x).res (zab s.tm)).bind (opv s.h.get s.c)) fun r=>zay r.c r.wr=true/\wpO pr l (s.aft dst r.d r.wr r.c) Q:=zdq rfl
def zgV{l:List (Go.Vse.Op×Nat)}{L:List (List Nat×List Nat)}{x:A}:wpE pr L ((⟨dst,none,.nck x⟩,mask)::l) s Q↔oB (((O.nck x).res (zab s.tm)).bind (opv s.h.get s.c)) fun r=>zay r.c r.wr=true/\zc1 mask L r.rd (r.wr.map (·.1))/\wpE pr (L++[(r.rd,r.wr.map (·.1))]) l (s.ae dst r.d r.wr r.c) Q:=zcG rfl
def o_mmk{l:List Go.Vse.Op}:wpO pr (⟨dst,none,.mmk⟩ ::l) s Q↔oB (((O.mmk).res (zab s.tm)).bind (opv s.h.get s.c)) fun r=>zay r.c r.wr=true/\wpO pr l (s.aft dst r.d r.wr r.c) Q:=zdq rfl
def e_mmk{l:List (Go.Vse.Op×Nat)}{L:List (List Nat×List Nat)}:wpE pr L ((⟨dst,none,.mmk⟩,mask)::l) s Q↔oB (((O.mmk).res (zab s.tm)).bind (opv s.h.get s.c)) fun r=>zay r.c r.wr=true/\zc1 mask L r.rd (r.wr.map (·.1))/\wpE pr (L++[(r.rd,r.wr.map (·.1))]) l (s.ae dst r.d r.wr r.c) Q:=zcG rfl
def o_mup{l:List Go.Vse.Op}{kd:Nat}{m k v:A}:wpO pr (⟨dst,none,.mup kd m k v⟩ ::l) s Q↔oB (((O.mup kd m k v).res (zab s.tm)).bind (opv s.h.get s.c)) fun r=>zay r.c r.wr=true/\wpO pr l (s.aft dst r.d r.wr r.c) Q:=zdq rfl
def e_mup{l:List (Go.Vse.Op×Nat)}{L:List (List Nat×List Nat)}{kd:Nat}{m k v:A}:wpE pr L ((⟨dst,none,.mup kd m k v⟩,mask)::l) s Q↔oB (((O.mup kd m k v).res (zab s.tm)).bind (opv s.h.get s.c)) fun r=>zay r.c r.wr=true/\zc1 mask L r.rd (r.wr.map (·.1))/\wpE pr (L++[(r.rd,r.wr.map (·.1))]) l (s.ae dst r.d r.wr r.c) Q:=zcG rfl
def o_mlk{l:List Go.Vse.Op}{kd:Nat}{z:F}{ok:Bool}{m k:A}:wpO pr (⟨dst,none,.mlk kd z ok m k⟩ ::l) s Q↔oB (((O.mlk kd z ok m k).res (zab s.tm)).bind (opv s.h.get s.c)) fun r=>zay r.c r.wr=true/\wpO pr l (s.aft dst r.d r.wr r.c) Q:=zdq rfl
def e_mlk{l:List (Go.Vse.Op×Nat)}{L:List (List Nat×List Nat)}{kd:Nat}{z:F}{ok:Bool}{m k:A}:wpE pr L ((⟨dst,none,.mlk kd z ok m k⟩,mask)::l) s Q↔oB (((O.mlk kd z ok m k).res (zab s.tm)).bind (opv s.h.get s.c)) fun r=>zay r.c r.wr=true/\zc1 mask L r.rd (r.wr.map (·.1))/\wpE pr (L++[(r.rd,r.wr.map (·.1))]) l (s.ae dst r.d r.wr r.c) Q:=zcG rfl
def o_clr{l:List Go.Vse.Op}{es:Nat}{z:List F}{x:A}:wpO pr (⟨dst,none,.clr es z x⟩ ::l) s Q↔oB (((O.clr es z x).res (zab s.tm)).bind (opv s.h.get s.c)) fun r=>zay r.c r.wr=true/\wpO pr l (s.aft dst r.d r.wr r.c) Q:=zdq rfl
end
omit [Globs]in
section
def rs_mv(f:A->Option D)(x:A):O.res f (.mv x)=(f x).bind fun x=>some (.mv x):=rfl
def zMp(f:A->Option D)(q x y:A):O.res f (.pick q x y)=(f q).bind fun q=>(f x).bind fun x=>(f y).bind fun y=>some (.pick q x y):=rfl
def zQu(f:A->Option D)(cs:List F):O.res f (.new cs)=some (.new cs):=rfl
def zQd(f:A->Option D)(x:A):O.res f (.box x)=(f x).bind fun x=>some (.box x):=rfl
def rs_ld(f:A->Option D)(g:Bool)(n:Nat)(x:A):O.res f (.ld g n x)=(f x).bind fun x=>some (.ld g n x):=rfl
def rs_st(f:A->Option D)(n:Nat)(x v:A):O.res f (.st n x v)=(f x).bind fun x=>(f v).bind fun v=>some (.st n x v):=rfl
def zfU(f:A->Option D)(x:A):O.res f (.nck x)=(f x).bind fun x=>some (.nck x):=rfl
def zQc(f:A->Option D)(op:BinOp)(x y:A):O.res f (.bin op x y)=(f x).bind fun x=>(f y).bind fun y=>some (.bin op x y):=rfl
def rs_fa(f:A->Option D)(o:Nat)(x:A):O.res f (.fa o x)=(f x).bind fun x=>some (.fa o x):=rfl
def rs_ia(f:A->Option D)(es:Nat)(x i:A):O.res f (.ia es x i)=(f x).bind fun x=>(f i).bind fun i=>some (.ia es x i):=rfl
def zQg(f:A->Option D)(x:A):O.res f (.len x)=(f x).bind fun x=>some (.len x):=rfl
def zQs(f:A->Option D):O.res f (.mmk)=some (.mmk):=rfl
def zQt(f:A->Option D)(kd:Nat)(m k v:A):O.res f (.mup kd m k v)=(f m).bind fun m=>(f k).bind fun k=>(f v).bind fun v=>some (.mup kd m k v):=rfl
def zQo(f:A->Option D)(kd:Nat)(z:F)(ok:Bool)(m k:A):O.res f (.mlk kd z ok m k)=(f m).bind fun m=>(f k).bind fun k=>some (.mlk kd z ok m k):=rfl
def zQf(f:A->Option D)(es:Nat)(z:List F)(x:A):O.res f (.clr es z x)=(f x).bind fun x=>some (.clr es z x):=rfl
def zQi(f:A->Option D)(g:Nat)(a b:List A):O.res f (.mkf g a b)=(zaw f a).bind fun a=>(zaw f b).bind fun b=>some (.mkf g a b):=rfl
end
def v_mv(h:Nat->Option Ob)(c:Nat)(d:D):opv h c (.mv d)=some {d,c}:=rfl
def zQ9(h:Nat->Option Ob)(c:Nat)(b:Bool)(x y:D):opv h c (.pick (.f (.b b)) x y)=some {d:=if b then x else y,c}:=rfl
def v_new(h:Nat->Option Ob)(c:Nat)(cs:List F):opv h c (.new cs)=some {d:= .ptr c cs.length 0 0,wr:=[(c,some (.arr cs.length 0 [cs.map D.f]))],c:=c+1}:=rfl
def v_box(h:Nat->Option Ob)(c:Nat)(x:D):opv h c (.box x)=om x.cells fun cs=>some {d:= .ptr c cs.length 0 0,wr:=[(c,some (.arr cs.length 0 [cs]))],c:=c+1}:=by
 simp only[opv,om];cases x.cells<;>rfl
def v_ld(h:Nat->Option Ob)(c:Nat)(g:Bool)(n:Nat)(x:D):opv h c (.ld g n x)=om (zca g n h x) fun p=>some {d:=p.1,rd:=p.2,c}:=by
 simp only[opv,om];cases zca g n h x<;>rfl
def v_st(h:Nat->Option Ob)(c:Nat)(n:Nat)(x v:D):opv h c (.st n x v)=om (zeb n h x v) fun p=>some {d:= .f .un,rd:=[p.1],wr:=[(p.1,some p.2)],c}:=by
 simp only[opv,om];cases zeb n h x v<;>rfl
def zNn(h:Nat->Option Ob)(c a b e f:Nat):opv h c (.nck (.ptr a b e f))=some {d:= .ptr a b e f,c}:=rfl
def v_bin(h:Nat->Option Ob)(c:Nat)(op:BinOp)(x y:F):opv h c (.bin op (.f x) (.f y))=om (zbB op x y) fun z=>some {d:= .f z,c}:=by
 simp only[opv,om];cases zbB op x y<;>rfl
def v_fa(h:Nat->Option Ob)(c o:Nat)(x:D):opv h c (.fa o x)=om (faB o x) fun d=>some {d,c}:=by
 simp only[opv,om];cases x with
 |f y=>cases y<;>rfl
 |_=>rfl
def v_ia(h:Nat->Option Ob)(c es:Nat)(x i:D):opv h c (.ia es x i)=om (zbY i) fun n=>om (iaB es x n) fun d=>some {d,c}:=by
 simp only[opv,om,okD];cases zbY i with
 |none=>rfl
 |some n=>
  simp only[Z46];cases x with
  |f y=>
   cases y with
   |sl e l=>
    simp only[iaB];split
    .cases l[n]? <;>rfl
    .rfl
   |_=>rfl
  |sl id off m e lim ex=>simp only[iaB];split<;>rfl
  |_=>rfl
def v_len(h:Nat->Option Ob)(c:Nat)(x:D):opv h c (.len x)=om (zcx x) fun n=>some {d:= .f (.i .i64 n),c}:=by
 simp only[opv,om];cases zcx x<;>rfl
def v_mmk(h:Nat->Option Ob)(c:Nat):opv h c .mmk=some {d:= .mp c,wr:=[(c,some (.map []))],c:=c+1}:=rfl
def zJS(h:Nat->Option Ob)(c:Nat)(z:List F)(ps:List (Nat×Nat×D)):opv h c (.bld z ps)=om (zdw (z.map D.f) ps) fun cs=>some {d:= .ag cs,c}:=by
 simp only[opv,om];cases zdw (z.map D.f) ps<;>rfl
theorem v_mks(h:Nat->Option Ob)(c es byt:Nat)(z:List F)(l m:D):opv h c (.mks es byt z l m)=om (zbY l) fun l=>om (zbY m) fun m=>if l<=m/\m<=zak/\m*byt<=zak then
    some {d:= .sl c 0 l es m true,wr:=[(c,some (.arr es 0 (List.replicate m (z.map D.f))))],c:=c+1} else none:=by
 simp only[opv,om];cases zbY l with
 |none=>rfl
 |some a=>cases zbY m<;>rfl
def upM(id:Nat)(kd:Nat)(k:F)(v:D)(c:Nat)(ents:List (F×D)):Option (Option (Nat×D))->Option Rs
 |some (some (i,_))=>some {d:= .f .un,rd:=[id],wr:=[(id,some (.map (ents.set i (k,v))))],c}
 |some none=>some {d:= .f .un,rd:=[id],wr:=[(id,some (.map (ents++[(k,v)])))],c}
 |none=>none
def up_s{id kd i:Nat}{k:F}{v w:D}{c:Nat}{ents:List (F×D)}:upM id kd k v c ents (some (some (i,w)))=some {d:= .f .un,rd:=[id],wr:=[(id,some (.map (ents.set i (k,v))))],c}:=rfl
def up_n{id kd:Nat}{k:F}{v:D}{c:Nat}{ents:List (F×D)}:upM id kd k v c ents (some none)=some {d:= .f .un,rd:=[id],wr:=[(id,some (.map (ents++[(k,v)])))],c}:=rfl
def upO(id kd:Nat)(k:F)(v:D)(c:Nat):Ob->Option Rs
 | .map ents=>if zfy kd k=true then upM id kd k v c ents (zeF kd k ents 0)else none
 |_=>none
def upO_m{id kd:Nat}{k:F}{v:D}{c:Nat}{ents:List (F×D)}:upO id kd k v c (.map ents)=if zfy kd k=true then upM id kd k v c ents (zeF kd k ents 0)else none:=rfl
def v_mup(h:Nat->Option Ob)(c kd id:Nat)(k:F)(v:D):opv h c (.mup kd (.mp id) (.f k) v)=om (h id) (upO id kd k v c):=by
 simp only[opv,om];cases h id with
 |none=>rfl
 |some o=>
  cases o with
  |arr=>rfl
  |map ents=>
   simp only[Z46,upO];split
   .cases zeF kd k ents 0 with
    |none=>rfl
    |some x=>cases x with
     |none=>rfl
     |some y=>rfl
   .rfl
def lkM(id:Nat)(z:F)(ok:Bool)(c:Nat):Option (Option (Nat×D))->Option Rs
 |some (some (_,v))=>some {d:=if ok then .tu [v,.f (.b true)]else v,rd:=[id],c}
 |some none=>some {d:=if ok then .tu [z.d,.f (.b false)]else z.d,rd:=[id],c}
 |none=>none
def lk_s{id i:Nat}{z:F}{ok:Bool}{c:Nat}{v:D}:lkM id z ok c (some (some (i,v)))=some {d:=if ok then .tu [v,.f (.b true)]else v,rd:=[id],c}:=rfl
def lk_n{id:Nat}{z:F}{ok:Bool}{c:Nat}:lkM id z ok c (some none)=some {d:=if ok then .tu [z.d,.f (.b false)]else z.d,rd:=[id],c}:=rfl
def lkO(id kd:Nat)(z:F)(ok:Bool)(k:F)(c:Nat):Ob->Option Rs
 | .map ents=>if zfy kd k=true then lkM id z ok c (zeF kd k ents 0)else none
 |_=>none
def lkO_m{id kd:Nat}{z:F}{ok:Bool}{k:F}{c:Nat}{ents:List (F×D)}:lkO id kd z ok k c (.map ents)=if zfy kd k=true then lkM id z ok c (zeF kd k ents 0)else none:=rfl
def v_mlk(h:Nat->Option Ob)(c kd id:Nat)(z:F)(ok:Bool)(k:F):opv h c (.mlk kd z ok (.mp id) (.f k))=om (h id) (lkO id kd z ok k c):=by
 simp only[opv,om];cases h id with
 |none=>simp
 |some o=>
  cases o with
  |arr=>simp[lkO]
  |map ents=>
   simp only[Z46,lkO];split
   .cases zeF kd k ents 0 with
    |none=>rfl
    |some x=>cases x with
     |none=>rfl
     |some y=>rfl
   .rfl
def sk_s(x:List UInt8):zfy 1 (.s x)=true:=rfl
def sk_i(k:IntKind)(x:Int):zfy 0 (.i k x)=true:=rfl
def ce_mp(x:Nat):(D.mp x).cells=some [.mp x]:=rfl
def ce_fn(x:Nat)(a b:List D):(D.fn x a b).cells=some [.fn x a b]:=rfl
def zKH:(D.f .nilf).cells=some [.f .nilf]:=rfl
def zKI:(D.f .nilp).cells=some [.f .nilp]:=rfl
def zOH(n:Nat):(D.f (.fn n)).cells=some [.f (.fn n)]:=rfl
def zOV:(F.nilp).d= .f .nilp:=rfl
def zOT:(F.nilf).d= .f .nilf:=rfl
def d_fn(n:Nat):(F.fn n).d= .f (.fn n):=rfl
def zOU:(F.nilm).d= .f .nilm:=rfl
def h8_mp(a:Nat)(l:List (List D)):hd8 ([.mp a]::l)=false:=rfl
def h8_fn(x:Nat)(a b:List D)(l:List (List D)):hd8 ([.fn x a b]::l)=false:=rfl
def zLK(l:List (List D)):hd8 ([.f .nilf]::l)=false:=rfl
def zLL(l:List (List D)):hd8 ([.f .nilp]::l)=false:=rfl
def Frm(h h':T Ob)(c:Nat):Prop:=∀id,id<c->h'.get id=h.get id
def D.oid:D->Option Nat
 | .sl id _ _ _ _ _=>some id
 |_=>none
def zBJ(a b c d e:Nat)(x:Bool):(D.sl a b c d e x).oid=some a:=rfl
def oid_f(x:F):(D.f x).oid=none:=rfl
def if_sl(a b c d e:Nat)(x:Bool):(D.sl a b c d e x).isF=false:=rfl
def if_f(x:F):(D.f x).isF=true:=rfl
def zPt(a b c d:Nat):(D.ptr a b c d).isF=false:=rfl
def if_ag(l:List D):(D.ag l).isF=D.zhT l:=rfl
def if_tu(l:List D):(D.tu l).isF=D.zhT l:=rfl
def if_n:D.zhT []=true:=rfl
def if_c(d:D)(l:List D):D.zhT (d::l)=(d.isF&&D.zhT l):=rfl
def Gro(h:T Ob)(lo c es:Nat)(d:D)(els:List (List D)):Prop:=
 (d= .f .nils/\els=[])\/∃id ro,d= .sl id 0 els.length es els.length false/\els≠[]/\h.get id=some (.arr es ro els)/\ro<=els.length/\lo<=id/\id<c
omit [Globs]in
def Gro.nil{h:T Ob}{lo c es:Nat}:Gro h lo c es (.f .nils) []:= .inl ⟨rfl,rfl⟩
omit [Globs]in
omit [Globs]in
def zaS{h h':T Ob}{lo c c' es:Nat}{d:D}{els:List (List D)}(hg:Gro h lo c es d els)(hc:c<=c')(hh:∀id,lo<=id->id<c->h'.get id=h.get id):Gro h' lo c' es d els:=by
 rcases hg with h|⟨id,ro,h1,h2,h3,h4,h5,h6⟩
 .exact .inl h
 .exact .inr ⟨id,ro,h1,h2,by rw[hh id h5 h6];exact h3,h4,h5,by omega⟩
omit [Globs]in
def za3{h:T Ob}{lo c es:Nat}{d:D}{els:List (List D)}(hg:Gro h lo c es d els):d.cells=some [d]:=by
 rcases hg with⟨rfl,_⟩ |⟨id,ro,rfl,_⟩ <;>rfl
omit [Globs]in
def zmr{h:T Ob}{lo c es:Nat}{d:D}{els:List (List D)}(hg:Gro h lo c es d els):zcx d=some els.length:=by
 rcases hg with⟨rfl,rfl⟩ |⟨id,ro,rfl,_⟩ <;>rfl
theorem zpU{h:T Ob}{lo c es byt:Nat}{d:D}{els new:List (List D)}{rd:List Nat}(hg:Gro h lo c es d els)(hlo:lo<=c)(hlen:els.length+new.length<=1000000)(hb:byt<=1000):
  ∃r,zb6 es byt h.get c d new rd=some r/\zay r.c r.wr=true/\Gro (wrT h r.wr) lo r.c es r.d (els++new)/\c<=r.c/\(∀id,id<c->d.oid≠some id->(wrT h r.wr).get id=h.get id)/\
   (∀x,x∈r.wr.map (·.1)->x=c\/d.oid=some x)/\(∀x,x∈r.rd->x∈rd\/d.oid=some x)/\(∀x,r.d.oid=some x->x=c\/d.oid=some x):=by
 have hm:∀n,n<=1000000->n<=zak:=fun n hn=>by have:=zaV (n:=n) (by omega);simpa using this
 have hmb:∀n,n<=1000000->n*byt<=zak:=fun n hn=>by
  have:n*byt<=1000000*1000:=Nat.mul_le_mul hn hb;have h2:=zaV (n:=n*byt) (by omega);simpa using h2
 by_cases h0:new.length=0
 .have hn:new=[]:=Z17.1 h0;subst hn;rcases hg with⟨rfl,rfl⟩ |⟨id,ro,rfl,he,ho,hr,hl,hc⟩
  .exact⟨{d:= .f .nils,rd,c},by rw[zid];simp,rfl,.inl ⟨rfl,rfl⟩,Z2 _,fun _ _ _=>rfl,by simp,fun x hx=> .inl hx,by simp[D.oid]⟩
  .exact⟨{d:= .sl id 0 els.length es els.length false,rd,c},by rw[zl2];simp,rfl,.inr ⟨id,ro,by simp,by simpa using he,by simpa [wrT]using ho,by simpa using hr,hl,hc⟩,Z2 _,fun _ _ _=>rfl,by simp,fun x hx=> .inl hx,fun x hx=> .inr hx⟩
 .rcases hg with⟨rfl,rfl⟩ |⟨id,ro,rfl,he,ho,hr,hl,hc⟩
  .refine⟨{d:= .sl c 0 new.length es new.length false,rd,wr:=[(c,some (.arr es 0 new))],c:=c+1},?_,?_,.inr ⟨c,0,rfl,?_,?_,Nat.zero_le _,hlo,by simp⟩,by simp,?_,by simp,fun x hx=> .inl hx,by simp[D.oid]⟩
   .rw[zid,if_neg h0,if_pos ⟨hm _ (by simpa using hlen),hmb _ (by simpa using hlen)⟩]
   .simp[zay,Nat.blt_eq]
   .simpa using fun e=>h0 (by simp[e])
   .simp[wrT,T.zad]
   .intro i hi _;have:i≠c:=by omega
    simp[wrT,T.zad,this]
  .refine⟨{d:= .sl c 0 (els.length+new.length) es (els.length+new.length) false,rd:=id::rd,wr:=[(id,none),(c,some (.arr es ro (els++new)))],c:=c+1},?_,?_,.inr ⟨c,ro,by simp,?_,?_,by simp;omega,hlo,by simp⟩,by simp,?_,?_,?_,by simp[D.oid]⟩
   .rw[zl2,if_neg h0,ho];have h1:¬(0+els.length+new.length<=els.length):=by omega
    have h2:=hm (els.length+new.length) hlen;have h3:=hmb (els.length+new.length) hlen;simp[om,apO,h1,h2,h3,hr];omega
   .simp[zay,Nat.blt_eq];omega
   .simp[he]
   .simp[wrT,T.zad]
   .intro i hi hne;have h1:i≠c:=by omega
    have h2:i≠id:=fun e=>hne (by rw[e];rfl)
    simp[wrT,T.zad,T.zgC,h1,h2]
   .intro x hx;simp only[Z10,List.map_nil,Z5,List.not_mem_nil,or_false]at hx;rcases hx with rfl|rfl
    .exact .inr rfl
    .exact .inl rfl
   .intro x hx;rcases Z5.1 hx with rfl|hx
    .exact .inr rfl
    .exact .inl hx
theorem zA3{h:T Ob}{lo c es byt:Nat}{d:D}{els new:List (List D)}{rd:List Nat}{K:Rs->Prop}(hg:Gro h lo c es d els)(hlo:lo<=c)(hlen:els.length+new.length<=1000000)(hb:byt<=1000)
  (hK:∀r:Rs,zay r.c r.wr=true->Gro (wrT h r.wr) lo r.c es r.d (els++new)->c<=r.c->(∀id,id<c->d.oid≠some id->(wrT h r.wr).get id=h.get id)->(∀x,x∈r.wr.map (·.1)->x=c\/d.oid=some x)->(∀x,x∈r.rd->x∈rd\/d.oid=some x)->K r):oB (zb6 es byt h.get c d new rd) K:=by
 obtain⟨r,h1,h2,h3,h4,h5,h6,h7,_⟩ :=zpU (byt:=byt) (rd:=rd) hg hlo hlen hb;rw[h1];exact hK r h2 h3 h4 h5 h6 h7
def rulI [Globs]:=
 (qI @g_mv (qI @zPn (qI @g_new (qI @g_box (qI @g_bld (qI @g_bsl (qI @g_bsf (qI @g_ld (qI @g_st (qI @g_nck (qI @g_bin (qI @g_eqb (qI @g_eqn (qI @g_eqa (qI @g_un (qI @g_cvi (qI @g_mks (qI @g_slc (qI @g_fa (qI @g_fld (qI @g_ia (qI @g_ext (qI @g_app (qI @g_len (qI @g_mm (qI @g_mmk (qI @g_mup (qI @g_mlk (qI @g_clr (qI @g_mkf (qI @e_box (qI @zoW (qI @zgV (qI @o_mmk (qI @e_mmk (qI @o_mup (qI @e_mup (qI @o_mlk (qI @e_mlk (qI @o_clr (qI @rs_mv (qI @zMp (qI @zQu (qI @zQd (qI @rs_ld (qI @rs_st (qI @zfU (qI @zQc (qI @rs_fa (qI @rs_ia (qI @zQg (qI @zQs (qI @zQt (qI @zQo (qI @zQf (qI @zQi (qI @zJM (qI @um_h (qI @um_c (qI @zJL (qI @zG8 (qI @ca_h (qI @ca_c (qI @zG6 (qI @zJK (qI @ug_h (qI @ug_c (qI @zJJ (qI @zHd (qI @cg_h (qI @cg_c (qI @zHc (qI @zcw (qI @zPv (qI @zLR (qI @cg_n (qI @zKJ (qI @c1_nn (qI @dj_n (qI @c1_rn (qI @c1_nr (qI @c1_qn (qI @c1_nq (qI @g_nil (qI @zLE (qI @g_call (qI @zLC (qI @zLB (qI @v_mv (qI @zQ9 (qI @v_new (qI @v_box (qI @v_ld (qI @v_st (qI @zNn (qI @v_bin (qI @v_fa (qI @v_ia (qI @v_len (qI @v_mmk (qI @zJS (qI @v_mks (qI @up_s (qI @up_n (qI @upO_m (qI @v_mup (qI @lk_s (qI @lk_n (qI @lkO_m (qI @v_mlk (qI @sk_s (qI @sk_i (qI @ce_mp (qI @ce_fn (qI @zKH (qI @zKI (qI @zOH (qI @zOV (qI @zOT (qI @d_fn (qI @zOU (qI @h8_mp (qI @h8_fn (qI @zLK (qI @zLL (qI @zBJ (qI @oid_f (qI @if_sl (qI @if_f (qI @zPt (qI @if_ag (qI @if_tu (qI @if_n (qI @if_c True.intro))))))))))))))))))))))))))))))))))))))))))))))))))))))))))))))))))))))))))))))))))))))))))))))))))))))))))))))))))))))))))))))))))))))
def rW [Globs]:=And.intro rulI rR
def rG [Globs]:=qI @zzF (qI @zF7 (qI @zF6 (qI @zzD (qI @zxF (qI @zDz (qI @zDy (qI @zxE (qI @zzq (qI @zFB (qI @zFA (qI @zzo (qI @zzJ (qI @zGc (qI @zGa (qI @zzI (qI @zsr (qI @zxI (qI @zxG (qI @zsp (qI @zJM (qI @um_h (qI @um_c (qI @zJL (qI @zJK (qI @ug_h (qI @ug_c (qI @zJJ (qI @zHd (qI @cg_h (qI @cg_c (qI @zHc (qI @zG8 (qI @ca_h (qI @ca_c (qI @zG6 (qI @zzS (qI @zzT (qI @zGl (@zcw)))))))))))))))))))))))))))))))))))))))
end Go.Vse
end
section
namespace Go.Vse
open Go.RowKit
open Go (BinOp IntKind UnOp)
set_option maxRecDepth 100000
set_option maxHeartbeats 4000000
variable [Globs]
section
variable {amb:Mu}{h:Hp}{ρ:Nat->Option Nat}{c:Nat->Prop}
theorem Sim.adopt{H H':Array Obj}(s:Sim amb H h ρ c){n:Nat}(hn:¬c n)(hsz:H.size<=H'.size)(hold:∀b,b<H.size->H'[b]? =H[b]?){b0:Nat}(h1:H.size<=b0)(h2:b0<H'.size)(ob:Ob)(W:Nat->Prop)
  (hob:zee H' (zat amb (upd h n (some ob)) (upd ρ n (some b0))) (upd ρ n (some b0)) (fun id=>c id\/id=n) b0 ob):
  Sim amb H' (upd h n (some ob)) (upd ρ n (some b0)) (fun id=>c id\/id=n)/\
  Evo amb W H h ρ c H' (upd h n (some ob)) (upd ρ n (some b0)) (fun id=>c id\/id=n):=by
 have hne:∀id,c id->id≠n:=fun id hid e=>hn (e▸hid)
 have hcell:∀b o v,zbz H b o=some v->zbz H' b o=some v:=by
  intro b o v hv;have:=zjT hv;unfold zbz at hv|-;rw[hold b this];exact hv
 have hkeep:Keep H (zat amb h ρ) ρ c H' (zat amb (upd h n (some ob)) (upd ρ n (some b0))) (upd ρ n (some b0)) (fun id=>c id\/id=n):=by
  refine⟨fun b i v hm hv=>⟨hcell b i v hv,?_⟩,fun id b hid hb=> ?_,fun b x hx=> ?_,fun _ h=> .inl h⟩
  .rintro (hx|⟨id,ob',ho,hr,hq⟩)
   .exact hm (.inl hx)
   .by_cases hid:id=n
    .subst hid;simp at hr;have:=zjT hv;omega
    .rw[upd_ne _ _ _ hid]at ho hr;exact hm (.inr ⟨id,ob',ho,hr,hq⟩)
  .rw[upd_ne _ _ _ (hne id hid)]at hb;exact hb
  .have hb:b<H.size:=by
    rcases Nat.lt_or_ge b H.size with h'|h'
    .exact h'
    .unfold zcF at hx;rw[Array.getElem?_eq_none h']at hx;simp at hx
   unfold zcF at hx|-;rw[hold b hb];exact hx
 refine⟨⟨fun id ob' ho=> ?_,fun id b hr=> ?_,fun id id' b hr hr'=> ?_,fun id b i hr=> ?_,fun id ob' ho=> ?_,fun b i hb=> ?_,fun n cs hg=>zbr.keep hkeep.cell _ _ _ (s.glob n cs hg)⟩,
  ⟨hkeep,hsz,fun b hb hnb=>⟨hold b hb,fun id hid=> ?_⟩,fun id _ hid=> ?_,fun id hid hd=>by rw[upd_ne _ _ _ (hne id hid)];exact hd⟩⟩
 .by_cases hid:id=n
  .subst hid;simp at ho;subst ho;exact⟨b0,by simp,hob⟩
  .rw[upd_ne _ _ _ hid]at ho;obtain⟨b,hb,hr⟩ :=s.obj id ob' ho;exact⟨b,by rw[upd_ne _ _ _ hid];exact hb,hr.keep hkeep (hold b (s.dom id b hb).1)⟩
 .by_cases hid:id=n
  .subst hid;simp at hr;exact⟨by omega,ob,by simp⟩
  .rw[upd_ne _ _ _ hid]at hr;obtain⟨h1,ob',h2⟩ :=s.dom id b hr;exact⟨by omega,ob',by rw[upd_ne _ _ _ hid];exact h2⟩
 .by_cases hid:id=n<;>by_cases hid':id'=n
  .rw[hid,hid']
  .subst hid;rw[upd_ne _ _ _ hid']at hr';simp at hr;have:=(s.dom id' b hr').1;omega
  .subst hid';rw[upd_ne _ _ _ hid]at hr;simp at hr';have:=(s.dom id b hr).1;omega
  .rw[upd_ne _ _ _ hid]at hr;rw[upd_ne _ _ _ hid']at hr';exact s.inj id id' b hr hr'
 .by_cases hid:id=n
  .subst hid;simp at hr;intro ha;have:=s.amb b i ha;omega
  .rw[upd_ne _ _ _ hid]at hr;exact s.out id b i hr
 .by_cases hid:id=n
  .exact .inr hid
  .rw[upd_ne _ _ _ hid]at ho;exact .inl (s.lt id ob' ho)
 .have:=s.amb b i hb;omega
 .by_cases h':id=n
  .subst h';simp at hid;omega
  .rw[upd_ne _ _ _ h']at hid;exact hnb id hid
 .have hne:=hne id hid;refine⟨upd_ne _ _ _ hne,upd_ne _ _ _ hne,fun b hb=>hold b (s.dom id b hb).1⟩
end
section
variable {P:Program}
theorem zdG.frozen{f:Nat}{args:List D}{h:T Ob}{fs:List F}{rd:List Nat}{q:CR}(hq:zdG P f (F.dL fs) .e 0 q)(hfz:zcp h.get args=some (fs,rd))
  {amb:Mu}{ρ:Nat->Option Nat}{c:Nat->Prop}{w:World}{vs:List Value}(s:Sim amb w.heap h.get ρ c)(hargs:zav w.heap (zat amb h.get ρ) ρ c args vs):
  ∃g,g=zcc h.get (zax h.get rd)/\Sim amb w.heap g ρ c/\Evo amb (fun id=>id∈(zax h.get rd).map (·.1)) w.heap h.get ρ c w.heap g ρ c/\
   Calls P f ⟨vs⟩ w fun e w'=>∃v,e= .returned v/\Base w w'/\∃ρ',Rel w'.heap (zat (zat amb g ρ) q.h.get ρ') ρ' (UX (fun _=>False) 0 q.c) q.d v/\Sim (zat amb g ρ) w'.heap q.h.get ρ' (UX (fun _=>False) 0 q.c)/\
    w.heap.size<=w'.heap.size/\(∀b,b<w.heap.size->w'.heap[b]? =w.heap[b]?)/\∀id b,ρ' id=some b->w.heap.size<=b:=by
 obtain⟨hen,_,_,hcall⟩ :=hq;obtain⟨s1,e1,_,m1⟩ :=Sim.marks (h:=h.get) (fun id=>id∈(zax h.get rd).map (·.1)) rd h.get (fun _=> .inl rfl) s (fun p hp=>Z12.2 ⟨p,hp,rfl⟩);refine⟨_,rfl,s1,e1,?_⟩;generalize hg:zcc h.get (zax h.get rd)=g at s1 e1 m1;have hok:zfW amb h.get ρ rd (zat amb g ρ):=by
  refine⟨fun b o hm hx=> ?_,fun id hid es ro els b ho hb j hj hx=> ?_⟩
  .rcases hx with hx|⟨id,ob,h1,h2,h3⟩
   .exact hm (.inl hx)
   .obtain⟨_,ob0,h0⟩ :=s.dom id b h2;refine hm (.inr ⟨id,ob0,h0,h2,?_⟩)
    by_cases hW:id∈(zax h.get rd).map (·.1)
    .cases ob0 with
     |map e0=>trivial
     |arr es ro els=>
      rcases (Sim.marks (h:=h.get) (amb:=amb) (H:=w.heap) (ρ:=ρ) (c:=c) (fun _=>True) rd h.get (fun _=> .inl rfl) s (fun _ _=>trivial)).2.2.1 id with hh|⟨es',ro',els',k1,k2,k3⟩
      .rw[hg]at hh;rw[hh,h0]at h1;cases h1;exact h3
      .rw[hg,h1]at k3;rw[h0]at k1;cases k1;cases k3;exact Z3 (Z9 es (Nat.le_of_lt k2)) h3
    .have:=(e1.low id hW (s.lt id ob0 h0)).1;rw[this,h0]at h1;cases h1;exact h3
  .rcases hx with hx|⟨id',ob,h1,h2,h3⟩
   .exact s.out id b j hb hx
   .have hii:=s.inj id id' b hb h2;subst hii;obtain⟨ro',k1,k2⟩ :=m1 id (.inr hid) es ro els ho;rw[k1]at h1;cases h1;have:els.length*es<=j:=Z3 (Z9 es k2) h3;omega
 have hfl:zaX w.heap (zat amb g ρ) fs vs:=zgE (fun d x rd v=>zf0 s 12 d x rd v) args fs rd vs hfz hok hargs;have hsim0:Sim (zat amb g ρ) w.heap (T.e:T Ob).get (fun _=>none) (fun _=>False):=by
  rw[zhK];refine⟨fun id ob ho=>by simp at ho,fun id b hb=>by simp at hb,fun id id' b hb=>by simp at hb,fun id b i hb=>by simp at hb,fun id ob ho=>by simp at ho,fun b i hx=> ?_,fun n cs hg=>by rw[zgO];exact s1.glob n cs hg⟩;rcases hx with hx|⟨id,ob,h1,h2,h3⟩
  .exact s1.amb b i hx
  .exact (s1.dom id b h2).1
 have hc0:=hcall (zat amb g ρ) (fun _=>none) (fun _=>False) w vs hsim0 (fun _ _ _ hx=>hx) (by rw[zhK,zgO];exact zaX.dL fs vs hfl);refine hc0.mono fun e w' ⟨v,he,hb,ρ',k1,k2,k3⟩ =>⟨v,he,hb,ρ',k1,k2,k3.size,fun b hlt=>(k3.blk b hlt (fun id=>by simp)).1,fun id b hx=> ?_⟩
 rcases Nat.lt_or_ge b w.heap.size with hlt|hge
 .exact absurd hx ((k3.blk b hlt (fun id=>by simp)).2 id)
 .exact hge
theorem ztm{f:D->Option (F×List Nat)}:∀{ds:List D} {xs:List F} {rd:List Nat},za7 f ds=some (xs,rd)->
  ∀(i:Nat) x,xs[i]? =some x->∃d r,ds[i]? =some d/\f d=some (x,r)/\∀id∈r,id∈rd
 |[],xs,rd,hm=>by simp[za7]at hm;rw[hm.1];simp
 |d::ds,xs,rd,hm=>by
  unfold za7 at hm;split at hm
  .simp at hm
  .rename_i x r hx;split at hm
   .simp at hm
   .rename_i m r' hm';simp at hm;obtain⟨rfl,rfl⟩ :=hm;intro i y hy;cases i with
    |zero=>simp at hy;subst hy;exact⟨d,r,rfl,hx,fun id hid=>by simp[hid]⟩
    |succ i=>
     obtain⟨d',r'',e1,e2,e3⟩ :=ztm hm' i y (by simpa using hy);exact⟨d',r'',by simpa using e1,e2,fun id hid=>by simp[e3 id hid]⟩
theorem ziC{h:Nat->Option Ob}:∀{rd:List Nat} {id:Nat},id∈(zax h rd).map (·.1)->id∈rd
 |[],id,hi=>by simp[zax]at hi
 |x::l,id,hi=>by
  unfold zax at hi;split at hi
  .split at hi
   .exact Z40 _ (ziC hi)
   .rcases Z5.1 hi with e|hi
    .exact Z5.2 (.inl e)
    .exact Z40 _ (ziC hi)
  .exact Z40 _ (ziC hi)
theorem zdG.thaw0{f:Nat}{args:List D}{h:T Ob}{n:Nat}{fs:List F}{rd:List Nat}{q:CR}(hq:zdG P f (F.dL fs) .e 0 q)(hfz:zcp h.get args=some (fs,rd))(hrd:∀x∈rd,x<n)
  {dX:D}{X:F}{rX:List Nat}(hd:q.d= .ag [dX,.f .nils])(hX:frz q.h.get 12 dX=some (X,rX)):zdG P f args h n (zi6 (wrT h (zax h.get rd)) n X []):=by
 refine⟨hq.1,Z2 _,Z2 _,fun amb ρ c w vs s hfree hargs=> ?_⟩;obtain⟨g,hg,s1,e1,hc⟩ :=hq.frozen hfz s hargs;refine hc.mono ?_;rintro e w' ⟨v,he,hb,ρ',k1,k2,hsz,hold,hge⟩;refine⟨v,he,hb,ρ,?_,?_,?_⟩
 .simp only[zi6,zdZ];rw[hd]at k1;simp only[Rel,zav]at k1;obtain⟨us,rfl,hone,v1,m1,e1',hr1,v2,m2,e2,hr2,e3⟩ :=k1;subst e1' e2 e3;simp only[Rel,zav,zas]at hr2|-;refine⟨_,rfl,hone,v1,_,rfl,?_,v2,_,rfl,hr2,rfl⟩;rw[zf5,<-hg];exact zf0 k2 12 dX X rX v1 hX ⟨fun b o hm hx=>hm (.inl hx),fun id _ es ro els b ho hb j _ hx=>k2.out id b j hb hx⟩ hr1
 .simp only[zi6,zdZ,zf5,<-hg];exact (s1.grown hsz hold (fun _=>True)).1
 .simp only[zi6,zdZ,zf5,<-hg];refine (e1.mono fun id _ hi=>⟨Nat.zero_le _,hrd id (ziC hi)⟩).trans (s1.grown hsz hold _).2
theorem zdG.thaw{f:Nat}{args:List D}{h:T Ob}{n:Nat}{fs:List F}{rd:List Nat}{q:CR}(hq:zdG P f (F.dL fs) .e 0 q)(hfz:zcp h.get args=some (fs,rd))(hrd:∀x∈rd,x<n)
  {dX:D}{X:F}{rX:List Nat}{id m lim:Nat}{ex:Bool}{els:List (List D)}{fl:List (List F)}{r2:List Nat}(hd:q.d= .ag [dX,.sl id 0 (m+1) 2 lim ex])(hX:frz q.h.get 12 dX=some (X,rX))
  (ho:q.h.get id=some (.arr 2 0 els))(hlen:els.length=m+1)(hfl:zaQ (frz q.h.get 12) els=some (fl,r2))(hid:id∉rX/\id∉r2):zdG P f args h n (zi6 (wrT h (zax h.get rd)) n X fl):=by
 obtain⟨hl1,hl2⟩ :=ziT hfl;have hfl1:fl.length=m+1:=by omega
 cases hfe:fl with
 |nil=>rw[hfe]at hfl1;simp at hfl1
 |cons a0 m0=>
 have hm0:m0.length+1=m+1:=by rw[<-hfl1,hfe];rfl
 rw[<-hfe];have hR:zi6 (wrT h (zax h.get rd)) n X fl=⟨.ag [.f X,.sl n 0 (m+1) 2 (m+1) false],(wrT h (zax h.get rd)).set n (.arr 2 0 (fD fl)),n+1,0,n+1⟩ :=by
  rw[hfe];simp only[zi6,hm0]
 rw[hR];refine⟨hq.1,Nat.le_succ _,Z2 _,fun amb ρ c w vs s hfree hargs=> ?_⟩;have hcn:¬c n:=hfree n (Z2 _) (Nat.lt_succ_self _);obtain⟨g,hg,s1,e1,hc⟩ :=hq.frozen hfz s hargs;refine hc.mono ?_;rintro e w' ⟨v,he,hb,ρ',k1,k2,hsz,hold,hge⟩;obtain⟨b,hb0,cs,elem,fr,c1,c2,c3,c4,c5⟩ :=k2.obj id _ ho;have hbl:b<w'.heap.size:=(k2.dom id b hb0).1;have hgeb:=hge id b hb0;have hh:((wrT h (zax h.get rd)).set n (Ob.arr 2 0 (fD fl))).get=upd g n (some (.arr 2 0 (fD fl))):=by
  funext i
  rw[T.zad,zf5,<-hg];unfold upd;rfl
 have hnf:∀j,zat amb (upd g n (some (.arr 2 0 (fD fl)))) (upd ρ n (some b)) b j->True:=fun _ _=>trivial
 have hmu:∀b' o,zat amb (upd g n (some (.arr 2 0 (fD fl)))) (upd ρ n (some b)) b' o->zat amb g ρ b' o\/b'=b:=by
  rintro b' o (hx|⟨i,ob,h1,h2,h3⟩)
  .exact .inl (.inl hx)
  .by_cases hi:i=n
   .subst hi;simp at h2;exact .inr h2.symm
   .rw[upd_ne _ _ _ hi]at h1 h2;exact .inl (.inr ⟨i,ob,h1,h2,h3⟩)
 have hfo:∀rd',id∉rd'->zfW (zat amb g ρ) q.h.get ρ' rd' (zat amb (upd g n (some (.arr 2 0 (fD fl)))) (upd ρ n (some b))):=by
  intro rd' hn;refine⟨fun b' o hm hx=> ?_,fun i hi es ro els' b' h1 h2 j hj hx=> ?_⟩
  .rcases hmu b' o hx with hx|rfl
   .exact hm (.inl hx)
   .refine hm (.inr ⟨id,_,ho,hb0,?_⟩);simp[Ob.mut]
  .rcases hmu b' j hx with hx|rfl
   .exact k2.out i b' j h2 hx
   .have:=k2.inj i id b' h2 hb0;subst this;exact hn hi
 have hob:zee w'.heap (zat amb (upd g n (some (.arr 2 0 (fD fl)))) (upd ρ n (some b))) (upd ρ n (some b)) (fun i=>c i\/i=n) b (.arr 2 0 (fD fl)):=by
  refine⟨cs,elem,fr,c1,⟨c2.1,fun hx=> ?_⟩,by unfold fD;simpa [hfl1,hlen]using c3,fun el hel=> ?_,fun i el hi j d hj=> ?_⟩
  .exfalso;have h8:=c2.2 hx;cases hels:els with
   |nil=>rw[hels]at hlen;simp at hlen
   |cons x0 xs=>
    have hx2:=c4 x0 (by rw[hels];simp);rw[hels]at h8;unfold hd8 at h8;split at h8
    .rename_i heq;simp at heq;rw[heq.1]at hx2;simp at hx2
    .simp at h8
  .unfold fD at hel;obtain⟨x,hx,rfl⟩ :=Z12.1 hel;obtain⟨i,hi,hxi⟩ :=List.getElem_of_mem hx;obtain⟨d,r,hd1,hd2,_⟩ :=hl2 i x (by rw[<-hxi];exact Z0 hi);have:=zlG hd2;have h4:=c4 d (Z39 hd1);simp;omega
  .unfold fD at hi;rw[Z36]at hi;obtain⟨x,hx,rfl⟩ :=Option.map_eq_some_iff.1 hi;rw[Z36]at hj;obtain⟨y,hy,rfl⟩ :=Option.map_eq_some_iff.1 hj;obtain⟨dd,r,hd1,hd2,hd3⟩ :=hl2 i x hx;obtain⟨d1,r1,hd4,hd5,hd6⟩ :=ztm hd2 j y hy;obtain⟨u,hu1,hu2,hu3⟩ :=c5 i dd hd1 j d1 hd4;refine⟨u,hu1,hu2,?_⟩;simp only[Rel];exact zf0 k2 12 d1 y r1 u hd5 (hfo r1 fun hx'=>hid.2 (hd3 _ (hd6 _ hx'))) hu3
 obtain⟨s3,e3⟩ :=s1.adopt (H':=w'.heap) hcn hsz hold hgeb hbl (.arr 2 0 (fD fl)) (fun i=>0<=i/\i<n+1) hob;have hux:UX c n (n+1)=fun i=>c i\/i=n:=zu7 c n
 refine⟨v,he,hb,upd ρ n (some b),?_,?_,?_⟩
 .simp only[hh,hux];rw[hd]at k1;simp only[Rel,zav]at k1;obtain⟨us,rfl,hone,v1,m1,e1',hr1,v2,m2,e2,hr2,e3'⟩ :=k1;subst e1' e2 e3';obtain⟨hcid,ad,cap,rfl,q1,q2,q3,q4⟩ :=hr2;simp only[Rel,zav];refine⟨_,rfl,hone,v1,_,rfl,?_,_,_,rfl,⟨.inr trivial,ad,cap,rfl,q1,by omega,by simp,fun b' hb'=> ?_⟩,rfl⟩
  .exact zf0 k2 12 dX X rX v1 hX (hfo rX hid.1) hr1
  .simp at hb';subst hb';exact q4 b hb0
 .simp only[hh,hux];exact s3
 .simp only[hh,hux];exact (e1.mono fun i _ hi=>⟨Nat.zero_le _,by have:=hrd i (ziC hi);omega⟩).trans e3
end
end Go.Vse
end
section
namespace Go.Vse
open Go.RowKit
open Go (BinOp IntKind UnOp)
set_option maxRecDepth 100000
set_option maxHeartbeats 4000000
section
variable [Globs]
variable {P:Program}{amb:Mu}{ρ:Nat->Option Nat}{c:Nat->Prop}{h:Hp}
def zgd{es:Nat}(hes:es≠1){l:List (List D)}(hl:∀x∈l,x.length=es):hd8 l=false:=by
 unfold hd8;split
 .have:=hl _ (List.mem_cons_self ..);simp at this;omega
 .rfl
theorem zB1{w:World}(s:Sim amb w.heap h ρ c){td ty e:TypeId}{es:Nat}(hu:P.underlying td=some (.slice e))(hn:za2 P e=some es)
  {id vid vro vlim lim n i:Nat}{ex vex:Bool}{els vels:List (List D)}
  (ho:h id=some (.arr es 0 els))(hv:h vid=some (.arr es vro vels))(hne:id≠vid)(hi:i+1<els.length)(hk:2<=vels.length)(hes:es≠1)(hcn:¬c n)
  {a:Addr}{C:Nat}(hC:els.length+vels.length - 1<=C)(hr:Rel w.heap (zat amb h ρ) ρ c (.sl id 0 els.length es lim ex) (.slice (some a) els.length C))
  {av:Addr}{Cv:Nat}(hrv:Rel w.heap (zat amb h ρ) ρ c (.sl vid 0 vels.length es vlim vex) (.slice (some av) vels.length Cv)):
  ∃b w1 w2,ρ id=some b/\a=⟨b,0,none⟩/\
   (Builtin.copy_ #[td,td] ty #[.slice (some ⟨b,(i+vels.length)*es,none⟩) (els.length+vels.length - 1 - (i+vels.length)) (C - (i+vels.length)),.slice (some ⟨b,(i+1)*es,none⟩) (els.length - (i+1)) (C - (i+1))]).run P w.drew.drew= .ok (.int .i64 ((els.length - (i+1):Nat):Int)) w1/\
   (Builtin.copy_ #[td,td] ty #[.slice (some ⟨b,i*es,none⟩) (els.length+vels.length - 1 - i) (C - i),.slice (some av) vels.length Cv]).run P w1= .ok (.int .i64 ((vels.length:Nat):Int)) w2/\Base w w2/\
   ∃ρ',Rel w2.heap (zat amb (upd (upd h id none) n (some (.arr es 0 (els.take i++vels++els.drop (i+1))))) ρ') ρ' (fun i=>c i\/i=n) (.sl n 0 (els.length+vels.length - 1) es (els.length+vels.length - 1) false) (.slice (some ⟨b,0,none⟩) (els.length+vels.length - 1) C)/\
    Sim amb w2.heap (upd (upd h id none) n (some (.arr es 0 (els.take i++vels++els.drop (i+1))))) ρ' (fun i=>c i\/i=n)/\
    Evo amb (fun i=>i=id) w.heap h ρ c w2.heap (upd (upd h id none) n (some (.arr es 0 (els.take i++vels++els.drop (i+1))))) ρ' (fun i=>c i\/i=n):=by
 simp only[Rel]at hr hrv;obtain⟨hc,a',cap,e0,q1,q2,q3,q4⟩ :=hr;simp only[Value.slice.injEq,Z45,true_and]at e0;obtain⟨rfl,rfl⟩ :=e0;obtain⟨hcv,a2,cap2,e0,p1,p2,p3,p4⟩ :=hrv;simp only[Value.slice.injEq,Z45,true_and]at e0;obtain⟨rfl,rfl⟩ :=e0;obtain⟨b,cs,elem,fr,hb,b1,b2,b3,b4,b5⟩ :=s.row ho;obtain⟨bv,csv,elemv,frv,hbv,bv1,bv2,bv3,bv4,bv5⟩ :=s.row hv;obtain⟨k1,e3,bn,k2,k3⟩ :=q4 b hb;have ha:=k1 (by omega);rw[Nat.zero_mul]at ha;subst ha;have hav:=(p4 bv hbv).1 (by omega);rw[Nat.zero_mul]at hav;subst hav;have hbne:bv≠b:=fun e=>hne (s.inj id vid b hb (e▸hbv))
 have hbn:bn=cs.size:=by
  unfold zcF at k2;rw[b1]at k2;simp at k2;exact k2.2.symm
 rw[Z25]at k3;generalize hm:els.length=m at*;generalize hkk:vels.length=k at*;have hsz:(m+k - 1)*es<=cs.size:=by rw[<-hbn];exact Z3 (Z9 es hC) k3
 obtain⟨b',hb',x1,vs1,x2,x3,x4⟩ :=zgW s ho (i+1) (m - (i+1));rw[hb]at hb';cases hb';obtain⟨b',hb',y1,vs2,y2,y3,y4⟩ :=zgW s hv 0 k;rw[hbv]at hb';cases hb';have hd1:(els.drop (i+1)).take (m - (i+1))=els.drop (i+1):=Z11 (by simp;omega);have hd2:(vels.drop 0).take k=vels:=by rw[Z34];exact Z11 (by omega)
 rw[hd1]at x1 x2;rw[hd2]at y1 y2;have l1:vs1.length=(m - (i+1))*es:=by rw[x2.len,za8 x1];simp[hm]
 have l2:vs2.length=k*es:=by rw[y2.len,za8 y1];simp[hkk]
 have hcut:∀j,¬(fr.1<=j/\j<fr.2)\/¬j<cs.size:=fun j=>by
  by_cases hj:j<cs.size
  .exact .inl (b2.1 j hj)
  .exact .inr hj
 have t1:(i+k)*es+(m - (i+1))*es=(m+k - 1)*es:=by rw[<-Z35];congr 1;omega
 have t2:i*es+k*es=(i+k)*es:=by rw[<-Z35]
 have t3:(i+k)*es<=(m+k - 1)*es:=Z9 es (by omega);obtain⟨w1,cs1,r1,B1,z1,c1,o1,n1,lo1,mi1,hi1⟩ :=zfb P b ((i+k)*es) elem fr vs1 0 w.drew.drew cs b1 b2.1 (by omega) x3;obtain⟨w2,cs2,r2,B2,z2,c2,o2,n2,lo2,mi2,hi2⟩ :=zfb P b (i*es) elem fr vs2 0 w1 cs1 c1 (by rw[n1];exact b2.1) (by omega) y3;have hels4:∀x∈els,x.length=es:=b4
 have hv4:∀x∈vels,x.length=es:=bv4
 have hh8:∀l,zcM els l=true:=fun l=>by unfold zcM;rw[zgd hes b4];rfl
 have fl:=za8 hels4;have flv:=za8 hv4;rw[hm]at fl;rw[hkk]at flv;obtain⟨wa,ra,Ba,sa,va,za⟩ :=Sim.write (P:=P) (w:=w.drew.drew) s (els':=els.take i++vels++els.drop (i+k)) ho hb y2 y3 (o:=i*es) (.inl (by rw[Nat.zero_mul];exact Nat.zero_le _)) (by rw[fl];exact Z9 es (by omega)) k2 (by omega)
  (fun x hx=>by
   simp only[Z4]at hx;rcases hx with(hx|hx)|hx
   .exact b4 x (Z13 hx)
   .exact bv4 x hx
   .exact b4 x (Z21 hx))
  (by
   simp only[List.flatten_append];rw[zfh b4,zfR b4,flv,t2]) (hh8 _) (fun j=>j=id) rfl
 have hoA:upd h id (some (Ob.arr es 0 (els.take i++vels++els.drop (i+k)))) id=some (.arr es 0 (els.take i++vels++els.drop (i+k))):=by simp
 have hA4:∀x∈els.take i++vels++els.drop (i+k),x.length=es:=fun x hx=>by
   simp only[Z4]at hx;rcases hx with(hx|hx)|hx
   .exact b4 x (Z13 hx)
   .exact bv4 x hx
   .exact b4 x (Z21 hx)
 have hAt:(els.take i++vels++els.drop (i+k)).take (i+k)=els.take i++vels:=by
  rw[Z27 (by simp;omega),Z11 (by simp;omega)]
 have hAd:(els.take i++vels++els.drop (i+k)).drop (m+k - 1)=[]:=Z24 (by simp;omega);have flA:=za8 hA4;have hAl:(els.take i++vels++els.drop (i+k)).length=i+k+(m - (i+k)):=by simp;omega
 have h8A:∀l,zcM (els.take i++vels++els.drop (i+k)) l=true:=fun l=>by unfold zcM;rw[zgd hes hA4];rfl
 have k2a:zcF wa.heap b=some (e3,bn):=va.keep.shape _ _ k2;obtain⟨wb,rb,Bb,sb,vb,zb⟩ :=Sim.write (P:=P) (w:=wa) sa (els':=els.take i++vels++els.drop (i+1)) hoA hb (zav.keep va.keep _ _ x2) x3 (o:=(i+k)*es) (.inl (by rw[Nat.zero_mul];exact Nat.zero_le _)) (by rw[flA];exact Z9 es (by omega)) k2a (by omega)
  (fun x hx=>by
   simp only[Z4]at hx;rcases hx with(hx|hx)|hx
   .exact b4 x (Z13 hx)
   .exact bv4 x hx
   .exact b4 x (Z21 hx))
  (by
   have e1:(els.drop (i+1)).flatten.length=(m - (i+1))*es:=by rw[za8 x1];simp[hm]
   rw[e1,t1,<-zfh hA4,<-zfR hA4,hAt,hAd];simp[List.flatten_append]) (h8A _) (fun j=>j=id) rfl
 simp only[zmJ]at sb vb;obtain⟨wa',csa,ra',Ba',za',ca,oa,na,loa,mia,hia⟩ :=zfb P b (i*es) elem fr vs2 0 w.drew.drew cs b1 b2.1 (by omega) y3;have ewa:wa'=wa:=by rw[ra]at ra';simpa using ra'.symm
 subst ewa;obtain⟨wb',csb,rb',Bb',zb',cb,ob,nb,lob,mib,hib⟩ :=zfb P b ((i+k)*es) elem fr vs1 0 wa' csa ca (by rw[na];exact b2.1) (by omega) x3;have ewb:wb'=wb:=by rw[rb]at rb';simpa using rb'.symm
 subst ewb;have ecs:cs2=csb:=by
  apply Array.ext_getElem?;intro j
  by_cases h1:j<i*es
  .rw[lo2 j (by omega),lo1 j (by omega),lob j (by omega),loa j (by omega)]
  .by_cases h2:j< (i+k)*es
   .have g1:=mi2 (j - i*es) (by omega);have g2:=mia (j - i*es) (by omega);rw[show i*es+0+(j - i*es)=j by omega]at g1 g2;rw[g1,lob j (by omega),g2]
   .by_cases h3:j< (m+k - 1)*es
    .have g1:=mi1 (j - (i+k)*es) (by omega);have g2:=mib (j - (i+k)*es) (by omega);rw[show(i+k)*es+0+(j - (i+k)*es)=j by omega]at g1 g2;rw[hi2 j (by omega),g1,g2]
    .rw[hi2 j (by omega),hi1 j (by omega),hib j (by omega),hia j (by omega)]
 have ehp:w2.heap=wb'.heap:=by
  apply Array.ext_getElem?;intro j
  by_cases hj:j=b
  .subst hj;rw[c2,cb,ecs]
  .rw[o2 j hj,o1 j hj,ob j hj,oa j hj]
 have hoB:upd h id (some (Ob.arr es 0 (els.take i++vels++els.drop (i+1)))) id=some (.arr es 0 (els.take i++vels++els.drop (i+1))):=by simp
 obtain⟨s3,v3⟩ :=sb.rename hcn (fun j=>j=id) rfl hoB hb;have hh3:upd (upd (upd h id (some (Ob.arr es 0 (els.take i++vels++els.drop (i+1))))) id none) n (some (.arr es 0 (els.take i++vels++els.drop (i+1))))=upd (upd h id none) n (some (.arr es 0 (els.take i++vels++els.drop (i+1)))):=by rw[zmJ]
 rw[hh3]at s3 v3;have v13:=(va.trans vb).trans v3;have w1c:∀(j:Nat) v,vs2[j]? =some v->zbz w1.heap bv (0+j)=some v:=fun j v hj=>by
  have g:=y4 j v hj;rw[Nat.zero_mul]at g;unfold zbz at g|-;rw[o1 bv hbne];exact g
 have f1:=zhh (P:=P) (es:=es) (k:=m - (i+1)) (len:=m - (i+1)) (cap:=C - (i+1)) w.drew.drew (by omega) x4;have f2:=zhh (P:=P) (es:=es) (k:=k) (len:=k) (cap:=Cv) w1 (by omega) w1c;rw[Z11 (by omega)]at f1 f2;have mn1:Nat.min (m - (i+1)) (m+k - 1 - (i+k))=m - (i+1):=by
  rw[show m+k - 1 - (i+k)=m - (i+1) by omega];exact Nat.min_self _
 have mn2:Nat.min k (m+k - 1 - i)=k:=Nat.min_eq_left (by omega);refine⟨b,w1,w2,hb,rfl,?_,?_,?_,_,?_,by rw[ehp];exact s3,by rw[ehp];exact v13⟩
 .simp[Builtin.copy_,zaK hu,zbq hn,Builtin.lenOf,mn1,f1,r1,goInt]
 .simp[Builtin.copy_,zaK hu,zbq hn,Builtin.lenOf,mn2,f2,r2,goInt]
 .exact (Base.trans (a:=w) (b:=w.drew.drew) (c:=w1) ⟨rfl,rfl,rfl,Z3 (Nat.le_succ _) (Nat.le_succ _)⟩ B1).trans B2
 .simp only[Rel];refine⟨.inr trivial,⟨b,0,none⟩,C,rfl,hC,by omega,by simp,fun b' hb'=> ?_⟩;simp at hb';subst hb';refine⟨fun _=>by rw[Nat.zero_mul],e3,bn,?_,by rw[Z25];exact k3⟩;rw[ehp];exact v13.keep.shape _ _ k2
def zdG.widen{f:Nat}{args:List D}{h:T Ob}{n:Nat}{q q':CR}(hq:zdG P f args h n q)(hd:q'.d=q.d)(hh:∀i,q'.h.get i=q.h.get i)(hc:q.c<=q'.c)(hm:q.mx<=q'.mx)(hl:q'.lw<=q.lw)(hcm:q'.c<=q'.mx):zdG P f args h n q':=by
 obtain⟨h1,h2,h3,h4⟩ :=hq;refine⟨h1,by omega,hcm,fun amb ρ c w vs hs hf ha=> ?_⟩;refine (h4 amb ρ c w vs hs (fun id a b=>hf id a (by omega)) ha).mono ?_;rintro e w' ⟨v,he,hb,ρ',k1,k2,k3⟩;have hg:q'.h.get=q.h.get:=funext hh;have hw:∀i,UX c n q.c i->UX c n q'.c i:=fun i hi=>hi.elim .inl fun e=> .inr ⟨e.1,by omega⟩
 refine⟨v,he,hb,ρ',?_,?_,?_⟩
 .rw[hd,hg];exact Rel.keep ⟨fun _ _ _ h e=>⟨e,h⟩,fun _ _ _ h=>h,fun _ _ h=>h,hw⟩ _ _ k1
 .rw[hg];exact k2.widen hw
 .rw[hg];exact (k3.widen hw).mono fun i _ hi=>⟨by omega,by omega⟩
def zsd(pr:Pr)(fn:Fn)(args:List D)(h:T Ob)(c:Nat)(q:CR):Prop:=EV fun m=>zeK (evC (zcL pr m) m) fn args h c=some q
def zdG.zp5{pur pu:Nat->Bool}{pr:Pr}(hp:zsh P pur pr){f:Nat}{F:Func}{fn:Fn}(hF:P.funcs[f]? =some F)(hname:F.name≠ "runtime.NumGoroutine")(hcomp:zah P pu F=some fn){args:List D}{h:T Ob}{n:Nat}{q:CR}(hq:zsd pr fn args h n q):zdG P f args h n q:=by
 obtain⟨N,hN⟩ :=hq;exact zm1 (zmi hp N) hF hname hcomp (hN N (Z2 _))
def zD8(res:List Rv)(h:T Ob)(c:Nat)(P:D->T Ob->Nat->Nat->Prop)(x:Ex)(s:St):Prop:=
 (match x with| .exit _=>False|_=>True)/\oB (resD s res) fun d=>P d s.h s.c s.lw/\(s.lw=c->d.isF=true->P d h c c)
def zsP{res:List Rv}{h:T Ob}{c:Nat}{P:D->T Ob->Nat->Nat->Prop}{s:St}:zD8 res h c P .ret s=oB (resD s res) fun d=>P d s.h s.c s.lw/\(s.lw=c->d.isF=true->P d h c c):=by simp[zD8]
def zpN{pr:Pr}{fn:Fn}{args:List D}{h:T Ob}{c:Nat}{R:D->T Ob->Nat->Nat->Prop}(hw:wpC pr fn.body (st0 args h c) (zD8 fn.res h c R)):∃q,zsd pr fn args h c q/\R q.d q.h q.c q.lw:=by
 obtain⟨x,s,⟨hx,hr⟩,ev⟩ :=zeO _ _ _ hw;cases hd:resD s fn.res with
 |none=>rw[hd]at hr;exact hr.elim
 |some d=>
  rw[hd]at hr;obtain⟨h1,h2⟩ :=hr;refine⟨if Nat.beq s.lw c&&d.isF then ⟨d,h,c,c,s.mx⟩else ⟨d,s.h,s.c,s.lw,s.mx⟩,?_,?_⟩
  .refine ev.mono fun m hm=> ?_
   unfold zeK;unfold st0 at hm;rw[hm];cases x with
   |exit i=>exact hx.elim
   |nrm=>simp only[hd];split<;>rfl
   |ret=>simp only[hd];split<;>rfl
  .split
   .rename_i hb;simp only[Z14]at hb;exact h2 (Nat.eq_of_beq_eq_true hb.1) hb.2
   .exact h1
theorem zpH(f:Nat->Nat):∀n,∃M,∀i,i<n->f i<=M
 |0=>⟨0,fun i h=>absurd h (by omega)⟩
 |n+1=>by
  obtain⟨M,hM⟩ :=zpH f n;refine⟨max M (f n),fun i hi=> ?_⟩
  by_cases h:i=n
  .subst h;omega
  .have:=hM i (by omega);omega
structure Apart(w:World)(b bv:Nat)(o:Nat):Prop where
 ne:b≠bv
 sh:∃tA kA tB kB,w.shape? b=some (tA,kA)/\w.shape? bv=some (tB,kB)/\kB≠0/\w.frozen? ⟨b,o,none⟩ =false/\w.frozen? ⟨b,kA,none⟩ =false
def zDs(P:Program)(f es:Nat)(td:TypeId):Prop:=∀(w w1 w2:World) (b bv m k i C Cv:Nat),i+1<m->2<=k->m<=1000->k<=1000->m+k - 1<=C->Apart w b bv ((i+k)*es)->
 (Builtin.copy_ #[td,td] 3 #[.slice (some ⟨b,(i+k)*es,none⟩) (m+k - 1 - (i+k)) (C - (i+k)),.slice (some ⟨b,(i+1)*es,none⟩) (m - (i+1)) (C - (i+1))]).run P w.drew.drew= .ok (.int .i64 ((m - (i+1):Nat):Int)) w1->
 (Builtin.copy_ #[td,td] 3 #[.slice (some ⟨b,i*es,none⟩) (m+k - 1 - i) (C - i),.slice (some ⟨bv,0,none⟩) k Cv]).run P w1= .ok (.int .i64 ((k:Nat):Int)) w2->
 Calls P f #[.slice (some ⟨b,0,none⟩) m C,.int .i64 ((i:Nat):Int),.int .i64 ((i+1:Nat):Int),.slice (some ⟨bv,0,none⟩) k Cv] w fun e w'=>e= .returned (.slice (some ⟨b,0,none⟩) (m+k - 1) C)/\w'=w2
end
end Go.Vse
end
