/- Calls that work on the caller's heap: rules for them, calls that leave the heap as it is, regions that draw their order with such calls. -/
import Derived.Test.YtimgcabgophnfaaGreatHa
import Derived.Test.YtimgcabgophnfaaGreatVe
set_option linter.all false
set_option linter.all false
namespace Go.Vse
open Go (BinOp IntKind UnOp)
set_option maxRecDepth 100000
mutual
theorem F.zhv:∀x:F,x.beq x=true
 | .b x=>by simp[F.beq]
 | .i k n=>by cases k<;>simp[F.beq]<;>rfl
 | .s l=>by simp[F.beq]
 | .nils| .nilp| .nilm| .nilf| .nili| .un=>by simp[F.beq]
 | .ag cs=>by simp only[F.beq];exact F.zdz cs
 | .tu cs=>by simp only[F.beq];exact F.zdz cs
 | .sl e l=>by simp only[F.beq,beq_self_eq_true,Bool.true_and];exact F.zg5 l
 | .fn x=>by simp[F.beq]
theorem F.zdz:∀l:List F,F.zdK l l=true
 |[]=>rfl
 |x::l=>by simp only[F.zdK,F.zhv x,F.zdz l,Bool.and_self]
theorem F.zg5:∀l:List (List F),F.zeO l l=true
 |[]=>rfl
 |x::l=>by simp only[F.zeO,F.zdz x,F.zg5 l,Bool.and_self]
end
mutual
theorem D.zhv:∀x:D,x.beq x=true
 | .f x=>F.zhv x
 | .ag x=>by simp only[D.beq];exact D.zdz x
 | .tu x=>by simp only[D.beq];exact D.zdz x
 | .sl .. =>by simp[D.beq]
 | .ptr .. =>by simp[D.beq]
 | .fptr x=>by simp only[D.beq];exact F.zdz x
 | .mp x=>by simp[D.beq]
 | .fn x a b=>by simp only[D.beq,beq_self_eq_true,Bool.true_and,D.zdz a,D.zdz b,Bool.and_self]
theorem D.zdz:∀l:List D,D.zdK l l=true
 |[]=>rfl
 |x::l=>by simp only[D.zdK,D.zhv x,D.zdz l,Bool.and_self]
end
theorem D.zg5:∀l:List (List D),D.zeO l l=true
 |[]=>rfl
 |x::l=>by simp only[D.zeO,D.zdz x,D.zg5 l,Bool.and_self]
theorem Ob.zrT:∀l:List (F×D),Ob.zlz l l=true
 |[]=>rfl
 |(a,x)::l=>by simp only[Ob.zlz,F.zhv a,D.zhv x,Ob.zrT l,Bool.and_self]
theorem Ob.zjh:∀x:Option Ob,Ob.zpZ x x=true
 |none=>rfl
 |some (.arr a b c)=>by simp only[Ob.zpZ,Ob.beq,beq_self_eq_true,Bool.true_and,D.zg5]
 |some (.map a)=>by simp only[Ob.zpZ,Ob.beq,Ob.zrT]
variable [Globs]
def zsD(pr:Pr):Prop:=∀f args h c q,Con pr f args h c q->c≤q.c/\q.c≤q.mx
theorem zFB{P:Go.Program}{pur:Nat->Bool}{pr:Pr}(hp:zyP P pur pr):zsD pr:=by
 intro f args h c q ⟨N,hN⟩;obtain⟨_,h1,h2,_⟩ :=zq0 hp N f args h c q (hN N (Nat.le_refl _));exact⟨h1,h2⟩
def RO(pr:Pr)(f:Nat)(args:List D)(h:T Ob)(c:Nat)(d:D):Prop:=∃mx,c≤mx/\Con pr f args h c ⟨d,h,c,c,mx⟩
def zFK(res:List Rv)(c:Nat)(d:D)(x:Ex)(s:St):Prop:=(match x with| .exit _=>False|_=>True)/\resD s res=some d/\s.lw=c
theorem za8{res:List Rv}{c:Nat}{d:D}{s:St}:zFK res c d .ret s=(resD s res=some d/\s.lw=c):=by simp[zFK]
theorem zc3{pr:Pr}(hle:zsD pr){f:Nat}{fn:Fn}(hf:pr.fn f=some fn){args:List D}{h:T Ob}{c:Nat}{d:D}(hd:d.isF=true)(hw:wpC pr fn.body (st0 args h c) (zFK fn.res c d)):RO pr f args h c d:=by
 obtain⟨x,s,⟨hx,hr,hl⟩,ev⟩ :=zfD _ _ _ hw;have key:EV fun m=>zgi (evC (zdd pr m) m) fn args h c=some ⟨d,h,c,c,s.mx⟩ :=by
  refine ev.mono fun m hm=> ?_
  unfold zgi;unfold st0 at hm;rw[hm];cases x with
  |exit i=>exact hx.elim
  |nrm=>simp only[hr];simp[hl,hd]
  |ret=>simp only[hr];simp[hl,hd]
 have hq:Con pr f args h c ⟨d,h,c,c,s.mx⟩ :=by
  obtain⟨N,hN⟩ :=key;refine⟨N+1,fun m hm=> ?_⟩;obtain⟨m,rfl⟩ :∃m',m=m'+1:=⟨m - 1,by omega⟩
  simp only[zdd,hf];exact hN m (by omega)
 exact⟨s.mx,(hle _ _ _ _ _ hq).2,hq⟩
def zt3(res:List Rv)(h:T Ob)(c:Nat)(P:D->T Ob->Nat->Prop)(x:Ex)(s:St):Prop:=
 (match x with| .exit _=>False|_=>True)/\oB (resD s res) fun d=>P d s.h s.c/\(s.lw=c->d.isF=true->P d h c)
theorem zct{res:List Rv}{h:T Ob}{c:Nat}{P:D->T Ob->Nat->Prop}{s:St}:zt3 res h c P .ret s=oB (resD s res) fun d=>P d s.h s.c/\(s.lw=c->d.isF=true->P d h c):=by simp[zt3]
theorem zoL{res:List Rv}{h:T Ob}{c:Nat}{P:D->T Ob->Nat->Prop}{s:St}:zt3 res h c P .nrm s=oB (resD s res) fun d=>P d s.h s.c/\(s.lw=c->d.isF=true->P d h c):=by simp[zt3]
def Eff(pr:Pr)(f:Nat)(args:List D)(h:T Ob)(c:Nat)(P:D->T Ob->Nat->Prop):Prop:=∃q,Con pr f args h c q/\P q.d q.h q.c/\c≤q.c/\q.c≤q.mx
theorem zdA{pr:Pr}(hle:zsD pr){f:Nat}{fn:Fn}(hf:pr.fn f=some fn){args:List D}{h:T Ob}{c:Nat}{P:D->T Ob->Nat->Prop}(hw:wpC pr fn.body (st0 args h c) (zt3 fn.res h c P)):Eff pr f args h c P:=by
 obtain⟨x,s,⟨hx,hr⟩,ev⟩ :=zfD _ _ _ hw;cases hd:resD s fn.res with
 |none=>rw[hd]at hr;exact hr.elim
 |some d=>
  rw[hd]at hr;obtain⟨h1,h2⟩ :=hr;have key:EV fun m=>zgi (evC (zdd pr m) m) fn args h c=some (if Nat.beq s.lw c&&d.isF then ⟨d,h,c,c,s.mx⟩else ⟨d,s.h,s.c,s.lw,s.mx⟩):=by
   refine ev.mono fun m hm=> ?_
   unfold zgi;unfold st0 at hm;rw[hm];cases x with
   |exit i=>exact hx.elim
   |nrm=>simp only[hd];split<;>rfl
   |ret=>simp only[hd];split<;>rfl
  have hq:Con pr f args h c (if Nat.beq s.lw c&&d.isF then ⟨d,h,c,c,s.mx⟩else ⟨d,s.h,s.c,s.lw,s.mx⟩):=by
   obtain⟨N,hN⟩ :=key;refine⟨N+1,fun m hm=> ?_⟩;obtain⟨m,rfl⟩ :∃m',m=m'+1:=⟨m - 1,by omega⟩
   simp only[zdd,hf];exact hN m (by omega)
  refine⟨_,hq,?_,hle _ _ _ _ _ hq⟩;split
  ·rename_i hb;simp only[Bool.and_eq_true]at hb;exact h2 (Nat.eq_of_beq_eq_true hb.1) hb.2
  ·exact h1
def St.um(s:St)(dst:Option Nat)(d:D)(mx:Nat):St:={s with tm:=zdn s.tm dst d,mx:=Nat.max s.mx mx}
theorem zLs(s:St)(dst:Option Nat)(d:D)(mx:Nat):(s.um dst d mx).tm=zdn s.tm dst d:=rfl
theorem um_h(s:St)(dst:Option Nat)(d:D)(mx:Nat):(s.um dst d mx).h=s.h:=rfl
theorem um_c(s:St)(dst:Option Nat)(d:D)(mx:Nat):(s.um dst d mx).c=s.c:=rfl
theorem zLr(s:St)(dst:Option Nat)(d:D)(mx:Nat):(s.um dst d mx).lw=s.lw:=rfl
theorem zIk(s:St)(dst:Option Nat)(q:CR):(s.cal dst q).tm=zdn s.tm dst q.d:=rfl
theorem ca_h(s:St)(dst:Option Nat)(q:CR):(s.cal dst q).h=q.h:=rfl
theorem ca_c(s:St)(dst:Option Nat)(q:CR):(s.cal dst q).c=q.c:=rfl
theorem zIj(s:St)(dst:Option Nat)(q:CR):(s.cal dst q).lw=Nat.min s.lw q.lw:=rfl
def St.ug(s:St)(dst:Option Nat)(d:D)(mx:Nat):St:={s with tm:=zdn s.tm dst d,c:=mx,mx:=Nat.max s.mx mx}
theorem zLq(s:St)(dst:Option Nat)(d:D)(mx:Nat):(s.ug dst d mx).tm=zdn s.tm dst d:=rfl
theorem ug_h(s:St)(dst:Option Nat)(d:D)(mx:Nat):(s.ug dst d mx).h=s.h:=rfl
theorem ug_c(s:St)(dst:Option Nat)(d:D)(mx:Nat):(s.ug dst d mx).c=mx:=rfl
theorem zLp(s:St)(dst:Option Nat)(d:D)(mx:Nat):(s.ug dst d mx).lw=s.lw:=rfl
def St.cg(s:St)(dst:Option Nat)(q:CR):St:={tm:=zdn s.tm dst q.d,h:=q.h,c:=q.mx,lw:=Nat.min s.lw q.lw,mx:=Nat.max s.mx q.mx}
theorem zIr(s:St)(dst:Option Nat)(q:CR):(s.cg dst q).tm=zdn s.tm dst q.d:=rfl
theorem cg_h(s:St)(dst:Option Nat)(q:CR):(s.cg dst q).h=q.h:=rfl
theorem cg_c(s:St)(dst:Option Nat)(q:CR):(s.cg dst q).c=q.mx:=rfl
theorem zIp(s:St)(dst:Option Nat)(q:CR):(s.cg dst q).lw=Nat.min s.lw q.lw:=rfl
theorem zbN(m:Nat):zdr m []=m:=rfl
theorem zwa(m id:Nat)(o:Option Ob)(l:List (Nat×Option Ob)):zdr m ((id,o)::l)=zdr (if id<m then id else m) l:=rfl
theorem zbk{m id:Nat}{o:Option Ob}{l:List (Nat×Option Ob)}(h:m≤id):zdr m ((id,o)::l)=zdr m l:=by rw[zwa,if_neg (by omega)]
section
variable {pr:Pr}{s:St}{Q:St->Prop}{dst:Option Nat}{mask:Nat}
structure WQ(pr:Pr)(f:Nat)(ds:List D)(s:St)(dst:Option Nat)(l:List Go.Vse.Op)(Q:St->Prop):Prop where
 out:∃q,Con pr f ds s.h s.c q/\wpO pr l (s.cal dst q) Q
theorem zQa{l:List Go.Vse.Op}{f:Nat}{args:List A}:wpO pr (⟨dst,none,.call f args⟩ ::l) s Q↔oB (zax (zad s.tm) args) fun ds=>WQ pr f ds s dst l Q:=by
 rw[zRu];cases zax (zad s.tm) args with
 |none=>exact Iff.rfl
 |some ds=>exact⟨fun h=>⟨h⟩,fun h=>h.out⟩
theorem zM0{l:List Go.Vse.Op}{x:A}{args:List A}:wpO pr (⟨dst,none,.callv x args⟩ ::l) s Q↔oB ((zad s.tm x).bind zfN) fun g=>oB (zax (zad s.tm) args) fun ds=>WQ pr g.1 (g.2.1++ds++g.2.2) s dst l Q:=by
 rw[zOp];cases (zad s.tm x).bind zfN with
 |none=>exact Iff.rfl
 |some g=>
  simp only[oB];cases zax (zad s.tm) args with
  |none=>exact Iff.rfl
  |some ds=>exact⟨fun h=>⟨h⟩,fun h=>h.out⟩
theorem zcp{f:Nat}{ds:List D}{l:List Go.Vse.Op}{d:D}(he:RO pr f ds s.h s.c d)(e3:s.lw≤s.c)(k:∀mx,wpO pr l (s.um dst d mx) Q):WQ pr f ds s dst l Q:=by
 obtain⟨mx,h1,h2⟩ :=he;refine⟨_,h2,?_⟩;have e:s.cal dst ⟨d,s.h,s.c,s.c,mx⟩ =s.um dst d mx:=by
  simp only[St.cal,St.um,Nat.min_eq_left e3]
 rw[e];exact k mx
theorem zfa{f:Nat}{ds:List D}{l:List Go.Vse.Op}{h:T Ob}{c:Nat}{P:D->T Ob->Nat->Prop}(e1:s.h=h)(e2:s.c=c)(he:Eff pr f ds h c P)(k:∀d' h' c' lw mx,P d' h' c'->c≤c'->wpO pr l (s.cal dst ⟨d',h',c',lw,mx⟩) Q):WQ pr f ds s dst l Q:=by
 subst e1 e2;obtain⟨q,h1,h2,h3,h4⟩ :=he;exact⟨q,h1,k q.d q.h q.c q.lw q.mx h2 h3⟩
inductive En where
 |n (rd wr:List Nat)
 |r
 |q (h h':T Ob)
def Fits:En->Fp->Prop
 | .n rd wr,p=>p.all=false/\p.rd=rd/\p.wr=wr
 | .r,p=>p.all=true/\p.h=p.h'
 | .q h h',p=>p.all=true/\p.h=h/\p.h'=h'
def ck1:En->En->Prop
 | .n r w,.n rd wr=>zc0 rd w/\zc0 wr w/\zc0 wr r
 | .r,.n _ wr=>wr=[]
 | .n _ w,.r=>w=[]
 | .q h h',.n rd wr=>wr=[]/\∀x∈rd,h.get x=h'.get x
 | .n r w,.q h h'=>w=[]/\∀x∈r,h.get x=h'.get x
 |_,_=>False
def ckG:Nat->List En->En->Prop
 |_,[],_=>True
 |m,a::L,e=>(m%2=1->ck1 a e)/\ckG (m/2) L e
theorem cg_n{m:Nat}{e:En}:ckG m [] e=True:=rfl
theorem zMo{m:Nat}{a e:En}{L:List En}:ckG m (a::L) e=((m%2=1->ck1 a e)/\ckG (m/2) L e):=rfl
theorem c1_nn{r w rd wr:List Nat}:ck1 (.n r w) (.n rd wr)=(zc0 rd w/\zc0 wr w/\zc0 wr r):=rfl
theorem dj_n(a:List Nat):zc0 a []=True:=by simp[zc0]
theorem c1_rn{rd wr:List Nat}:ck1 .r (.n rd wr)=(wr=[]):=rfl
theorem c1_nr{r w:List Nat}:ck1 (.n r w) .r=(w=[]):=rfl
theorem c1_qn{h h':T Ob}{rd wr:List Nat}:ck1 (.q h h') (.n rd wr)=(wr=[]/\∀x∈rd,h.get x=h'.get x):=rfl
theorem c1_nq{h h':T Ob}{r w:List Nat}:ck1 (.n r w) (.q h h')=(w=[]/\∀x∈r,h.get x=h'.get x):=rfl
def wpG(pr:Pr):List En->List (Go.Vse.Op×Nat)->St->(St->Prop)->Prop
 |_,[],s,Q=>Q s
 |L,(o,mask)::l,s,Q=>zb7 pr o s fun s' p=>∃e,Fits e p/\ckG mask L e/\wpG pr (L++[e]) l {s' with c:=p.hi} Q
theorem zPv{a e:En}{q p:Fp}(h1:Fits a q)(h2:Fits e p)(h:ck1 a e):q.apart p=true:=by
 cases a with
 |n r w=>
  obtain⟨q1,rfl,rfl⟩ :=h1;cases e with
  |n rd wr=>
   obtain⟨p1,rfl,rfl⟩ :=h2;obtain⟨d1,d2,d3⟩ :=h;simp only[Fp.apart,q1,p1,Bool.and_eq_true,List.all_eq_true,Bool.not_eq_true',List.contains_eq_mem,decide_eq_false_iff_not];exact⟨⟨fun x hx hm=>d1 x hx hm,fun x hx hm=>d3 x hm hx⟩,fun x hx hm=>d2 x hm hx⟩
  |r=>
   obtain⟨p1,p2⟩ :=h2;have hw:q.wr=[]:=h;simp only[Fp.apart,q1,p1,hw,List.isEmpty_nil,Bool.true_and,List.all_eq_true,Fp.same,p2];exact fun x _=>Ob.zjh _
  |q h0 h1=>
   obtain⟨p1,p2,p3⟩ :=h2;obtain⟨hw,hs⟩ :=h;simp only[Fp.apart,q1,p1,hw,List.isEmpty_nil,Bool.true_and,List.all_eq_true,Fp.same,p2,p3];exact fun x hx=>by rw[hs x hx];exact Ob.zjh _
 |r=>
  obtain⟨q1,q2⟩ :=h1;cases e with
  |n rd wr=>
   obtain⟨p1,rfl,rfl⟩ :=h2;have hw:p.wr=[]:=h;simp only[Fp.apart,q1,p1,hw,List.isEmpty_nil,Bool.true_and,List.all_eq_true,Fp.same,q2];exact fun x _=>Ob.zjh _
  |r=>exact h.elim
  |q=>exact h.elim
 |q h0 h1'=>
  obtain⟨q1,q2,q3⟩ :=h1;cases e with
  |n rd wr=>
   obtain⟨p1,rfl,rfl⟩ :=h2;obtain⟨hw,hs⟩ :=h;simp only[Fp.apart,q1,p1,hw,List.isEmpty_nil,Bool.true_and,List.all_eq_true,Fp.same,q2,q3];exact fun x hx=>by rw[hs x hx];exact Ob.zjh _
  |r=>exact h.elim
  |q=>exact h.elim
def zok:List En->List Fp->Prop
 |[],[]=>True
 |e::L,p::l=>Fits e p/\zok L l
 |_,_=>False
theorem zoU{e:En}{p:Fp}(h:Fits e p):∀{L:List En} {l:List Fp},zok L l->zok (L++[e]) (l++[p])
 |[],[],_=>⟨h,trivial⟩
 |_::_,_::_,hl=>⟨hl.1,zoU h hl.2⟩
 |[],_::_,hl=>hl.elim
 |_::_,[],hl=>hl.elim
theorem zCo{e:En}{p:Fp}(h2:Fits e p){mask:Nat}:∀(L:List En) (l:List Fp) (i:Nat),zok L l->ckG (mask/2 ^ i) L e->zcC p mask l i=true
 |[],[],_,_,_=>rfl
 |a::L,q::l,i,hf,h=>by
  have h3:=zCo h2 L l (i+1) hf.2 (by rw[Nat.pow_succ,<-Nat.div_div_eq_div_mul];exact h.2);simp only[zcC,h3,Bool.and_true,Bool.or_eq_true,Bool.not_eq_true'];cases hb:mask.testBit i with
  |false=>exact .inl rfl
  |true=>
   right;rw[Nat.testBit_eq_decide_div_mod_eq]at hb;exact zPv hf.1 h2 (h.1 (of_decide_eq_true hb))
 |[],_::_,_,hf,_=>hf.elim
 |_::_,[],_,hf,_=>hf.elim
theorem zLN:∀(l:List (Go.Vse.Op×Nat)) (L:List En) (fps:List Fp) (s:St) (Q:St->Prop),zok L fps->wpG pr L l s Q->wpD pr l fps s Q
 |[],_,_,_,_,_,h=>h
 |(o,mask)::l,L,fps,s,Q,hf,h=>by
  refine zpR (fun s' p ⟨e,h1,h2,h3⟩ =>⟨?_,zLN l (L++[e]) (fps++[p]) _ Q (zoU h1 hf) h3⟩) h;exact zCo h1 L fps 0 hf (by simpa using h2)
theorem zbj{ops:List (Go.Vse.Op×Nat)}{s:St}{Q:Ex->St->Prop}(h:wpG pr [] ops s (Q .nrm)):WD pr ops s Q:=⟨zLN ops [] [] s _ trivial h⟩
variable {L:List En}
theorem g_nil:wpG pr L [] s Q↔Q s:=Iff.rfl
theorem zcM{l:List (Go.Vse.Op×Nat)}{o:O A}(hk:kcl o= .n):wpG pr L ((⟨dst,none,o⟩,mask)::l) s Q↔oB ((o.res (zad s.tm)).bind (opv s.h.get s.c)) fun r=>zat r.c r.wr=true/\ckG mask L (.n r.rd (r.wr.map (·.1)))/\wpG pr (L++[.n r.rd (r.wr.map (·.1))]) l (s.ae dst r.d r.wr r.c) Q:=by
  simp only[wpG,zb7,zcy];cases hr:o.res (zad s.tm)with
  |none=>exact Iff.rfl
  | some o'=>
    simp only[Option.bind_some,zsY hk hr];cases hv:opv s.h.get s.c o' with
    |none=>exact Iff.rfl
    | some r=>
      simp only[zdk,zc7,oB];cases hw:zat r.c r.wr with
      |false=>simp
      | true=>
        simp only[Bool.not_true,cond_false,true_and];constructor
        · rintro⟨e,h1,h2,h3⟩;cases e with
          |n rd wr=>obtain⟨_,rfl,rfl⟩ :=h1;exact⟨h2,h3⟩
          |r=>exact absurd h1.1 (by simp)
          |q=>exact absurd h1.1 (by simp)
        · rintro⟨h2,h3⟩;exact⟨.n r.rd (r.wr.map (·.1)),⟨rfl,rfl,rfl⟩,h2,h3⟩
theorem zMK{l:List (Go.Vse.Op×Nat)}{g:Nat}{w:Bool}{o:O A}:wpG pr L ((⟨dst,some (g,w),o⟩,mask)::l) s Q↔oB ((s.tm.get g).bind asG) fun x=>if x==some w then wpG pr L ((⟨dst,none,o⟩,mask)::l) s Q else ckG mask L (.n [] [])/\wpG pr (L++[.n [] []]) l (s.se dst) Q:=by
 cases hx:(s.tm.get g).bind asG with
 |none=>
  have:zcy s.tm (some (g,w))=none:=by rw[ziS,hx];rfl
  simp[wpG,zb7,this,oB]
 |some x=>
  have hw:zcy s.tm (some (g,w))=some (x==some w):=by rw[ziS,hx];rfl
  simp only[oB];cases hb:x==some w with
  |true=>rw[hb]at hw;simp only[wpG,zb7,hw,if_true];exact Iff.rfl
  |false=>
   rw[hb]at hw;simp only[wpG,zb7,hw];constructor
   ·rintro⟨e,h1,h2,h3⟩;cases e with
    |n rd wr=>obtain⟨_,rfl,rfl⟩ :=h1;exact⟨h2,h3⟩
    |r=>exact absurd h1.1 (by simp)
    |q=>exact absurd h1.1 (by simp)
   ·rintro⟨h2,h3⟩;exact⟨.n [] [],⟨rfl,rfl,rfl⟩,h2,h3⟩
structure WG(pr:Pr)(f:Nat)(ds:List D)(L:List En)(mask:Nat)(l:List (Go.Vse.Op×Nat))(s:St)(dst:Option Nat)(Q:St->Prop):Prop where
 out:∃q,Con pr f ds s.h s.c q/\∃e,(e= .r/\s.h=q.h\/e= .q s.h q.h)/\ckG mask L e/\wpG pr (L++[e]) l (s.cg dst q) Q
theorem g_call{l:List (Go.Vse.Op×Nat)}{f:Nat}{args:List A}:wpG pr L ((⟨dst,none,.call f args⟩,mask)::l) s Q↔oB (zax (zad s.tm) args) fun ds=>WG pr f ds L mask l s dst Q:=by
 simp only[wpG,zb7,zcy,O.res,Option.bind_eq_bind];cases zax (zad s.tm) args with
 |none=>exact Iff.rfl
 |some ds=>
  simp only[Option.bind_some,kindOf,oB,zdk,zdq];constructor
  ·rintro⟨q,h1,e,h2,h3,h4⟩;cases e with
   |n rd wr=>exact absurd h2.1 (by simp)
   |r=>exact⟨q,h1,.r,.inl ⟨rfl,h2.2⟩,h3,h4⟩
   |q h0 h1'=>obtain⟨_,rfl,rfl⟩ :=h2;exact⟨q,h1,.q _ _,.inr rfl,h3,h4⟩
  ·rintro⟨q,h1,e,h2,h3,h4⟩;rcases h2 with⟨rfl,h2⟩ |rfl
   ·exact⟨q,h1,.r,⟨rfl,h2⟩,h3,h4⟩
   ·exact⟨q,h1,.q _ _,⟨rfl,rfl,rfl⟩,h3,h4⟩
theorem zMJ{l:List (Go.Vse.Op×Nat)}{x:A}{args:List A}:wpG pr L ((⟨dst,none,.callv x args⟩,mask)::l) s Q↔oB ((zad s.tm x).bind zfN) fun g=>oB (zax (zad s.tm) args) fun ds=>WG pr g.1 (g.2.1++ds++g.2.2) L mask l s dst Q:=by
 have key:∀f ds,(∃q,Con pr f ds s.h s.c q/\∃e,Fits e {all:=true,rd:=[],wr:=[],lo:=s.c,hi:=q.mx,h:=s.h,h':=q.h}/\ckG mask L e/\wpG pr (L++[e]) l (s.cg dst q) Q)↔WG pr f ds L mask l s dst Q:=by
  intro f ds;constructor
  ·rintro⟨q,h1,e,h2,h3,h4⟩;cases e with
   |n rd wr=>exact absurd h2.1 (by simp)
   |r=>exact⟨q,h1,.r,.inl ⟨rfl,h2.2⟩,h3,h4⟩
   |q h0 h1'=>obtain⟨_,rfl,rfl⟩ :=h2;exact⟨q,h1,.q _ _,.inr rfl,h3,h4⟩
  ·rintro⟨q,h1,e,h2,h3,h4⟩;rcases h2 with⟨rfl,h2⟩ |rfl
   ·exact⟨q,h1,.r,⟨rfl,h2⟩,h3,h4⟩
   ·exact⟨q,h1,.q _ _,⟨rfl,rfl,rfl⟩,h3,h4⟩
 simp only[wpG,zb7,zcy,O.res,Option.bind_eq_bind];cases zad s.tm x with
 |none=>simp[oB]
 |some d=>
  cases zax (zad s.tm) args with
  |none=>cases d with
   |f y=>cases y<;>simp[oB,zfN]
   |_=>simp[oB,zfN]
  |some ds=>
   cases d with
   |f y=>
    cases y with
    |fn g=>simp only[Option.bind_some,kindOf,oB,zdk,zdq,zfN,List.nil_append,List.append_nil];exact key _ _
    |_=>simp[oB,zfN,kindOf]
   |fn g a b=>simp only[Option.bind_some,kindOf,oB,zdk,zdq,zfN];exact key _ _
   |_=>simp[oB,zfN,kindOf]
theorem zb6{f:Nat}{ds:List D}{l:List (Go.Vse.Op×Nat)}{d:D}(he:RO pr f ds s.h s.c d)(e3:s.lw≤s.c)(hc:ckG mask L .r)(k:∀mx,s.c≤mx->wpG pr (L++[.r]) l (s.ug dst d mx) Q):WG pr f ds L mask l s dst Q:=by
 obtain⟨mx,h1,h2⟩ :=he;refine⟨_,h2,.r,.inl ⟨rfl,rfl⟩,hc,?_⟩;have e:s.cg dst ⟨d,s.h,s.c,s.c,mx⟩ =s.ug dst d mx:=by
  simp only[St.cg,St.ug,Nat.min_eq_left e3]
 rw[e];exact k mx h1
theorem zv9{f:Nat}{ds:List D}{l:List (Go.Vse.Op×Nat)}{h:T Ob}{c:Nat}{P:D->T Ob->Nat->Prop}(e1:s.h=h)(e2:s.c=c)(he:Eff pr f ds h c P)(k:∀d' h' c' lw mx,P d' h' c'->c≤c'->c'≤mx->ckG mask L (.q h h')/\wpG pr (L++[.q h h']) l (s.cg dst ⟨d',h',c',lw,mx⟩) Q):WG pr f ds L mask l s dst Q:=by
 subst e1 e2;obtain⟨q,h1,h2,h3,h4⟩ :=he;have:=k q.d q.h q.c q.lw q.mx h2 h3 h4;exact⟨q,h1,.q _ _,.inr rfl,this.1,this.2⟩
theorem zMI{l:List (Go.Vse.Op×Nat)}{f:Nat}{args:List A}:wpG pr L ((⟨dst,none,.callp f args⟩,mask)::l) s Q↔oB (zax (zad s.tm) args) fun ds=>oB (zdx s.h.get ds) fun y=>aB pr f (fw y.1) fun x=>zat s.c (zaH s.h.get y.2)=true/\
    ckG mask L (.n y.2 ((zaH s.h.get y.2).map (·.1)))/\wpG pr (L++[.n y.2 ((zaH s.h.get y.2).map (·.1))]) l (s.ae dst x.d (zaH s.h.get y.2) s.c) Q:=by
  simp only[wpG,zb7,zcy,O.res,Option.bind_eq_bind];cases zax (zad s.tm) args with
  |none=>exact Iff.rfl
  | some ds=>
    simp only[Option.bind_some,kindOf,oB];cases zdx s.h.get ds with
    |none=>exact Iff.rfl
    | some y=>
      obtain⟨fs,rd⟩ :=y;simp only[aB,fw];refine exists_congr fun x=>and_congr_right fun _=> ?_
      simp only[zdk,zc7];cases hw:zat s.c (zaH s.h.get rd)with
      |false=>simp
      | true=>
        simp only[Bool.not_true,cond_false,true_and];constructor
        · rintro⟨e,h1,h2,h3⟩;cases e with
          |n rd' wr=>obtain⟨_,rfl,rfl⟩ :=h1;exact⟨h2,h3⟩
          |r=>exact absurd h1.1 (by simp)
          |q=>exact absurd h1.1 (by simp)
        · rintro⟨h2,h3⟩;exact⟨.n rd ((zaH s.h.get rd).map (·.1)),⟨rfl,rfl,rfl⟩,h2,h3⟩
theorem g_mv{l:List (Go.Vse.Op×Nat)}{x:A}:wpG pr L ((⟨dst,none,.mv x⟩,mask)::l) s Q↔oB (((O.mv x).res (zad s.tm)).bind (opv s.h.get s.c)) fun r=>zat r.c r.wr=true/\ckG mask L (.n r.rd (r.wr.map (·.1)))/\wpG pr (L++[.n r.rd (r.wr.map (·.1))]) l (s.ae dst r.d r.wr r.c) Q:=zcM rfl
theorem zP4{l:List (Go.Vse.Op×Nat)}{q x y:A}:wpG pr L ((⟨dst,none,.pick q x y⟩,mask)::l) s Q↔oB (((O.pick q x y).res (zad s.tm)).bind (opv s.h.get s.c)) fun r=>zat r.c r.wr=true/\ckG mask L (.n r.rd (r.wr.map (·.1)))/\wpG pr (L++[.n r.rd (r.wr.map (·.1))]) l (s.ae dst r.d r.wr r.c) Q:=zcM rfl
theorem g_new{l:List (Go.Vse.Op×Nat)}{cs:List F}:wpG pr L ((⟨dst,none,.new cs⟩,mask)::l) s Q↔oB (((O.new cs).res (zad s.tm)).bind (opv s.h.get s.c)) fun r=>zat r.c r.wr=true/\ckG mask L (.n r.rd (r.wr.map (·.1)))/\wpG pr (L++[.n r.rd (r.wr.map (·.1))]) l (s.ae dst r.d r.wr r.c) Q:=zcM rfl
theorem g_box{l:List (Go.Vse.Op×Nat)}{x:A}:wpG pr L ((⟨dst,none,.box x⟩,mask)::l) s Q↔oB (((O.box x).res (zad s.tm)).bind (opv s.h.get s.c)) fun r=>zat r.c r.wr=true/\ckG mask L (.n r.rd (r.wr.map (·.1)))/\wpG pr (L++[.n r.rd (r.wr.map (·.1))]) l (s.ae dst r.d r.wr r.c) Q:=zcM rfl
theorem g_bld{l:List (Go.Vse.Op×Nat)}{z:List F}{ps:List (Nat×Nat×A)}:wpG pr L ((⟨dst,none,.bld z ps⟩,mask)::l) s Q↔oB (((O.bld z ps).res (zad s.tm)).bind (opv s.h.get s.c)) fun r=>zat r.c r.wr=true/\ckG mask L (.n r.rd (r.wr.map (·.1)))/\wpG pr (L++[.n r.rd (r.wr.map (·.1))]) l (s.ae dst r.d r.wr r.c) Q:=zcM rfl
theorem g_bsl{l:List (Go.Vse.Op×Nat)}{es m:Nat}{z:List F}{ps:List (Nat×A)}:wpG pr L ((⟨dst,none,.bsl es z m ps⟩,mask)::l) s Q↔oB (((O.bsl es z m ps).res (zad s.tm)).bind (opv s.h.get s.c)) fun r=>zat r.c r.wr=true/\ckG mask L (.n r.rd (r.wr.map (·.1)))/\wpG pr (L++[.n r.rd (r.wr.map (·.1))]) l (s.ae dst r.d r.wr r.c) Q:=zcM rfl
theorem g_bsf{l:List (Go.Vse.Op×Nat)}{es m:Nat}{z:List F}{ps:List (Nat×A)}:wpG pr L ((⟨dst,none,.bsf es z m ps⟩,mask)::l) s Q↔oB (((O.bsf es z m ps).res (zad s.tm)).bind (opv s.h.get s.c)) fun r=>zat r.c r.wr=true/\ckG mask L (.n r.rd (r.wr.map (·.1)))/\wpG pr (L++[.n r.rd (r.wr.map (·.1))]) l (s.ae dst r.d r.wr r.c) Q:=zcM rfl
theorem g_ld{l:List (Go.Vse.Op×Nat)}{g:Bool}{n:Nat}{x:A}:wpG pr L ((⟨dst,none,.ld g n x⟩,mask)::l) s Q↔oB (((O.ld g n x).res (zad s.tm)).bind (opv s.h.get s.c)) fun r=>zat r.c r.wr=true/\ckG mask L (.n r.rd (r.wr.map (·.1)))/\wpG pr (L++[.n r.rd (r.wr.map (·.1))]) l (s.ae dst r.d r.wr r.c) Q:=zcM rfl
theorem g_st{l:List (Go.Vse.Op×Nat)}{n:Nat}{x v:A}:wpG pr L ((⟨dst,none,.st n x v⟩,mask)::l) s Q↔oB (((O.st n x v).res (zad s.tm)).bind (opv s.h.get s.c)) fun r=>zat r.c r.wr=true/\ckG mask L (.n r.rd (r.wr.map (·.1)))/\wpG pr (L++[.n r.rd (r.wr.map (·.1))]) l (s.ae dst r.d r.wr r.c) Q:=zcM rfl
theorem g_nck{l:List (Go.Vse.Op×Nat)}{x:A}:wpG pr L ((⟨dst,none,.nck x⟩,mask)::l) s Q↔oB (((O.nck x).res (zad s.tm)).bind (opv s.h.get s.c)) fun r=>zat r.c r.wr=true/\ckG mask L (.n r.rd (r.wr.map (·.1)))/\wpG pr (L++[.n r.rd (r.wr.map (·.1))]) l (s.ae dst r.d r.wr r.c) Q:=zcM rfl
theorem g_bin{l:List (Go.Vse.Op×Nat)}{op:BinOp}{x y:A}:wpG pr L ((⟨dst,none,.bin op x y⟩,mask)::l) s Q↔oB (((O.bin op x y).res (zad s.tm)).bind (opv s.h.get s.c)) fun r=>zat r.c r.wr=true/\ckG mask L (.n r.rd (r.wr.map (·.1)))/\wpG pr (L++[.n r.rd (r.wr.map (·.1))]) l (s.ae dst r.d r.wr r.c) Q:=zcM rfl
theorem g_eqb{l:List (Go.Vse.Op×Nat)}{ne:Bool}{x y:A}:wpG pr L ((⟨dst,none,.eqb ne x y⟩,mask)::l) s Q↔oB (((O.eqb ne x y).res (zad s.tm)).bind (opv s.h.get s.c)) fun r=>zat r.c r.wr=true/\ckG mask L (.n r.rd (r.wr.map (·.1)))/\wpG pr (L++[.n r.rd (r.wr.map (·.1))]) l (s.ae dst r.d r.wr r.c) Q:=zcM rfl
theorem g_eqn{l:List (Go.Vse.Op×Nat)}{kd:Nat}{ne:Bool}{x y:A}:wpG pr L ((⟨dst,none,.eqn kd ne x y⟩,mask)::l) s Q↔oB (((O.eqn kd ne x y).res (zad s.tm)).bind (opv s.h.get s.c)) fun r=>zat r.c r.wr=true/\ckG mask L (.n r.rd (r.wr.map (·.1)))/\wpG pr (L++[.n r.rd (r.wr.map (·.1))]) l (s.ae dst r.d r.wr r.c) Q:=zcM rfl
theorem g_eqa{l:List (Go.Vse.Op×Nat)}{ks:List Nat}{ne:Bool}{x y:A}:wpG pr L ((⟨dst,none,.eqa ks ne x y⟩,mask)::l) s Q↔oB (((O.eqa ks ne x y).res (zad s.tm)).bind (opv s.h.get s.c)) fun r=>zat r.c r.wr=true/\ckG mask L (.n r.rd (r.wr.map (·.1)))/\wpG pr (L++[.n r.rd (r.wr.map (·.1))]) l (s.ae dst r.d r.wr r.c) Q:=zcM rfl
theorem g_un{l:List (Go.Vse.Op×Nat)}{op:UnOp}{x:A}:wpG pr L ((⟨dst,none,.un op x⟩,mask)::l) s Q↔oB (((O.un op x).res (zad s.tm)).bind (opv s.h.get s.c)) fun r=>zat r.c r.wr=true/\ckG mask L (.n r.rd (r.wr.map (·.1)))/\wpG pr (L++[.n r.rd (r.wr.map (·.1))]) l (s.ae dst r.d r.wr r.c) Q:=zcM rfl
theorem g_cvi{l:List (Go.Vse.Op×Nat)}{k:IntKind}{x:A}:wpG pr L ((⟨dst,none,.cvi k x⟩,mask)::l) s Q↔oB (((O.cvi k x).res (zad s.tm)).bind (opv s.h.get s.c)) fun r=>zat r.c r.wr=true/\ckG mask L (.n r.rd (r.wr.map (·.1)))/\wpG pr (L++[.n r.rd (r.wr.map (·.1))]) l (s.ae dst r.d r.wr r.c) Q:=zcM rfl
theorem g_mks{l:List (Go.Vse.Op×Nat)}{es b:Nat}{z:List F}{x y:A}:wpG pr L ((⟨dst,none,.mks es b z x y⟩,mask)::l) s Q↔oB (((O.mks es b z x y).res (zad s.tm)).bind (opv s.h.get s.c)) fun r=>zat r.c r.wr=true/\ckG mask L (.n r.rd (r.wr.map (·.1)))/\wpG pr (L++[.n r.rd (r.wr.map (·.1))]) l (s.ae dst r.d r.wr r.c) Q:=zcM rfl
theorem g_slc{l:List (Go.Vse.Op×Nat)}{es:Nat}{x:A}{lo hi mx:Option A}:wpG pr L ((⟨dst,none,.slc es x lo hi mx⟩,mask)::l) s Q↔oB (((O.slc es x lo hi mx).res (zad s.tm)).bind (opv s.h.get s.c)) fun r=>zat r.c r.wr=true/\ckG mask L (.n r.rd (r.wr.map (·.1)))/\wpG pr (L++[.n r.rd (r.wr.map (·.1))]) l (s.ae dst r.d r.wr r.c) Q:=zcM rfl
theorem g_fa{l:List (Go.Vse.Op×Nat)}{off:Nat}{x:A}:wpG pr L ((⟨dst,none,.fa off x⟩,mask)::l) s Q↔oB (((O.fa off x).res (zad s.tm)).bind (opv s.h.get s.c)) fun r=>zat r.c r.wr=true/\ckG mask L (.n r.rd (r.wr.map (·.1)))/\wpG pr (L++[.n r.rd (r.wr.map (·.1))]) l (s.ae dst r.d r.wr r.c) Q:=zcM rfl
theorem g_fld{l:List (Go.Vse.Op×Nat)}{g:Bool}{off n:Nat}{x:A}:wpG pr L ((⟨dst,none,.fld g off n x⟩,mask)::l) s Q↔oB (((O.fld g off n x).res (zad s.tm)).bind (opv s.h.get s.c)) fun r=>zat r.c r.wr=true/\ckG mask L (.n r.rd (r.wr.map (·.1)))/\wpG pr (L++[.n r.rd (r.wr.map (·.1))]) l (s.ae dst r.d r.wr r.c) Q:=zcM rfl
theorem g_ia{l:List (Go.Vse.Op×Nat)}{es:Nat}{x i:A}:wpG pr L ((⟨dst,none,.ia es x i⟩,mask)::l) s Q↔oB (((O.ia es x i).res (zad s.tm)).bind (opv s.h.get s.c)) fun r=>zat r.c r.wr=true/\ckG mask L (.n r.rd (r.wr.map (·.1)))/\wpG pr (L++[.n r.rd (r.wr.map (·.1))]) l (s.ae dst r.d r.wr r.c) Q:=zcM rfl
theorem g_ext{l:List (Go.Vse.Op×Nat)}{i:Nat}{x:A}:wpG pr L ((⟨dst,none,.ext x i⟩,mask)::l) s Q↔oB (((O.ext x i).res (zad s.tm)).bind (opv s.h.get s.c)) fun r=>zat r.c r.wr=true/\ckG mask L (.n r.rd (r.wr.map (·.1)))/\wpG pr (L++[.n r.rd (r.wr.map (·.1))]) l (s.ae dst r.d r.wr r.c) Q:=zcM rfl
theorem g_app{l:List (Go.Vse.Op×Nat)}{es b:Nat}{x y:A}:wpG pr L ((⟨dst,none,.app es b x y⟩,mask)::l) s Q↔oB (((O.app es b x y).res (zad s.tm)).bind (opv s.h.get s.c)) fun r=>zat r.c r.wr=true/\ckG mask L (.n r.rd (r.wr.map (·.1)))/\wpG pr (L++[.n r.rd (r.wr.map (·.1))]) l (s.ae dst r.d r.wr r.c) Q:=zcM rfl
theorem g_len{l:List (Go.Vse.Op×Nat)}{x:A}:wpG pr L ((⟨dst,none,.len x⟩,mask)::l) s Q↔oB (((O.len x).res (zad s.tm)).bind (opv s.h.get s.c)) fun r=>zat r.c r.wr=true/\ckG mask L (.n r.rd (r.wr.map (·.1)))/\wpG pr (L++[.n r.rd (r.wr.map (·.1))]) l (s.ae dst r.d r.wr r.c) Q:=zcM rfl
theorem g_mm{l:List (Go.Vse.Op×Nat)}{mx:Bool}{x y:A}:wpG pr L ((⟨dst,none,.mm mx x y⟩,mask)::l) s Q↔oB (((O.mm mx x y).res (zad s.tm)).bind (opv s.h.get s.c)) fun r=>zat r.c r.wr=true/\ckG mask L (.n r.rd (r.wr.map (·.1)))/\wpG pr (L++[.n r.rd (r.wr.map (·.1))]) l (s.ae dst r.d r.wr r.c) Q:=zcM rfl
theorem g_mmk{l:List (Go.Vse.Op×Nat)}:wpG pr L ((⟨dst,none,.mmk⟩,mask)::l) s Q↔oB (((O.mmk).res (zad s.tm)).bind (opv s.h.get s.c)) fun r=>zat r.c r.wr=true/\ckG mask L (.n r.rd (r.wr.map (·.1)))/\wpG pr (L++[.n r.rd (r.wr.map (·.1))]) l (s.ae dst r.d r.wr r.c) Q:=zcM rfl
theorem g_mup{l:List (Go.Vse.Op×Nat)}{kd:Nat}{m k v:A}:wpG pr L ((⟨dst,none,.mup kd m k v⟩,mask)::l) s Q↔oB (((O.mup kd m k v).res (zad s.tm)).bind (opv s.h.get s.c)) fun r=>zat r.c r.wr=true/\ckG mask L (.n r.rd (r.wr.map (·.1)))/\wpG pr (L++[.n r.rd (r.wr.map (·.1))]) l (s.ae dst r.d r.wr r.c) Q:=zcM rfl
theorem g_mlk{l:List (Go.Vse.Op×Nat)}{kd:Nat}{z:F}{ok:Bool}{m k:A}:wpG pr L ((⟨dst,none,.mlk kd z ok m k⟩,mask)::l) s Q↔oB (((O.mlk kd z ok m k).res (zad s.tm)).bind (opv s.h.get s.c)) fun r=>zat r.c r.wr=true/\ckG mask L (.n r.rd (r.wr.map (·.1)))/\wpG pr (L++[.n r.rd (r.wr.map (·.1))]) l (s.ae dst r.d r.wr r.c) Q:=zcM rfl
theorem g_clr{l:List (Go.Vse.Op×Nat)}{es:Nat}{z:List F}{x:A}:wpG pr L ((⟨dst,none,.clr es z x⟩,mask)::l) s Q↔oB (((O.clr es z x).res (zad s.tm)).bind (opv s.h.get s.c)) fun r=>zat r.c r.wr=true/\ckG mask L (.n r.rd (r.wr.map (·.1)))/\wpG pr (L++[.n r.rd (r.wr.map (·.1))]) l (s.ae dst r.d r.wr r.c) Q:=zcM rfl
theorem g_mkf{l:List (Go.Vse.Op×Nat)}{f:Nat}{a b:List A}:wpG pr L ((⟨dst,none,.mkf f a b⟩,mask)::l) s Q↔oB (((O.mkf f a b).res (zad s.tm)).bind (opv s.h.get s.c)) fun r=>zat r.c r.wr=true/\ckG mask L (.n r.rd (r.wr.map (·.1)))/\wpG pr (L++[.n r.rd (r.wr.map (·.1))]) l (s.ae dst r.d r.wr r.c) Q:=zcM rfl
theorem e_box{l:List (Go.Vse.Op×Nat)}{L:List (List Nat×List Nat)}{x:A}:wpE pr L ((⟨dst,none,.box x⟩,mask)::l) s Q↔oB (((O.box x).res (zad s.tm)).bind (opv s.h.get s.c)) fun r=>zat r.c r.wr=true/\zdi mask L r.rd (r.wr.map (·.1))/\wpE pr (L++[(r.rd,r.wr.map (·.1))]) l (s.ae dst r.d r.wr r.c) Q:=zcW rfl
theorem o_nck{l:List Go.Vse.Op}{x:A}:wpO pr (⟨dst,none,.nck x⟩ ::l) s Q↔oB (((O.nck x).res (zad s.tm)).bind (opv s.h.get s.c)) fun r=>zat r.c r.wr=true/\wpO pr l (s.aft dst r.d r.wr r.c) Q:=zd6 rfl
theorem e_nck{l:List (Go.Vse.Op×Nat)}{L:List (List Nat×List Nat)}{x:A}:wpE pr L ((⟨dst,none,.nck x⟩,mask)::l) s Q↔oB (((O.nck x).res (zad s.tm)).bind (opv s.h.get s.c)) fun r=>zat r.c r.wr=true/\zdi mask L r.rd (r.wr.map (·.1))/\wpE pr (L++[(r.rd,r.wr.map (·.1))]) l (s.ae dst r.d r.wr r.c) Q:=zcW rfl
theorem o_mmk{l:List Go.Vse.Op}:wpO pr (⟨dst,none,.mmk⟩ ::l) s Q↔oB (((O.mmk).res (zad s.tm)).bind (opv s.h.get s.c)) fun r=>zat r.c r.wr=true/\wpO pr l (s.aft dst r.d r.wr r.c) Q:=zd6 rfl
theorem e_mmk{l:List (Go.Vse.Op×Nat)}{L:List (List Nat×List Nat)}:wpE pr L ((⟨dst,none,.mmk⟩,mask)::l) s Q↔oB (((O.mmk).res (zad s.tm)).bind (opv s.h.get s.c)) fun r=>zat r.c r.wr=true/\zdi mask L r.rd (r.wr.map (·.1))/\wpE pr (L++[(r.rd,r.wr.map (·.1))]) l (s.ae dst r.d r.wr r.c) Q:=zcW rfl
theorem o_mup{l:List Go.Vse.Op}{kd:Nat}{m k v:A}:wpO pr (⟨dst,none,.mup kd m k v⟩ ::l) s Q↔oB (((O.mup kd m k v).res (zad s.tm)).bind (opv s.h.get s.c)) fun r=>zat r.c r.wr=true/\wpO pr l (s.aft dst r.d r.wr r.c) Q:=zd6 rfl
theorem e_mup{l:List (Go.Vse.Op×Nat)}{L:List (List Nat×List Nat)}{kd:Nat}{m k v:A}:wpE pr L ((⟨dst,none,.mup kd m k v⟩,mask)::l) s Q↔oB (((O.mup kd m k v).res (zad s.tm)).bind (opv s.h.get s.c)) fun r=>zat r.c r.wr=true/\zdi mask L r.rd (r.wr.map (·.1))/\wpE pr (L++[(r.rd,r.wr.map (·.1))]) l (s.ae dst r.d r.wr r.c) Q:=zcW rfl
theorem o_mlk{l:List Go.Vse.Op}{kd:Nat}{z:F}{ok:Bool}{m k:A}:wpO pr (⟨dst,none,.mlk kd z ok m k⟩ ::l) s Q↔oB (((O.mlk kd z ok m k).res (zad s.tm)).bind (opv s.h.get s.c)) fun r=>zat r.c r.wr=true/\wpO pr l (s.aft dst r.d r.wr r.c) Q:=zd6 rfl
theorem e_mlk{l:List (Go.Vse.Op×Nat)}{L:List (List Nat×List Nat)}{kd:Nat}{z:F}{ok:Bool}{m k:A}:wpE pr L ((⟨dst,none,.mlk kd z ok m k⟩,mask)::l) s Q↔oB (((O.mlk kd z ok m k).res (zad s.tm)).bind (opv s.h.get s.c)) fun r=>zat r.c r.wr=true/\zdi mask L r.rd (r.wr.map (·.1))/\wpE pr (L++[(r.rd,r.wr.map (·.1))]) l (s.ae dst r.d r.wr r.c) Q:=zcW rfl
theorem o_clr{l:List Go.Vse.Op}{es:Nat}{z:List F}{x:A}:wpO pr (⟨dst,none,.clr es z x⟩ ::l) s Q↔oB (((O.clr es z x).res (zad s.tm)).bind (opv s.h.get s.c)) fun r=>zat r.c r.wr=true/\wpO pr l (s.aft dst r.d r.wr r.c) Q:=zd6 rfl
end
omit [Globs]in
section
theorem rs_mv(f:A->Option D)(x:A):O.res f (.mv x)=(f x).bind fun x=>some (.mv x):=rfl
theorem zNk(f:A->Option D)(q x y:A):O.res f (.pick q x y)=(f q).bind fun q=>(f x).bind fun x=>(f y).bind fun y=>some (.pick q x y):=rfl
theorem zQV(f:A->Option D)(cs:List F):O.res f (.new cs)=some (.new cs):=rfl
theorem zQG(f:A->Option D)(x:A):O.res f (.box x)=(f x).bind fun x=>some (.box x):=rfl
theorem rs_ld(f:A->Option D)(g:Bool)(n:Nat)(x:A):O.res f (.ld g n x)=(f x).bind fun x=>some (.ld g n x):=rfl
theorem rs_st(f:A->Option D)(n:Nat)(x v:A):O.res f (.st n x v)=(f x).bind fun x=>(f v).bind fun v=>some (.st n x v):=rfl
theorem zQS(f:A->Option D)(x:A):O.res f (.nck x)=(f x).bind fun x=>some (.nck x):=rfl
theorem zQF(f:A->Option D)(op:BinOp)(x y:A):O.res f (.bin op x y)=(f x).bind fun x=>(f y).bind fun y=>some (.bin op x y):=rfl
theorem rs_fa(f:A->Option D)(o:Nat)(x:A):O.res f (.fa o x)=(f x).bind fun x=>some (.fa o x):=rfl
theorem rs_ia(f:A->Option D)(es:Nat)(x i:A):O.res f (.ia es x i)=(f x).bind fun x=>(f i).bind fun i=>some (.ia es x i):=rfl
theorem zQK(f:A->Option D)(x:A):O.res f (.len x)=(f x).bind fun x=>some (.len x):=rfl
theorem zQO(f:A->Option D):O.res f (.mmk)=some (.mmk):=rfl
theorem zQP(f:A->Option D)(kd:Nat)(m k v:A):O.res f (.mup kd m k v)=(f m).bind fun m=>(f k).bind fun k=>(f v).bind fun v=>some (.mup kd m k v):=rfl
theorem zQN(f:A->Option D)(kd:Nat)(z:F)(ok:Bool)(m k:A):O.res f (.mlk kd z ok m k)=(f m).bind fun m=>(f k).bind fun k=>some (.mlk kd z ok m k):=rfl
theorem zQJ(f:A->Option D)(es:Nat)(z:List F)(x:A):O.res f (.clr es z x)=(f x).bind fun x=>some (.clr es z x):=rfl
theorem zQL(f:A->Option D)(g:Nat)(a b:List A):O.res f (.mkf g a b)=(zax f a).bind fun a=>(zax f b).bind fun b=>some (.mkf g a b):=rfl
end
theorem v_mv(h:Nat->Option Ob)(c:Nat)(d:D):opv h c (.mv d)=some {d,c}:=rfl
theorem zQ8(h:Nat->Option Ob)(c:Nat)(b:Bool)(x y:D):opv h c (.pick (.f (.b b)) x y)=some {d:=if b then x else y,c}:=rfl
theorem v_new(h:Nat->Option Ob)(c:Nat)(cs:List F):opv h c (.new cs)=some {d:= .ptr c cs.length 0 0,wr:=[(c,some (.arr cs.length 0 [cs.map D.f]))],c:=c+1}:=rfl
theorem v_box(h:Nat->Option Ob)(c:Nat)(x:D):opv h c (.box x)=om x.cells fun cs=>some {d:= .ptr c cs.length 0 0,wr:=[(c,some (.arr cs.length 0 [cs]))],c:=c+1}:=by
 simp only[opv,om];cases x.cells<;>rfl
theorem v_ld(h:Nat->Option Ob)(c:Nat)(g:Bool)(n:Nat)(x:D):opv h c (.ld g n x)=om (zcn g n h x) fun p=>some {d:=p.1,rd:=p.2,c}:=by
 simp only[opv,om];cases zcn g n h x<;>rfl
theorem v_st(h:Nat->Option Ob)(c:Nat)(n:Nat)(x v:D):opv h c (.st n x v)=om (zes n h x v) fun p=>some {d:= .f .un,rd:=[p.1],wr:=[(p.1,some p.2)],c}:=by
 simp only[opv,om];cases zes n h x v<;>rfl
theorem zN5(h:Nat->Option Ob)(c a b e f:Nat):opv h c (.nck (.ptr a b e f))=some {d:= .ptr a b e f,c}:=rfl
theorem v_bin(h:Nat->Option Ob)(c:Nat)(op:BinOp)(x y:F):opv h c (.bin op (.f x) (.f y))=om (zbv op x y) fun z=>some {d:= .f z,c}:=by
 simp only[opv,om];cases zbv op x y<;>rfl
theorem v_fa(h:Nat->Option Ob)(c o:Nat)(x:D):opv h c (.fa o x)=om (faB o x) fun d=>some {d,c}:=by
 simp only[opv,om];cases x with
 |f y=>cases y<;>rfl
 |_=>rfl
theorem v_ia(h:Nat->Option Ob)(c es:Nat)(x i:D):opv h c (.ia es x i)=om (zbz i) fun n=>om (iaB es x n) fun d=>some {d,c}:=by
 simp only[opv,om,okD];cases zbz i with
 |none=>rfl
 |some n=>
  simp only[Option.bind_some];cases x with
  |f y=>
   cases y with
   |sl e l=>
    simp only[iaB];split
    ·cases l[n]? <;>rfl
    ·rfl
   |_=>rfl
  |sl id off m e lim ex=>simp only[iaB];split<;>rfl
  |_=>rfl
theorem v_len(h:Nat->Option Ob)(c:Nat)(x:D):opv h c (.len x)=om (zcr x) fun n=>some {d:= .f (.i .i64 n),c}:=by
 simp only[opv,om];cases zcr x<;>rfl
theorem v_mmk(h:Nat->Option Ob)(c:Nat):opv h c .mmk=some {d:= .mp c,wr:=[(c,some (.map []))],c:=c+1}:=rfl
theorem v_bld(h:Nat->Option Ob)(c:Nat)(z:List F)(ps:List (Nat×Nat×D)):opv h c (.bld z ps)=om (zd0 (z.map D.f) ps) fun cs=>some {d:= .ag cs,c}:=by
 simp only[opv,om];cases zd0 (z.map D.f) ps<;>rfl
theorem zpP(h:Nat->Option Ob)(c es byt:Nat)(z:List F)(l m:D):opv h c (.mks es byt z l m)=om (zbz l) fun l=>om (zbz m) fun m=>if l≤m/\m≤zaj/\m*byt≤zaj then
    some {d:= .sl c 0 l es m true,wr:=[(c,some (.arr es 0 (List.replicate m (z.map D.f))))],c:=c+1} else none:=by
 simp only[opv,om];cases zbz l with
 |none=>rfl
 |some a=>cases zbz m<;>rfl
def upM(id:Nat)(kd:Nat)(k:F)(v:D)(c:Nat)(ents:List (F×D)):Option (Option (Nat×D))->Option Rs
 |some (some (i,_))=>some {d:= .f .un,rd:=[id],wr:=[(id,some (.map (ents.set i (k,v))))],c}
 |some none=>some {d:= .f .un,rd:=[id],wr:=[(id,some (.map (ents++[(k,v)])))],c}
 |none=>none
theorem up_s{id kd i:Nat}{k:F}{v w:D}{c:Nat}{ents:List (F×D)}:upM id kd k v c ents (some (some (i,w)))=some {d:= .f .un,rd:=[id],wr:=[(id,some (.map (ents.set i (k,v))))],c}:=rfl
theorem up_n{id kd:Nat}{k:F}{v:D}{c:Nat}{ents:List (F×D)}:upM id kd k v c ents (some none)=some {d:= .f .un,rd:=[id],wr:=[(id,some (.map (ents++[(k,v)])))],c}:=rfl
def upO(id kd:Nat)(k:F)(v:D)(c:Nat):Ob->Option Rs
 | .map ents=>if zfM kd k=true then upM id kd k v c ents (zcL kd k ents 0)else none
 |_=>none
theorem upO_m{id kd:Nat}{k:F}{v:D}{c:Nat}{ents:List (F×D)}:upO id kd k v c (.map ents)=if zfM kd k=true then upM id kd k v c ents (zcL kd k ents 0)else none:=rfl
theorem v_mup(h:Nat->Option Ob)(c kd id:Nat)(k:F)(v:D):opv h c (.mup kd (.mp id) (.f k) v)=om (h id) (upO id kd k v c):=by
 simp only[opv,om];cases h id with
 |none=>rfl
 |some o=>
  cases o with
  |arr=>rfl
  |map ents=>
   simp only[Option.bind_some,upO];split
   ·cases zcL kd k ents 0 with
    |none=>rfl
    |some x=>cases x with
     |none=>rfl
     |some y=>rfl
   ·rfl
def lkM(id:Nat)(z:F)(ok:Bool)(c:Nat):Option (Option (Nat×D))->Option Rs
 |some (some (_,v))=>some {d:=if ok then .tu [v,.f (.b true)]else v,rd:=[id],c}
 |some none=>some {d:=if ok then .tu [z.d,.f (.b false)]else z.d,rd:=[id],c}
 |none=>none
theorem lk_s{id i:Nat}{z:F}{ok:Bool}{c:Nat}{v:D}:lkM id z ok c (some (some (i,v)))=some {d:=if ok then .tu [v,.f (.b true)]else v,rd:=[id],c}:=rfl
theorem lk_n{id:Nat}{z:F}{ok:Bool}{c:Nat}:lkM id z ok c (some none)=some {d:=if ok then .tu [z.d,.f (.b false)]else z.d,rd:=[id],c}:=rfl
def lkO(id kd:Nat)(z:F)(ok:Bool)(k:F)(c:Nat):Ob->Option Rs
 | .map ents=>if zfM kd k=true then lkM id z ok c (zcL kd k ents 0)else none
 |_=>none
theorem lkO_m{id kd:Nat}{z:F}{ok:Bool}{k:F}{c:Nat}{ents:List (F×D)}:lkO id kd z ok k c (.map ents)=if zfM kd k=true then lkM id z ok c (zcL kd k ents 0)else none:=rfl
theorem v_mlk(h:Nat->Option Ob)(c kd id:Nat)(z:F)(ok:Bool)(k:F):opv h c (.mlk kd z ok (.mp id) (.f k))=om (h id) (lkO id kd z ok k c):=by
 simp only[opv,om];cases h id with
 |none=>simp
 |some o=>
  cases o with
  |arr=>simp[lkO]
  |map ents=>
   simp only[Option.bind_some,lkO];split
   ·cases zcL kd k ents 0 with
    |none=>rfl
    |some x=>cases x with
     |none=>rfl
     |some y=>rfl
   ·rfl
theorem sk_s(x:List UInt8):zfM 1 (.s x)=true:=rfl
theorem sk_i(k:IntKind)(x:Int):zfM 0 (.i k x)=true:=rfl
theorem ce_mp(x:Nat):(D.mp x).cells=some [.mp x]:=rfl
theorem ce_fn(x:Nat)(a b:List D):(D.fn x a b).cells=some [.fn x a b]:=rfl
theorem zMk:(D.f .nilf).cells=some [.f .nilf]:=rfl
theorem zMl:(D.f .nilp).cells=some [.f .nilp]:=rfl
theorem zPu(n:Nat):(D.f (.fn n)).cells=some [.f (.fn n)]:=rfl
theorem zPD:(F.nilp).d= .f .nilp:=rfl
theorem zPx:(F.nilf).d= .f .nilf:=rfl
theorem d_fn(n:Nat):(F.fn n).d= .f (.fn n):=rfl
theorem zPC:(F.nilm).d= .f .nilm:=rfl
theorem h8_mp(a:Nat)(l:List (List D)):hd8 ([.mp a]::l)=false:=rfl
theorem h8_fn(x:Nat)(a b:List D)(l:List (List D)):hd8 ([.fn x a b]::l)=false:=rfl
theorem zMT(l:List (List D)):hd8 ([.f .nilf]::l)=false:=rfl
theorem zMV(l:List (List D)):hd8 ([.f .nilp]::l)=false:=rfl
def Frm(h h':T Ob)(c:Nat):Prop:=∀id,id<c->h'.get id=h.get id
def D.oid:D->Option Nat
 | .sl id _ _ _ _ _=>some id
 |_=>none
theorem zQg(a b c d e:Nat)(x:Bool):(D.sl a b c d e x).oid=some a:=rfl
theorem oid_f(x:F):(D.f x).oid=none:=rfl
theorem if_sl(a b c d e:Nat)(x:Bool):(D.sl a b c d e x).isF=false:=rfl
theorem if_f(x:F):(D.f x).isF=true:=rfl
theorem zP8(a b c d:Nat):(D.ptr a b c d).isF=false:=rfl
theorem if_ag(l:List D):(D.ag l).isF=D.zhA l:=rfl
theorem if_tu(l:List D):(D.tu l).isF=D.zhA l:=rfl
theorem if_n:D.zhA []=true:=rfl
theorem if_c(d:D)(l:List D):D.zhA (d::l)=(d.isF&&D.zhA l):=rfl
def Gro(h:T Ob)(lo c es:Nat)(d:D)(els:List (List D)):Prop:=
 (d= .f .nils/\els=[])\/∃id ro,d= .sl id 0 els.length es els.length false/\els≠[]/\h.get id=some (.arr es ro els)/\ro≤els.length/\lo≤id/\id<c
omit [Globs]in
theorem Gro.nil{h:T Ob}{lo c es:Nat}:Gro h lo c es (.f .nils) []:= .inl ⟨rfl,rfl⟩
omit [Globs]in
theorem Gro.held{h:T Ob}{lo c es:Nat}{d:D}{els:List (List D)}(hg:Gro h lo c es d els):Held h lo c es d els:=by
 rcases hg with h|⟨id,ro,h1,h2,h3,h4,h5,h6⟩
 ·exact .inl h
 ·exact .inr ⟨id,ro,h1,h2,h3,h5,h6⟩
omit [Globs]in
theorem zcb{h h':T Ob}{lo c c' es:Nat}{d:D}{els:List (List D)}(hg:Gro h lo c es d els)(hc:c≤c')(hh:∀id,lo≤id->id<c->h'.get id=h.get id):Gro h' lo c' es d els:=by
 rcases hg with h|⟨id,ro,h1,h2,h3,h4,h5,h6⟩
 ·exact .inl h
 ·exact .inr ⟨id,ro,h1,h2,by rw[hh id h5 h6];exact h3,h4,h5,by omega⟩
omit [Globs]in
theorem zcS{h:T Ob}{lo c es:Nat}{d:D}{els:List (List D)}(hg:Gro h lo c es d els):d.cells=some [d]:=by
 rcases hg with⟨rfl,_⟩ |⟨id,ro,rfl,_⟩ <;>rfl
omit [Globs]in
theorem zeK{h:T Ob}{lo c es:Nat}{d:D}{els:List (List D)}(hg:Gro h lo c es d els):zcr d=some els.length:=by
 rcases hg with⟨rfl,rfl⟩ |⟨id,ro,rfl,_⟩ <;>rfl
theorem zq7{h:T Ob}{lo c es byt:Nat}{d:D}{els new:List (List D)}{rd:List Nat}(hg:Gro h lo c es d els)(hlo:lo≤c)(hlen:els.length+new.length≤1000000)(hb:byt≤1000):
  ∃r,zbU es byt h.get c d new rd=some r/\zat r.c r.wr=true/\Gro (wrT h r.wr) lo r.c es r.d (els++new)/\c≤r.c/\(∀id,id<c->d.oid≠some id->(wrT h r.wr).get id=h.get id)/\
   (∀x,x∈r.wr.map (·.1)->x=c\/d.oid=some x)/\(∀x,x∈r.rd->x∈rd\/d.oid=some x)/\(∀x,r.d.oid=some x->x=c\/d.oid=some x):=by
 have hm:∀n,n≤1000000->n≤zaj:=fun n hn=>by have:=zaR (n:=n) (by omega);simpa using this
 have hmb:∀n,n≤1000000->n*byt≤zaj:=fun n hn=>by
  have:n*byt≤1000000*1000:=Nat.mul_le_mul hn hb;have h2:=zaR (n:=n*byt) (by omega);simpa using h2
 by_cases h0:new.length=0
 ·have hn:new=[]:=List.length_eq_zero_iff.1 h0;subst hn;rcases hg with⟨rfl,rfl⟩ |⟨id,ro,rfl,he,ho,hr,hl,hc⟩
  ·exact⟨{d:= .f .nils,rd,c},by rw[zht];simp,rfl,.inl ⟨rfl,rfl⟩,Nat.le_refl _,fun _ _ _=>rfl,by simp,fun x hx=> .inl hx,by simp[D.oid]⟩
  ·exact⟨{d:= .sl id 0 els.length es els.length false,rd,c},by rw[zkJ];simp,rfl,.inr ⟨id,ro,by simp,by simpa using he,by simpa [wrT]using ho,by simpa using hr,hl,hc⟩,Nat.le_refl _,fun _ _ _=>rfl,by simp,fun x hx=> .inl hx,fun x hx=> .inr hx⟩
 ·rcases hg with⟨rfl,rfl⟩ |⟨id,ro,rfl,he,ho,hr,hl,hc⟩
  ·refine⟨{d:= .sl c 0 new.length es new.length false,rd,wr:=[(c,some (.arr es 0 new))],c:=c+1},?_,?_,.inr ⟨c,0,rfl,?_,?_,Nat.zero_le _,hlo,by simp⟩,by simp,?_,by simp,fun x hx=> .inl hx,by simp[D.oid]⟩
   ·rw[zht,if_neg h0,if_pos ⟨hm _ (by simpa using hlen),hmb _ (by simpa using hlen)⟩]
   ·simp[zat,Nat.blt_eq]
   ·simpa using fun e=>h0 (by simp[e])
   ·simp[wrT,T.zab]
   ·intro i hi _;have:i≠c:=by omega
    simp[wrT,T.zab,this]
  ·refine⟨{d:= .sl c 0 (els.length+new.length) es (els.length+new.length) false,rd:=id::rd,wr:=[(id,none),(c,some (.arr es ro (els++new)))],c:=c+1},?_,?_,.inr ⟨c,ro,by simp,?_,?_,by simp;omega,hlo,by simp⟩,by simp,?_,?_,?_,by simp[D.oid]⟩
   ·rw[zkJ,if_neg h0,ho];have h1:¬(0+els.length+new.length≤els.length):=by omega
    have h2:=hm (els.length+new.length) hlen;have h3:=hmb (els.length+new.length) hlen;simp[om,apO,h1,h2,h3,hr];omega
   ·simp[zat,Nat.blt_eq];omega
   ·simp[he]
   ·simp[wrT,T.zab]
   ·intro i hi hne;have h1:i≠c:=by omega
    have h2:i≠id:=fun e=>hne (by rw[e];rfl)
    simp[wrT,T.zab,T.zfq,h1,h2]
   ·intro x hx;simp only[List.map_cons,List.map_nil,List.mem_cons,List.not_mem_nil,or_false]at hx;rcases hx with rfl|rfl
    ·exact .inr rfl
    ·exact .inl rfl
   ·intro x hx;rcases List.mem_cons.1 hx with rfl|hx
    ·exact .inr rfl
    ·exact .inl hx
theorem zo4{h:T Ob}{lo c es byt:Nat}{d:D}{els new:List (List D)}{rd:List Nat}{K:Rs->Prop}(hg:Gro h lo c es d els)(hlo:lo≤c)(hlen:els.length+new.length≤1000000)(hb:byt≤1000)
  (hK:∀r:Rs,zat r.c r.wr=true->Gro (wrT h r.wr) lo r.c es r.d (els++new)->c≤r.c->(∀id,id<c->d.oid≠some id->(wrT h r.wr).get id=h.get id)->(∀x,x∈r.wr.map (·.1)->x=c\/d.oid=some x)->(∀x,x∈r.rd->x∈rd\/d.oid=some x)->K r):oB (zbU es byt h.get c d new rd) K:=by
 obtain⟨r,h1,h2,h3,h4,h5,h6,h7,_⟩ :=zq7 (byt:=byt) (rd:=rd) hg hlo hlen hb;rw[h1];exact hK r h2 h3 h4 h5 h6 h7
def rulI [Globs]:=
 (qI @g_mv (qI @zP4 (qI @g_new (qI @g_box (qI @g_bld (qI @g_bsl (qI @g_bsf (qI @g_ld (qI @g_st (qI @g_nck (qI @g_bin (qI @g_eqb (qI @g_eqn (qI @g_eqa (qI @g_un (qI @g_cvi (qI @g_mks (qI @g_slc (qI @g_fa (qI @g_fld (qI @g_ia (qI @g_ext (qI @g_app (qI @g_len (qI @g_mm (qI @g_mmk (qI @g_mup (qI @g_mlk (qI @g_clr (qI @g_mkf (qI @e_box (qI @o_nck (qI @e_nck (qI @o_mmk (qI @e_mmk (qI @o_mup (qI @e_mup (qI @o_mlk (qI @e_mlk (qI @o_clr (qI @rs_mv (qI @zNk (qI @zQV (qI @zQG (qI @rs_ld (qI @rs_st (qI @zQS (qI @zQF (qI @rs_fa (qI @rs_ia (qI @zQK (qI @zQO (qI @zQP (qI @zQN (qI @zQJ (qI @zQL (qI @zLs (qI @um_h (qI @um_c (qI @zLr (qI @zIk (qI @ca_h (qI @ca_c (qI @zIj (qI @zLq (qI @ug_h (qI @ug_c (qI @zLp (qI @zIr (qI @cg_h (qI @cg_c (qI @zIp (qI @zbN (qI @zQa (qI @zM0 (qI @cg_n (qI @zMo (qI @c1_nn (qI @dj_n (qI @c1_rn (qI @c1_nr (qI @c1_qn (qI @c1_nq (qI @g_nil (qI @zMK (qI @g_call (qI @zMJ (qI @zMI (qI @v_mv (qI @zQ8 (qI @v_new (qI @v_box (qI @v_ld (qI @v_st (qI @zN5 (qI @v_bin (qI @v_fa (qI @v_ia (qI @v_len (qI @v_mmk (qI @v_bld (qI @zpP (qI @up_s (qI @up_n (qI @upO_m (qI @v_mup (qI @lk_s (qI @lk_n (qI @lkO_m (qI @v_mlk (qI @sk_s (qI @sk_i (qI @ce_mp (qI @ce_fn (qI @zMk (qI @zMl (qI @zPu (qI @zPD (qI @zPx (qI @d_fn (qI @zPC (qI @h8_mp (qI @h8_fn (qI @zMT (qI @zMV (qI @zQg (qI @oid_f (qI @if_sl (qI @if_f (qI @zP8 (qI @if_ag (qI @if_tu (qI @if_n (qI @if_c True.intro))))))))))))))))))))))))))))))))))))))))))))))))))))))))))))))))))))))))))))))))))))))))))))))))))))))))))))))))))))))))))))))))))))))
def rW [Globs]:=And.intro rulI rR
def rG [Globs]:=qI @zBv (qI @zHm (qI @zHk (qI @zBu (qI @zy2 (qI @zFd (qI @zFb (qI @zy1 (qI @zBd (qI @zG5 (qI @zG4 (qI @zBc (qI @zBy (qI @zHr (qI @zHq (qI @zBx (qI @ztw (qI @zy4 (qI @zy3 (qI @ztv (qI @zLs (qI @um_h (qI @um_c (qI @zLr (qI @zLq (qI @ug_h (qI @ug_c (qI @zLp (qI @zIr (qI @cg_h (qI @cg_c (qI @zIp (qI @zIk (qI @ca_h (qI @ca_c (qI @zIj (qI @zHA (qI @zHD (qI @zHz (@zbN)))))))))))))))))))))))))))))))))))))))
end Go.Vse
