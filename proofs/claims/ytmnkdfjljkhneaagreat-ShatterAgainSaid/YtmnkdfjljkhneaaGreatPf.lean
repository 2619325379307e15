/- Substitute: terms mapped in a new query. -/
import Derived.Test.YtmnkdfjljkhneaaGreatPe
import Derived.KernelRfl
import Derived.IntWalk
set_option linter.all false
section
namespace Go.Proofs.YtmnkdfjljkhneaaGreat
open Go Go.Vse Go.Vse.Sm
set_option maxRecDepth 100000
set_option maxHeartbeats 1000000
set_option linter.all false
theorem fn62:pr.fn 62=some g62:=by kernel_rfl
theorem fn61:pr.fn 61=some g61:=by kernel_rfl
theorem fn27:pr.fn 27=some g27:=by kernel_rfl
theorem ro62(t:Trm)(s:Str)(n:Int)(hs:s≠[])(ht:zax t){h:T Ob}{c A B:Nat}(gA:h.get A=some (.arr 1 0 [[.f (.s s)]]))(gB:h.get B=some (.arr 3 0 [[.f (.i .i64 1),.f (.i .i64 n),.f (.s [])]]))(hA:A<c)(hB:B<c):RO pr 62 [.ag (tmD t),.ptr A 1 0 0,.ptr B 3 0 0] h c (.ag (tmD (sbT s (.cst n) t))):=by
 refine zdU za8 fn62 rfl ?_;simp only[g62,rU];have nA:¬A=c:=by omega
 have nB:¬B=c:=by omega
 have nA1:¬A=c+1:=by omega
 have nB1:¬B=c+1:=by omega
 unfold sbT;cases t with
 |cst a=>
  simp -implicitDefEqProofs [rW,st0,zaj,tmD,zdQ,zdL,zdN,gA,gB,nA,nB,nA1,nB1,hs,zaU];simp (disch:=omega) only[zbu,zb8]
 |var u=>
  by_cases e:u=s
  ·subst e;simp -implicitDefEqProofs [rW,st0,zaj,tmD,zcu,zcs,zct,gA,gB,nA,nB,nA1,nB1,hs,zaU];simp (disch:=omega) only[zbu,zb8];exact⟨⟨rfl,rfl,rfl⟩,trivial⟩
  ·have e2:¬(Trm.var u=Trm.var s):=fun h=>e (by cases h;rfl)
   simp -implicitDefEqProofs [rW,st0,zaj,tmD,zcu,zcs,zct,gA,gB,nA,nB,nA1,nB1,hs,e,e2,zaU];simp (disch:=omega) only[zbu,zb8]
theorem zKI{f:A->Option D}{h:Nat->Option Ob}{c:Nat}{z:List F}{ps:List (Nat×Nat×A)}:((O.bld z ps).res f).bind (opv h c)=om (zas (fun(p:Nat×Nat×A)=>(f p.2.2).map fun d=>(p.1,p.2.1,d)) ps) fun qs=>om (zcW (z.map D.f) qs) fun cs=>some {d:= .ag cs,c}:=by
 have e:(O.bld z ps).res f=(zas (fun(p:Nat×Nat×A)=>(f p.2.2).map fun d=>(p.1,p.2.1,d)) ps).map fun qs=>O.bld z qs:=by
  simp only[O.res];have e2:(fun(x:Nat×Nat×A)=>match x with|(o,n,x)=>do some (o,n,<-f x))=fun(p:Nat×Nat×A)=>(f p.2.2).map fun d=>(p.1,p.2.1,d):=by
   funext ⟨o,n,x⟩
   show(f x).bind (fun d=>some (o,n,d))=(f x).map fun d=>(o,n,d)
   cases f x<;>rfl
  rw[show(zas (fun x=>match x with|(o,n,x)=>do some (o,n,<-f x)) ps)=zas (fun(p:Nat×Nat×A)=>(f p.2.2).map fun d=>(p.1,p.2.1,d)) ps from by rw[<-e2]];cases zas (fun(p:Nat×Nat×A)=>(f p.2.2).map fun d=>(p.1,p.2.1,d)) ps<;>rfl
 rw[e];cases zas (fun(p:Nat×Nat×A)=>(f p.2.2).map fun d=>(p.1,p.2.1,d)) ps with
 |none=>rfl
 |some qs=>exact zFv h c z qs
def mpA(f:Trm->Trm)(a:Atm):Atm:=⟨a.r,a.neg,a.ts.map f⟩
def mpK(f:Trm->Trm)(k:Cm):Cm:=⟨k.op,f k.l,f k.r⟩
def mpC(f:Trm->Trm)(c:CQ):CQ:=⟨c.as.map (mpA f),c.cs.map (mpK f),false,false⟩
def znG(h:T Ob)(lo c:Nat)(d:D)(X:F):Prop:=(d= .f X\/∃a b e f g x,d= .sl a b e f g x)/\d.cells=some [d]/\∀H:T Ob,(∀x,lo≤x->x<c->H.get x=h.get x)->∀k,∃rd,frz H.get (k+3) d=some (X,rd)
theorem zyR{h:T Ob}{lo c:Nat}{d:D}{X:F}(H:znG h lo c d X)(hd:d.isF=true)(h2:T Ob)(lo2 c2:Nat):znG h2 lo2 c2 d X:=by
 rcases H.1 with rfl|⟨a,b,e,f,g,x,rfl⟩
 ·exact⟨.inl rfl,H.2.1,fun H _ k=>⟨[],rfl⟩⟩
 ·cases hd
def MpL(pr:Pr)(f:Trm->Trm)(g:Nat)(cap:List D)(h:T Ob)(c:Nat):Prop:=∀t,zax t->∀(H:T Ob) (c':Nat),(∀x,x<c->H.get x=h.get x)->c≤c'->RO pr g (.ag (tmD t)::cap) H c' (.ag (tmD (f t)))
theorem zzV(t:Trm):(if 4≤(tmF t).length then some (D.ag (List.take 4 (List.map D.f (tmF t))))else none)=some (.ag (tmD t)):=by cases t<;>rfl
def XP1(h0:T Ob)(f:Trm->Trm)(fv:D)(q:CQ)(c0 n:Nat)(s:St):Prop:=∃(B:D) (W:List (Atm×D)),W.map (·.1)=(q.as.take n).map (mpA f)/\(s.tm.get 1=some (fv)/\s.tm.get 2=some (.ptr c0 2 0 0)/\s.tm.get 4=some (.ptr (c0+1) 2 0 0)/\s.tm.get 5=some (.ptr (c0+2) 2 0 0)/\s.tm.get 14=some (.f (zaK q))/\s.tm.get 15=some (.f (.i .i64 q.as.length))/\s.tm.get 16=some (.f (.i .i64 n)))/\s.h.get c0=some (.arr 2 0 [[.f (zaK q),.f (zaN q)]])/\s.h.get (c0+1)=some (.arr 2 0 [[.f .nils,.f .nils]])/\s.h.get (c0+2)=some (.arr 2 0 [[B,.f .nils]])/\Gro s.h (c0+3) s.c 3 B (zeo W)/\(∀p∈W,Own s.h (c0+3) s.c p.2 (zb7 p.1.ts)/\∀x,p.2.oid=some x->B.oid≠some x)/\c0+3≤s.c/\Frm h0 s.h c0/\s.lw≤s.c
def XP2(s0:St)(f:Trm->Trm)(fv:D)(A:Atm)(q:CQ)(c0 n m:Nat)(s:St):Prop:=∃T:D,(s.tm.get 1=some (fv)/\s.tm.get 2=some (.ptr c0 2 0 0)/\s.tm.get 4=some (.ptr (c0+1) 2 0 0)/\s.tm.get 5=some (.ptr (c0+2) 2 0 0)/\s.tm.get 14=some (.f (zaK q))/\s.tm.get 15=some (.f (.i .i64 q.as.length))/\s.tm.get 16=some (.f (.i .i64 n))/\s.tm.get 8=some (.ptr (s0.c+1) 3 0 0)/\s.tm.get 26=some (.f (zb7 A.ts))/\s.tm.get 27=some (.f (.i .i64 A.ts.length))/\s.tm.get 28=some (.f (.i .i64 m)))/\s.h.get (s0.c+1)=some (.arr 3 0 [[.f (.s A.r),.f (.b A.neg),T]])/\Gro s.h (s0.c+2) s.c 4 T ((A.ts.take m).map fun t=>tmD (f t))/\s0.c+2≤s.c/\(∀x,x<s0.c->s.h.get x=s0.h.get x)/\s.lw≤s.c
theorem zxI(k:Cm):(if 9≤(cmF k).length then some (D.ag (List.take 9 (List.map D.f (cmF k))))else none)=some (.ag (cmD k)):=by
 obtain⟨o,l,r⟩ :=k;cases l<;>cases r<;>rfl
def XP3(s0:St)(f:Trm->Trm)(fv B:D)(q:CQ)(c0 n:Nat)(s:St):Prop:=∃C:D,(s.tm.get 1=some (fv)/\s.tm.get 2=some (.ptr c0 2 0 0)/\s.tm.get 4=some (.ptr (c0+1) 2 0 0)/\s.tm.get 5=some (.ptr (c0+2) 2 0 0)/\s.tm.get 49=some (.f (zaN q))/\s.tm.get 50=some (.f (.i .i64 q.cs.length))/\s.tm.get 51=some (.f (.i .i64 n)))/\s.h.get (c0+2)=some (.arr 2 0 [[B,C]])/\Gro s.h s0.c s.c 9 C ((q.cs.take n).map fun k=>cmD (mpK f k))/\s0.c≤s.c/\(∀x,x<s0.c->x≠c0+2->s.h.get x=s0.h.get x)/\s.lw≤s.c
set_option maxHeartbeats 4000000 in
theorem zDy(f:Trm->Trm)(q:CQ)(hq:CqG q){h:T Ob}{c0 g:Nat}{fv:D}{cap:List D}(hfv:zc1 fv=some (g,[],cap))(hcl:MpL pr f g cap h c0):Eff pr 61 [.ag [.f (zaK q),.f (zaN q)],fv] h c0 fun d h' c'=>Frm h h' c0/\∃dA dC,d= .ag [dA,dC]/\znG h' c0 c' dA (zaK (mpC f q))/\znG h' c0 c' dC (zaN (mpC f q)):=by
 refine zcG za8 fn61 ?_;simp only[g61,rU];have n02:¬(c0=c0+1+1):=by omega
 have n01:¬(c0=c0+1):=by omega
 have n12:¬(c0+1=c0+1+1):=by omega
 simp -implicitDefEqProofs [rW,st0,zaj,za7,za4,zdG,n02,n01,n12];refine ze2 q.as.length (XP1 h f fv q c0) (fun x s=>x= .exit 0/\XP1 h f fv q c0 q.as.length s) ?_ ?_ _ ?_ ?_
 ·rintro n s hn ⟨B,W,hW,⟨h1,h2,h4,h5,h14,h15,h16⟩,gq,gz,gB,hg,hall,hlo,hF,hlw⟩;have hw:=zaC n (by have:=hq.sa;omega);have hx:q.as[n]? =some q.as[n]:=List.getElem?_eq_getElem hn;have hst:=hq.st _ (List.getElem_mem hn);have htn:=hq.tn _ (List.getElem_mem hn);have hok:=(hq.toCqSm.toCqOk.as _ (List.getElem_mem hn)).1;have htk:=List.take_succ_eq_append_getElem hn;generalize hAn:q.as[n]=A at hx hst htk htn hok;simp -implicitDefEqProofs [rW,h1,h2,h4,h5,h14,h15,h16,gq,gz,gB,hn,zeK,hx,hAn,atE,zbO];rw[zbW];simp -implicitDefEqProofs [rW,];refine ze2 A.ts.length (XP2 s f fv A q c0 n) (fun x s'=>x= .exit 2/\XP2 s f fv A q c0 n A.ts.length s') ?_ ?_ _ ?_ ?_
  ·rintro m s' hm ⟨T,⟨h1,h2,h4,h5,h14,h15,h16,h8,h26,h27,h28⟩,gA,hT,hlo',hlow,hlw'⟩;have hw2:=zaC m (by omega);have hx2:A.ts[m]? =some A.ts[m]:=List.getElem?_eq_getElem hm;have hk2:=List.take_succ_eq_append_getElem hm;have hot:=hok _ (List.getElem_mem hm);generalize hTm:A.ts[m]=t at hx2 hk2 hot;simp -implicitDefEqProofs [rW,h1,h2,h4,h5,h14,h15,h16,h8,h26,h27,h28,gA,hm,zcM,hx2,hTm,zzV];have nA:¬(s.c+1=s'.c):=by omega
   simp -implicitDefEqProofs [rW,tmD,gA,nA];refine zhy ?_;simp -implicitDefEqProofs [rW,h1,h2,h4,h5,h14,h15,h16,h8,h26,h27,h28,gA,nA,hfv,tmD];refine zw6 (d:= .ag (tmD (f t))) ?_ ?_ ?_ ?_
   ·simp only[rG];refine hcl t hot _ _ (fun x hx=> ?_) (by omega);have a1:¬x=s'.c:=by omega
    rw[<-hF x hx,<-hlow x (by omega)];simp[Vse.T.zad,a1]
   ·simp only[rG]
    repeat refine Nat.le_trans (zbv _ _).1 ?_
    omega
   ·simp -implicitDefEqProofs [rW,]
   ·intro mx hmx;have hmx:s'.c+1+1+1+1+1≤mx:=hmx;simp -implicitDefEqProofs [rW,h1,h2,h4,h5,h14,h15,h16,h8,h26,h27,h28,gA,nA,hfv,tmD];have hup:∀x,x<s'.c->((s'.h.set s'.c (Ob.arr 4 0 [[D.f (F.s []),D.f (F.i IntKind.i64 0),D.f (F.i IntKind.i64 0),D.f (F.s [])]])).set s'.c (Ob.arr 4 0 [[D.f (F.s (tv t)),D.f (F.i IntKind.i64 (tk t)),D.f (F.i IntKind.i64 (tn t)),D.f (F.s [])]])).get x=s'.h.get x:=fun x hx=>by
     have a1:¬x=s'.c:=by omega
     simp[Vse.T.zad,a1]
    refine zgr (zbf (c':=mx+1) hT (by omega) fun x h1 h2=>hup x h2) (by omega) (by simp;omega) (by omega) ?_;intro r hr1 hr2 hr3 hr4 hr5;have z1:=hr4 (s.c+1) (by omega) (zbz hT (by omega));rw[hup _ (by omega),gA]at z1;refine⟨hr1,?_⟩;simp -implicitDefEqProofs [rW,z1,zbi hr2];refine⟨by omega,r.d,?_,?_,?_,?_,fun x hx=> ?_,?_⟩
    ·simp -implicitDefEqProofs [rW,h1,h2,h4,h5,h14,h15,h16,h8,h26,h27,h28,hw2]
    ·simp -implicitDefEqProofs [rW,]
    ·rw[hk2,List.map_append];refine zbf hr2 (by simp -implicitDefEqProofs [rW,];omega) fun x h1 h2=> ?_
     have nx:¬(x=s.c+1):=by omega
     simp -implicitDefEqProofs [rW,nx]
    ·simp -implicitDefEqProofs [rW,];omega
    ·have nx:¬(x=s.c+1):=by omega
     simp -implicitDefEqProofs [rW,nx];rw[hr4 x (by omega) (zbz hT (by omega)),hup x (by omega),hlow x hx]
    ·simp -implicitDefEqProofs [rW,]
     repeat refine Nat.le_trans (zbv _ _).1 ?_
     omega
  ·rintro s' ⟨T,⟨h1,h2,h4,h5,h14,h15,h16,h8,h26,h27,h28⟩,gA,hT,hlo',hlow,hlw'⟩;simp -implicitDefEqProofs [rW,h1,h2,h4,h5,h14,h15,h16,h8,h26,h27,h28];refine⟨T,?_,gA,hT,hlo',hlow,hlw'⟩;simp -implicitDefEqProofs [rW,h1,h2,h4,h5,h14,h15,h16,h8,h26,h27,h28]
  ·have n1:¬(s.c=s.c+1):=by omega
   refine⟨.f .nils,?_,?_,.inl ⟨rfl,by simp⟩,?_,fun x hx=> ?_,?_⟩
   ·simp -implicitDefEqProofs [rW,h1,h2,h4,h5,h14,h15,h16]
   ·simp -implicitDefEqProofs [rW,n1]
   ·simp -implicitDefEqProofs [rW,]
   ·have a1:¬(x=s.c):=by omega
    have a2:¬(x=s.c+1):=by omega
    simp -implicitDefEqProofs [rW,a1,a2]
   ·simp -implicitDefEqProofs [rW,]
    repeat refine Nat.le_trans (zbv _ _).1 ?_
    omega
  ·rintro x s' ⟨rfl,T,⟨h1,h2,h4,h5,h14,h15,h16,h8,h26,h27,h28⟩,gA,hT,hlo',hlow,hlw'⟩;rw[List.take_length]at hT;have gB':=hlow (c0+2) (by omega);have gq':=hlow c0 (by omega);have gz':=hlow (c0+1) (by omega);rw[gB]at gB';rw[gq]at gq';rw[gz]at gz';have hTe:(A.ts.map fun t=>tmD (f t))=(A.ts.map fun t=>tmF (f t)).map fun a=>a.map D.f:=by
    rw[List.map_map];exact List.map_congr_left fun t _=>(zwX _).symm
   have hTo:=hT;rw[hTe]at hTo;have hO:=zla hTo;have hOe:slc 4 (A.ts.map fun t=>tmF (f t))=zb7 (mpA f A).ts:=by
    unfold zb7 mpA;rw[List.map_map];rfl
   rw[hOe]at hO;rcases hT with⟨rfl,e⟩ |⟨X,ro,rfl,hXe,gX,hXr,hX1,hX2⟩
   ·exact absurd (List.map_eq_nil_iff.1 e) htn
   simp -implicitDefEqProofs [rW,h1,h2,h4,h5,h14,h15,h16,h8,h26,h27,h28,gA,gB',znd];have hWl:(zeo W).length≤12:=by
    have h1:W.length=(q.as.take n).length:=by
     have:=congrArg List.length hW;simpa using this
    have:=hq.sa;simp[zeo,h1];omega
   have hB2:∀x,B.oid=some x->c0+3≤x/\x<s.c:=fun x hx=>zcI hg hx
   refine zgr (zbf (c':=s'.c+1) hg (by omega) fun x h1 h2=> ?_) (by omega) (by simp;omega) (by omega) ?_
   ·have nx:¬(x=s'.c):=by omega
    simp[Vse.T.zad,nx];exact hlow x h2
   intro r hr1 hr2 hr3 hr4 hr5;have hP:=hr4 (c0+2) (by omega) (zbz hg (by omega));have nP:¬(c0+2=s'.c):=by omega
   simp[Vse.T.zad,nP,gB']at hP;have hr6:∀x,x<s'.c->B.oid≠some x->(wrT _ r.wr).get x=s'.h.get x:=fun x h1 h2=>by
    have nx:¬(x=s'.c):=by omega
    rw[hr4 x (by omega) h2];simp[Vse.T.zad,nx]
   refine⟨hr1,?_⟩;simp -implicitDefEqProofs [rW,hP,zbi hr2];refine⟨by omega,r.d,W++[(mpA f A,.sl X 0 (A.ts.map fun t=>tmD (f t)).length 4 (A.ts.map fun t=>tmD (f t)).length false)],by rw[htk];simp[hW],?_,?_,?_,?_,?_,?_,?_,?_,?_⟩
   ·simp -implicitDefEqProofs [rW,h1,h2,h4,h5,h14,h15,h16,hw]
   ·have a1:¬(c0=c0+2):=by omega
    simp -implicitDefEqProofs [rW,a1];rw[hr6 c0 (by omega) (zbz hg (by omega)),gq']
   ·have a1:¬(c0+1=c0+2):=by omega
    simp -implicitDefEqProofs [rW,a1];rw[hr6 (c0+1) (by omega) (zbz hg (by omega)),gz']
   ·simp -implicitDefEqProofs [rW,]
   ·have e:zeo (W++[(mpA f A,.sl X 0 (A.ts.map fun t=>tmD (f t)).length 4 (A.ts.map fun t=>tmD (f t)).length false)])=zeo W++[[.f (.s A.r),.f (.b A.neg),.sl X 0 A.ts.length 4 A.ts.length false]]:=by simp[zeo,mpA]
    rw[e];refine zbf hr2 (by simp -implicitDefEqProofs [rW,]) fun x h1 h2=> ?_
    have nx:¬(x=c0+2):=by omega
    simp -implicitDefEqProofs [rW,nx]
   ·intro p hp;rcases List.mem_append.1 hp with hp|hp
    ·obtain⟨o1,o2⟩ :=hall p hp;refine⟨o1.up (fun x hx=> ?_) (Nat.le_refl _) (by simp -implicitDefEqProofs [rW,];omega),fun x hx hy=> ?_⟩
     ·have hx2:=o1.2.2.1 x hx;have nx:¬(x=c0+2):=by omega
      simp -implicitDefEqProofs [rW,nx];rw[hr6 x (by omega) (o2 x hx),hlow x (by omega)]
     ·have hx2:=o1.2.2.1 x hx;rcases hr5 x hy with e|e
      ·omega
      ·exact o2 x hx e
    ·obtain rfl:p=(mpA f A,.sl X 0 (A.ts.map fun t=>tmD (f t)).length 4 (A.ts.map fun t=>tmD (f t)).length false):=by simpa using hp
     refine⟨hO.up (fun x hx=> ?_) (by omega) (by simp -implicitDefEqProofs [rW,];omega),fun x hx hy=> ?_⟩
     ·have hx2:=hO.2.2.1 x hx;have nx:¬(x=c0+2):=by omega
      simp -implicitDefEqProofs [rW,nx];rw[hr6 x (by omega) (fun e=>by have:=zcI hg e;omega)]
     ·have hx2:=hO.2.2.1 x hx;rcases hr5 x hy with e|e
      ·omega
      ·have:=zcI hg e;omega
   ·simp -implicitDefEqProofs [rW,];omega
   ·intro x hx;have nx:¬(x=c0+2):=by omega
    simp -implicitDefEqProofs [rW,nx];rw[hr6 x (by omega) (zbz hg (by omega)),hlow x (by omega)];exact hF x hx
   ·simp -implicitDefEqProofs [rW,]
    repeat refine Nat.le_trans (zbv _ _).1 ?_
    omega
 ·rintro s ⟨B,W,hW,⟨h1,h2,h4,h5,h14,h15,h16⟩,gq,gz,gB,hg,hall,hlo,hF,hlw⟩;simp -implicitDefEqProofs [rW,h1,h2,h4,h5,h14,h15,h16];refine⟨B,W,hW,?_,gq,gz,gB,hg,hall,hlo,hF,hlw⟩;simp -implicitDefEqProofs [rW,h1,h2,h4,h5,h14,h15,h16]
 ·refine⟨.f .nils,[],by simp,?_,?_,?_,?_,.inl ⟨rfl,rfl⟩,by simp,?_,fun x hx=> ?_,?_⟩
  ·simp -implicitDefEqProofs [rW,]
  ·simp -implicitDefEqProofs [rW,n02,n01]
  ·simp -implicitDefEqProofs [rW,n12]
  ·simp -implicitDefEqProofs [rW,]
  ·simp -implicitDefEqProofs [rW,]
  ·have a0:¬(x=c0):=by omega
   have a1:¬(x=c0+1):=by omega
   have a2:¬(x=c0+1+1):=by omega
   simp -implicitDefEqProofs [rW,a0,a1,a2]
  ·simp -implicitDefEqProofs [rW,]
   repeat refine Nat.le_trans (zbv _ _).1 ?_
   omega
 ·rintro x s ⟨rfl,B,W,hW,⟨h1,h2,h4,h5,h14,h15,h16⟩,gq,gz,gB,hg,hall,hlo,hF,hlw⟩;rw[List.take_length]at hW;simp -implicitDefEqProofs [rW,h1,h2,h4,h5,h14,h15,h16,gq,gz,gB,za4,zfg];refine ze2 q.cs.length (XP3 s f fv B q c0) (fun x s'=>x= .exit 4/\XP3 s f fv B q c0 q.cs.length s') ?_ ?_ _ ?_ ?_
  ·rintro n s' hn ⟨C,⟨h1,h2,h4,h5,h49,h50,h51⟩,gC,hC,hlo',hlow,hlw'⟩;have hw:=zaC n (by have:=hq.sc;omega);have hx2:q.cs[n]? =some q.cs[n]:=List.getElem?_eq_getElem hn;have hk2:=List.take_succ_eq_append_getElem hn;have hok:=hq.toCqSm.toCqOk.cs _ (List.getElem_mem hn);generalize hKm:q.cs[n]=k at hx2 hk2 hok;have nA:¬(c0+2=s'.c):=by omega
   obtain⟨op,l,r⟩ :=k;simp -implicitDefEqProofs [rW,h1,h2,h4,h5,h49,h50,h51,gC,hn,zmw,hx2,hKm,zxI,cmD,tmD,nA];refine zhy ?_;simp -implicitDefEqProofs [rW,h1,h2,h4,h5,h49,h50,h51,gC,nA,hfv,tmD];have hH:∀x,x<c0->(∀y,y<s'.c->y≠s'.c)->s'.h.get x=h.get x:=fun x hx _=>by
    rw[<-hF x hx,<-hlow x (by omega) (by omega)]
   refine zw6 (d:= .ag (tmD (f l))) ?_ ?_ ?_ ?_
   ·simp only[rG];refine hcl l hok.1 _ _ (fun x hx=> ?_) (by omega);have a1:¬x=s'.c:=by omega
    rw[<-hF x hx,<-hlow x (by omega) (by omega)];simp[Vse.T.zad,a1]
   ·simp only[rG]
    repeat refine Nat.le_trans (zbv _ _).1 ?_
    omega
   ·simp -implicitDefEqProofs [rW,]
   ·intro mx hmx;have hmx:s'.c+1+1+1+1+1≤mx:=Nat.le_trans (by simp only[rG];omega) hmx;simp -implicitDefEqProofs [rW,h1,h2,h4,h5,h49,h50,h51,gC,nA,hfv,tmD];refine zw6 (d:= .ag (tmD (f r))) ?_ ?_ ?_ ?_
    ·simp only[rG];refine hcl r hok.2 _ _ (fun x hx=> ?_) (by omega);have a1:¬x=s'.c:=by omega
     rw[<-hF x hx,<-hlow x (by omega) (by omega)];simp[Vse.T.zad,a1]
    ·simp only[rG]
     repeat refine Nat.le_trans (zbv _ _).1 ?_
     omega
    ·simp -implicitDefEqProofs [rW,]
    ·intro mx2 hmx2;have hmx2:s'.c+1+1+1+1+1≤mx2:=Nat.le_trans (by simp only[rG];omega) hmx2;simp -implicitDefEqProofs [rW,h1,h2,h4,h5,h49,h50,h51,gC,nA,hfv,tmD,zKI];have hsc:=hq.sc;generalize hHs:((s'.h.set s'.c _).set s'.c _:T Ob)=Hs;have hup:∀x,x<s'.c->Hs.get x=s'.h.get x:=fun x hx=>by
      have a1:¬x=s'.c:=by omega
      rw[<-hHs];simp[Vse.T.zad,a1]
     refine zgr (zbf (c':=mx2+1+1) hC (by omega) fun x h1 h2=>hup x h2) (by omega) (by simp;omega) (by omega) ?_;intro r2 hr1 hr2 hr3 hr4 hr5;have z1:=hr4 (c0+2) (by omega) (zbz hC (by omega));rw[hup _ (by omega),gC]at z1;refine⟨hr1,?_⟩;simp -implicitDefEqProofs [rW,z1,zbi hr2,hHs];refine⟨by omega,r2.d,?_,?_,?_,?_,fun x hx hx2=> ?_,?_⟩
     ·simp -implicitDefEqProofs [rW,h1,h2,h4,h5,h49,h50,h51,hw]
     ·simp -implicitDefEqProofs [rW,]
     ·rw[hk2,List.map_append];refine zbf hr2 (by simp -implicitDefEqProofs [rW,];omega) fun x h1 h2=> ?_
      have nx:¬(x=c0+2):=by omega
      simp -implicitDefEqProofs [rW,nx,hHs]
     ·simp -implicitDefEqProofs [rW,];omega
     ·simp -implicitDefEqProofs [rW,hx2,hHs];rw[hr4 x (by omega) (zbz hC (by omega)),hup x (by omega),hlow x hx hx2]
     ·simp -implicitDefEqProofs [rW,]
      repeat refine Nat.le_trans (zbv _ _).1 ?_
      omega
  ·rintro s' ⟨C,⟨h1,h2,h4,h5,h49,h50,h51⟩,gC,hC,hlo',hlow,hlw'⟩;simp -implicitDefEqProofs [rW,h1,h2,h4,h5,h49,h50,h51];refine⟨C,?_,gC,hC,hlo',hlow,hlw'⟩;simp -implicitDefEqProofs [rW,h1,h2,h4,h5,h49,h50,h51]
  ·refine⟨.f .nils,?_,gB,.inl ⟨rfl,by simp⟩,Nat.le_refl _,fun _ _ _=>rfl,hlw⟩;simp -implicitDefEqProofs [rW,h1,h2,h4,h5]
  ·rintro x s' ⟨rfl,C,⟨h1,h2,h4,h5,h49,h50,h51⟩,gC,hC,hlo',hlow,hlw'⟩;rw[List.take_length]at hC;simp -implicitDefEqProofs [rW,h1,h2,h4,h5,h49,h50,h51,gC];have gz':=hlow (c0+1) (by omega) (by omega);rw[gz]at gz';have hBc:B.cells=some [B]:=zbi hg;have hCc:C.cells=some [C]:=zbi hC;have hup:∀x,x≠c0+1->(s'.h.set (c0+1) (.arr 2 0 [[B,C]])).get x=s'.h.get x:=fun x hx=>by simp[Vse.T.zad,hx]
   have oB:znG (s'.h.set (c0+1) (.arr 2 0 [[B,C]])) c0 s'.c B (zaK (mpC f q)):=by
    refine⟨?_,hBc,fun H hH k=> ?_⟩
    ·rcases hg with⟨rfl,e⟩ |⟨id,ro,rfl,-⟩
     ·refine .inl ?_;have hWn:W=[]:=by simpa [zeo]using e
      have:(mpC f q).as=[]:=by show q.as.map (mpA f)=[];rw[<-hW,hWn];rfl
      unfold zaK Sm.asF;rw[if_neg (by simp[mpC]),this];rfl
     ·exact .inr ⟨_,_,_,_,_,_,rfl⟩
    have hh:∀x,c0+3≤x->x<s.c->H.get x=s.h.get x:=fun x h1 h2=>by
     rw[hH x (by omega) (by omega),hup x (by omega),hlow x h2 (by omega)]
    obtain⟨rd,h1⟩ :=zjw (h:=H) (lo:=c0+3) (c:=s.c) k (W:=W) fun p hp=>(hall p hp).1.up (fun x hx=>by
     have:=(hall p hp).1.2.2.1 x hx;exact hh x this.1 this.2) (Nat.le_refl _) (Nat.le_refl _)
    have:=zqU (zbf hg (Nat.le_refl _) hh) h1 (by simp[zeo]);rw[show slc 3 (W.map fun p=>atF p.1)=zaK (mpC f q)from by
     unfold zaK Sm.asF;rw[if_neg (by simp[mpC])];show _=slc 3 ((q.as.map (mpA f)).map atF);rw[<-hW,List.map_map];rfl]at this
    exact this
   have oC:znG (s'.h.set (c0+1) (.arr 2 0 [[B,C]])) c0 s'.c C (zaN (mpC f q)):=by
    have hCe:(q.cs.map fun k=>cmD (mpK f k))=(q.cs.map fun k=>cmF (mpK f k)).map fun a=>a.map D.f:=by
     rw[List.map_map];exact List.map_congr_left fun k _=>(zkY _).symm
    rw[hCe]at hC;have o:=zla hC;have e:slc 9 (q.cs.map fun k=>cmF (mpK f k))=zaN (mpC f q):=by
     unfold zaN csF;rw[if_neg (by simp[mpC])];show _=slc 9 ((q.cs.map (mpK f)).map cmF);rw[List.map_map];rfl
    rw[e]at o;refine⟨o.1,hCc,fun H hH k=> ?_⟩;have:=o.2.2.2 H (fun x hx=>by
     have h1:=o.2.2.1 x hx;rw[hH x (by omega) h1.2,hup x (by omega)]) (k+1)
    exact this
   have hFm:Frm h (s'.h.set (c0+1) (.arr 2 0 [[B,C]])) c0:=fun x hx=>by
    rw[hup x (by omega),hlow x (by omega) (by omega)];exact hF x hx
   simp -implicitDefEqProofs [rW,gz',hBc,hCc,h1,h2,h4,h5,h49,h50,h51,zbR];refine⟨by omega,⟨hFm,_,_,⟨rfl,rfl⟩,oB,oC⟩,fun _ hb hc'=>⟨fun _ _=>rfl,_,_,⟨rfl,rfl⟩,zyR oB hb _ _ _,zyR oC hc' _ _ _⟩⟩
theorem fn7:pr.fn 7=some g7:=by kernel_rfl
theorem fn114:pr.fn 114=some zvK:=by kernel_rfl
theorem fn74:pr.fn 74=some g74:=by kernel_rfl
theorem fn67:pr.fn 67=some g67:=by kernel_rfl
theorem zj6{q:CQ}(hq:CqG q){f:Trm->Trm}(hf:∀t,zax t->zax (f t)):CqG (mpC f q):=by
 have e1:∀a∈(mpC f q).as,∃b∈q.as,a=mpA f b:=fun a ha=>by
  obtain⟨b,hb,rfl⟩ :=List.mem_map.1 ha;exact⟨b,hb,rfl⟩
 have e2:∀a∈(mpC f q).cs,∃b∈q.cs,a=mpK f b:=fun a ha=>by
  obtain⟨b,hb,rfl⟩ :=List.mem_map.1 ha;exact⟨b,hb,rfl⟩
 refine⟨⟨⟨fun a ha=> ?_,fun k hk=> ?_,?_,?_⟩,?_,fun a ha=> ?_,?_,fun a ha=> ?_⟩,fun a ha=> ?_⟩
 ·obtain⟨b,hb,rfl⟩ :=e1 a ha;refine⟨fun t ht=> ?_,by show(b.ts.map f).length<1000;rw[List.length_map];exact (hq.toCqSm.toCqOk.as b hb).2⟩;obtain⟨u,hu,rfl⟩ :=List.mem_map.1 ht;exact hf u ((hq.toCqSm.toCqOk.as b hb).1 u hu)
 ·obtain⟨b,hb,rfl⟩ :=e2 k hk;exact⟨hf _ (hq.cs b hb).1,hf _ (hq.cs b hb).2⟩
 ·show(q.as.map (mpA f)).length<1000;rw[List.length_map];exact hq.la
 ·show(q.cs.map (mpK f)).length<1000;rw[List.length_map];exact hq.lc
 ·show(q.as.map (mpA f)).length≤12;rw[List.length_map];exact hq.sa
 ·obtain⟨b,hb,rfl⟩ :=e1 a ha;show(b.ts.map f).length≤12;rw[List.length_map];exact hq.st b hb
 ·show(q.cs.map (mpK f)).length≤200;rw[List.length_map];exact hq.sc
 ·obtain⟨b,hb,rfl⟩ :=e1 a ha;show(b.ts.map f).length≤2;rw[List.length_map];exact hq.s2 b hb
 ·obtain⟨b,hb,rfl⟩ :=e1 a ha;intro e;exact hq.tn b hb (List.map_eq_nil_iff.1 e)
theorem zk1{q:CQ}(hq:CqG q){k:Cm}(hk:zbn k)(hl:q.cs.length<200):CqG (wth q k):=by
 have e:(wth q k).cs.length=q.cs.length+1:=by simp[wth]
 refine⟨⟨⟨hq.toCqSm.toCqOk.as,fun x hx=> ?_,hq.la,by omega⟩,hq.sa,hq.st,by omega,hq.s2⟩,hq.tn⟩;rcases List.mem_append.1 hx with h|h
 ·exact hq.cs x h
 ·rw[List.mem_singleton.1 h];exact hk
theorem ans27(q:CQ)(s:Str)(n:Int)(hs:s≠[])(hq:CqG q):Ans pr 27 [.ag (cqF q),.s s,.ag (vF n)] (.ag (cqF (mpC (sbT s (.cst n)) q))):=by
 refine zcm fn27 ?_;simp only[g27,rU];simp -implicitDefEqProofs [rW,st0,zaj,cqE,za7,za4,vF];refine zcS rfl rfl (zDy (sbT s (.cst n)) q hq rfl ?_) ?_
 ·intro t ht H c' hH hc;have b1:=hH 1 (by simp only[rG];omega);have b2:=hH 2 (by simp only[rG];omega);simp only[rG]at b1 b2 hc;refine ro62 t s n hs ht ?_ ?_ (by omega) (by omega)
  ·rw[b1];simp[Vse.T.zad]
  ·rw[b2];simp[Vse.T.zad]
 ·rintro d h' c' lw mx ⟨hf,dA,dC,rfl,hA,hC⟩ hcc;simp only[rG]at hf hA hC hcc;have e3:=hf 3 (by omega);simp[Vse.T.zad]at e3;simp -implicitDefEqProofs [rW,e3,hA.2.1,hC.2.1];have hup:∀x,4≤x->x<c'->(h'.set 3 (.arr 2 0 [[dA,dC]])).get x=h'.get x:=fun x h1 h2=>by
   have a1:¬x=3:=by omega
   simp[Vse.T.zad,a1]
  obtain⟨r1,f1⟩ :=hA.2.2 (h'.set 3 (.arr 2 0 [[dA,dC]])) hup 8;obtain⟨r2,f2⟩ :=hC.2.2 (h'.set 3 (.arr 2 0 [[dA,dC]])) hup 8;rw[f1,f2];simp -implicitDefEqProofs [rW,];omega
theorem zuB{s:Str}{n:Int}(t:Trm)(ht:zax t):zax (sbT s (.cst n) t):=by
 unfold sbT;split
 ·exact trivial
 ·exact ht
def spl(q:CQ)(s:Str)(n:Int):List CQ:=[mpC (sbT s (.cst n)) q,wth q ⟨2,.var s,.cst n⟩]
theorem eff7(q:CQ)(s:Str)(n:Int)(hs:s≠[])(hq:CqG q){h:T Ob}{c:Nat}:Eff pr 7 [.ag [.f (zaK q),.f (zaN q)],.f (.s s),.ag ((vF n).map D.f)] h c fun d h' c'=>Frm h h' c/\∃id ex,d= .sl id 0 2 2 2 ex/\h'.get id=some (.arr 2 0 (fD ((spl q s n).map cqF)))/\c≤id/\id<c':=by
 refine zcG za8 fn7 ?_;simp only[g7,rU];have q1:=fun k=>zay (k:=k) (ans27 q s n hs hq)
 have q2:=fun k=>zay (k:=k) (zCJ _ (zj6 hq (zuB (s:=s) (n:=n))).toCqSm)
 have q3:=fun k=>zay (k:=k) (zu9 q 2 (.var s) (.cst n) hq)
 simp only[cqE,tmF,vF]at q1 q2 q3;simp -implicitDefEqProofs [rW,st0,zaj,za7,za4,vF,hs];refine zbY ?_;simp -implicitDefEqProofs [rW,st0,zaj,za7,za4,vF,hs,q1,q2,q3,zbR];refine⟨fun x hx=> ?_,rfl,by omega⟩;have a0:¬x=c:=by omega
 have a1:¬x=c+1:=by omega
 have a2:¬x=c+1+1+1+1+1+1+1+1+1+1+1+1+1:=by omega
 simp[Vse.T.zad,a0,a1,a2]
theorem ro90F(q:CQ)(p:Cm->Bool)(hl:q.cs.length<100000){h:T Ob}{c g:Nat}{fv:D}{cap:List D}(hfv:zc1 fv=some (g,[],cap))(hcl:∀n (hn:n<q.cs.length),RO pr g (.ag (cmD q.cs[n])::cap) h c (.f (.b (p q.cs[n])))):
  RO pr 90 [.f (zaN q),fv] h c (.f (.i .i64 (ixP q.cs p))):=by
 refine zdU za8 fn90 rfl ?_;simp only[g90,rU];simp -implicitDefEqProofs [rW,st0,zaj,zfg];refine zfj q.cs p (fun n s=>s.tm.get 0=some (.f (zaN q))/\s.tm.get 1=some (fv)/\s.tm.get 7=some (.f (.i .i64 q.cs.length))/\s.tm.get 8=some (.f (.i .i64 n))/\s.h=h/\s.c=c/\s.lw=c) (fun x s=>x= .exit 0/\s.lw=c) (fun n y s=>y= .ret/\s.tm.get 4=some (.f (.i .i64 n))/\s.lw=c) ?_ ?_ _ ?_ ?_ ?_
 ·rintro n s hn ⟨h0,h1,h7,h8,eh,ec,el⟩;have hw:=zaC n (by omega);have hp:=hcl n hn;have hx:q.cs[n]? =some q.cs[n]:=List.getElem?_eq_getElem hn;generalize hA:q.cs[n]=A at hp hx⊢;simp -implicitDefEqProofs [rW,h0,h1,h7,h8,hn,zmw,hx,hA,zxI,cmD,tmD,hfv];refine zdg (d:= .f (.b (p A))) ?_ ?_ ?_
  ·simp only[rG];rw[eh,ec];exact hp
  ·simp only[rG];omega
  ·intro mx;cases hb:p A with
   |true=>simp -implicitDefEqProofs [rW,h0,h1,h7,h8,el]
   |false=>simp -implicitDefEqProofs [rW,h0,h1,h7,h8,hw,eh,ec,el]
 ·rintro s ⟨h0,h1,h7,h8,eh,ec,el⟩;simp -implicitDefEqProofs [rW,h0,h1,h7,h8,el]
 ·simp -implicitDefEqProofs [rW,st0,zaj]
 ·rintro h z s ⟨rfl,el⟩;rw[zk6 h];simp -implicitDefEqProofs [rW,zaU,el]
 ·rintro n hn hp hm z s ⟨rfl,h4,el⟩;rw[zkk hn hp hm];simp -implicitDefEqProofs [rW,h4,zaU,el]
theorem ro88F(q:CQ)(p:Cm->Bool)(hl:q.cs.length<100000){h:T Ob}{c g:Nat}{fv:D}{cap:List D}(hfv:zc1 fv=some (g,[],cap))(hcl:∀n (hn:n<q.cs.length),RO pr g (.ag (cmD q.cs[n])::cap) h c (.f (.b (p q.cs[n])))):
  RO pr 88 [.f (zaN q),fv] h c (.f (.b (q.cs.any p))):=by
 refine zdU za8 fn88 rfl ?_;simp only[g88,rU];rw[<-zm3 q.cs p];simp -implicitDefEqProofs [rW,st0,zaj];refine zdg (d:= .f (.i .i64 (ixP q.cs p))) ?_ ?_ ?_
 ·simp only[rG];exact ro90F q p hl hfv hcl
 ·simp only[rG];omega
 ·intro mx;simp -implicitDefEqProofs [rW,zaU]
def zc7(op:Int)(a b:Trm)(k:Cm):Bool:=decide (k.op=op)&&(decide (k.l=a)&&decide (k.r=b)||decide (k.l=b)&&decide (k.r=a))
theorem ro114(k:Cm)(hk:zbn k)(op:Int)(a b:Trm)(ha:zax a)(hb:zax b){h:T Ob}{c A B C:Nat}(gA:h.get A=some (.arr 1 0 [[.f (.i .i64 op)]]))(gB:h.get B=some (.arr 4 0 [tmD a]))(gC:h.get C=some (.arr 4 0 [tmD b]))(hA:A<c)(hB:B<c)(hC:C<c):
  RO pr 114 [.ag (cmD k),.ptr A 1 0 0,.ptr B 4 0 0,.ptr C 4 0 0] h c (.f (.b (zc7 op a b k))):=by
 refine zdU za8 fn114 rfl ?_;simp only[zvK,rU];obtain⟨o,l,r⟩ :=k;have nA:¬A=c:=by omega
 have nB:¬B=c:=by omega
 have nC:¬C=c:=by omega
 have q1:=fun k=>zay (k:=k) (zik l a hk.1 ha)
 have q2:=fun k=>zay (k:=k) (zik r b hk.2 hb)
 have q3:=fun k=>zay (k:=k) (zik l b hk.1 hb)
 have q4:=fun k=>zay (k:=k) (zik r a hk.2 ha)
 simp only[tmE]at q1 q2 q3 q4;unfold zc7;simp only[tmD]at gB gC
 by_cases h1:o=op
 ·subst h1;generalize hb1:decide (l=a)=b1 at q1;generalize hb2:decide (r=b)=b2 at q2;generalize hb3:decide (l=b)=b3 at q3;generalize hb4:decide (r=a)=b4 at q4;cases b1<;>cases b2<;>cases b3<;>cases b4<;>(simp -implicitDefEqProofs [rW,st0,zaj,cmD,tmD,gA,gB,gC,nA,nB,nC,q1,q2,q3,q4,hb1,hb2,hb3,hb4,zaU]<;>simp (disch:=omega) only[zbu,zb8])
 ·simp -implicitDefEqProofs [rW,st0,zaj,cmD,tmD,gA,gB,gC,nA,nB,nC,h1,zaU];simp (disch:=omega) only[zbu,zb8]
theorem zCL(q:CQ)(op:Int)(a b:Trm)(hq:CqG q)(ha:zax a)(hb:zax b):Ans pr 74 [.ag (cqF q),.i .i64 op,.ag (tmF a),.ag (tmF b)] (.b (q.cs.any (zc7 op a b))):=by
 refine zcm fn74 ?_;simp only[g74,rU];simp only[tmE];simp -implicitDefEqProofs [rW,st0,zaj,cqE,za7,za4];refine zdg (d:= .f (.b (q.cs.any (zc7 op a b)))) ?_ ?_ ?_
 ·simp only[rG];refine ro88F q _ (by have:=hq.sc;omega) rfl fun n hn=> ?_
  refine ro114 _ (hq.cs _ (List.getElem_mem hn)) op a b ha hb ?_ ?_ ?_ ?_ ?_ ?_
  ·simp[Vse.T.zad]
  ·simp[Vse.T.zad,tmD]
  ·simp[Vse.T.zad,tmD]
  all_goals omega
 ·simp only[rG]
  repeat refine Nat.le_trans (zbv _ _).1 ?_
  omega
 ·intro mx;simp -implicitDefEqProofs [rW,]
def exc(q:CQ)(s:Str)(n:Int):Bool:=q.cs.any (zc7 2 (.var s) (.cst n))
theorem ans67(q:CQ)(s:Str)(n:Int)(hq:CqG q)(hs:s≠[]):Ans pr 67 [.ag (cqF q),.s s,.ag (vF n)] (.b (exc q s n)):=by
 refine zcm fn67 ?_;simp only[g67,rU];have q1:=fun k=>zay (k:=k) (zCL q 2 (.var s) (.cst n) hq hs trivial)
 simp only[cqE,tmF]at q1;simp -implicitDefEqProofs [rW,st0,zaj,cqE,za7,za4,vF,q1];rfl
theorem fn66:pr.fn 66=some g66:=by kernel_rfl
def cA1(r:Str)(p:Nat)(a:Atm):List Int:=if a.r=r then(match a.ts[p]? with|some (.cst n)=>[n]|_=>[])else[]
def cAt(l:List CQ)(r:Str)(p:Nat):List Int:=l.flatMap fun c=>c.as.flatMap (cA1 r p)
def vD(n:Int):List D:=[.f (.i .i64 1),.f (.i .i64 n),.f (.s [])]
def QD(h:T Ob)(c:Nat)(d:D)(l:List CQ):Prop:=(d= .f .nils/\l=[])\/∃id,d= .sl id 0 l.length 2 l.length false/\l≠[]/\h.get id=some (.arr 2 0 (fD (l.map cqF)))/\id<c
theorem znn{h:T Ob}{c:Nat}{d:D}{l:List CQ}(H:QD h c d l):zcn d=some l.length:=by
 rcases H with⟨rfl,rfl⟩ |⟨id,rfl,-⟩ <;>rfl
theorem zju{h:T Ob}{c:Nat}{d:D}{l:List CQ}(H:QD h c d l):d.cells=some [d]:=by
 rcases H with⟨rfl,rfl⟩ |⟨id,rfl,-⟩ <;>rfl
theorem zwG{h:T Ob}{c:Nat}{d:D}{l:List CQ}(H:QD h c d l){n:Nat}(hn:n<l.length):∃id rows,iaB 2 d n=some (.ptr id 2 n 0)/\h.get id=some (.arr 2 0 rows)/\rows[n]? =some [.f (zaK l[n]),.f (zaN l[n])]/\id<c:=by
 rcases H with⟨rfl,rfl⟩ |⟨id,rfl,-,hg,hc⟩
 ·simp at hn
 ·refine⟨id,_,by simp[zhT,hn],hg,?_,hc⟩;simp[fD,hn,cqE]
theorem zlc{h h':T Ob}{c c':Nat}{d:D}{l:List CQ}(H:QD h c d l)(hh:∀x,x<c->h'.get x=h.get x)(hc:c≤c'):QD h' c' d l:=by
 rcases H with H|⟨id,h1,h2,h3,h4⟩
 ·exact .inl H
 ·exact .inr ⟨id,h1,h2,by rw[hh id h4];exact h3,by omega⟩
def XC1(h0:T Ob)(hd:List Str)(dq:D)(l:List CQ)(r:Str)(p c0 n:Nat)(s:St):Prop:=∃L:D,(s.tm.get 1=some (.f (.s r))/\s.tm.get 2=some (.f (.i .i64 p))/\s.tm.get 7=some (L)/\s.tm.get 13=some (dq)/\s.tm.get 14=some (.f (.i .i64 l.length))/\s.tm.get 15=some (.f (.i .i64 n)))/\Gro s.h c0 s.c 3 L ((cAt (l.take n) r p).map vD)/\c0≤s.c/\Frm h0 s.h c0
def XC2(h0:T Ob)(hd:List Str)(dq:D)(l:List CQ)(q:CQ)(r:Str)(p c0 n m:Nat)(s:St):Prop:=∃L:D,(s.tm.get 1=some (.f (.s r))/\s.tm.get 2=some (.f (.i .i64 p))/\s.tm.get 7=some (L)/\s.tm.get 13=some (dq)/\s.tm.get 14=some (.f (.i .i64 l.length))/\s.tm.get 15=some (.f (.i .i64 n))/\s.tm.get 20=some (.f (zaK q))/\s.tm.get 21=some (.f (.i .i64 q.as.length))/\s.tm.get 22=some (.f (.i .i64 m)))/\Gro s.h c0 s.c 3 L ((cAt (l.take n) r p++(q.as.take m).flatMap (cA1 r p)).map vD)/\c0≤s.c/\Frm h0 s.h c0
theorem zAy(l:List CQ)(r:Str)(p:Nat){n:Nat}(hn:n<l.length):cAt (l.take (n+1)) r p=cAt (l.take n) r p++l[n].as.flatMap (cA1 r p):=by
 unfold cAt;rw[List.take_succ_eq_append_getElem hn,List.flatMap_append];simp
theorem zGk(r:Str)(p:Nat)(a:Atm):(cA1 r p a).length≤1:=by
 unfold cA1;split
 ·split<;>simp
 ·simp
theorem znP(r:Str)(p:Nat):∀l:List Atm,(l.flatMap (cA1 r p)).length≤l.length
 |[]=>by simp
 |a::l=>by
  have:=znP r p l;have:=zGk r p a;rw[List.flatMap_cons,List.length_append,List.length_cons];omega
theorem znQ(r:Str)(p:Nat):∀l:List CQ,(∀c∈l,CqG c)->(cAt l r p).length≤12*l.length
 |[],_=>by simp[cAt]
 |a::l,h=>by
  have h1:=znQ r p l fun c hc=>h c (by simp[hc])
  have h2:=znP r p a.as;have h3:=(h a (by simp)).sa;unfold cAt at h1⊢;rw[List.flatMap_cons,List.length_append,List.length_cons];omega
set_option maxHeartbeats 4000000 in
theorem eff66(hd:List Str)(l:List CQ)(r:Str)(p:Nat)(hl:l.length≤1000)(hq:∀c∈l,CqG c){h:T Ob}{c0:Nat}{dq:D}(hD:QD h c0 dq l)(hp:p<1000):Eff pr 66 [.ag [.f (zav hd),dq],.f (.s r),.f (.i .i64 p)] h c0 fun d h' c'=>Frm h h' c0/\Gro h' c0 c' 3 d ((cAt l r p).map vD):=by
 refine zcG za8 fn66 ?_;simp only[g66,rU];simp -implicitDefEqProofs [rW,st0,zaj,zju hD,znn hD,zaS];refine ze2 l.length (XC1 h hd dq l r p c0) (fun x s=>x= .exit 0/\XC1 h hd dq l r p c0 l.length s) ?_ ?_ _ ?_ ?_
 ·rintro n s hn ⟨L,⟨h1,h2,h7,h13,h14,h15⟩,hL,hlo,hF⟩;have hw:=zaC n (by omega);obtain⟨id,rows,hi,hY,hr,hid⟩ :=zwG hD hn;rw[<-hF id hid]at hY;have hqn:=hq _ (List.getElem_mem hn);have hsn:=zAy l r p hn;generalize hA:l[n]=A at hr hqn hsn;simp -implicitDefEqProofs [rW,h1,h2,h7,h13,h14,h15,hn,hi,hY,hr,zdG];refine ze2 A.as.length (XC2 h hd dq l A r p c0 n) (fun x s=>x= .exit 2/\XC2 h hd dq l A r p c0 n A.as.length s) ?_ ?_ _ ?_ ?_
  ·rintro m s' hm ⟨L,⟨h1,h2,h7,h13,h14,h15,h20,h21,h22⟩,hL,hlo,hF⟩;have hw2:=zaC m (by have:=hqn.sa;omega);have hx2:A.as[m]? =some A.as[m]:=List.getElem?_eq_getElem hm;have hk2:=List.take_succ_eq_append_getElem hm;have htn:=hqn.tn _ (List.getElem_mem hm);generalize hTm:A.as[m]=a at hx2 hk2 htn;have hok:=(hqn.toCqSm.toCqOk.as _ (List.getElem_mem hm)).1;rw[hTm]at hok
   by_cases e1:a.r=r
   ·by_cases e2:p<a.ts.length
    ·have hx3:a.ts[p]? =some a.ts[p]:=List.getElem?_eq_getElem e2;have hot:=hok _ (List.getElem_mem e2);cases hT:a.ts[p]with
     |var v=>
      rw[hT]at hx3 hot;have hv:v≠[]:=hot;have hz:cA1 r p a=[]:=by unfold cA1;rw[hx3];simp
      simp -implicitDefEqProofs [rW,h1,h2,h7,h13,h14,h15,h20,h21,h22,hm,zeK,hx2,hTm,atE,zbO,e1,e2,zcM,zbW,hx3,hT,tmF,hv];refine⟨L,?_,?_,?_,fun x hx=> ?_⟩
      ·simp -implicitDefEqProofs [rW,h1,h2,h7,h13,h14,h15,h20,h21,h22,hw2]
      ·rw[hk2,List.flatMap_append,List.flatMap_cons,hz];simp only[List.flatMap_nil,List.append_nil];refine zbf hL (by simp -implicitDefEqProofs [rW,]) fun x h1 h2=> ?_
       have nx:¬(x=s'.c):=by omega
       simp -implicitDefEqProofs [rW,nx]
      ·simp -implicitDefEqProofs [rW,];omega
      ·have nx:¬(x=s'.c):=by omega
       simp -implicitDefEqProofs [rW,nx];exact hF x hx
     |cst v=>
      rw[hT]at hx3;have hz:cA1 r p a=[v]:=by unfold cA1;rw[hx3,if_pos e1]
      simp -implicitDefEqProofs [rW,h1,h2,h7,h13,h14,h15,h20,h21,h22,hm,zeK,hx2,hTm,atE,zbO,e1,e2,zcM,zbW,hx3,hT,tmF];have hcl:((cAt (l.take n) r p++(A.as.take m).flatMap (cA1 r p)).map vD).length≤20000:=by
       have h1:=znQ r p (l.take n) fun c hc=>hq c (List.mem_of_mem_take hc)
       have h2:=znP r p (A.as.take m);have h3:=hqn.sa;rw[List.length_map,List.length_append];simp only[List.length_take]at h1 h2;omega
      generalize hHs:((s'.h.set s'.c _).set s'.c _:T Ob)=Hs;have hup:∀x,x<s'.c->Hs.get x=s'.h.get x:=fun x hx=>by
       have a1:¬x=s'.c:=by omega
       rw[<-hHs];simp[Vse.T.zad,a1]
      refine zgr (zbf (c':=s'.c+1) hL (by omega) fun x h1 h2=>hup x h2) (by omega) (by simp only[List.length_cons,List.length_nil];omega) (by omega) ?_;intro r2 hr1 hr2 hr3 hr4 hr5;refine⟨hr1,r2.d,?_,?_,?_,fun x hx=> ?_⟩
      ·simp -implicitDefEqProofs [rW,h1,h2,h7,h13,h14,h15,h20,h21,h22,hw2]
      ·rw[hk2,List.flatMap_append,List.flatMap_cons,hz];simp only[List.flatMap_nil,List.append_nil];rw[<-List.append_assoc,List.map_append];refine zbf hr2 (by simp -implicitDefEqProofs [rW,]) fun x h1 h2=> ?_
       simp -implicitDefEqProofs [rW,hHs]
      ·simp -implicitDefEqProofs [rW,];omega
      ·simp -implicitDefEqProofs [rW,hHs];rw[hr4 x (by omega) (zbz hL (by omega)),hup x (by omega)];exact hF x hx
    ·have hz:cA1 r p a=[]:=by unfold cA1;rw[List.getElem?_eq_none (by omega)];simp
     simp -implicitDefEqProofs [rW,h1,h2,h7,h13,h14,h15,h20,h21,h22,hm,zeK,hx2,hTm,atE,zbO,e1,e2,zcM,zbW];refine⟨L,?_,?_,?_,fun x hx=> ?_⟩
     ·simp -implicitDefEqProofs [rW,h1,h2,h7,h13,h14,h15,h20,h21,h22,hw2]
     ·rw[hk2,List.flatMap_append,List.flatMap_cons,hz];simp only[List.flatMap_nil,List.append_nil];refine zbf hL (by simp -implicitDefEqProofs [rW,]) fun x h1 h2=> ?_
      have nx:¬(x=s'.c):=by omega
      simp -implicitDefEqProofs [rW,nx]
     ·simp -implicitDefEqProofs [rW,];omega
     ·have nx:¬(x=s'.c):=by omega
      simp -implicitDefEqProofs [rW,nx];exact hF x hx
   ·have hz:cA1 r p a=[]:=by unfold cA1;rw[if_neg e1]
    simp -implicitDefEqProofs [rW,h1,h2,h7,h13,h14,h15,h20,h21,h22,hm,zeK,hx2,hTm,atE,zbO,e1];refine⟨L,?_,?_,?_,fun x hx=> ?_⟩
    ·simp -implicitDefEqProofs [rW,h1,h2,h7,h13,h14,h15,h20,h21,h22,hw2]
    ·rw[hk2,List.flatMap_append,List.flatMap_cons,hz];simp only[List.flatMap_nil,List.append_nil];refine zbf hL (by simp -implicitDefEqProofs [rW,]) fun x h1 h2=> ?_
     have nx:¬(x=s'.c):=by omega
     simp -implicitDefEqProofs [rW,nx]
    ·simp -implicitDefEqProofs [rW,];omega
    ·have nx:¬(x=s'.c):=by omega
     simp -implicitDefEqProofs [rW,nx];exact hF x hx
  ·rintro s' ⟨L,⟨h1,h2,h7,h13,h14,h15,h20,h21,h22⟩,hL,hlo,hF⟩;simp -implicitDefEqProofs [rW,h1,h2,h7,h13,h14,h15,h20,h21,h22];refine⟨L,?_,hL,hlo,hF⟩;simp -implicitDefEqProofs [rW,h1,h2,h7,h13,h14,h15,h20,h21,h22]
  ·refine⟨L,?_,?_,?_,fun x hx=> ?_⟩
   ·simp -implicitDefEqProofs [rW,h1,h2,h7,h13,h14,h15]
   ·simp only[List.take_zero,List.flatMap_nil,List.append_nil];refine zbf hL (by simp -implicitDefEqProofs [rW,]) fun x h1 h2=> ?_
    have nx:¬(x=s.c):=by omega
    simp -implicitDefEqProofs [rW,nx]
   ·simp -implicitDefEqProofs [rW,];omega
   ·have nx:¬(x=s.c):=by omega
    simp -implicitDefEqProofs [rW,nx];exact hF x hx
  ·rintro x s' ⟨rfl,L,⟨h1,h2,h7,h13,h14,h15,h20,h21,h22⟩,hL,hlo,hF⟩;rw[List.take_length,<-hsn]at hL;simp -implicitDefEqProofs [rW,h1,h2,h7,h13,h14,h15,h20,h21,h22,hw];refine⟨L,?_,hL,hlo,hF⟩;simp -implicitDefEqProofs [rW,h1,h2,h7,h13,h14,h15,h20,h21,h22,hw]
 ·rintro s ⟨L,⟨h1,h2,h7,h13,h14,h15⟩,hL,hlo,hF⟩;simp -implicitDefEqProofs [rW,h1,h2,h7,h13,h14,h15];refine⟨L,?_,hL,hlo,hF⟩;simp -implicitDefEqProofs [rW,h1,h2,h7,h13,h14,h15]
 ·refine⟨.f .nils,?_,.inl ⟨rfl,rfl⟩,?_,fun x hx=> ?_⟩
  ·simp -implicitDefEqProofs [rW,st0,zaj]
  ·simp -implicitDefEqProofs [rW,]
  ·have a0:¬x=c0:=by omega
   simp -implicitDefEqProofs [rW,a0]
 ·rintro x s ⟨rfl,L,⟨h1,h2,h7,h13,h14,h15⟩,hL,hlo,hF⟩;rw[List.take_length]at hL;simp -implicitDefEqProofs [rW,h1,h2,h7,h13,h14,h15,zbR];refine⟨⟨hF,hL⟩,fun _ h2=>⟨fun _ _=>rfl,?_⟩⟩;rcases hL with h3|⟨id,ro,rfl,-⟩
  ·exact .inl h3
  ·cases h2
end Go.Proofs.YtmnkdfjljkhneaaGreat
end
