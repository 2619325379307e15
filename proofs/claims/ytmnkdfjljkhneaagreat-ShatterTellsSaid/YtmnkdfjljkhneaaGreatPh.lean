/- Substitute: terms mapped in a new query. -/
import Derived.Test.YtmnkdfjljkhneaaGreatPg
import Derived.KernelRfl
import Derived.IntWalk
import Derived.Test.YtmnkdfjljkhneaaGreatPf
set_option linter.all false
set_option maxRecDepth 100000
set_option maxHeartbeats 4000000
section
namespace Go.Proofs.YtmnkdfjljkhneaaGreat
open Go Go.Vse Go.Vse.Sm
def fn62:pr.fn 62=some g62:=by kernel_rfl
def fn61:pr.fn 61=some g61:=by kernel_rfl
def fn27:pr.fn 27=some g27:=by kernel_rfl
def ro62(t:Trm)(s:Str)(n:Int)(hs:s≠[])(ht:zau t){h:T Ob}{c A B:Nat}(gA:h.get A=some (.arr 1 0 [[.f (.s s)]]))(gB:h.get B=some (.arr 3 0 [[.f (.i .i64 1),.f (.i .i64 n),.f (.s [])]]))(hA:A<c)(hB:B<c):RO pr 62 [.ag (tmD t),.ptr A 1 0 0,.ptr B 3 0 0] h c (.ag (tmD (sbT s (.cst n) t))):=by
 refine zdz zbi fn62 rfl ?_;simp only[g62,rU];have nA:¬A=c:=by omega
 have nB:¬B=c:=by omega
 have nA1:¬A=c+1:=by omega
 have nB1:¬B=c+1:=by omega
 unfold sbT;cases t with
 |cst a=>
  simp[rW,st0,zae,tmD,zdm,zcS,zcN,gA,gB,nA,nB,nA1,nB1,hs,za4];simp (disch:=omega) only[zb7,zcw]
 |var u=>
  by_cases e:u=s
  .subst e;simp[rW,st0,zae,tmD,zcm,zcr,zcs,gA,gB,nA,nB,nA1,nB1,hs,za4];simp (disch:=omega) only[zb7,zcw];exact⟨⟨rfl,rfl,rfl⟩,trivial⟩
  .have e2:¬(Trm.var u=Trm.var s):=fun h=>e (by cases h;rfl)
   simp[rW,st0,zae,tmD,zcm,zcr,zcs,gA,gB,nA,nB,nA1,nB1,hs,e,e2,za4];simp (disch:=omega) only[zb7,zcw]
def zBZ{f:A->Option D}{h:Nat->Option Ob}{c:Nat}{z:List F}{ps:List (Nat×Nat×A)}:((O.bld z ps).res f).bind (opv h c)=om (zaw (fun(p:Nat×Nat×A)=>(f p.2.2).map fun d=>(p.1,p.2.1,d)) ps) fun qs=>om (zdw (z.map D.f) qs) fun cs=>some {d:= .ag cs,c}:=by
 have e:(O.bld z ps).res f=(zaw (fun(p:Nat×Nat×A)=>(f p.2.2).map fun d=>(p.1,p.2.1,d)) ps).map fun qs=>O.bld z qs:=by
  simp only[O.res];have e2:(fun(x:Nat×Nat×A)=>match x with|(o,n,x)=>do some (o,n,<-f x))=fun(p:Nat×Nat×A)=>(f p.2.2).map fun d=>(p.1,p.2.1,d):=by
   funext ⟨o,n,x⟩
   show(f x).bind (fun d=>some (o,n,d))=(f x).map fun d=>(o,n,d)
   cases f x<;>rfl
  rw[show(zaw (fun x=>match x with|(o,n,x)=>do some (o,n,<-f x)) ps)=zaw (fun(p:Nat×Nat×A)=>(f p.2.2).map fun d=>(p.1,p.2.1,d)) ps from by rw[<-e2]];cases zaw (fun(p:Nat×Nat×A)=>(f p.2.2).map fun d=>(p.1,p.2.1,d)) ps<;>rfl
 rw[e];cases zaw (fun(p:Nat×Nat×A)=>(f p.2.2).map fun d=>(p.1,p.2.1,d)) ps with
 |none=>rfl
 |some qs=>exact zJS h c z qs
def mpA(f:Trm->Trm)(a:Atm):Atm:=⟨a.r,a.neg,a.ts.map f⟩
def mpK(f:Trm->Trm)(k:Cm):Cm:=⟨k.op,f k.l,f k.r⟩
def mpC(f:Trm->Trm)(c:CQ):CQ:=⟨c.as.map (mpA f),c.cs.map (mpK f),false,false⟩
def zpu(h:T Ob)(lo c:Nat)(d:D)(X:F):Prop:=(d= .f X\/∃a b e f g x,d= .sl a b e f g x)/\d.cells=some [d]/\∀H:T Ob,(∀x,lo<=x->x<c->H.get x=h.get x)->∀k,∃rd,frz H.get (k+3) d=some (X,rd)
def zBO{h:T Ob}{lo c:Nat}{d:D}{X:F}(H:zpu h lo c d X)(hd:d.isF=true)(h2:T Ob)(lo2 c2:Nat):zpu h2 lo2 c2 d X:=by
 rcases H.1 with rfl|⟨a,b,e,f,g,x,rfl⟩
 .exact⟨.inl rfl,H.2.1,fun H _ k=>⟨[],rfl⟩⟩
 .cases hd
def MpL(pr:Pr)(f:Trm->Trm)(g:Nat)(cap:List D)(h:T Ob)(c:Nat):Prop:=∀t,zau t->∀(H:T Ob) (c':Nat),(∀x,x<c->H.get x=h.get x)->c<=c'->RO pr g (.ag (tmD t)::cap) H c' (.ag (tmD (f t)))
def zC7(t:Trm):(if 4<=(tmF t).length then some (D.ag (List.take 4 (List.map D.f (tmF t))))else none)=some (.ag (tmD t)):=by cases t<;>rfl
def XP1(h0:T Ob)(f:Trm->Trm)(fv:D)(q:CQ)(c0 n:Nat)(s:St):Prop:=∃(B:D) (W:List (Atm×D)),W.map (·.1)=(q.as.take n).map (mpA f)/\(s.tm.get 1=some (fv)/\s.tm.get 2=some (.ptr c0 2 0 0)/\s.tm.get 4=some (.ptr (c0+1) 2 0 0)/\s.tm.get 5=some (.ptr (c0+2) 2 0 0)/\s.tm.get 14=some (.f (zaB q))/\s.tm.get 15=some (.f (.i .i64 q.as.length))/\s.tm.get 16=some (.f (.i .i64 n)))/\s.h.get c0=some (.arr 2 0 [[.f (zaB q),.f (zaC q)]])/\s.h.get (c0+1)=some (.arr 2 0 [[.f .nils,.f .nils]])/\s.h.get (c0+2)=some (.arr 2 0 [[B,.f .nils]])/\Gro s.h (c0+3) s.c 3 B (zdv W)/\(∀p∈W,Own s.h (c0+3) s.c p.2 (zaW p.1.ts)/\∀x,p.2.oid=some x->B.oid≠some x)/\c0+3<=s.c/\Frm h0 s.h c0/\s.lw<=s.c
def XP2(s0:St)(f:Trm->Trm)(fv:D)(A:Atm)(q:CQ)(c0 n m:Nat)(s:St):Prop:=∃T:D,(s.tm.get 1=some (fv)/\s.tm.get 2=some (.ptr c0 2 0 0)/\s.tm.get 4=some (.ptr (c0+1) 2 0 0)/\s.tm.get 5=some (.ptr (c0+2) 2 0 0)/\s.tm.get 14=some (.f (zaB q))/\s.tm.get 15=some (.f (.i .i64 q.as.length))/\s.tm.get 16=some (.f (.i .i64 n))/\s.tm.get 8=some (.ptr (s0.c+1) 3 0 0)/\s.tm.get 26=some (.f (zaW A.ts))/\s.tm.get 27=some (.f (.i .i64 A.ts.length))/\s.tm.get 28=some (.f (.i .i64 m)))/\s.h.get (s0.c+1)=some (.arr 3 0 [[.f (.s A.r),.f (.b A.neg),T]])/\Gro s.h (s0.c+2) s.c 4 T ((A.ts.take m).map fun t=>tmD (f t))/\s0.c+2<=s.c/\(∀x,x<s0.c->s.h.get x=s0.h.get x)/\s.lw<=s.c
def zet(k:Cm):(if 9<=(cmF k).length then some (D.ag (List.take 9 (List.map D.f (cmF k))))else none)=some (.ag (cmD k)):=by
 obtain⟨o,l,r⟩ :=k;cases l<;>cases r<;>rfl
def XP3(s0:St)(f:Trm->Trm)(fv B:D)(q:CQ)(c0 n:Nat)(s:St):Prop:=∃C:D,(s.tm.get 1=some (fv)/\s.tm.get 2=some (.ptr c0 2 0 0)/\s.tm.get 4=some (.ptr (c0+1) 2 0 0)/\s.tm.get 5=some (.ptr (c0+2) 2 0 0)/\s.tm.get 49=some (.f (zaC q))/\s.tm.get 50=some (.f (.i .i64 q.cs.length))/\s.tm.get 51=some (.f (.i .i64 n)))/\s.h.get (c0+2)=some (.arr 2 0 [[B,C]])/\Gro s.h s0.c s.c 9 C ((q.cs.take n).map fun k=>cmD (mpK f k))/\s0.c<=s.c/\(∀x,x<s0.c->x≠c0+2->s.h.get x=s0.h.get x)/\s.lw<=s.c
def zHL(f:Trm->Trm)(q:CQ)(hq:CqG q){h:T Ob}{c0 g:Nat}{fv:D}{cap:List D}(hfv:zdH fv=some (g,[],cap))(hcl:MpL pr f g cap h c0):Eff pr 61 [.ag [.f (zaB q),.f (zaC q)],fv] h c0 fun d h' c'=>Frm h h' c0/\∃dA dC,d= .ag [dA,dC]/\zpu h' c0 c' dA (zaB (mpC f q))/\zpu h' c0 c' dC (zaC (mpC f q)):=by
 refine zci zbi fn61 ?_;simp only[g61,rU];have n02:¬(c0=c0+1+1):=by omega
 have n01:¬(c0=c0+1):=by omega
 have n12:¬(c0+1=c0+1+1):=by omega
 simp[rW,st0,zae,zaF,zaH,za1,n02,n01,n12];refine zdi q.as.length (XP1 h f fv q c0) (fun x s=>x= .exit 0/\XP1 h f fv q c0 q.as.length s) ?_ ?_ _ ?_ ?_
 .rintro n s hn ⟨B,W,hW,⟨h1,h2,h4,h5,h14,h15,h16⟩,gq,gz,gB,hg,hall,hlo,hF,hlw⟩;have hw:=zao n (by have:=hq.sa;omega);have hx:q.as[n]? =some q.as[n]:=Z0 hn;have hst:=hq.st _ (Z1 hn);have htn:=hq.tn _ (Z1 hn);have hok:=(hq.toCqSm.toCqOk.as _ (Z1 hn)).1;have htk:=Z6 hn;generalize hAn:q.as[n]=A at hx hst htk htn hok;simp[rW,h1,h2,h4,h5,h14,h15,h16,gq,gz,gB,hn,zbh,hx,hAn,atE,zaR];rw[zaO];simp[rW,];refine zdi A.ts.length (XP2 s f fv A q c0 n) (fun x s'=>x= .exit 2/\XP2 s f fv A q c0 n A.ts.length s') ?_ ?_ _ ?_ ?_
  .rintro m s' hm ⟨T,⟨h1,h2,h4,h5,h14,h15,h16,h8,h26,h27,h28⟩,gA,hT,hlo',hlow,hlw'⟩;have hw2:=zao m (by omega);have hx2:A.ts[m]? =some A.ts[m]:=Z0 hm;have hk2:=Z6 hm;have hot:=hok _ (Z1 hm);generalize hTm:A.ts[m]=t at hx2 hk2 hot;simp[rW,h1,h2,h4,h5,h14,h15,h16,h8,h26,h27,h28,gA,hm,zbk,hx2,hTm,zC7];have nA:¬(s.c+1=s'.c):=by omega
   simp[rW,tmD,gA,nA];refine zgT ?_;simp[rW,h1,h2,h4,h5,h14,h15,h16,h8,h26,h27,h28,gA,nA,hfv,tmD];refine zk5 (d:= .ag (tmD (f t))) ?_ ?_ ?_ ?_
   .simp only[rG];refine hcl t hot _ _ (fun x hx=> ?_) (by omega);have a1:¬x=s'.c:=by omega
    rw[<-hF x hx,<-hlow x (by omega)];simp[Vse.T.zad,a1]
   .simp only[rG]
    repeat refine Z3 (zb8 _ _).1 ?_
    omega
   .simp[rW,]
   .intro mx hmx;have hmx:s'.c+1+1+1+1+1<=mx:=hmx;simp[rW,h1,h2,h4,h5,h14,h15,h16,h8,h26,h27,h28,gA,nA,hfv,tmD];have hup:∀x,x<s'.c->((s'.h.set s'.c (Ob.arr 4 0 [[D.f (F.s []),D.f (F.i IntKind.i64 0),D.f (F.i IntKind.i64 0),D.f (F.s [])]])).set s'.c (Ob.arr 4 0 [[D.f (F.s (tv t)),D.f (F.i IntKind.i64 (tk t)),D.f (F.i IntKind.i64 (tn t)),D.f (F.s [])]])).get x=s'.h.get x:=fun x hx=>by
     have a1:¬x=s'.c:=by omega
     simp[Vse.T.zad,a1]
    refine zey (zaS (c':=mx+1) hT (by omega) fun x h1 h2=>hup x h2) (by omega) (by simp;omega) (by omega) ?_;intro r hr1 hr2 hr3 hr4 hr5;have z1:=hr4 (s.c+1) (by omega) (za5 hT (by omega));rw[hup _ (by omega),gA]at z1;refine⟨hr1,?_⟩;simp[rW,z1,za3 hr2];refine⟨by omega,r.d,?_,?_,?_,?_,fun x hx=> ?_,?_⟩
    .simp[rW,h1,h2,h4,h5,h14,h15,h16,h8,h26,h27,h28,hw2]
    .simp[rW,]
    .rw[hk2,Z20];refine zaS hr2 (by simp[rW,];omega) fun x h1 h2=> ?_
     have nx:¬(x=s.c+1):=by omega
     simp[rW,nx]
    .simp[rW,];omega
    .have nx:¬(x=s.c+1):=by omega
     simp[rW,nx];rw[hr4 x (by omega) (za5 hT (by omega)),hup x (by omega),hlow x hx]
    .simp[rW,]
     repeat refine Z3 (zb8 _ _).1 ?_
     omega
  .rintro s' ⟨T,⟨h1,h2,h4,h5,h14,h15,h16,h8,h26,h27,h28⟩,gA,hT,hlo',hlow,hlw'⟩;simp[rW,h1,h2,h4,h5,h14,h15,h16,h8,h26,h27,h28];refine⟨T,?_,gA,hT,hlo',hlow,hlw'⟩;simp[rW,h1,h2,h4,h5,h14,h15,h16,h8,h26,h27,h28]
  .have n1:¬(s.c=s.c+1):=by omega
   refine⟨.f .nils,?_,?_,.inl ⟨rfl,by simp⟩,?_,fun x hx=> ?_,?_⟩
   .simp[rW,h1,h2,h4,h5,h14,h15,h16]
   .simp[rW,n1]
   .simp[rW,]
   .have a1:¬(x=s.c):=by omega
    have a2:¬(x=s.c+1):=by omega
    simp[rW,a1,a2]
   .simp[rW,]
    repeat refine Z3 (zb8 _ _).1 ?_
    omega
  .rintro x s' ⟨rfl,T,⟨h1,h2,h4,h5,h14,h15,h16,h8,h26,h27,h28⟩,gA,hT,hlo',hlow,hlw'⟩;rw[Z7]at hT;have gB':=hlow (c0+2) (by omega);have gq':=hlow c0 (by omega);have gz':=hlow (c0+1) (by omega);rw[gB]at gB';rw[gq]at gq';rw[gz]at gz';have hTe:(A.ts.map fun t=>tmD (f t))=(A.ts.map fun t=>tmF (f t)).map fun a=>a.map D.f:=by
    rw[Z33];exact List.map_congr_left fun t _=>(zsa _).symm
   have hTo:=hT;rw[hTe]at hTo;have hO:=zij hTo;have hOe:slc 4 (A.ts.map fun t=>tmF (f t))=zaW (mpA f A).ts:=by
    unfold zaW mpA;rw[Z33];rfl
   rw[hOe]at hO;rcases hT with⟨rfl,e⟩ |⟨X,ro,rfl,hXe,gX,hXr,hX1,hX2⟩
   .exact absurd (List.map_eq_nil_iff.1 e) htn
   simp[rW,h1,h2,h4,h5,h14,h15,h16,h8,h26,h27,h28,gA,gB',zmB];have hWl:(zdv W).length<=12:=by
    have h1:W.length=(q.as.take n).length:=by
     have:=congrArg List.length hW;simpa using this
    have:=hq.sa;simp[zdv,h1];omega
   have hB2:∀x,B.oid=some x->c0+3<=x/\x<s.c:=fun x hx=>zbW hg hx
   refine zey (zaS (c':=s'.c+1) hg (by omega) fun x h1 h2=> ?_) (by omega) (by simp;omega) (by omega) ?_
   .have nx:¬(x=s'.c):=by omega
    simp[Vse.T.zad,nx];exact hlow x h2
   intro r hr1 hr2 hr3 hr4 hr5;have hP:=hr4 (c0+2) (by omega) (za5 hg (by omega));have nP:¬(c0+2=s'.c):=by omega
   simp[Vse.T.zad,nP,gB']at hP;have hr6:∀x,x<s'.c->B.oid≠some x->(wrT _ r.wr).get x=s'.h.get x:=fun x h1 h2=>by
    have nx:¬(x=s'.c):=by omega
    rw[hr4 x (by omega) h2];simp[Vse.T.zad,nx]
   refine⟨hr1,?_⟩;simp[rW,hP,za3 hr2];refine⟨by omega,r.d,W++[(mpA f A,.sl X 0 (A.ts.map fun t=>tmD (f t)).length 4 (A.ts.map fun t=>tmD (f t)).length false)],by rw[htk];simp[hW],?_,?_,?_,?_,?_,?_,?_,?_,?_⟩
   .simp[rW,h1,h2,h4,h5,h14,h15,h16,hw]
   .have a1:¬(c0=c0+2):=by omega
    simp[rW,a1];rw[hr6 c0 (by omega) (za5 hg (by omega)),gq']
   .have a1:¬(c0+1=c0+2):=by omega
    simp[rW,a1];rw[hr6 (c0+1) (by omega) (za5 hg (by omega)),gz']
   .simp[rW,]
   .have e:zdv (W++[(mpA f A,.sl X 0 (A.ts.map fun t=>tmD (f t)).length 4 (A.ts.map fun t=>tmD (f t)).length false)])=zdv W++[[.f (.s A.r),.f (.b A.neg),.sl X 0 A.ts.length 4 A.ts.length false]]:=by simp[zdv,mpA]
    rw[e];refine zaS hr2 (by simp[rW,]) fun x h1 h2=> ?_
    have nx:¬(x=c0+2):=by omega
    simp[rW,nx]
   .intro p hp;rcases Z4.1 hp with hp|hp
    .obtain⟨o1,o2⟩ :=hall p hp;refine⟨o1.up (fun x hx=> ?_) (Z2 _) (by simp[rW,];omega),fun x hx hy=> ?_⟩
     .have hx2:=o1.2.2.1 x hx;have nx:¬(x=c0+2):=by omega
      simp[rW,nx];rw[hr6 x (by omega) (o2 x hx),hlow x (by omega)]
     .have hx2:=o1.2.2.1 x hx;rcases hr5 x hy with e|e
      .omega
      .exact o2 x hx e
    .obtain rfl:p=(mpA f A,.sl X 0 (A.ts.map fun t=>tmD (f t)).length 4 (A.ts.map fun t=>tmD (f t)).length false):=by simpa using hp
     refine⟨hO.up (fun x hx=> ?_) (by omega) (by simp[rW,];omega),fun x hx hy=> ?_⟩
     .have hx2:=hO.2.2.1 x hx;have nx:¬(x=c0+2):=by omega
      simp[rW,nx];rw[hr6 x (by omega) (fun e=>by have:=zbW hg e;omega)]
     .have hx2:=hO.2.2.1 x hx;rcases hr5 x hy with e|e
      .omega
      .have:=zbW hg e;omega
   .simp[rW,];omega
   .intro x hx;have nx:¬(x=c0+2):=by omega
    simp[rW,nx];rw[hr6 x (by omega) (za5 hg (by omega)),hlow x (by omega)];exact hF x hx
   .simp[rW,]
    repeat refine Z3 (zb8 _ _).1 ?_
    omega
 .rintro s ⟨B,W,hW,⟨h1,h2,h4,h5,h14,h15,h16⟩,gq,gz,gB,hg,hall,hlo,hF,hlw⟩;simp[rW,h1,h2,h4,h5,h14,h15,h16];refine⟨B,W,hW,?_,gq,gz,gB,hg,hall,hlo,hF,hlw⟩;simp[rW,h1,h2,h4,h5,h14,h15,h16]
 .refine⟨.f .nils,[],by simp,?_,?_,?_,?_,.inl ⟨rfl,rfl⟩,by simp,?_,fun x hx=> ?_,?_⟩
  .simp[rW,]
  .simp[rW,n02,n01]
  .simp[rW,n12]
  .simp[rW,]
  .simp[rW,]
  .have a0:¬(x=c0):=by omega
   have a1:¬(x=c0+1):=by omega
   have a2:¬(x=c0+1+1):=by omega
   simp[rW,a0,a1,a2]
  .simp[rW,]
   repeat refine Z3 (zb8 _ _).1 ?_
   omega
 .rintro x s ⟨rfl,B,W,hW,⟨h1,h2,h4,h5,h14,h15,h16⟩,gq,gz,gB,hg,hall,hlo,hF,hlw⟩;rw[Z7]at hW;simp[rW,h1,h2,h4,h5,h14,h15,h16,gq,gz,gB,zaH,zbf];refine zdi q.cs.length (XP3 s f fv B q c0) (fun x s'=>x= .exit 4/\XP3 s f fv B q c0 q.cs.length s') ?_ ?_ _ ?_ ?_
  .rintro n s' hn ⟨C,⟨h1,h2,h4,h5,h49,h50,h51⟩,gC,hC,hlo',hlow,hlw'⟩;have hw:=zao n (by have:=hq.sc;omega);have hx2:q.cs[n]? =some q.cs[n]:=Z0 hn;have hk2:=Z6 hn;have hok:=hq.toCqSm.toCqOk.cs _ (Z1 hn);generalize hKm:q.cs[n]=k at hx2 hk2 hok;have nA:¬(c0+2=s'.c):=by omega
   obtain⟨op,l,r⟩ :=k;simp[rW,h1,h2,h4,h5,h49,h50,h51,gC,hn,zcZ,hx2,hKm,zet,cmD,tmD,nA];refine zgT ?_;simp[rW,h1,h2,h4,h5,h49,h50,h51,gC,nA,hfv,tmD];have hH:∀x,x<c0->(∀y,y<s'.c->y≠s'.c)->s'.h.get x=h.get x:=fun x hx _=>by
    rw[<-hF x hx,<-hlow x (by omega) (by omega)]
   refine zk5 (d:= .ag (tmD (f l))) ?_ ?_ ?_ ?_
   .simp only[rG];refine hcl l hok.1 _ _ (fun x hx=> ?_) (by omega);have a1:¬x=s'.c:=by omega
    rw[<-hF x hx,<-hlow x (by omega) (by omega)];simp[Vse.T.zad,a1]
   .simp only[rG]
    repeat refine Z3 (zb8 _ _).1 ?_
    omega
   .simp[rW,]
   .intro mx hmx;have hmx:s'.c+1+1+1+1+1<=mx:=Z3 (by simp only[rG];omega) hmx;simp[rW,h1,h2,h4,h5,h49,h50,h51,gC,nA,hfv,tmD];refine zk5 (d:= .ag (tmD (f r))) ?_ ?_ ?_ ?_
    .simp only[rG];refine hcl r hok.2 _ _ (fun x hx=> ?_) (by omega);have a1:¬x=s'.c:=by omega
     rw[<-hF x hx,<-hlow x (by omega) (by omega)];simp[Vse.T.zad,a1]
    .simp only[rG]
     repeat refine Z3 (zb8 _ _).1 ?_
     omega
    .simp[rW,]
    .intro mx2 hmx2;have hmx2:s'.c+1+1+1+1+1<=mx2:=Z3 (by simp only[rG];omega) hmx2;simp[rW,h1,h2,h4,h5,h49,h50,h51,gC,nA,hfv,tmD,zBZ];have hsc:=hq.sc;generalize hHs:((s'.h.set s'.c _).set s'.c _:T Ob)=Hs;have hup:∀x,x<s'.c->Hs.get x=s'.h.get x:=fun x hx=>by
      have a1:¬x=s'.c:=by omega
      rw[<-hHs];simp[Vse.T.zad,a1]
     refine zey (zaS (c':=mx2+1+1) hC (by omega) fun x h1 h2=>hup x h2) (by omega) (by simp;omega) (by omega) ?_;intro r2 hr1 hr2 hr3 hr4 hr5;have z1:=hr4 (c0+2) (by omega) (za5 hC (by omega));rw[hup _ (by omega),gC]at z1;refine⟨hr1,?_⟩;simp[rW,z1,za3 hr2,hHs];refine⟨by omega,r2.d,?_,?_,?_,?_,fun x hx hx2=> ?_,?_⟩
     .simp[rW,h1,h2,h4,h5,h49,h50,h51,hw]
     .simp[rW,]
     .rw[hk2,Z20];refine zaS hr2 (by simp[rW,];omega) fun x h1 h2=> ?_
      have nx:¬(x=c0+2):=by omega
      simp[rW,nx,hHs]
     .simp[rW,];omega
     .simp[rW,hx2,hHs];rw[hr4 x (by omega) (za5 hC (by omega)),hup x (by omega),hlow x hx hx2]
     .simp[rW,]
      repeat refine Z3 (zb8 _ _).1 ?_
      omega
  .rintro s' ⟨C,⟨h1,h2,h4,h5,h49,h50,h51⟩,gC,hC,hlo',hlow,hlw'⟩;simp[rW,h1,h2,h4,h5,h49,h50,h51];refine⟨C,?_,gC,hC,hlo',hlow,hlw'⟩;simp[rW,h1,h2,h4,h5,h49,h50,h51]
  .refine⟨.f .nils,?_,gB,.inl ⟨rfl,by simp⟩,Z2 _,fun _ _ _=>rfl,hlw⟩;simp[rW,h1,h2,h4,h5]
  .rintro x s' ⟨rfl,C,⟨h1,h2,h4,h5,h49,h50,h51⟩,gC,hC,hlo',hlow,hlw'⟩;rw[Z7]at hC;simp[rW,h1,h2,h4,h5,h49,h50,h51,gC];have gz':=hlow (c0+1) (by omega) (by omega);rw[gz]at gz';have hBc:B.cells=some [B]:=za3 hg;have hCc:C.cells=some [C]:=za3 hC;have hup:∀x,x≠c0+1->(s'.h.set (c0+1) (.arr 2 0 [[B,C]])).get x=s'.h.get x:=fun x hx=>by simp[Vse.T.zad,hx]
   have oB:zpu (s'.h.set (c0+1) (.arr 2 0 [[B,C]])) c0 s'.c B (zaB (mpC f q)):=by
    refine⟨?_,hBc,fun H hH k=> ?_⟩
    .rcases hg with⟨rfl,e⟩ |⟨id,ro,rfl,-⟩
     .refine .inl ?_;have hWn:W=[]:=by simpa [zdv]using e
      have:(mpC f q).as=[]:=by show q.as.map (mpA f)=[];rw[<-hW,hWn];rfl
      unfold zaB Sm.asF;rw[if_neg (by simp[mpC]),this];rfl
     .exact .inr ⟨_,_,_,_,_,_,rfl⟩
    have hh:∀x,c0+3<=x->x<s.c->H.get x=s.h.get x:=fun x h1 h2=>by
     rw[hH x (by omega) (by omega),hup x (by omega),hlow x h2 (by omega)]
    obtain⟨rd,h1⟩ :=ziJ (h:=H) (lo:=c0+3) (c:=s.c) k (W:=W) fun p hp=>(hall p hp).1.up (fun x hx=>by
     have:=(hall p hp).1.2.2.1 x hx;exact hh x this.1 this.2) (Z2 _) (Z2 _)
    have:=zno (zaS hg (Z2 _) hh) h1 (by simp[zdv]);rw[show slc 3 (W.map fun p=>atF p.1)=zaB (mpC f q)from by
     unfold zaB Sm.asF;rw[if_neg (by simp[mpC])];show _=slc 3 ((q.as.map (mpA f)).map atF);rw[<-hW,Z33];rfl]at this
    exact this
   have oC:zpu (s'.h.set (c0+1) (.arr 2 0 [[B,C]])) c0 s'.c C (zaC (mpC f q)):=by
    have hCe:(q.cs.map fun k=>cmD (mpK f k))=(q.cs.map fun k=>cmF (mpK f k)).map fun a=>a.map D.f:=by
     rw[Z33];exact List.map_congr_left fun k _=>(ziN _).symm
    rw[hCe]at hC;have o:=zij hC;have e:slc 9 (q.cs.map fun k=>cmF (mpK f k))=zaC (mpC f q):=by
     unfold zaC csF;rw[if_neg (by simp[mpC])];show _=slc 9 ((q.cs.map (mpK f)).map cmF);rw[Z33];rfl
    rw[e]at o;refine⟨o.1,hCc,fun H hH k=> ?_⟩;have:=o.2.2.2 H (fun x hx=>by
     have h1:=o.2.2.1 x hx;rw[hH x (by omega) h1.2,hup x (by omega)]) (k+1)
    exact this
   have hFm:Frm h (s'.h.set (c0+1) (.arr 2 0 [[B,C]])) c0:=fun x hx=>by
    rw[hup x (by omega),hlow x (by omega) (by omega)];exact hF x hx
   simp[rW,gz',hBc,hCc,h1,h2,h4,h5,h49,h50,h51,zbl];refine⟨by omega,⟨hFm,_,_,⟨rfl,rfl⟩,oB,oC⟩,fun _ hb hc'=>⟨fun _ _=>rfl,_,_,⟨rfl,rfl⟩,zBO oB hb _ _ _,zBO oC hc' _ _ _⟩⟩
def fn7:pr.fn 7=some g7:=by kernel_rfl
def fn114:pr.fn 114=some zyt:=by kernel_rfl
def fn74:pr.fn 74=some g74:=by kernel_rfl
def fn67:pr.fn 67=some g67:=by kernel_rfl
def zgS{q:CQ}(hq:CqG q){f:Trm->Trm}(hf:∀t,zau t->zau (f t)):CqG (mpC f q):=by
 have e1:∀a∈(mpC f q).as,∃b∈q.as,a=mpA f b:=fun a ha=>by
  obtain⟨b,hb,rfl⟩ :=Z12.1 ha;exact⟨b,hb,rfl⟩
 have e2:∀a∈(mpC f q).cs,∃b∈q.cs,a=mpK f b:=fun a ha=>by
  obtain⟨b,hb,rfl⟩ :=Z12.1 ha;exact⟨b,hb,rfl⟩
 refine⟨⟨⟨fun a ha=> ?_,fun k hk=> ?_,?_,?_⟩,?_,fun a ha=> ?_,?_,fun a ha=> ?_⟩,fun a ha=> ?_⟩
 .obtain⟨b,hb,rfl⟩ :=e1 a ha;refine⟨fun t ht=> ?_,by show(b.ts.map f).length<1000;rw[Z18];exact (hq.toCqSm.toCqOk.as b hb).2⟩;obtain⟨u,hu,rfl⟩ :=Z12.1 ht;exact hf u ((hq.toCqSm.toCqOk.as b hb).1 u hu)
 .obtain⟨b,hb,rfl⟩ :=e2 k hk;exact⟨hf _ (hq.cs b hb).1,hf _ (hq.cs b hb).2⟩
 .show(q.as.map (mpA f)).length<1000;rw[Z18];exact hq.la
 .show(q.cs.map (mpK f)).length<1000;rw[Z18];exact hq.lc
 .show(q.as.map (mpA f)).length<=12;rw[Z18];exact hq.sa
 .obtain⟨b,hb,rfl⟩ :=e1 a ha;show(b.ts.map f).length<=12;rw[Z18];exact hq.st b hb
 .show(q.cs.map (mpK f)).length<=200;rw[Z18];exact hq.sc
 .obtain⟨b,hb,rfl⟩ :=e1 a ha;show(b.ts.map f).length<=2;rw[Z18];exact hq.s2 b hb
 .obtain⟨b,hb,rfl⟩ :=e1 a ha;intro e;exact hq.tn b hb (List.map_eq_nil_iff.1 e)
def zme{q:CQ}(hq:CqG q){k:Cm}(hk:zbt k)(hl:q.cs.length<200):CqG (wth q k):=by
 have e:(wth q k).cs.length=q.cs.length+1:=by simp[wth]
 refine⟨⟨⟨hq.toCqSm.toCqOk.as,fun x hx=> ?_,hq.la,by omega⟩,hq.sa,hq.st,by omega,hq.s2⟩,hq.tn⟩;rcases Z4.1 hx with h|h
 .exact hq.cs x h
 .rw[Z31.1 h];exact hk
def zGI(q:CQ)(s:Str)(n:Int)(hs:s≠[])(hq:CqG q):Ans pr 27 [.ag (cqF q),.s s,.ag (vF n)] (.ag (cqF (mpC (sbT s (.cst n)) q))):=by
 refine zbd fn27 ?_;simp only[g27,rU];simp[rW,st0,zae,cqE,zaF,zaH,vF];refine zcz rfl rfl (zHL (sbT s (.cst n)) q hq rfl ?_) ?_
 .intro t ht H c' hH hc;have b1:=hH 1 (by simp only[rG];omega);have b2:=hH 2 (by simp only[rG];omega);simp only[rG]at b1 b2 hc;refine ro62 t s n hs ht ?_ ?_ (by omega) (by omega)
  .rw[b1];simp[Vse.T.zad]
  .rw[b2];simp[Vse.T.zad]
 .rintro d h' c' lw mx ⟨hf,dA,dC,rfl,hA,hC⟩ hcc;simp only[rG]at hf hA hC hcc;have e3:=hf 3 (by omega);simp[Vse.T.zad]at e3;simp[rW,e3,hA.2.1,hC.2.1];have hup:∀x,4<=x->x<c'->(h'.set 3 (.arr 2 0 [[dA,dC]])).get x=h'.get x:=fun x h1 h2=>by
   have a1:¬x=3:=by omega
   simp[Vse.T.zad,a1]
  obtain⟨r1,f1⟩ :=hA.2.2 (h'.set 3 (.arr 2 0 [[dA,dC]])) hup 8;obtain⟨r2,f2⟩ :=hC.2.2 (h'.set 3 (.arr 2 0 [[dA,dC]])) hup 8;rw[f1,f2];simp[rW,];omega
def zmF{s:Str}{n:Int}(t:Trm)(ht:zau t):zau (sbT s (.cst n) t):=by
 unfold sbT;split
 .exact trivial
 .exact ht
def spl(q:CQ)(s:Str)(n:Int):List CQ:=[mpC (sbT s (.cst n)) q,wth q ⟨2,.var s,.cst n⟩]
def eff7(q:CQ)(s:Str)(n:Int)(hs:s≠[])(hq:CqG q){h:T Ob}{c:Nat}:Eff pr 7 [.ag [.f (zaB q),.f (zaC q)],.f (.s s),.ag ((vF n).map D.f)] h c fun d h' c'=>Frm h h' c/\∃id ex,d= .sl id 0 2 2 2 ex/\h'.get id=some (.arr 2 0 (fD ((spl q s n).map cqF)))/\c<=id/\id<c':=by
 refine zci zbi fn7 ?_;simp only[g7,rU];have q1:=fun k=>zaj (k:=k) (zGI q s n hs hq)
 have q2:=fun k=>zaj (k:=k) (zxM _ (zgS hq (zmF (s:=s) (n:=n))).toCqSm)
 have q3:=fun k=>zaj (k:=k) (zrJ q 2 (.var s) (.cst n) hq)
 simp only[cqE,tmF,vF]at q1 q2 q3;simp[rW,st0,zae,zaF,zaH,vF,hs];refine zaL ?_;simp[rW,st0,zae,zaF,zaH,vF,hs,q1,q2,q3,zbl];refine⟨fun x hx=> ?_,rfl,by omega⟩;have a0:¬x=c:=by omega
 have a1:¬x=c+1:=by omega
 have a2:¬x=c+1+1+1+1+1+1+1+1+1+1+1+1+1:=by omega
 simp[Vse.T.zad,a0,a1,a2]
theorem ro90F(q:CQ)(p:Cm->Bool)(hl:q.cs.length<100000){h:T Ob}{c g:Nat}{fv:D}{cap:List D}(hfv:zdH fv=some (g,[],cap))(hcl:∀n (hn:n<q.cs.length),RO pr g (.ag (cmD q.cs[n])::cap) h c (.f (.b (p q.cs[n])))):
  RO pr 90 [.f (zaC q),fv] h c (.f (.i .i64 (ixP q.cs p))):=by
 refine zdz zbi fn90 rfl ?_;simp only[g90,rU];simp[rW,st0,zae,zbf];refine zcf q.cs p (fun n s=>s.tm.get 0=some (.f (zaC q))/\s.tm.get 1=some (fv)/\s.tm.get 7=some (.f (.i .i64 q.cs.length))/\s.tm.get 8=some (.f (.i .i64 n))/\s.h=h/\s.c=c/\s.lw=c) (fun x s=>x= .exit 0/\s.lw=c) (fun n y s=>y= .ret/\s.tm.get 4=some (.f (.i .i64 n))/\s.lw=c) ?_ ?_ _ ?_ ?_ ?_
 .rintro n s hn ⟨h0,h1,h7,h8,eh,ec,el⟩;have hw:=zao n (by omega);have hp:=hcl n hn;have hx:q.cs[n]? =some q.cs[n]:=Z0 hn;generalize hA:q.cs[n]=A at hp hx|-;simp[rW,h0,h1,h7,h8,hn,zcZ,hx,hA,zet,cmD,tmD,hfv];refine zdo (d:= .f (.b (p A))) ?_ ?_ ?_
  .simp only[rG];rw[eh,ec];exact hp
  .simp only[rG];omega
  .intro mx;cases hb:p A with
   |true=>simp[rW,h0,h1,h7,h8,el]
   |false=>simp[rW,h0,h1,h7,h8,hw,eh,ec,el]
 .rintro s ⟨h0,h1,h7,h8,eh,ec,el⟩;simp[rW,h0,h1,h7,h8,el]
 .simp[rW,st0,zae]
 .rintro h z s ⟨rfl,el⟩;rw[zmx h];simp[rW,za4,el]
 .rintro n hn hp hm z s ⟨rfl,h4,el⟩;rw[zlD hn hp hm];simp[rW,h4,za4,el]
theorem ro88F(q:CQ)(p:Cm->Bool)(hl:q.cs.length<100000){h:T Ob}{c g:Nat}{fv:D}{cap:List D}(hfv:zdH fv=some (g,[],cap))(hcl:∀n (hn:n<q.cs.length),RO pr g (.ag (cmD q.cs[n])::cap) h c (.f (.b (p q.cs[n])))):
  RO pr 88 [.f (zaC q),fv] h c (.f (.b (q.cs.any p))):=by
 refine zdz zbi fn88 rfl ?_;simp only[g88,rU];rw[<-zoL q.cs p];simp[rW,st0,zae];refine zdo (d:= .f (.i .i64 (ixP q.cs p))) ?_ ?_ ?_
 .simp only[rG];exact ro90F q p hl hfv hcl
 .simp only[rG];omega
 .intro mx;simp[rW,za4]
def zcY(op:Int)(a b:Trm)(k:Cm):Bool:=decide (k.op=op)&&(decide (k.l=a)&&decide (k.r=b)||decide (k.l=b)&&decide (k.r=a))
theorem ro114(k:Cm)(hk:zbt k)(op:Int)(a b:Trm)(ha:zau a)(hb:zau b){h:T Ob}{c A B C:Nat}(gA:h.get A=some (.arr 1 0 [[.f (.i .i64 op)]]))(gB:h.get B=some (.arr 4 0 [tmD a]))(gC:h.get C=some (.arr 4 0 [tmD b]))(hA:A<c)(hB:B<c)(hC:C<c):
  RO pr 114 [.ag (cmD k),.ptr A 1 0 0,.ptr B 4 0 0,.ptr C 4 0 0] h c (.f (.b (zcY op a b k))):=by
 refine zdz zbi fn114 rfl ?_;simp only[zyt,rU];obtain⟨o,l,r⟩ :=k;have nA:¬A=c:=by omega
 have nB:¬B=c:=by omega
 have nC:¬C=c:=by omega
 have q1:=fun k=>zaj (k:=k) (zjo l a hk.1 ha)
 have q2:=fun k=>zaj (k:=k) (zjo r b hk.2 hb)
 have q3:=fun k=>zaj (k:=k) (zjo l b hk.1 hb)
 have q4:=fun k=>zaj (k:=k) (zjo r a hk.2 ha)
 simp only[tmE]at q1 q2 q3 q4;unfold zcY;simp only[tmD]at gB gC
 by_cases h1:o=op
 .subst h1;generalize hb1:decide (l=a)=b1 at q1;generalize hb2:decide (r=b)=b2 at q2;generalize hb3:decide (l=b)=b3 at q3;generalize hb4:decide (r=a)=b4 at q4;cases b1<;>cases b2<;>cases b3<;>cases b4<;>(simp[rW,st0,zae,cmD,tmD,gA,gB,gC,nA,nB,nC,q1,q2,q3,q4,hb1,hb2,hb3,hb4,za4]<;>simp (disch:=omega) only[zb7,zcw])
 .simp[rW,st0,zae,cmD,tmD,gA,gB,gC,nA,nB,nC,h1,za4];simp (disch:=omega) only[zb7,zcw]
def zGN(q:CQ)(op:Int)(a b:Trm)(hq:CqG q)(ha:zau a)(hb:zau b):Ans pr 74 [.ag (cqF q),.i .i64 op,.ag (tmF a),.ag (tmF b)] (.b (q.cs.any (zcY op a b))):=by
 refine zbd fn74 ?_;simp only[g74,rU];simp only[tmE];simp[rW,st0,zae,cqE,zaF,zaH];refine zdo (d:= .f (.b (q.cs.any (zcY op a b)))) ?_ ?_ ?_
 .simp only[rG];refine ro88F q _ (by have:=hq.sc;omega) rfl fun n hn=> ?_
  refine ro114 _ (hq.cs _ (Z1 hn)) op a b ha hb ?_ ?_ ?_ ?_ ?_ ?_
  .simp[Vse.T.zad]
  .simp[Vse.T.zad,tmD]
  .simp[Vse.T.zad,tmD]
  all_goals omega
 .simp only[rG]
  repeat refine Z3 (zb8 _ _).1 ?_
  omega
 .intro mx;simp[rW,]
def exc(q:CQ)(s:Str)(n:Int):Bool:=q.cs.any (zcY 2 (.var s) (.cst n))
def ans67(q:CQ)(s:Str)(n:Int)(hq:CqG q)(hs:s≠[]):Ans pr 67 [.ag (cqF q),.s s,.ag (vF n)] (.b (exc q s n)):=by
 refine zbd fn67 ?_;simp only[g67,rU];have q1:=fun k=>zaj (k:=k) (zGN q 2 (.var s) (.cst n) hq hs trivial)
 simp only[cqE,tmF]at q1;simp[rW,st0,zae,cqE,zaF,zaH,vF,q1];rfl
def fn145:pr.fn 145=some zyK:=by kernel_rfl
def fn157:pr.fn 157=some zyL:=by kernel_rfl
def fn144:pr.fn 144=some zyI:=by kernel_rfl
def fn116:pr.fn 116=some zyx:=by kernel_rfl
def fn75:pr.fn 75=some g75:=by kernel_rfl
def ziy(r:Str)(i:Nat)(u:Str)(j:Nat)(v:Str)(a:Atm):Bool:=decide (a.r=r)&&decide (i<a.ts.length/\j<a.ts.length)&&decide (a.ts[i]? =some (.var u))&&decide (a.ts[j]? =some (.var v))
def zmG{t:Trm}{u:Str}(hu:u≠[]):tv t=u↔t= .var u:=by
 cases t with
 |var s=>simp[tv]
 |cst n=>simp[tv];exact fun h=>hu h
theorem ro145(a:Atm)(ha:zbX a)(r:Str)(i:Nat)(u:Str)(j:Nat)(v:Str)(hu:u≠[])(hv:v≠[]){h:T Ob}{c A B C D' E:Nat}(gA:h.get A=some (.arr 1 0 [[.f (.s r)]]))(gB:h.get B=some (.arr 1 0 [[.f (.i .i64 i)]]))(gC:h.get C=some (.arr 1 0 [[.f (.i .i64 j)]]))(gD:h.get D'=some (.arr 1 0 [[.f (.s u)]]))(gE:h.get E=some (.arr 1 0 [[.f (.s v)]]))(hA:A<c)(hB:B<c)(hC:C<c)(hD:D'<c)(hE:E<c):
  RO pr 145 [.ag [.f (.s a.r),.f (.b a.neg),.f (zaW a.ts)],.ptr A 1 0 0,.ptr B 1 0 0,.ptr C 1 0 0,.ptr D' 1 0 0,.ptr E 1 0 0] h c (.f (.b (ziy r i u j v a))):=by
 refine zdz zbi fn145 rfl ?_;simp only[zyK,rU];have nA:¬A=c:=by omega
 have nB:¬B=c:=by omega
 have nC:¬C=c:=by omega
 have nD:¬D'=c:=by omega
 have nE:¬E=c:=by omega
 unfold ziy
 by_cases e1:a.r=r
 .subst e1
  by_cases hi:i<a.ts.length
  .by_cases hj:j<a.ts.length
   .have x1:a.ts[i]? =some a.ts[i]:=Z0 hi;have x2:a.ts[j]? =some a.ts[j]:=Z0 hj;have y1:=zmG (t:=a.ts[i]) hu;have y2:=zmG (t:=a.ts[j]) hv;generalize hT1:a.ts[i]=t1 at x1 y1;generalize hT2:a.ts[j]=t2 at x2 y2;rw[x1,x2];have w1:decide (some t1=some (Trm.var u))=decide (tv t1=u):=decide_eq_decide.2 (by rw[y1];simp);have w2:decide (some t2=some (Trm.var v))=decide (tv t2=v):=decide_eq_decide.2 (by rw[y2];simp);rw[w1,w2]
    by_cases hij:i<j<;>by_cases z1:tv t1=u<;>by_cases z2:tv t2=v<;>(simp[rW,st0,zae];refine zaL ?_;simp[rW,gA,gB,gC,gD,gE,nA,nB,nC,nD,nE,zaR,zaO,zbk,x1,x2,hT1,hT2,tmE,hi,hj,hij,z1,z2,za4])
    all_goals simp (disch:=omega) only[zb7,zcw]
   .have hij:i<j:=by omega
    simp[rW,st0,zae];refine zaL ?_;simp[rW,gA,gB,gC,gD,gE,nA,nB,nC,nD,nE,zaR,zaO,hj,hij,za4];simp (disch:=omega) only[zb7,zcw]
  .by_cases hij:i<j
   .have hj:¬j<a.ts.length:=by omega
    simp[rW,st0,zae];refine zaL ?_;simp[rW,gA,gB,gC,gD,gE,nA,nB,nC,nD,nE,zaR,zaO,hi,hj,hij,za4];simp (disch:=omega) only[zb7,zcw]
   .simp[rW,st0,zae];refine zaL ?_;simp[rW,gA,gB,gC,gD,gE,nA,nB,nC,nD,nE,zaR,zaO,hi,hij,za4];simp (disch:=omega) only[zb7,zcw]
 .simp[rW,st0,zae];refine zaL ?_;simp[rW,gA,gB,gC,gD,gE,nA,nB,nC,nD,nE,e1,zaR,za4];simp (disch:=omega) only[zb7,zcw]
theorem zP6(q:CQ)(p:Atm->Bool)(hl:q.as.length<100000){h:T Ob}{c g:Nat}{fv:D}{cap:List D}(hfv:zdH fv=some (g,[],cap))(hcl:∀n (hn:n<q.as.length),RO pr g (.ag [.f (.s q.as[n].r),.f (.b q.as[n].neg),.f (zaW q.as[n].ts)]::cap) h c (.f (.b (p q.as[n])))):
  RO pr 157 [.f (zaB q),fv] h c (.f (.i .i64 (ixP q.as p))):=by
 refine zdz zbi fn157 rfl ?_;simp only[zyL,rU];simp[rW,st0,zae,za1];refine zcf q.as p (fun n s=>(s.tm.get 0=some (.f (zaB q))/\s.tm.get 1=some (fv)/\s.tm.get 7=some (.f (.i .i64 q.as.length))/\s.tm.get 8=some (.f (.i .i64 n)))/\s.h=h/\s.c=c/\s.lw=c) (fun x s=>x= .exit 0/\s.lw=c) (fun n y s=>y= .ret/\s.tm.get 4=some (.f (.i .i64 n))/\s.lw=c) ?_ ?_ _ ?_ ?_ ?_
 .rintro n s hn ⟨⟨h0,h1,h7,h8⟩,eh,ec,el⟩;have hw:=zao n (by omega);have hp:=hcl n hn;have hx:q.as[n]? =some q.as[n]:=Z0 hn;generalize hA:q.as[n]=A at hp hx|-;simp -implicitDefEqProofs [rW,h0,h1,h7,h8,hn,zbh,hx,hA,atE,zaR,hfv];refine zdo (d:= .f (.b (p A))) ?_ ?_ ?_
  .simp only[rG];rw[eh,ec];exact hp
  .simp only[rG];omega
  .intro mx;cases hb:p A with
   |true=>simp -implicitDefEqProofs [rW,h0,h1,h7,h8,el]
   |false=>simp -implicitDefEqProofs [rW,h0,h1,h7,h8,hw,eh,ec,el]
 .rintro s ⟨⟨h0,h1,h7,h8⟩,eh,ec,el⟩;simp -implicitDefEqProofs [rW,h0,h1,h7,h8,el]
 .simp[rW,st0,zae]
 .rintro h z s ⟨rfl,el⟩;rw[zmx h];simp[rW,za4,el]
 .rintro n hn hp hm z s ⟨rfl,h4,el⟩;rw[zlD hn hp hm];simp[rW,h4,za4,el]
theorem zP5(q:CQ)(p:Atm->Bool)(hl:q.as.length<100000){h:T Ob}{c g:Nat}{fv:D}{cap:List D}(hfv:zdH fv=some (g,[],cap))(hcl:∀n (hn:n<q.as.length),RO pr g (.ag [.f (.s q.as[n].r),.f (.b q.as[n].neg),.f (zaW q.as[n].ts)]::cap) h c (.f (.b (p q.as[n])))):
  RO pr 144 [.f (zaB q),fv] h c (.f (.b (q.as.any p))):=by
 refine zdz zbi fn144 rfl ?_;simp only[zyI,rU];rw[<-zoL q.as p];simp[rW,st0,zae];refine zdo (d:= .f (.i .i64 (ixP q.as p))) ?_ ?_ ?_
 .simp only[rG];exact zP6 q p hl hfv hcl
 .simp only[rG];omega
 .intro mx;simp[rW,za4]
def zOp(q:CQ)(r:Str)(i:Nat)(u:Str)(j:Nat)(v:Str)(hq:CqG q)(hu:u≠[])(hv:v≠[]):Ans pr 116 [.ag (cqF q),.s r,.i .i64 i,.s u,.i .i64 j,.s v] (.b (q.as.any (ziy r i u j v))):=by
 refine zbd fn116 ?_;simp only[zyx,rU];simp[rW,st0,zae,cqE,zaF,zaH];refine zdo (d:= .f (.b (q.as.any (ziy r i u j v)))) ?_ ?_ ?_
 .simp only[rG];refine zP5 q _ (by have:=hq.sa;omega) rfl fun n hn=> ?_
  refine ro145 _ (hq.toCqSm.toCqOk.as _ (Z1 hn)) r i u j v hu hv ?_ ?_ ?_ ?_ ?_ ?_ ?_ ?_ ?_ ?_
  all_goals first|(simp[Vse.T.zad];done)|omega
 .simp only[rG]
  repeat refine Z3 (zb8 _ _).1 ?_
  omega
 .intro mx;simp[rW,]
def exJ(c:CQ)(x y:Str)(a:Atm)(i j:Nat):Bool:=decide (a.ts[i]? =some (.var x))&&decide (a.ts[j]? =some (.var y))&&c.as.any (ziy a.r i y j x)
def exI(c:CQ)(x y:Str)(a:Atm)(i:Nat):Bool:=(List.range a.ts.length).any (exJ c x y a i)
def exA(c:CQ)(x y:Str)(a:Atm):Bool:=(List.range a.ts.length).any (exI c x y a)
def zhP(c:CQ)(x y:Str):Bool:=c.as.any (exA c x y)
def fn96:pr.fn 96=some g96:=by kernel_rfl
def fn99:pr.fn 99=some g99:=by kernel_rfl
def fn106:pr.fn 106=some zym:=by kernel_rfl
def fn117:pr.fn 117=some zyy:=by kernel_rfl
def zhN{a b:Trm}(ha:zau a)(hb:zau b):zgs a b=decide (a=b):=by
 have hs:∀x y:Str,(zem x y==0)=decide (x=y):=by
  intro x y;unfold zem
  by_cases e:x=y
  .subst e;simp[zpG]
  .by_cases h:Go.Op.bytesLess x y=true<;>simp[h,e]
 unfold zgs;cases a with
 |cst a=>
  cases b with
  |cst b=>simp only[zdp,zfN];simp
  |var b=>simp[zdp]
 |var a=>
  cases b with
  |cst b=>simp[zdp]
  |var b=>simp only[zdp,hs];simp
def zGW(t:Trm)(hd:List Str)(ht:zau t)(hh:hd.length<1000000):Ans pr 99 [.ag (tmF t),zaq hd] (.b (frT hd t)):=by
 refine zbd fn99 ?_;simp only[g99,rU];cases t with
 |cst n=>simp[rW,st0,zae,tmF,frT,zaN]
 |var s=>
  have hs:s≠[]:=ht;have q:=fun k=>zaj (k:=k) (zrQ hd s hh)
  simp[rW,st0,zae,tmF,frT,zaN,hs,q]
def znY(a:Atm)(ha:zbX a)(i:Nat)(s:Str)(hs:s≠[]):Ans pr 117 [.ag (atF a),.i .i64 i,.s s] (.b (decide (a.ts[i]? =some (.var s)))):=by
 refine zbd fn117 ?_;simp only[zyy,rU]
 by_cases hi:i<a.ts.length
 .have hx:a.ts[i]? =some a.ts[i]:=Z0 hi;have y:=zmG (t:=a.ts[i]) hs;generalize hT:a.ts[i]=t at hx y;have w:decide (a.ts[i]? =some (.var s))=decide (tv t=s):=decide_eq_decide.2 (by rw[hx,y];simp);rw[w]
  by_cases e:tv t=s
  .simp[rW,st0,zae,atE,zaR,zaO,zbk,hi,hx,hT,tmE,e]
  .simp[rW,st0,zae,atE,zaR,zaO,zbk,hi,hx,hT,tmE,e]
 .have w:decide (a.ts[i]? =some (.var s))=false:=by rw[List.getElem?_eq_none (by omega)];simp
  rw[w];simp[rW,st0,zae,atE,zaR,zaO,hi]
def zss(t:Trm)(s:Str)(b:Trm)(ht:zau t)(hb:zau b)(hs:s≠[]):Ans pr 106 [.ag (tmF t),.s s,.ag (tmF b)] (.ag (tmF (sbT s b t))):=by
 refine zbd fn106 ?_;simp only[zym,rU];unfold sbT;cases t with
 |cst n=>simp[rW,st0,zae,tmF,hs,Ne.symm hs]
 |var v=>
  by_cases e:v=s
  .subst e;cases b with
   |cst m=>simp[rW,st0,zae,tmF,hs]
   |var w=>
    have hw:w≠[]:=hb;simp[rW,st0,zae,tmF,hs,hw]
  .simp[rW,st0,zae,tmF,e]
def ans96(k:Cm)(hk:zbt k):Ans pr 96 [.ag (cmF k)] (.b (alF k)):=by
 refine zbd fn96 ?_;simp only[g96,rU];obtain⟨op,l,r⟩ :=k;have q1:=fun f=>zaj (k:=f) (zrR l r hk.1 hk.2)
 rw[zhN hk.1 hk.2]at q1;cases l with
 |cst a=>
  cases r with
  |cst b=>
   have q2:=fun f=>zaj (k:=f) (zAc op a b)
   simp only[vF]at q2
   by_cases e:a=b
   .subst e
    by_cases o2:op=2
    .simp only[tmF]at q1;simp[rW,st0,zae,cmF,tmF,zdm,zcS,zcN,q1,q2,alF,o2,ziZ]
    .by_cases o3:op=3
     .simp only[tmF]at q1;simp[rW,st0,zae,cmF,tmF,zdm,zcS,zcN,q1,q2,alF,o3,ziZ]
     .simp only[tmF]at q1;simp[rW,st0,zae,cmF,tmF,zdm,zcS,zcN,q1,q2,alF,o2,o3]
   .simp only[tmF]at q1;simp[rW,st0,zae,cmF,tmF,zdm,zcS,zcN,q1,q2,alF,e]
  |var b=>
   have hb:b≠[]:=hk.2;simp only[tmF]at q1;simp[rW,st0,zae,cmF,tmF,zdm,zcS,zcN,zcm,zcr,zcs,q1,alF,hb]
 |var a=>
  have ha:a≠[]:=hk.1;cases r with
  |cst b=>
   simp only[tmF]at q1;simp[rW,st0,zae,cmF,tmF,zdm,zcS,zcN,zcm,zcr,zcs,q1,alF,ha]
  |var b=>
   by_cases e:a=b
   .subst e
    by_cases o2:op=2
    .simp only[tmF]at q1;simp[rW,st0,zae,cmF,tmF,zcm,zcr,zcs,q1,alF,o2]
    .by_cases o3:op=3
     .simp only[tmF]at q1;simp[rW,st0,zae,cmF,tmF,zcm,zcr,zcs,q1,alF,o3]
     .simp only[tmF]at q1;simp[rW,st0,zae,cmF,tmF,zcm,zcr,zcs,q1,alF,o2,o3,ha]
   .simp only[tmF]at q1;simp[rW,st0,zae,cmF,tmF,zcm,zcr,zcs,q1,alF,e,ha]
def zDB(k:Cm)(hk:zbt k):zzz k=alT k:=by
 obtain⟨op,l,r⟩ :=k;unfold zzz alT;rw[zhN hk.1 hk.2];cases l with
 |cst a=>
  cases r with
  |cst b=>
   by_cases e:a=b
   .subst e;simp[tv,tn,ziZ]
    by_cases o1:op=1
    .simp[o1]
    .by_cases o4:op=4
     .simp[o4]
     .by_cases o2:op=2<;>by_cases o3:op=3<;>simp[o1,o2,o3,o4]
   .simp[tv,tn,e]
  |var b=>
   have hb:b≠[]:=hk.2;simp[tv,hb]
 |var a=>
  have ha:a≠[]:=hk.1;cases r with
  |cst b=>simp[tv,ha]
  |var b=>by_cases o1:op=1<;>by_cases o4:op=4<;>simp[tv,ha,o1,o4]
def fn30:pr.fn 30=some g30:=by kernel_rfl
def fn98:pr.fn 98=some g98:=by kernel_rfl
def zAr(h:Nat->Option Ob)(k:Nat)(l:List Cm):zaQ (frz h (k+1)) (l.map cmD)=some (l.map cmF,[]):=by
 have e:l.map cmD=(l.map cmF).map fun a=>a.map D.f:=by
  rw[Z33];exact List.map_congr_left fun k _=>(ziN k).symm
 rw[e];exact zfm h k _
def zvI(h:Nat->Option Ob)(l:List Cm):zaQ (frz h 9) (l.map cmD)=some (l.map cmF,[]):=zAr h 8 l
def zsH(h:Nat->Option Ob)(l:List Cm):zaQ (frz h 10) (l.map cmD)=some (l.map cmF,[]):=zAr h 9 l
def zKO(c:CQ)(k:Cm):zaC (add1 c k)= .sl 9 ((c.cs++[k]).map cmF):=by
 unfold zaC csF;rw[if_neg (fun h=>by have:=h.2;simp[add1]at this)];exact (zbR (by simp[add1])).symm
def zn0(c:CQ)(k:Cm)(hc:CqSm c):Ans pr 30 [.ag (cqF c),.i .i64 k.op,.ag (tmF k.l),.ag (tmF k.r)] (.ag (cqF (add1 c k))):=by
 refine zbd fn30 ?_;simp only[g30,rU];have hl:=hc.sc;have m1:(1<=zak)=True:=zaV (by omega);have m2:(104<=zak)=True:=zaV (by omega);have m3:(c.cs.length+1<=zak)=True:=zaV (by omega);have m4:((c.cs.length+1)*104<=zak)=True:=zaV (by omega);have m5:(c.cs.length<=zak)=True:=zaV (by omega);have m6:(c.cs.length*104<=zak)=True:=zaV (by omega);have hlt:(c.cs.length+1<=c.cs.length)=False:=leF (by omega);have ea:zaB (add1 c k)=zaB c:=rfl;have ec:=zKO c k;have htk:∀x:List D,List.take (c.cs.length+1) (c.cs.map cmD++[x])=c.cs.map cmD++[x]:=fun x=>Z11 (by simp)
 simp only[cqE,tmE]at ec|-;simp[rW,st0,zae,zaF,zaH];refine zaL ?_
 by_cases hcs:c.cs=[]
 .simp[rW,zaF,zaH,zgb,zmc,hcs,m1,m2,zvI,zsH];rw[ec,hcs];exact⟨rfl,by simp[cmF,tmE]⟩
 .simp[rW,zaF,zaH,zgb,zmc,hcs,m1,m2,m3,m4,m5,m6,hlt,zvI,zsH,zkO,htk];rw[ec,Z20];exact⟨rfl,by simp[cmF,tmE]⟩
def zvG(h:Nat->Option Ob)(k:Nat)(l:List Cm):zaQ (frz h (k+1)) (l.map fun x=>List.map D.f (cmF x))=some (l.map cmF,[]):=by
 have e:(l.map fun x=>List.map D.f (cmF x))=(l.map cmF).map fun a=>a.map D.f:=by rw[Z33];rfl
 rw[e];exact zfm h k _
def zKR(c:CQ)(i:Nat):zaC (drp c i)= .sl 9 ((c.cs.take i).map cmF++(c.cs.drop (i+1)).map cmF):=by
 unfold zaC csF drp
 by_cases e:c.cs.take i++c.cs.drop (i+1)=[]
 .rw[if_pos ⟨rfl,e⟩,<-Z20,e];rfl
 .rw[if_neg (fun h=>e h.2),<-Z20];exact (zbR (by simpa using e)).symm
def zGU(c:CQ)(i:Nat)(hi:i<c.cs.length)(hc:CqSm c):Ans pr 98 [.ag (cqF c),.i .i64 i] (.ag (cqF (drp c i))):=by
 refine zbd fn98 ?_;simp only[g98,rU];have hl:=hc.sc;have hw:=zao i (by omega);have ea:zaB (drp c i)=zaB c:=rfl;have hne:c.cs≠[]:=fun e=>by rw[e]at hi;simp at hi
 have hcm:zaC c= .sl 9 (c.cs.map cmF):=by
  unfold zaC csF;rw[if_neg (fun h=>hne h.2)];exact (zbR (by simpa using hne)).symm
 have hcd:(F.sl 9 (c.cs.map cmF)).d= .f (.sl 9 (c.cs.map cmF)):=by rw[<-hcm];exact zaH c
 simp only[cqE];rw[hcm];simp[rW,st0,zae,zaF,hcd];refine zaL ?_;have hi1:i<=c.cs.length:=by omega
 have hi2:i+1<=c.cs.length:=by omega
 have hi0:(0:Int)<=(i:Int)+1:=by omega
 obtain⟨E1,hE1⟩ :∃E,E=List.take i (List.map (fun x=>List.map D.f (cmF x)) c.cs):=⟨_,rfl⟩
 obtain⟨E2,hE2⟩ :∃E,E=List.take (c.cs.length - (i+1)) (List.drop (i+1) (List.map (fun x=>List.map D.f (cmF x)) c.cs)):=⟨_,rfl⟩
 have hE1':=hE1.symm;have hE2':=hE2.symm;have l1:E1.length=i:=by rw[hE1,Z41,Z18];omega
 have l2:E2.length=c.cs.length - (i+1):=by rw[hE2,Z41,List.length_drop,Z18];omega
 have f1:∀h k,zaQ (frz h (k+1)) E1=some ((c.cs.take i).map cmF,[]):=fun h k=>by rw[hE1,<-List.map_take];exact zvG h k _
 have f2:∀h k,zaQ (frz h (k+1)) E2=some ((c.cs.drop (i+1)).map cmF,[]):=fun h k=>by rw[hE2,Z11 (by simp),<-List.map_drop];exact zvG h k _
 have g1:∀h,zaQ (frz h 10) E1=some ((c.cs.take i).map cmF,[]):=fun h=>f1 h 9
 have g2:∀h,zaQ (frz h 10) E2=some ((c.cs.drop (i+1)).map cmF,[]):=fun h=>f2 h 9
 have m1:(i<=zak)=True:=zaV (by omega);have m2:(i*104<=zak)=True:=zaV (by omega);have m3:(c.cs.length - (i+1)<=zak)=True:=zaV (by omega);have m4:((c.cs.length - (i+1))*104<=zak)=True:=zaV (by omega);have m5:(i+(c.cs.length - (i+1))<=zak)=True:=zaV (by omega);have m6:((i+(c.cs.length - (i+1)))*104<=zak)=True:=zaV (by omega);have ec:=zKR c i;have ht1:List.take i E1=E1:=Z11 (by omega);have ht2:List.take (i+(c.cs.length - (i+1))) (E1++E2)=E1++E2:=Z11 (by rw[Z16];omega);have ht3:List.take (c.cs.length - (i+1)) E2=E2:=Z11 (by omega)
 by_cases h1:i=0
 .have e1:E1=[]:=Z17.1 (by omega);subst h1;subst e1;have hw0:IntKind.i64.wrap 1=1:=rfl;simp only[Z25]at hE2' l2 m3 m4 ht3 g2 ec hi2;have hE3:List.take (c.cs.length - 1) (List.map (fun x=>List.map D.f (cmF x)) c.cs).tail=E2:=by rw[<-List.drop_one];exact hE2'
  by_cases h2:c.cs.length - 1=0
  .have e2:E2=[]:=Z17.1 (by omega);have e3:c.cs.drop 1=[]:=Z24 (by omega);simp[rW,zgb,hw0,zeM,hi2,hE2',h2,e2,List.take_zero];rw[ec,e3];exact⟨rfl,rfl⟩
  .have e2:¬(E2=[]):=fun e=>by rw[e]at l2;simp at l2;omega
   simp[rW,zgb,hw0,zeM,hi2,hE3,l2,h2,e2,m3,m4,g2,ht3,List.take_zero];rw[ec];exact⟨rfl,by simp⟩
 .have e1:¬(E1=[]):=fun e=>by rw[e]at l1;simp at l1;omega
  by_cases h2:c.cs.length - (i+1)=0
  .have e2:E2=[]:=Z17.1 (by omega);have e3:c.cs.drop (i+1)=[]:=Z24 (by omega);simp[rW,zgb,hw,zeM,hi1,hi2,hi0,hE1',hE2',l1,l2,h1,h2,e1,e2,m1,m2,g1,g2,ht1];rw[ec,e3];exact⟨rfl,by simp⟩
  .have e2:¬(E2=[]):=fun e=>by rw[e]at l2;simp at l2;omega
   have hgt:¬(i+(c.cs.length - (i+1))<=i):=by omega
   simp[rW,zgb,hw,zeM,hi1,hi2,hi0,hE1',hE2',l1,l2,h1,h2,e1,e2,m1,m2,m3,m4,m5,m6,g1,g2,zkO,hgt,ht2];rw[ec];exact⟨rfl,by simp⟩
end Go.Proofs.YtmnkdfjljkhneaaGreat
end
