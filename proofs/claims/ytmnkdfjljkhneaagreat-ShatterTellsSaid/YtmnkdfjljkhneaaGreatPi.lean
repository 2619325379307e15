/- The reference: Put. -/
import Derived.Test.YtmnkdfjljkhneaaGreatPh
import Derived.KernelRfl
import Derived.IntWalk
set_option linter.all false
set_option maxRecDepth 100000
set_option maxHeartbeats 4000000
section
namespace Go.Proofs.YtmnkdfjljkhneaaGreat
open Go Go.Vse Go.Vse.Sm
def fn63:pr.fn 63=some g63:=by kernel_rfl
def YP1(s1:Str)(b:Trm)(q:CQ)(n:Nat)(s:St):Prop:=∃(B:D) (W:List (Atm×D)),W.map (·.1)=(q.as.take n).map (mpA (sbT s1 b))/\(s.tm.get 1=some (.f (.s s1))/\s.tm.get 3=some (.ptr 0 2 0 0)/\s.tm.get 5=some (.ptr 1 4 0 0)/\s.tm.get 6=some (.ptr 2 2 0 0)/\s.tm.get 7=some (.ptr 3 2 0 0)/\s.tm.get 8=some (.f (.i .i64 n))/\s.h.get 0=some (.arr 2 0 [[.f (zaB q),.f (zaC q)]])/\s.h.get 1=some (.arr 4 0 [tmD b])/\s.h.get 2=some (.arr 2 0 [[.f .nils,.f .nils]])/\s.h.get 3=some (.arr 2 0 [[B,.f .nils]]))/\Gro s.h 4 s.c 3 B (zdv W)/\(∀p∈W,Own s.h 4 s.c p.2 (zaW p.1.ts)/\∀x,p.2.oid=some x->B.oid≠some x)/\4<=s.c
def YP2(s0:St)(s1:Str)(b:Trm)(q:CQ)(A:Atm)(n X m:Nat)(s:St):Prop:=∃T:D,(s.tm.get 1=some (.f (.s s1))/\s.tm.get 3=some (.ptr 0 2 0 0)/\s.tm.get 5=some (.ptr 1 4 0 0)/\s.tm.get 6=some (.ptr 2 2 0 0)/\s.tm.get 7=some (.ptr 3 2 0 0)/\s.tm.get 8=some (.f (.i .i64 n))/\s.tm.get 9=some (.ptr X 3 0 0)/\s.tm.get 10=some (.f (.i .i64 m)))/\s.h.get X=some (.arr 3 0 [[.f (.s A.r),.f (.b A.neg),T]])/\Gro s.h (X+1) s.c 4 T ((A.ts.take m).map fun t=>tmD (sbT s1 b t))/\X+1<=s.c/\s0.c<=X/\(∀x,x<s0.c->s.h.get x=s0.h.get x)
def YP3(s0:St)(s1:Str)(b:Trm)(q:CQ)(B:D)(n:Nat)(s:St):Prop:=∃C:D,(s.tm.get 1=some (.f (.s s1))/\s.tm.get 3=some (.ptr 0 2 0 0)/\s.tm.get 5=some (.ptr 1 4 0 0)/\s.tm.get 6=some (.ptr 2 2 0 0)/\s.tm.get 7=some (.ptr 3 2 0 0)/\s.tm.get 11=some (.f (.i .i64 n)))/\s.h.get 3=some (.arr 2 0 [[B,C]])/\Gro s.h s0.c s.c 9 C ((q.cs.take n).map fun k=>cmD (mpK (sbT s1 b) k))/\s0.c<=s.c/\(∀x,x<s0.c->x≠3->s.h.get x=s0.h.get x)
def zrP(q:CQ)(s1:Str)(b:Trm)(hq:CqG q)(hs:s1≠[])(hb:zau b):Ans pr 63 [.ag (cqF q),.s s1,.ag (tmF b)] (.ag (cqF (mpC (sbT s1 b) q))):=by
 refine zbd fn63 ?_;simp only[g63,rU];simp only[tmE];simp[rW,st0,zae,cqE,zaF,zaH];refine zdi q.as.length (YP1 s1 b q) (fun x s=>x= .exit 0/\YP1 s1 b q q.as.length s) ?_ ?_ _ ?_ ?_
 .rintro n s hn ⟨B,W,hW,⟨h1,h3,h5,h6,h7,h8,g0,g1,g2,g3⟩,hg,hall,hlo⟩;have hw:=zao n (by have:=hq.sa;omega);have hx:q.as[n]? =some q.as[n]:=Z0 hn;have hst:=hq.st _ (Z1 hn);have htn:=hq.tn _ (Z1 hn);have hok:=(hq.toCqSm.toCqOk.as _ (Z1 hn)).1;have htk:=Z6 hn;generalize hAn:q.as[n]=A at hx hst htk htn hok;simp[rW,h1,h3,h5,h6,h7,h8,g0,g1,g2,g3,hn,za1];refine zaL ?_;simp[rW,h1,h3,h5,h6,h7,h8,g0,g1,g2,g3,hn,zbh,hx,hAn,atE,zaR];obtain⟨X,hX⟩ :∃X,X=s.c+1+1+1+1+1+1+1+1+1+1+1+1+1:=⟨_,rfl⟩
  refine zdi A.ts.length (YP2 s s1 b q A n X) (fun x s'=>x= .exit 2/\YP2 s s1 b q A n X A.ts.length s') ?_ ?_ _ ?_ ?_
  .rintro m s' hm ⟨T,⟨h1,h3,h5,h6,h7,h8,h9,h10⟩,gA,hT,hXc,hsX,hlow⟩;have hw2:=zao m (by omega);have hx2:A.ts[m]? =some A.ts[m]:=Z0 hm;have hk2:=Z6 hm;have hot:=hok _ (Z1 hm);generalize hTm:A.ts[m]=t at hx2 hk2 hot;have q1:=fun k=>zaj (k:=k) (zss t s1 b hot hb hs)
   simp only[tmE]at q1;have z0:=hlow 0 (by omega);have z1:=hlow 1 (by omega);rw[g0]at z0;rw[g1]at z1;simp only[tmD]at z1;have hXl:X<s'.c:=by omega
   simp[rW,h1,h3,h5,h6,h7,h8,h9,h10,z0,z1,hm,zbh,hx,hAn,atE,zaO];refine zaL ?_;simp[rW,h1,h3,h5,h6,h7,h8,h9,h10,z0,z1,gA,hm,zbh,hx,hAn,atE,zbk,hx2,hTm,tmE,q1];refine zey (zaS (c':=s'.c+1+1+1+1+1+1+1+1+1+1+1+1+1+1+1) hT (by omega) fun _ _ _=>rfl) (by omega) (by simp;omega) (by omega) ?_;intro r hr1 hr2 hr3 hr4 hr5;have y1:=hr4 X (by omega) (za5 hT (by omega));rw[gA]at y1;refine⟨hr1,?_⟩;simp[rW,y1,za3 hr2];refine⟨by omega,r.d,?_,?_,?_,?_,hsX,fun x hx=> ?_⟩
   .simp[rW,h1,h3,h5,h6,h7,h8,h9,h10,hw2]
   .simp[rW,]
   .rw[hk2,Z20];refine zaS hr2 (by simp[rW,];omega) fun x h1 h2=> ?_
    have nx:¬(x=X):=by omega
    simp[rW,nx]
   .simp[rW,];omega
   .have nx:¬(x=X):=by omega
    simp[rW,nx];rw[hr4 x (by omega) (za5 hT (by omega)),hlow x hx]
  .rintro s' ⟨T,⟨h1,h3,h5,h6,h7,h8,h9,h10⟩,gA,hT,hXc,hsX,hlow⟩;have z0:=hlow 0 (by omega);rw[g0]at z0;rw[Z7]at hT;simp[rW,h1,h3,h5,h6,h7,h8,h9,h10,z0,hn,zbh,hx,hAn,atE,zaO];refine⟨T,?_,by simp[rW,];exact gA,by simp[rW,];exact hT,by simp[rW,];exact hXc,hsX,by simp[rW,];exact hlow⟩;simp[rW,h1,h3,h5,h6,h7,h8,h9,h10]
  .refine⟨.f .nils,?_,?_,.inl ⟨rfl,by simp⟩,?_,by omega,fun x hx=> ?_⟩
   .simp[rW,h1,h3,h5,h6,h7,h8,g0,g1,g2,g3,hX]
   .simp[rW,hX]
   .simp[rW,hX]
   .have nx:¬(x=s.c+1+1+1+1+1+1+1+1+1+1+1+1+1):=by omega
    simp[rW,nx]
  .rintro x s' ⟨rfl,T,⟨h1,h3,h5,h6,h7,h8,h9,-⟩,gA,hT,hXc,hsX,hlow⟩;rw[Z7]at hT;have z0:=hlow 0 (by omega);have z1:=hlow 1 (by omega);have z2:=hlow 2 (by omega);have z3:=hlow 3 (by omega);rw[g0]at z0;rw[g1]at z1;rw[g2]at z2;rw[g3]at z3;have hTe:(A.ts.map fun t=>tmD (sbT s1 b t))=(A.ts.map fun t=>tmF (sbT s1 b t)).map fun a=>a.map D.f:=by
    rw[Z33];exact List.map_congr_left fun t _=>(zsa _).symm
   have hTo:=hT;rw[hTe]at hTo;have hO:=zij hTo;have hOe:slc 4 (A.ts.map fun t=>tmF (sbT s1 b t))=zaW (mpA (sbT s1 b) A).ts:=by
    unfold zaW mpA;rw[Z33];rfl
   rw[hOe]at hO;rcases hT with⟨rfl,e⟩ |⟨Z,ro,rfl,hXe,gX,hXr,hX1,hX2⟩
   .exact absurd (List.map_eq_nil_iff.1 e) htn
   have hXl:X<s'.c:=by omega
   simp[rW,h1,h3,h5,h6,h7,h8,h9,gA,z3,zmB];have hWl:(zdv W).length<=12:=by
    have h1:W.length=(q.as.take n).length:=by
     have:=congrArg List.length hW;simpa using this
    have:=hq.sa;simp[zdv,h1];omega
   have hB2:∀x,B.oid=some x->4<=x/\x<s.c:=fun x hx=>zbW hg hx
   refine zey (zaS (c':=s'.c+1) hg (by omega) fun x h1 h2=> ?_) (by omega) (by simp;omega) (by omega) ?_
   .have nx:¬(x=s'.c):=by omega
    simp[Vse.T.zad,nx];exact hlow x h2
   intro r hr1 hr2 hr3 hr4 hr5;have hP:=hr4 3 (by omega) (za5 hg (by omega));have nP:¬(3=s'.c):=by omega
   simp[Vse.T.zad,nP,z3]at hP;have hr6:∀x,x<s'.c->B.oid≠some x->(wrT _ r.wr).get x=s'.h.get x:=fun x h1 h2=>by
    have nx:¬(x=s'.c):=by omega
    rw[hr4 x (by omega) h2];simp[Vse.T.zad,nx]
   refine⟨hr1,?_⟩;simp[rW,hP,za3 hr2];refine⟨by omega,r.d,W++[(mpA (sbT s1 b) A,.sl Z 0 (A.ts.map fun t=>tmD (sbT s1 b t)).length 4 (A.ts.map fun t=>tmD (sbT s1 b t)).length false)],by rw[htk];simp[hW],⟨?_,?_,?_,?_,?_,?_,?_,?_,?_,?_⟩,?_,?_,?_⟩
   .simp[rW,h1]
   .simp[rW,h3]
   .simp[rW,h5]
   .simp[rW,h6]
   .simp[rW,h7]
   .simp[rW,h8,hw]
   .simp[rW,];rw[hr6 0 (by omega) (za5 hg (by omega)),z0]
   .simp[rW,];rw[hr6 1 (by omega) (za5 hg (by omega)),z1]
   .simp[rW,];rw[hr6 2 (by omega) (za5 hg (by omega)),z2]
   .simp[rW,]
   .have e:zdv (W++[(mpA (sbT s1 b) A,.sl Z 0 (A.ts.map fun t=>tmD (sbT s1 b t)).length 4 (A.ts.map fun t=>tmD (sbT s1 b t)).length false)])=zdv W++[[.f (.s A.r),.f (.b A.neg),.sl Z 0 A.ts.length 4 A.ts.length false]]:=by simp[zdv,mpA]
    rw[e];refine zaS hr2 (by simp[rW,]) fun x h1 h2=> ?_
    have nx:¬(x=3):=by omega
    simp[rW,nx]
   .intro p hp;rcases Z4.1 hp with hp|hp
    .obtain⟨o1,o2⟩ :=hall p hp;refine⟨o1.up (fun x hx=> ?_) (Z2 _) (by simp[rW,];omega),fun x hx hy=> ?_⟩
     .have hx2:=o1.2.2.1 x hx;have nx:¬(x=3):=by omega
      simp[rW,nx];rw[hr6 x (by omega) (o2 x hx),hlow x (by omega)]
     .have hx2:=o1.2.2.1 x hx;rcases hr5 x hy with e|e
      .omega
      .exact o2 x hx e
    .obtain rfl:p=(mpA (sbT s1 b) A,.sl Z 0 (A.ts.map fun t=>tmD (sbT s1 b t)).length 4 (A.ts.map fun t=>tmD (sbT s1 b t)).length false):=by simpa using hp
     refine⟨hO.up (fun x hx=> ?_) (by omega) (by simp[rW,];omega),fun x hx hy=> ?_⟩
     .have hx2:=hO.2.2.1 x hx;have nx:¬(x=3):=by omega
      simp[rW,nx];rw[hr6 x (by omega) (fun e=>by have:=zbW hg e;omega)]
     .have hx2:=hO.2.2.1 x hx;rcases hr5 x hy with e|e
      .omega
      .have:=zbW hg e;omega
   .simp[rW,];omega
 .rintro s ⟨B,W,hW,⟨h1,h3,h5,h6,h7,h8,g0,g1,g2,g3⟩,hg,hall,hlo⟩;simp[rW,h1,h3,h5,h6,h7,h8,g0,g1,g2,g3,za1];refine⟨B,W,hW,?_,?_,fun p hp=> ?_,?_⟩
  .simp[rW,h1,h3,h5,h6,h7,h8,g0,g1,g2,g3]
  .simp[rW,];exact hg
  .simp[rW,];exact hall p hp
  .simp[rW,];exact hlo
 .refine⟨.f .nils,[],by simp,?_,.inl ⟨rfl,rfl⟩,by simp,?_⟩
  .simp[rW,tmD]
  .simp[rW,]
 .rintro x s ⟨rfl,B,W,hW,⟨h1,h3,h5,h6,h7,h8,g0,g1,g2,g3⟩,hg,hall,hlo⟩;rw[Z7]at hW;simp[rW,h1,h3,h5,h6,h7,h8,g0,g1,g2,g3];refine zdi q.cs.length (YP3 s s1 b q B) (fun x s'=>x= .exit 4/\YP3 s s1 b q B q.cs.length s') ?_ ?_ _ ?_ ?_
  .rintro n s' hn ⟨C,⟨h1,h3,h5,h6,h7,h11⟩,gC,hC,hlo',hlow⟩;have hw:=zao n (by have:=hq.sc;omega);have hx2:q.cs[n]? =some q.cs[n]:=Z0 hn;have hk2:=Z6 hn;have hok:=hq.toCqSm.toCqOk.cs _ (Z1 hn);generalize hKm:q.cs[n]=k at hx2 hk2 hok;have z0:=hlow 0 (by omega) (by decide);have z1:=hlow 1 (by omega) (by decide);rw[g0]at z0;rw[g1]at z1;simp only[tmD]at z1;obtain⟨op,l,r⟩ :=k;have q1:=fun k=>zaj (k:=k) (zss l s1 b hok.1 hb hs)
   have q2:=fun k=>zaj (k:=k) (zss r s1 b hok.2 hb hs)
   simp only[tmE]at q1 q2;have n0:¬(0=s'.c):=by omega
   have n1:¬(1=s'.c):=by omega
   have n3:¬(3=s'.c):=by omega
   simp[rW,h1,h3,h5,h6,h7,h11,z0,z1,gC,hn,zcZ,zbf,hx2,hKm,zet,cmD,tmD,n0,n1,n3];refine zaL ?_;simp[rW,h1,h3,h5,h6,h7,h11,z0,z1,gC,n0,n1,n3,q1,q2,zBZ];have hsc:=hq.sc;generalize hHs:(((s'.h.set s'.c _).set s'.c _:T Ob))=Hs;have hup:∀x,x<s'.c->Hs.get x=s'.h.get x:=fun x hx=>by
    have a1:¬x=s'.c:=by omega
    rw[<-hHs];simp[Vse.T.zad,a1]
   refine zey (zaS (c':=s'.c+1+1+1+1+1+1+1+1+1+1+1+1+1+1+1+1+1) hC (by omega) fun x h1 h2=>hup x h2) (by omega) (by simp;omega) (by omega) ?_;intro r2 hr1 hr2 hr3 hr4 hr5;have z3:=hr4 3 (by omega) (za5 hC (by omega));rw[hup _ (by omega),gC]at z3;refine⟨hr1,?_⟩;simp[rW,z3,za3 hr2,hHs];refine⟨by omega,r2.d,?_,?_,?_,?_,fun x hx hx2=> ?_⟩
   .simp[rW,h1,h3,h5,h6,h7,h11,hw]
   .simp[rW,]
   .rw[hk2,Z20];refine zaS hr2 (by simp[rW,];omega) fun x h1 h2=> ?_
    have nx:¬(x=3):=by omega
    simp[rW,nx,hHs]
   .simp[rW,];omega
   .simp[rW,hx2,hHs];rw[hr4 x (by omega) (za5 hC (by omega)),hup x (by omega),hlow x hx hx2]
  .rintro s' ⟨C,⟨h1,h3,h5,h6,h7,h11⟩,gC,hC,hlo',hlow⟩;have z0:=hlow 0 (by omega) (by decide);rw[g0]at z0;simp[rW,h1,h3,h5,h6,h7,h11,z0,zbf];refine⟨C,?_,?_,?_,?_,fun x hx hx2=> ?_⟩
   .simp[rW,h1,h3,h5,h6,h7,h11]
   .simp[rW,];exact gC
   .rw[Z7]at hC;simp[rW,];exact hC
   .simp[rW,];exact hlo'
   .simp[rW,];exact hlow x hx hx2
  .refine⟨.f .nils,?_,?_,.inl ⟨rfl,by simp⟩,?_,fun x hx hx2=> ?_⟩
   .simp[rW,h1,h3,h5,h6,h7,h8]
   .simp[rW,];exact g3
   .simp[rW,]
   .simp[rW,]
  .rintro x s' ⟨rfl,C,⟨h1,h3,h5,h6,h7,h11⟩,gC,hC,hlo',hlow⟩;rw[Z7]at hC;have z2:=hlow 2 (by omega) (by decide);rw[g2]at z2;have hBc:B.cells=some [B]:=za3 hg;have hCc:C.cells=some [C]:=za3 hC;simp[rW,h1,h3,h5,h6,h7,h11,gC,z2,hBc,hCc];have hup:∀x,x≠2->(s'.h.set 2 (.arr 2 0 [[B,C]])).get x=s'.h.get x:=fun x hx=>by simp[Vse.T.zad,hx]
   have hh:∀x,4<=x->x<s.c->(s'.h.set 2 (.arr 2 0 [[B,C]])).get x=s.h.get x:=fun x h1 h2=>by
    rw[hup x (by omega),hlow x h2 (by omega)]
   have f1:∃rd,frz (s'.h.set 2 (.arr 2 0 [[B,C]])).get 11 B=some (zaB (mpC (sbT s1 b) q),rd):=by
    obtain⟨rd,h1⟩ :=ziJ (h:=s'.h.set 2 (.arr 2 0 [[B,C]])) (lo:=4) (c:=s.c) 8 (W:=W) fun p hp=>(hall p hp).1.up (fun x hx=>by
     have:=(hall p hp).1.2.2.1 x hx;exact hh x this.1 this.2) (Z2 _) (Z2 _)
    have:=zno (zaS hg (Z2 _) hh) h1 (by simp[zdv]);rw[show slc 3 (W.map fun p=>atF p.1)=zaB (mpC (sbT s1 b) q)from by
     unfold zaB Sm.asF;rw[if_neg (by simp[mpC])];show _=slc 3 ((q.as.map (mpA (sbT s1 b))).map atF);rw[<-hW,Z33];rfl]at this
    exact this
   have f2:∃rd,frz (s'.h.set 2 (.arr 2 0 [[B,C]])).get 11 C=some (zaC (mpC (sbT s1 b) q),rd):=by
    have hCe:(q.cs.map fun k=>cmD (mpK (sbT s1 b) k))=(q.cs.map fun k=>cmF (mpK (sbT s1 b) k)).map fun a=>a.map D.f:=by
     rw[Z33];exact List.map_congr_left fun k _=>(ziN _).symm
    rw[hCe]at hC;have o:=zij hC;have e:slc 9 (q.cs.map fun k=>cmF (mpK (sbT s1 b) k))=zaC (mpC (sbT s1 b) q):=by
     unfold zaC csF;rw[if_neg (by simp[mpC])];show _=slc 9 ((q.cs.map (mpK (sbT s1 b))).map cmF);rw[Z33];rfl
    rw[e]at o;exact o.2.2.2 _ (fun x hx=>by
     have h1:=o.2.2.1 x hx;rw[hup x (by omega)]) 9
   obtain⟨r1,f1⟩ :=f1;obtain⟨r2,f2⟩ :=f2;simp[rW,f1,f2];omega
def XE1(q:CQ)(x y:Str)(n:Nat)(s:St):Prop:=(s.tm.get 1=some (.f (.s x))/\s.tm.get 2=some (.f (.s y))/\s.tm.get 3=some (.ptr 0 2 0 0)/\s.tm.get 14=some (.f (zaB q))/\s.tm.get 15=some (.f (.i .i64 q.as.length))/\s.tm.get 16=some (.f (.i .i64 n))/\s.h.get 0=some (.arr 2 0 [[.f (zaB q),.f (zaC q)]]))/\1<=s.c
def XE2(q:CQ)(x y:Str)(n P:Nat)(A:Atm)(m:Nat)(s:St):Prop:=(s.tm.get 1=some (.f (.s x))/\s.tm.get 2=some (.f (.s y))/\s.tm.get 3=some (.ptr 0 2 0 0)/\s.tm.get 14=some (.f (zaB q))/\s.tm.get 15=some (.f (.i .i64 q.as.length))/\s.tm.get 16=some (.f (.i .i64 n))/\s.tm.get 8=some (.ptr P 3 0 0)/\s.tm.get 21=some (.f (zaW A.ts))/\s.tm.get 22=some (.f (.i .i64 A.ts.length))/\s.tm.get 23=some (.f (.i .i64 m))/\s.h.get 0=some (.arr 2 0 [[.f (zaB q),.f (zaC q)]])/\s.h.get P=some (.arr 3 0 [[.f (.s A.r),.f (.b A.neg),.f (zaW A.ts)]]))/\1<=P/\P<s.c
def XE3(q:CQ)(x y:Str)(n P:Nat)(A:Atm)(m R:Nat)(T:Trm)(k:Nat)(s:St):Prop:=(s.tm.get 1=some (.f (.s x))/\s.tm.get 2=some (.f (.s y))/\s.tm.get 3=some (.ptr 0 2 0 0)/\s.tm.get 14=some (.f (zaB q))/\s.tm.get 15=some (.f (.i .i64 q.as.length))/\s.tm.get 16=some (.f (.i .i64 n))/\s.tm.get 8=some (.ptr P 3 0 0)/\s.tm.get 21=some (.f (zaW A.ts))/\s.tm.get 22=some (.f (.i .i64 A.ts.length))/\s.tm.get 23=some (.f (.i .i64 m))/\s.tm.get 9=some (.f (.i .i64 m))/\s.tm.get 10=some (.ptr R 4 0 0)/\s.tm.get 29=some (.f (zaW A.ts))/\s.tm.get 30=some (.f (.i .i64 A.ts.length))/\s.tm.get 31=some (.f (.i .i64 k))/\s.h.get 0=some (.arr 2 0 [[.f (zaB q),.f (zaC q)]])/\s.h.get P=some (.arr 3 0 [[.f (.s A.r),.f (.b A.neg),.f (zaW A.ts)]])/\s.h.get R=some (.arr 4 0 [tmD T]))/\1<=P/\P<R/\R<s.c
def XER(y:Ex)(s:St):Prop:=y= .ret/\s.tm.get 6=some (.f (.b true))
def ans75(q:CQ)(x y:Str)(hq:CqG q)(hx:x≠[])(hy:y≠[]):Ans pr 75 [.ag (cqF q),.s x,.s y] (.b (zhP q x y)):=by
 refine zbd fn75 ?_;simp only[g75,rU];simp[rW,st0,zae,cqE,zaF,zaH,za1];refine zcf q.as (exA q x y) (XE1 q x y) (fun e s=>e= .exit 0) (fun n e s=>XER e s) ?_ ?_ _ ?_ ?_ ?_
 .rintro n s hn ⟨⟨h1,h2,h3,h14,h15,h16,g0⟩,hlo⟩;have hw:=zao n (by have:=hq.sa;omega);have hxa:q.as[n]? =some q.as[n]:=Z0 hn;have hst:=hq.st _ (Z1 hn);have hok:=(hq.toCqSm.toCqOk.as _ (Z1 hn)).1;generalize hA:q.as[n]=A at hxa hst hok|-;simp -implicitDefEqProofs [rW,h1,h2,h3,h14,h15,h16,hn,zbh,hxa,hA,atE,zaR,zaO];refine zcf (List.range A.ts.length) (exI q x y A) (XE2 q x y n s.c A) (fun e s'=>e= .exit 2/\XE1 q x y n s') (fun m e s'=>XER e s') ?_ ?_ _ ?_ ?_ ?_
  .rintro m s' hm ⟨⟨h1,h2,h3,h14,h15,h16,h8,h21,h22,h23,g0,gP⟩,hP1,hP2⟩;rw[Z37]at hm;rw[List.getElem_range];have hw2:=zao m (by omega);have hx2:A.ts[m]? =some A.ts[m]:=Z0 hm;generalize hT:A.ts[m]=T at hx2;have nP:¬(s.c=s'.c):=by omega
   simp -implicitDefEqProofs [rW,h1,h2,h3,h14,h15,h16,h8,h21,h22,h23,g0,gP,hm,zbk,hx2,hT,tmE,nP,zaO];refine zcf (List.range A.ts.length) (exJ q x y A m) (XE3 q x y n s.c A m s'.c T) (fun e s2=>e= .exit 4/\XE2 q x y n s.c A m s2) (fun k e s2=>XER e s2) ?_ ?_ _ ?_ ?_ ?_
   .rintro k s2 hk ⟨⟨h1,h2,h3,h14,h15,h16,h8,h21,h22,h23,h9,h10,h29,h30,h31,g0,gP,gR⟩,hP1,hP2,hR⟩;rw[Z37]at hk;rw[List.getElem_range];have hw3:=zao k (by omega);have hx3:A.ts[k]? =some A.ts[k]:=Z0 hk;generalize hU:A.ts[k]=U at hx3;have nP2:¬(s.c=s2.c):=by omega
    have nR2:¬(s'.c=s2.c):=by omega
    have n02:¬(0=s2.c):=by omega
    have q1:=fun f=>zaj (k:=f) (zOp q A.r m y k x hq hy hx)
    simp only[cqE]at q1;have y1:=zmG (t:=T) hx;have y2:=zmG (t:=U) hy;have e:exJ q x y A m k=(decide (tv T=x)&&decide (tv U=y)&&q.as.any (ziy A.r m y k x)):=by
     unfold exJ;rw[hx2,hx3]
     congr 1
     congr 1
     .exact decide_eq_decide.2 (by rw[y1];simp)
     .exact decide_eq_decide.2 (by rw[y2];simp)
    by_cases z1:tv T=x
    .by_cases z2:tv U=y
     .generalize hb:q.as.any (ziy A.r m y k x)=b at q1 e;cases b with
      |true=>
       simp -implicitDefEqProofs [rW,h1,h2,h3,h14,h15,h16,h8,h21,h22,h23,h9,h10,h29,h30,h31,g0,gP,gR,hk,zbk,hx3,hU,tmE,tmD,nP2,nR2,n02,hw3,z1,z2,q1];refine⟨by rw[e];simp[z1,z2],rfl,?_⟩;simp[rW,]
      |false=>
       simp -implicitDefEqProofs [rW,h1,h2,h3,h14,h15,h16,h8,h21,h22,h23,h9,h10,h29,h30,h31,g0,gP,gR,hk,zbk,hx3,hU,tmE,tmD,nP2,nR2,n02,hw3,z1,z2,q1];refine⟨by rw[e];simp[z1,z2],?_,hP1,hP2,?_⟩
       .simp -implicitDefEqProofs [rW,h1,h2,h3,h14,h15,h16,h8,h21,h22,h23,h9,h10,h29,h30,h31,g0,gP,gR,hw3,nP2,nR2,n02]
       .simp[rW,];omega
     .simp -implicitDefEqProofs [rW,h1,h2,h3,h14,h15,h16,h8,h21,h22,h23,h9,h10,h29,h30,h31,g0,gP,gR,hk,zbk,hx3,hU,tmE,tmD,nP2,nR2,n02,hw3,z1,z2];refine⟨by rw[e];simp[z2],?_,hP1,hP2,?_⟩
      .simp -implicitDefEqProofs [rW,h1,h2,h3,h14,h15,h16,h8,h21,h22,h23,h9,h10,h29,h30,h31,g0,gP,gR,hw3,nP2,nR2,n02]
      .simp[rW,];omega
    .simp -implicitDefEqProofs [rW,h1,h2,h3,h14,h15,h16,h8,h21,h22,h23,h9,h10,h29,h30,h31,g0,gP,gR,hk,zbk,hx3,hU,tmE,tmD,nP2,nR2,n02,hw3,z1];refine⟨by rw[e];simp[z1],?_,hP1,hP2,?_⟩
     .simp -implicitDefEqProofs [rW,h1,h2,h3,h14,h15,h16,h8,h21,h22,h23,h9,h10,h29,h30,h31,g0,gP,gR,hw3,nP2,nR2,n02]
     .simp[rW,];omega
   .rintro s2 ⟨⟨h1,h2,h3,h14,h15,h16,h8,h21,h22,h23,h9,h10,h29,h30,h31,g0,gP,gR⟩,hP1,hP2,hR⟩;rw[Z37]at h31;simp -implicitDefEqProofs [rW,h1,h2,h3,h14,h15,h16,h8,h21,h22,h23,h9,h10,h29,h30,h31,g0,gP,gR];refine⟨?_,hP1,by simp[rW,];omega⟩;simp -implicitDefEqProofs [rW,h1,h2,h3,h14,h15,h16,h8,h21,h22,h23,h9,h10,h29,h30,h31,g0,gP,gR]
   .refine⟨?_,hP1,hP2,?_⟩
    .have n0:¬(0=s'.c):=by omega
     simp -implicitDefEqProofs [rW,h1,h2,h3,h14,h15,h16,h8,h21,h22,h23,g0,gP,nP,tmD,n0]
    .simp[rW,]
   .rintro hno e s2 ⟨rfl,⟨h1,h2,h3,h14,h15,h16,h8,h21,h22,h23,g0,gP⟩,hP1,hP2⟩;have e:exI q x y A m=false:=by
     unfold exI;rw[List.any_eq_false];exact fun k hk=>by rw[hno k hk];simp
    simp -implicitDefEqProofs [rW,h1,h2,h3,h14,h15,h16,h8,h21,h22,h23,g0,gP,hw2];refine⟨e,?_,hP1,hP2⟩;simp -implicitDefEqProofs [rW,h1,h2,h3,h14,h15,h16,h8,h21,h22,h23,g0,gP,hw2]
   .rintro k hk hp hbf e s2 ⟨rfl,h6⟩;have e:exI q x y A m=true:=by
     unfold exI;exact Z30.2 ⟨_,Z1 hk,hp⟩
    simp[rW,];exact⟨e,rfl,h6⟩
  .rintro s' ⟨⟨h1,h2,h3,h14,h15,h16,h8,h21,h22,h23,g0,gP⟩,hP1,hP2⟩;rw[Z37]at h23;simp -implicitDefEqProofs [rW,h1,h2,h3,h14,h15,h16,h8,h21,h22,h23,g0,gP];refine⟨?_,by simp[rW,];omega⟩;simp -implicitDefEqProofs [rW,h1,h2,h3,h14,h15,h16,g0]
  .refine⟨?_,hlo,?_⟩
   .have n0:¬(0=s.c):=by omega
    simp -implicitDefEqProofs [rW,h1,h2,h3,h14,h15,h16,g0,n0]
   .simp[rW,]
  .rintro hno e s' ⟨rfl,⟨h1,h2,h3,h14,h15,h16,g0⟩,hlo⟩;have e:exA q x y A=false:=by
    unfold exA;rw[List.any_eq_false];exact fun k hk=>by rw[hno k hk];simp
   simp -implicitDefEqProofs [rW,h1,h2,h3,h14,h15,h16,g0,hw];refine⟨e,?_,hlo⟩;simp -implicitDefEqProofs [rW,h1,h2,h3,h14,h15,h16,g0,hw]
  .rintro k hk hp hbf e s' ⟨rfl,h6⟩;have e:exA q x y A=true:=by
    unfold exA;exact Z30.2 ⟨_,Z1 hk,hp⟩
   simp[rW,];exact⟨e,rfl,h6⟩
 .rintro s ⟨⟨h1,h2,h3,h14,h15,h16,g0⟩,hlo⟩;simp -implicitDefEqProofs [rW,h1,h2,h3,h14,h15,h16,g0]
 .refine⟨?_,?_⟩
  .simp[rW,st0,zae]
  .simp[rW,]
 .rintro hno e s rfl;have e:zhP q x y=false:=by
   unfold zhP;rw[List.any_eq_false];exact fun k hk=>by rw[hno k hk];simp
  simp[rW,e]
 .rintro n hn hp hbf e s ⟨rfl,h6⟩;have e:zhP q x y=true:=by
   unfold zhP;exact Z30.2 ⟨_,Z1 hn,hp⟩
  simp[rW,e,h6]
def fn29:pr.fn 29=some g29:=by kernel_rfl
def fn41:pr.fn 41=some g41:=by kernel_rfl
def fn71:pr.fn 71=some g71:=by kernel_rfl
def fn9:pr.fn 9=some g9:=by kernel_rfl
def ans29(q:CQ)(s:Str)(n:Int)(hs:s≠[])(hq:CqG q):Ans pr 29 [.ag (cqF q),.s s,.ag (vF n)] (.ag (cqF (mpC (sbT s (.cst n)) q))):=by
 refine zbd fn29 ?_;simp only[g29,rU];have q1:=fun k=>zaj (k:=k) (zrP q s (.cst n) hq hs trivial)
 simp only[cqE,tmF]at q1|-;simp[rW,st0,zae,vF,hs,zaF,zaH,q1]
def zGJ(q:CQ)(s w:Str)(hs:s≠[])(hw:w≠[])(hq:CqG q):Ans pr 41 [.ag (cqF q),.s s,.s w] (.ag (cqF (mpC (sbT s (.var w)) q))):=by
 refine zbd fn41 ?_;simp only[g41,rU];have q1:=fun k=>zaj (k:=k) (zrP q s (.var w) hq hs hw)
 simp only[cqE,tmF]at q1|-;simp[rW,st0,zae,hs,hw,zaF,zaH,q1]
def zhU(q:CQ)(s:Str)(n:Int):List CQ:=[mpC (sbT s (.cst n)) q,add1 q ⟨2,.var s,.cst n⟩]
def zDD(q:CQ)(s:Str)(n:Int)(hq:CqG q):Ans pr 9 [.ag (cqF q),.s s,.ag (vF n)] (if s=[]then .nils else qsF (zhU q s n)):=by
 refine zbd fn9 ?_;simp only[g9,rU]
 by_cases hs:s=[]
 .subst hs;simp only[cqE];simp[rW,st0,zae,vF,zaF,zaH]
 .have q1:=fun k=>zaj (k:=k) (ans29 q s n hs hq)
  have q2:=fun k=>zaj (k:=k) (zn0 q ⟨2,.var s,.cst n⟩ hq.toCqSm)
  simp only[cqE,tmF,vF]at q1 q2|-;simp[rW,st0,zae,vF,hs,zaF,zaH,q1,q2];refine zaL ?_;simp[rW,zaF,zaH,q1,q2,qsF,zhU];rfl
def zn2(a b:Trm)(ha:zau a)(hb:zau b):Ans pr 85 [.ag (tmF a),.ag (tmF b)] (.b (decide (a=b))):=by
 have:=zrR a b ha hb
 rwa[zhN ha hb]at this
def E1(q:CQ)(op:Int)(a b:Trm)(n:Nat)(s:St):Prop:=(s.tm.get 1=some (.f (.i .i64 op))/\s.tm.get 4=some (.ptr 0 2 0 0)/\s.tm.get 6=some (.ptr 1 4 0 0)/\s.tm.get 7=some (.ptr 2 4 0 0)/\s.tm.get 9=some (.f (.i .i64 n))/\s.h.get 0=some (.arr 2 0 [[.f (zaB q),.f (zaC q)]])/\s.h.get 1=some (.arr 4 0 [tmD a])/\s.h.get 2=some (.arr 4 0 [tmD b]))/\3<=s.c
def zGL(q:CQ)(op:Int)(a b:Trm)(hq:CqG q)(ha:zau a)(hb:zau b):Ans pr 71 [.ag (cqF q),.i .i64 op,.ag (tmF a),.ag (tmF b)] (.b (q.cs.any (zcY op a b))):=by
 refine zbd fn71 ?_;simp only[g71,rU];simp only[tmE];simp[rW,st0,zae,cqE,zaF,zaH];refine zcf q.cs (zcY op a b) (E1 q op a b) (fun e s=>e= .exit 0) (fun n e s=>e= .ret/\s.tm.get 8=some (.f (.b true))) ?_ ?_ _ ?_ ?_ ?_
 .rintro n s hn ⟨⟨h1,h4,h6,h7,h9,g0,g1,g2⟩,hlo⟩;have hw:=zao n (by have:=hq.sc;omega);have hx:q.cs[n]? =some q.cs[n]:=Z0 hn;have hok:=hq.toCqSm.toCqOk.cs _ (Z1 hn);generalize hK:q.cs[n]=k at hx hok|-;obtain⟨o,l,r⟩ :=k;have n0:¬(0=s.c):=by omega
  have n1:¬(1=s.c):=by omega
  have n2:¬(2=s.c):=by omega
  have q1:=fun k=>zaj (k:=k) (zn2 l a hok.1 ha)
  have q2:=fun k=>zaj (k:=k) (zn2 r b hok.2 hb)
  have q3:=fun k=>zaj (k:=k) (zn2 l b hok.1 hb)
  have q4:=fun k=>zaj (k:=k) (zn2 r a hok.2 ha)
  simp only[tmE]at q1 q2 q3 q4;simp only[tmD]at g1 g2;unfold zcY
  by_cases ho:o=op
  .subst ho;generalize hb1:decide (l=a)=b1 at q1;generalize hb2:decide (r=b)=b2 at q2;generalize hb3:decide (l=b)=b3 at q3;generalize hb4:decide (r=a)=b4 at q4;cases b1<;>cases b2<;>cases b3<;>cases b4<;>(simp -implicitDefEqProofs [rW,h1,h4,h6,h7,h9,g0,g1,g2,hn,zbf,zcZ,hx,hK,zet,cmD,tmD,n0,n1,n2,q1,q2,q3,q4,hb1,hb2,hb3,hb4,hw]<;>try (unfold E1;simp -implicitDefEqProofs [rW,h1,h4,h6,h7,h9,g0,g1,g2,n0,n1,n2,tmD,hw];omega))
  .simp -implicitDefEqProofs [rW,h1,h4,h6,h7,h9,g0,g1,g2,hn,zbf,zcZ,hx,hK,zet,cmD,tmD,n0,n1,n2,ho,hw];unfold E1;simp -implicitDefEqProofs [rW,h1,h4,h6,h7,h9,g0,g1,g2,n0,n1,n2,tmD,hw];omega
 .rintro s ⟨⟨h1,h4,h6,h7,h9,g0,g1,g2⟩,hlo⟩;simp -implicitDefEqProofs [rW,h1,h4,h6,h7,h9,g0,g1,g2,zbf]
 .unfold E1;simp[rW,tmD]
 .rintro h z s rfl;have e:q.cs.any (zcY op a b)=false:=List.any_eq_false.2 fun x hx=>by simp[h x hx]
  rw[e];simp[rW,]
 .rintro n hn hp hm z s ⟨rfl,h8⟩;rw[Z30.2 ⟨_,Z1 hn,hp⟩];simp[rW,h8]
def fn77:pr.fn 77=some g77:=by kernel_rfl
def H1(q:CQ)(x y:Str)(n:Nat)(s:St):Prop:=(s.tm.get 1=some (.f (.s x))/\s.tm.get 2=some (.f (.s y))/\s.tm.get 3=some (.ptr 0 2 0 0)/\s.tm.get 7=some (.f (.i .i64 n))/\s.h.get 0=some (.arr 2 0 [[.f (zaB q),.f (zaC q)]]))/\1<=s.c
def H2(q:CQ)(x y:Str)(n P:Nat)(A:Atm)(m:Nat)(s:St):Prop:=(s.tm.get 1=some (.f (.s x))/\s.tm.get 2=some (.f (.s y))/\s.tm.get 3=some (.ptr 0 2 0 0)/\s.tm.get 7=some (.f (.i .i64 n))/\s.tm.get 8=some (.ptr P 3 0 0)/\s.tm.get 9=some (.f (.i .i64 m))/\s.h.get 0=some (.arr 2 0 [[.f (zaB q),.f (zaC q)]])/\s.h.get P=some (.arr 3 0 [[.f (.s A.r),.f (.b A.neg),.f (zaW A.ts)]]))/\1<=P/\P<s.c
def H3(q:CQ)(x y:Str)(n P:Nat)(A:Atm)(m k:Nat)(s:St):Prop:=(s.tm.get 1=some (.f (.s x))/\s.tm.get 2=some (.f (.s y))/\s.tm.get 3=some (.ptr 0 2 0 0)/\s.tm.get 7=some (.f (.i .i64 n))/\s.tm.get 8=some (.ptr P 3 0 0)/\s.tm.get 9=some (.f (.i .i64 m))/\s.tm.get 10=some (.f (.i .i64 k))/\s.h.get 0=some (.arr 2 0 [[.f (zaB q),.f (zaC q)]])/\s.h.get P=some (.arr 3 0 [[.f (.s A.r),.f (.b A.neg),.f (zaW A.ts)]]))/\1<=P/\P<s.c
def H4(q:CQ)(x y:Str)(n P:Nat)(A:Atm)(m k i:Nat)(s:St):Prop:=(s.tm.get 1=some (.f (.s x))/\s.tm.get 2=some (.f (.s y))/\s.tm.get 3=some (.ptr 0 2 0 0)/\s.tm.get 7=some (.f (.i .i64 n))/\s.tm.get 8=some (.ptr P 3 0 0)/\s.tm.get 9=some (.f (.i .i64 m))/\s.tm.get 10=some (.f (.i .i64 k))/\s.tm.get 11=some (.f (.i .i64 i))/\s.h.get 0=some (.arr 2 0 [[.f (zaB q),.f (zaC q)]])/\s.h.get P=some (.arr 3 0 [[.f (.s A.r),.f (.b A.neg),.f (zaW A.ts)]]))/\1<=P/\P<s.c
def zLM(r:Str)(i:Nat)(u:Str)(j:Nat)(v:Str)(a:Atm):ziy r i u j v a=(decide (a.r=r)&&decide (a.ts[i]? =some (.var u))&&decide (a.ts[j]? =some (.var v))):=by
 unfold ziy
 by_cases h1:a.ts[i]? =some (.var u)
 .by_cases h2:a.ts[j]? =some (.var v)
  .have h3:i<a.ts.length:=(Z8.1 h1).1;have h4:j<a.ts.length:=(Z8.1 h2).1;simp[h1,h2,h3,h4]
  .simp[h2]
 .simp[h1]
def zfr{α:Type}{l:List α}{p:α->Bool}(h:∀x∈l,p x=false):l.any p=false:=List.any_eq_false.2 fun x hx=>by simp[h x hx]
def ans77(q:CQ)(x y:Str)(hq:CqG q)(hx:x≠[])(hy:y≠[]):Ans pr 77 [.ag (cqF q),.s x,.s y] (.b (zhP q x y)):=by
 refine zbd fn77 ?_;simp only[g77,rU];simp[rW,st0,zae,cqE,zaF,zaH,za1];refine zcf q.as (exA q x y) (H1 q x y) (fun e s=>e= .exit 0) (fun n e s=>e= .ret/\s.tm.get 6=some (.f (.b true))) ?_ ?_ _ ?_ ?_ ?_
 .rintro n s hn ⟨⟨h1,h2,h3,h7,g0⟩,hlo⟩;have hw:=zao n (by have:=hq.sa;omega);have hxa:q.as[n]? =some q.as[n]:=Z0 hn;have hst:=hq.st _ (Z1 hn);have hoA:=hq.toCqSm.toCqOk.as _ (Z1 hn);generalize hA:q.as[n]=A at hxa hst hoA|-;simp -implicitDefEqProofs [rW,h1,h2,h3,h7,g0,hn,za1,zbh,hxa,hA,atE,zaR];refine zcf (List.range A.ts.length) (exI q x y A) (H2 q x y n s.c A) (fun e s'=>e= .exit 2/\H1 q x y n s') (fun m e s'=>e= .ret/\s'.tm.get 6=some (.f (.b true))) ?_ ?_ _ ?_ ?_ ?_
  .rintro m s' hm ⟨⟨h1,h2,h3,h7,h8,h9,g0,gP⟩,hP1,hP2⟩;rw[Z37]at hm;rw[List.getElem_range];have hw2:=zao m (by omega);simp -implicitDefEqProofs [rW,h1,h2,h3,h7,h8,h9,g0,gP,hm,zaO];refine zcf (List.range A.ts.length) (exJ q x y A m) (H3 q x y n s.c A m) (fun e s2=>e= .exit 4/\H2 q x y n s.c A m s2) (fun k e s2=>e= .ret/\s2.tm.get 6=some (.f (.b true))) ?_ ?_ _ ?_ ?_ ?_
   .rintro k s2 hk ⟨⟨h1,h2,h3,h7,h8,h9,h10,g0,gP⟩,hP1,hP2⟩;rw[Z37]at hk;rw[List.getElem_range];have hw3:=zao k (by omega);have q1:=fun f=>zaj (k:=f) (znY A hoA m x hx)
    have q2:=fun f=>zaj (k:=f) (znY A hoA k y hy)
    simp only[atE]at q1 q2;unfold exJ;generalize hb1:decide (A.ts[m]? =some (.var x))=b1 at q1|-;generalize hb2:decide (A.ts[k]? =some (.var y))=b2 at q2|-;generalize hG:q.as.any (ziy A.r m y k x)=G;cases b1 with
    |true=>
     cases b2 with
     |true=>
      simp -implicitDefEqProofs [rW,h1,h2,h3,h7,h8,h9,h10,g0,gP,hk,zaO,q1,q2,hw3];refine zcf q.as (ziy A.r m y k x) (H4 q x y n s.c A m k) (fun e s2=>e= .exit 6/\H3 q x y n s.c A m k s2) (fun k e s2=>e= .ret/\s2.tm.get 6=some (.f (.b true))) ?_ ?_ _ ?_ ?_ ?_
      .rintro i s3 hi ⟨⟨h1,h2,h3,h7,h8,h9,h10,h11,g0,gP⟩,hP1,hP2⟩;have hw4:=zao i (by have:=hq.sa;omega);have hxb:q.as[i]? =some q.as[i]:=Z0 hi;have hoB:=hq.toCqSm.toCqOk.as _ (Z1 hi);generalize hB:q.as[i]=B at hxb hoB|-;have q3:=fun f=>zaj (k:=f) (znY B hoB m y hy)
       have q4:=fun f=>zaj (k:=f) (znY B hoB k x hx)
       simp only[atE]at q3 q4;rw[zLM]
       by_cases w1:B.r=A.r
       .rw[w1]at q3 q4;generalize hb3:decide (B.ts[m]? =some (.var y))=b3 at q3|-;generalize hb4:decide (B.ts[k]? =some (.var x))=b4 at q4|-;simp -implicitDefEqProofs [rW,h1,h2,h3,h7,h8,h9,h10,h11,g0,gP,hi,za1,zbh,hxb,hB,atE];refine zaL ?_;cases b3 with
        |false=>
         simp -implicitDefEqProofs [rW,h1,h2,h3,h7,h8,h9,h10,h11,g0,gP,hi,zbh,hxb,hB,atE,zaR,w1,q3,hw4];unfold H4;simp -implicitDefEqProofs [rW,h1,h2,h3,h7,h8,h9,h10,h11,g0,gP,hP1,hP2,hw4];omega
        |true=>
         cases b4 with
         |false=>
          simp -implicitDefEqProofs [rW,h1,h2,h3,h7,h8,h9,h10,h11,g0,gP,hi,zbh,hxb,hB,atE,zaR,w1,q3,q4,hw4];unfold H4;simp -implicitDefEqProofs [rW,h1,h2,h3,h7,h8,h9,h10,h11,g0,gP,hP1,hP2,hw4];omega
         |true=>
          simp -implicitDefEqProofs [rW,h1,h2,h3,h7,h8,h9,h10,h11,g0,gP,hi,zbh,hxb,hB,atE,zaR,w1,q3,q4,hw4]
       .simp -implicitDefEqProofs [rW,h1,h2,h3,h7,h8,h9,h10,h11,g0,gP,hi,za1,zbh,hxb,hB,atE];refine zaL ?_;simp -implicitDefEqProofs [rW,h1,h2,h3,h7,h8,h9,h10,h11,g0,gP,hi,za1,zbh,hxb,hB,atE,w1,hw4];unfold H4;simp -implicitDefEqProofs [rW,h1,h2,h3,h7,h8,h9,h10,h11,g0,gP,hP1,hP2,hw4];omega
      .rintro s3 ⟨⟨h1,h2,h3,h7,h8,h9,h10,h11,g0,gP⟩,hP1,hP2⟩;simp -implicitDefEqProofs [rW,h1,h2,h3,h7,h8,h9,h10,h11,g0,gP,za1];unfold H3;simp -implicitDefEqProofs [rW,h1,h2,h3,h7,h8,h9,h10,h11,g0,gP,hP1,hP2]
      .unfold H4;simp -implicitDefEqProofs [rW,h1,h2,h3,h7,h8,h9,h10,g0,gP,hP1,hP2]
      .rintro hno e s3 ⟨rfl,⟨h1,h2,h3,h7,h8,h9,h10,g0,gP⟩,hP1,hP2⟩;have e:G=false:=hG▸zfr hno;simp -implicitDefEqProofs [rW,h1,h2,h3,h7,h8,h9,h10,g0,gP,hw3,e];unfold H3;simp -implicitDefEqProofs [rW,h1,h2,h3,h7,h8,h9,h10,g0,gP,hP1,hP2,hw3]
      .rintro i hi hp hbf e s3 ⟨rfl,h6⟩;have e:G=true:=hG▸Z30.2 ⟨_,Z1 hi,hp⟩;simp[rW,h6,e]
     |false=>
      simp -implicitDefEqProofs [rW,h1,h2,h3,h7,h8,h9,h10,g0,gP,hk,zaO,q1,q2,hw3];unfold H3;simp -implicitDefEqProofs [rW,h1,h2,h3,h7,h8,h9,h10,g0,gP,hP1,hP2,hw3]
    |false=>
     simp -implicitDefEqProofs [rW,h1,h2,h3,h7,h8,h9,h10,g0,gP,hk,zaO,q1,q2,hw3];unfold H3;simp -implicitDefEqProofs [rW,h1,h2,h3,h7,h8,h9,h10,g0,gP,hP1,hP2,hw3]
   .rintro s2 ⟨⟨h1,h2,h3,h7,h8,h9,h10,g0,gP⟩,hP1,hP2⟩;rw[Z37]at h10;simp -implicitDefEqProofs [rW,h1,h2,h3,h7,h8,h9,h10,g0,gP,zaO];unfold H2;simp -implicitDefEqProofs [rW,h1,h2,h3,h7,h8,h9,h10,g0,gP,hP1,hP2]
   .unfold H3;simp -implicitDefEqProofs [rW,h1,h2,h3,h7,h8,h9,g0,gP,hP1,hP2]
   .rintro hno e s2 ⟨rfl,⟨h1,h2,h3,h7,h8,h9,g0,gP⟩,hP1,hP2⟩;have e:exI q x y A m=false:=zfr hno;simp -implicitDefEqProofs [rW,h1,h2,h3,h7,h8,h9,g0,gP,hw2,e];unfold H2;simp -implicitDefEqProofs [rW,h1,h2,h3,h7,h8,h9,g0,gP,hP1,hP2,hw2]
   .rintro k hk hp hbf e s2 ⟨rfl,h6⟩;have e:exI q x y A m=true:=Z30.2 ⟨_,Z1 hk,hp⟩;simp[rW,h6,e]
  .rintro s' ⟨⟨h1,h2,h3,h7,h8,h9,g0,gP⟩,hP1,hP2⟩;rw[Z37]at h9;simp -implicitDefEqProofs [rW,h1,h2,h3,h7,h8,h9,g0,gP,zaO];unfold H1;simp -implicitDefEqProofs [rW,h1,h2,h3,h7,g0];omega
  .have n0:¬(0=s.c):=by omega
   unfold H2;simp -implicitDefEqProofs [rW,h1,h2,h3,h7,g0,n0,hlo]
  .rintro hno e s' ⟨rfl,⟨h1,h2,h3,h7,g0⟩,hlo⟩;have e:exA q x y A=false:=zfr hno;simp -implicitDefEqProofs [rW,h1,h2,h3,h7,g0,hw,e];unfold H1;simp -implicitDefEqProofs [rW,h1,h2,h3,h7,g0,hw,hlo]
  .rintro k hk hp hbf e s' ⟨rfl,h6⟩;have e:exA q x y A=true:=Z30.2 ⟨_,Z1 hk,hp⟩;simp[rW,h6,e]
 .rintro s ⟨⟨h1,h2,h3,h7,g0⟩,hlo⟩;simp -implicitDefEqProofs [rW,h1,h2,h3,h7,g0,za1]
 .unfold H1;simp[rW,]
 .rintro hno e s rfl;have e:zhP q x y=false:=zfr hno;simp[rW,e]
 .rintro n hn hp hbf e s ⟨rfl,h6⟩;have e:zhP q x y=true:=Z30.2 ⟨_,Z1 hn,hp⟩;simp[rW,e,h6]
def fn76:pr.fn 76=some g76:=by kernel_rfl
def fn39:pr.fn 39=some g39:=by kernel_rfl
def ro76(t:Trm)(s w:Str)(hs:s≠[])(hw:w≠[])(ht:zau t){h:T Ob}{c A B:Nat}(gA:h.get A=some (.arr 1 0 [[.f (.s s)]]))(gB:h.get B=some (.arr 1 0 [[.f (.s w)]]))(hA:A<c)(hB:B<c):RO pr 76 [.ag (tmD t),.ptr A 1 0 0,.ptr B 1 0 0] h c (.ag (tmD (sbT s (.var w) t))):=by
 refine zdz zbi fn76 rfl ?_;simp only[g76,rU];have nA:¬A=c:=by omega
 have nB:¬B=c:=by omega
 have nA1:¬A=c+1:=by omega
 have nB1:¬B=c+1:=by omega
 unfold sbT;cases t with
 |cst a=>
  simp[rW,st0,zae,tmD,zdm,zcS,zcN,gA,gB,nA,nB,nA1,nB1,hs,Ne.symm hs,hw,za4];simp (disch:=omega) only[zb7,zcw]
 |var u=>
  by_cases e:u=s
  .subst e;simp[rW,st0,zae,tmD,zcm,zcr,zcs,gA,gB,nA,nB,nA1,nB1,hs,hw,za4];simp (disch:=omega) only[zb7,zcw];exact⟨by omega,trivial⟩
  .have e2:¬(Trm.var u=Trm.var s):=fun h=>e (by cases h;rfl)
   simp[rW,st0,zae,tmD,zcm,zcr,zcs,gA,gB,nA,nB,nA1,nB1,hs,hw,e,e2,za4];simp (disch:=omega) only[zb7,zcw]
def ans39(q:CQ)(s:Str)(w:Str)(hs:s≠[])(hw:w≠[])(hq:CqG q):Ans pr 39 [.ag (cqF q),.s s,.s w] (.ag (cqF (mpC (sbT s (.var w)) q))):=by
 refine zbd fn39 ?_;simp only[g39,rU];simp[rW,st0,zae,cqE,zaF,zaH];refine zcz rfl rfl (zHL (sbT s (.var w)) q hq rfl ?_) ?_
 .intro t ht H c' hH hc;have b1:=hH 1 (by simp only[rG];omega);have b2:=hH 2 (by simp only[rG];omega);simp only[rG]at b1 b2 hc;refine ro76 t s w hs hw ht ?_ ?_ (by omega) (by omega)
  .rw[b1];simp[Vse.T.zad]
  .rw[b2];simp[Vse.T.zad]
 .rintro d h' c' lw mx ⟨hf,dA,dC,rfl,hA,hC⟩ hcc;simp only[rG]at hf hA hC hcc;have e3:=hf 3 (by omega);simp[Vse.T.zad]at e3;simp[rW,e3,hA.2.1,hC.2.1];have hup:∀x,4<=x->x<c'->(h'.set 3 (.arr 2 0 [[dA,dC]])).get x=h'.get x:=fun x h1 h2=>by
   have a1:¬x=3:=by omega
   simp[Vse.T.zad,a1]
  obtain⟨r1,f1⟩ :=hA.2.2 (h'.set 3 (.arr 2 0 [[dA,dC]])) hup 8;obtain⟨r2,f2⟩ :=hC.2.2 (h'.set 3 (.arr 2 0 [[dA,dC]])) hup 8;rw[f1,f2];simp[rW,];omega
def fn66:pr.fn 66=some g66:=by kernel_rfl
def cA1(r:Str)(p:Nat)(a:Atm):List Int:=if a.r=r then(match a.ts[p]? with|some (.cst n)=>[n]|_=>[])else[]
def cAt(l:List CQ)(r:Str)(p:Nat):List Int:=l.flatMap fun c=>c.as.flatMap (cA1 r p)
def vD(n:Int):List D:=[.f (.i .i64 1),.f (.i .i64 n),.f (.s [])]
def QD(h:T Ob)(c:Nat)(d:D)(l:List CQ):Prop:=(d= .f .nils/\l=[])\/∃id,d= .sl id 0 l.length 2 l.length false/\l≠[]/\h.get id=some (.arr 2 0 (fD (l.map cqF)))/\id<c
def zo5{h:T Ob}{c:Nat}{d:D}{l:List CQ}(H:QD h c d l):zcx d=some l.length:=by
 rcases H with⟨rfl,rfl⟩ |⟨id,rfl,-⟩ <;>rfl
def zkW{h:T Ob}{c:Nat}{d:D}{l:List CQ}(H:QD h c d l):d.cells=some [d]:=by
 rcases H with⟨rfl,rfl⟩ |⟨id,rfl,-⟩ <;>rfl
def zzg{h:T Ob}{c:Nat}{d:D}{l:List CQ}(H:QD h c d l){n:Nat}(hn:n<l.length):∃id rows,iaB 2 d n=some (.ptr id 2 n 0)/\h.get id=some (.arr 2 0 rows)/\rows[n]? =some [.f (zaB l[n]),.f (zaC l[n])]/\id<c:=by
 rcases H with⟨rfl,rfl⟩ |⟨id,rfl,-,hg,hc⟩
 .simp at hn
 .refine⟨id,_,by simp[ziQ,hn],hg,?_,hc⟩;simp[fD,hn,cqE]
def zJu{h h':T Ob}{c c':Nat}{d:D}{l:List CQ}(H:QD h c d l)(hh:∀x,x<c->h'.get x=h.get x)(hc:c<=c'):QD h' c' d l:=by
 rcases H with H|⟨id,h1,h2,h3,h4⟩
 .exact .inl H
 .exact .inr ⟨id,h1,h2,by rw[hh id h4];exact h3,by omega⟩
def XC1(h0:T Ob)(hd:List Str)(dq:D)(l:List CQ)(r:Str)(p c0 n:Nat)(s:St):Prop:=∃L:D,(s.tm.get 1=some (.f (.s r))/\s.tm.get 2=some (.f (.i .i64 p))/\s.tm.get 7=some (L)/\s.tm.get 13=some (dq)/\s.tm.get 14=some (.f (.i .i64 l.length))/\s.tm.get 15=some (.f (.i .i64 n)))/\Gro s.h c0 s.c 3 L ((cAt (l.take n) r p).map vD)/\c0<=s.c/\Frm h0 s.h c0
def XC2(h0:T Ob)(hd:List Str)(dq:D)(l:List CQ)(q:CQ)(r:Str)(p c0 n m:Nat)(s:St):Prop:=∃L:D,(s.tm.get 1=some (.f (.s r))/\s.tm.get 2=some (.f (.i .i64 p))/\s.tm.get 7=some (L)/\s.tm.get 13=some (dq)/\s.tm.get 14=some (.f (.i .i64 l.length))/\s.tm.get 15=some (.f (.i .i64 n))/\s.tm.get 20=some (.f (zaB q))/\s.tm.get 21=some (.f (.i .i64 q.as.length))/\s.tm.get 22=some (.f (.i .i64 m)))/\Gro s.h c0 s.c 3 L ((cAt (l.take n) r p++(q.as.take m).flatMap (cA1 r p)).map vD)/\c0<=s.c/\Frm h0 s.h c0
def zDK(l:List CQ)(r:Str)(p:Nat){n:Nat}(hn:n<l.length):cAt (l.take (n+1)) r p=cAt (l.take n) r p++l[n].as.flatMap (cA1 r p):=by
 unfold cAt;rw[Z6 hn,List.flatMap_append];simp
def zKD(r:Str)(p:Nat)(a:Atm):(cA1 r p a).length<=1:=by
 unfold cA1;split
 .split<;>simp
 .simp
theorem zpJ(r:Str)(p:Nat):∀l:List Atm,(l.flatMap (cA1 r p)).length<=l.length
 |[]=>by simp
 |a::l=>by
  have:=zpJ r p l;have:=zKD r p a;rw[List.flatMap_cons,Z16,Z23];omega
theorem zpL(r:Str)(p:Nat):∀l:List CQ,(∀c∈l,CqG c)->(cAt l r p).length<=12*l.length
 |[],_=>by simp[cAt]
 |a::l,h=>by
  have h1:=zpL r p l fun c hc=>h c (by simp[hc])
  have h2:=zpJ r p a.as;have h3:=(h a (by simp)).sa;unfold cAt at h1|-;rw[List.flatMap_cons,Z16,Z23];omega
def eff66(hd:List Str)(l:List CQ)(r:Str)(p:Nat)(hl:l.length<=1000)(hq:∀c∈l,CqG c){h:T Ob}{c0:Nat}{dq:D}(hD:QD h c0 dq l)(hp:p<1000):Eff pr 66 [.ag [.f (zaq hd),dq],.f (.s r),.f (.i .i64 p)] h c0 fun d h' c'=>Frm h h' c0/\Gro h' c0 c' 3 d ((cAt l r p).map vD):=by
 refine zci zbi fn66 ?_;simp only[g66,rU];simp[rW,st0,zae,zkW hD,zo5 hD,zaN];refine zdi l.length (XC1 h hd dq l r p c0) (fun x s=>x= .exit 0/\XC1 h hd dq l r p c0 l.length s) ?_ ?_ _ ?_ ?_
 .rintro n s hn ⟨L,⟨h1,h2,h7,h13,h14,h15⟩,hL,hlo,hF⟩;have hw:=zao n (by omega);obtain⟨id,rows,hi,hY,hr,hid⟩ :=zzg hD hn;rw[<-hF id hid]at hY;have hqn:=hq _ (Z1 hn);have hsn:=zDK l r p hn;generalize hA:l[n]=A at hr hqn hsn;simp -implicitDefEqProofs [rW,h1,h2,h7,h13,h14,h15,hn,hi,hY,hr,za1];refine zdi A.as.length (XC2 h hd dq l A r p c0 n) (fun x s=>x= .exit 2/\XC2 h hd dq l A r p c0 n A.as.length s) ?_ ?_ _ ?_ ?_
  .rintro m s' hm ⟨L,⟨h1,h2,h7,h13,h14,h15,h20,h21,h22⟩,hL,hlo,hF⟩;have hw2:=zao m (by have:=hqn.sa;omega);have hx2:A.as[m]? =some A.as[m]:=Z0 hm;have hk2:=Z6 hm;have htn:=hqn.tn _ (Z1 hm);generalize hTm:A.as[m]=a at hx2 hk2 htn;have hok:=(hqn.toCqSm.toCqOk.as _ (Z1 hm)).1;rw[hTm]at hok
   by_cases e1:a.r=r
   .by_cases e2:p<a.ts.length
    .have hx3:a.ts[p]? =some a.ts[p]:=Z0 e2;have hot:=hok _ (Z1 e2);cases hT:a.ts[p]with
     |var v=>
      rw[hT]at hx3 hot;have hv:v≠[]:=hot;have hz:cA1 r p a=[]:=by unfold cA1;rw[hx3];simp
      simp -implicitDefEqProofs [rW,h1,h2,h7,h13,h14,h15,h20,h21,h22,hm,zbh,hx2,hTm,atE,zaR,e1,e2,zbk,zaO,hx3,hT,tmF,hv];refine⟨L,?_,?_,?_,fun x hx=> ?_⟩
      .simp -implicitDefEqProofs [rW,h1,h2,h7,h13,h14,h15,h20,h21,h22,hw2]
      .rw[hk2,List.flatMap_append,List.flatMap_cons,hz];simp only[List.flatMap_nil,Z22];refine zaS hL (by simp[rW,]) fun x h1 h2=> ?_
       have nx:¬(x=s'.c):=by omega
       simp[rW,nx]
      .simp[rW,];omega
      .have nx:¬(x=s'.c):=by omega
       simp[rW,nx];exact hF x hx
     |cst v=>
      rw[hT]at hx3;have hz:cA1 r p a=[v]:=by unfold cA1;rw[hx3,if_pos e1]
      simp -implicitDefEqProofs [rW,h1,h2,h7,h13,h14,h15,h20,h21,h22,hm,zbh,hx2,hTm,atE,zaR,e1,e2,zbk,zaO,hx3,hT,tmF];have hcl:((cAt (l.take n) r p++(A.as.take m).flatMap (cA1 r p)).map vD).length<=20000:=by
       have h1:=zpL r p (l.take n) fun c hc=>hq c (Z13 hc)
       have h2:=zpJ r p (A.as.take m);have h3:=hqn.sa;rw[Z18,Z16];simp only[Z41]at h1 h2;omega
      generalize hHs:((s'.h.set s'.c _).set s'.c _:T Ob)=Hs;have hup:∀x,x<s'.c->Hs.get x=s'.h.get x:=fun x hx=>by
       have a1:¬x=s'.c:=by omega
       rw[<-hHs];simp[Vse.T.zad,a1]
      refine zey (zaS (c':=s'.c+1) hL (by omega) fun x h1 h2=>hup x h2) (by omega) (by simp only[Z23,List.length_nil];omega) (by omega) ?_;intro r2 hr1 hr2 hr3 hr4 hr5;refine⟨hr1,r2.d,?_,?_,?_,fun x hx=> ?_⟩
      .simp -implicitDefEqProofs [rW,h1,h2,h7,h13,h14,h15,h20,h21,h22,hw2]
      .rw[hk2,List.flatMap_append,List.flatMap_cons,hz];simp only[List.flatMap_nil,Z22];rw[<-Z32,Z20];refine zaS hr2 (by simp[rW,]) fun x h1 h2=> ?_
       simp[rW,hHs]
      .simp[rW,];omega
      .simp[rW,hHs];rw[hr4 x (by omega) (za5 hL (by omega)),hup x (by omega)];exact hF x hx
    .have hz:cA1 r p a=[]:=by unfold cA1;rw[List.getElem?_eq_none (by omega)];simp
     simp -implicitDefEqProofs [rW,h1,h2,h7,h13,h14,h15,h20,h21,h22,hm,zbh,hx2,hTm,atE,zaR,e1,e2,zbk,zaO];refine⟨L,?_,?_,?_,fun x hx=> ?_⟩
     .simp -implicitDefEqProofs [rW,h1,h2,h7,h13,h14,h15,h20,h21,h22,hw2]
     .rw[hk2,List.flatMap_append,List.flatMap_cons,hz];simp only[List.flatMap_nil,Z22];refine zaS hL (by simp[rW,]) fun x h1 h2=> ?_
      have nx:¬(x=s'.c):=by omega
      simp[rW,nx]
     .simp[rW,];omega
     .have nx:¬(x=s'.c):=by omega
      simp[rW,nx];exact hF x hx
   .have hz:cA1 r p a=[]:=by unfold cA1;rw[if_neg e1]
    simp -implicitDefEqProofs [rW,h1,h2,h7,h13,h14,h15,h20,h21,h22,hm,zbh,hx2,hTm,atE,zaR,e1];refine⟨L,?_,?_,?_,fun x hx=> ?_⟩
    .simp -implicitDefEqProofs [rW,h1,h2,h7,h13,h14,h15,h20,h21,h22,hw2]
    .rw[hk2,List.flatMap_append,List.flatMap_cons,hz];simp only[List.flatMap_nil,Z22];refine zaS hL (by simp[rW,]) fun x h1 h2=> ?_
     have nx:¬(x=s'.c):=by omega
     simp[rW,nx]
    .simp[rW,];omega
    .have nx:¬(x=s'.c):=by omega
     simp[rW,nx];exact hF x hx
  .rintro s' ⟨L,⟨h1,h2,h7,h13,h14,h15,h20,h21,h22⟩,hL,hlo,hF⟩;simp -implicitDefEqProofs [rW,h1,h2,h7,h13,h14,h15,h20,h21,h22];refine⟨L,?_,hL,hlo,hF⟩;simp -implicitDefEqProofs [rW,h1,h2,h7,h13,h14,h15,h20,h21,h22]
  .refine⟨L,?_,?_,?_,fun x hx=> ?_⟩
   .simp -implicitDefEqProofs [rW,h1,h2,h7,h13,h14,h15]
   .simp only[List.take_zero,List.flatMap_nil,Z22];refine zaS hL (by simp[rW,]) fun x h1 h2=> ?_
    have nx:¬(x=s.c):=by omega
    simp[rW,nx]
   .simp[rW,];omega
   .have nx:¬(x=s.c):=by omega
    simp[rW,nx];exact hF x hx
  .rintro x s' ⟨rfl,L,⟨h1,h2,h7,h13,h14,h15,h20,h21,h22⟩,hL,hlo,hF⟩;rw[Z7,<-hsn]at hL;simp -implicitDefEqProofs [rW,h1,h2,h7,h13,h14,h15,h20,h21,h22,hw];refine⟨L,?_,hL,hlo,hF⟩;simp -implicitDefEqProofs [rW,h1,h2,h7,h13,h14,h15,h20,h21,h22,hw]
 .rintro s ⟨L,⟨h1,h2,h7,h13,h14,h15⟩,hL,hlo,hF⟩;simp -implicitDefEqProofs [rW,h1,h2,h7,h13,h14,h15];refine⟨L,?_,hL,hlo,hF⟩;simp -implicitDefEqProofs [rW,h1,h2,h7,h13,h14,h15]
 .refine⟨.f .nils,?_,.inl ⟨rfl,rfl⟩,?_,fun x hx=> ?_⟩
  .simp[rW,st0,zae]
  .simp[rW,]
  .have a0:¬x=c0:=by omega
   simp[rW,a0]
 .rintro x s ⟨rfl,L,⟨h1,h2,h7,h13,h14,h15⟩,hL,hlo,hF⟩;rw[Z7]at hL;simp -implicitDefEqProofs [rW,h1,h2,h7,h13,h14,h15,zbl];refine⟨⟨hF,hL⟩,fun _ h2=>⟨fun _ _=>rfl,?_⟩⟩;rcases hL with h3|⟨id,ro,rfl,-⟩
  .exact .inl h3
  .cases h2
end Go.Proofs.YtmnkdfjljkhneaaGreat
end
