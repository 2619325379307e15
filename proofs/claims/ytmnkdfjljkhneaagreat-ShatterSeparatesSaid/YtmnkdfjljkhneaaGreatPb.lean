/- Copies of queries. -/
import Derived.Test.YtmnkdfjljkhneaaGreatPa
import Derived.KernelRfl
import Derived.IntWalk
import Derived.Test.YtmnkdfjljkhneaaGreatProg
import Derived.Test.YtmnkdfjljkhneaaGreatHb
import Derived.WalkKit
import Derived.ProofKit
import Derived.Deep.RegionLaw
import Derived.Lib.Overlaps
set_option linter.all false
section
namespace Go.Proofs.YtmnkdfjljkhneaaGreat
open Go Go.Vse Go.Vse.Sm
set_option maxRecDepth 100000
set_option maxHeartbeats 1000000
set_option linter.all false
theorem fn26:pr.fn 26=some g26:=by kernel_rfl
theorem fn59:pr.fn 59=some g59:=by kernel_rfl
theorem fn60:pr.fn 60=some g60:=by kernel_rfl
theorem fn51:pr.fn 51=some g51:=by kernel_rfl
theorem zzd(h:Nat->Option Ob)(c:Nat):opv h c (.eqn 0 false (.f .nils) (.f .nils))=some {d:= .f (.b true),c}:=rfl
theorem znh(h:Nat->Option Ob)(c es:Nat)(l:List (List F)):opv h c (.eqn 0 false (.f (.sl es l)) (.f .nils))=some {d:= .f (.b false),c}:=rfl
def Own(h:T Ob)(lo c:Nat)(d:D)(X:F):Prop:=(d= .f X\/∃a b e f g x,d= .sl a b e f g x)/\d.cells=some [d]/\(∀x,d.oid=some x->lo≤x/\x<c)/\∀h':T Ob,(∀x,d.oid=some x->h'.get x=h.get x)->∀k,∃rd,frz h'.get (k+2) d=some (X,rd)
theorem Own.up{h h':T Ob}{lo lo' c c':Nat}{d:D}{X:F}(H:Own h lo c d X)(hf:∀x,d.oid=some x->h'.get x=h.get x)(hl:lo'≤lo)(hc:c≤c'):Own h' lo' c' d X:=
 ⟨H.1,H.2.1,fun x hx=>by have:=H.2.2.1 x hx;omega,fun h2 hh=>H.2.2.2 h2 fun x hx=>(hh x hx).trans (hf x hx)⟩
theorem zk0{h:T Ob}{lo c es:Nat}{d:D}{rows:List (List F)}(hg:Gro h lo c es d (rows.map fun a=>a.map D.f)):Own h lo c d (slc es rows):=by
 refine⟨?_,zbf hg,fun x hx=>zcL hg hx,fun h' hh k=> ?_⟩
 ·rcases hg with⟨rfl,hr⟩ |⟨id,ro,rfl,hn,hg,hr,hl,hc⟩
  ·have:rows=[]:=by simpa using hr
   subst this;exact .inl rfl
  ·exact .inr ⟨_,_,_,_,_,_,rfl⟩
 rcases hg with⟨rfl,hr⟩ |⟨id,ro,rfl,hn,hg,hr,hl,hc⟩
 ·have:rows=[]:=by simpa using hr
  subst this;exact⟨[],rfl⟩
 ·refine⟨[id],?_⟩;have h1:=hh id rfl;rw[zdv,h1,hg,zaT,zcS];simp only[true_and,Nat.zero_add,Nat.le_refl,if_true,List.drop_zero,List.take_length,zhH h'.get k rows,zaT];rw[zcM (fun e=>hn (by rw[e];rfl))]
def gCl(es byt:Nat)(z:List F):Go.Vse.Fn:=⟨8,[.t 2],oZ [oR 2 (.mv (.k .nils))]
 (.seq (oD [oM 3 0,oR 4 (.eqn 0 false (.t 3) (.k .nils))] 4 (oZ [oR 2 (.mv (.k .nils))] .ret) .skip)
 (oZ [oR 5 (.bsl es z 0 []),oM 6 0,oR 7 (.app es byt (.t 5) (.t 6)),oM 2 7] .ret))⟩
theorem zuK{n es byt:Nat}{z:List F}(hf:pr.fn n=some (gCl es byt z))(hb:byt≤1000){X:F}{rows:List (List F)}(hX:X= .sl es rows\/X= .nils/\rows=[])(hl:rows.length≤1000000){h:T Ob}{c:Nat}:
  Eff pr n [.f X] h c fun d h' c'=>Frm h h' c/\Own h' c c' d X:=by
 refine zcJ za5 hf ?_;unfold gCl;simp only[rU];rcases hX with rfl|⟨rfl,rfl⟩
 ·have hm:rows.length*byt≤1000000*1000:=Nat.mul_le_mul hl hb;have m1:(rows.length≤zat)=True:=zcN (by omega);have m2:(rows.length*byt≤zat)=True:=zcN (by omega)
  by_cases h0:rows=[]
  ·subst h0;simp -implicitDefEqProofs [rW,st0,zal,znh,zbW];refine⟨fun x hx=> ?_,.inr ⟨_,_,_,_,_,_,rfl⟩,rfl,fun x hx=> ?_,fun h' hh k=>⟨[c],?_⟩⟩
   ·have:¬x=c:=by omega
    simp[Vse.T.zad,this]
   ·simp[D.oid]at hx;omega
   ·have:=hh c rfl;simp[Vse.T.zad]at this;rw[zdv,this];simp[om,zcS,zaH]
  ·simp -implicitDefEqProofs [rW,st0,zal,znh,h0,m1,m2,zbW];refine⟨fun x hx=> ?_,?_⟩
   ·have h1:¬x=c:=by omega
    have h2:¬x=c+1:=by omega
    simp[Vse.T.zad,h1,h2]
   ·have:=zk0 (h:=(h.set c (.arr es 0 [])).set (c+1) (.arr es 0 (rows.map fun a=>a.map D.f))) (lo:=c) (c:=c+1+1) (es:=es) (d:= .sl (c+1) 0 rows.length es rows.length false) (rows:=rows) (.inr ⟨c+1,0,by simp,by simpa using h0,by simp[Vse.T.zad],Nat.zero_le _,by omega,by omega⟩);rw[<-zcM h0]at this;exact this
 ·simp -implicitDefEqProofs [rW,st0,zal,zzd,zbW];refine⟨fun _ _=>rfl,.inl rfl,rfl,by simp[D.oid],fun h' _ k=>⟨[],rfl⟩⟩
theorem zgJ(es:Nat)(rows:List (List F)):slc es rows= .sl es rows\/slc es rows= .nils/\rows=[]:=by
 cases rows with
 |nil=>exact .inr ⟨rfl,rfl⟩
 |cons a l=>exact .inl rfl
theorem eff60(l:List Trm)(hl:l.length≤1000000){h:T Ob}{c:Nat}:Eff pr 60 [.f (zbO l)] h c fun d h' c'=>Frm h h' c/\Own h' c c' d (zbO l):=
 zuK (z:=[.s [],.i .i64 0,.i .i64 0,.s []]) (byt:=48) fn60 (by omega) (zgJ 4 _) (by simpa using hl)
theorem eff51(l:List Str)(hl:l.length≤1000000){h:T Ob}{c:Nat}:Eff pr 51 [.f (zaw l)] h c fun d h' c'=>Frm h h' c/\Own h' c c' d (zaw l):=
 zuK (z:=[.s []]) (byt:=16) fn51 (by omega) (zgJ 1 _) (by simpa using hl)
theorem eff59(q:CQ)(hl:q.cs.length≤1000000){h:T Ob}{c:Nat}:Eff pr 59 [.f (zaR q)] h c fun d h' c'=>Frm h h' c/\Own h' c c' d (zaR q):=by
 refine zuK (rows:=q.cs.map cmF) (z:=[.i .i64 0,.s [],.i .i64 0,.i .i64 0,.s [],.s [],.i .i64 0,.i .i64 0,.s []]) (byt:=104) fn59 (by omega) ?_ (by simpa using hl);unfold zaR csF;split
 ·rename_i hh;rw[hh.2];exact .inl rfl
 ·exact zgJ 9 _
def zes(W:List (Atm×D)):List (List D):=W.map fun p=>[.f (.s p.1.r),.f (.b p.1.neg),p.2]
theorem zjq{h:T Ob}{lo c:Nat}(k:Nat):∀{W:List (Atm×D)},(∀p∈W,Own h lo c p.2 (zbO p.1.ts))->∃rd,zaH (frz h.get (k+2)) (zes W)=some (W.map fun p=>atF p.1,rd)
 |[],_=>⟨[],rfl⟩
 |p::W,hW=>by
  obtain⟨rd,hr⟩ :=zjq k (W:=W) fun q hq=>hW q (by simp[hq])
  obtain⟨rd2,h2⟩ :=(hW p (by simp)).2.2.2 h (fun _ _=>rfl) k;have h3:zaN (frz h.get (k+2)) [.f (.s p.1.r),.f (.b p.1.neg),p.2]=some (atF p.1,rd2):=by
   have a1:frz h.get (k+2) (.f (.s p.1.r))=some (.s p.1.r,[]):=rfl;have a2:frz h.get (k+2) (.f (.b p.1.neg))=some (.b p.1.neg,[]):=rfl;simp only[zaN,a1,a2,h2,atE];simp
  exact⟨rd2++rd,by
   have e:zes (p::W)=[.f (.s p.1.r),.f (.b p.1.neg),p.2]::zes W:=rfl;rw[e,zgj,h3];simp only[hr];rfl⟩
theorem zqh{h:T Ob}{lo c es k:Nat}{d:D}{els:List (List D)}{L:List (List F)}{rd:List Nat}(hg:Gro h lo c es d els)(hf:zaH (frz h.get k) els=some (L,rd))(hL:L=[]↔els=[]):∃rd,frz h.get (k+1) d=some (slc es L,rd):=by
 rcases hg with⟨rfl,rfl⟩ |⟨id,ro,rfl,he,ho,hr,hl,hc⟩
 ·rw[hL.2 rfl];exact⟨[],rfl⟩
 ·refine⟨id::rd,?_⟩;rw[zdv,ho,zaT,zcS];simp only[true_and,Nat.zero_add,Nat.le_refl,if_true,List.drop_zero,List.take_length,hf,zaT];rw[zcM (fun e=>he (hL.1 e))]
theorem zmR{α β:Type}{f:α->Option β}:om (none:Option α) f=none:=rfl
def XY1(c:CQ)(n:Nat)(s:St):Prop:=∃(P:Nat) (B dC:D) (W:List (Atm×D)),W.map (·.1)=c.as.take n/\(s.tm.get 1=some (.ptr 0 2 0 0)/\s.tm.get 2=some (.ptr 1 2 0 0)/\s.tm.get 3=some (.ptr P 2 0 0)/\s.tm.get 11=some (.f (zaO c))/\s.tm.get 12=some (.f (.i .i64 c.as.length))/\s.tm.get 13=some (.f (.i .i64 n))/\s.h.get 1=some (.arr 2 0 [[.f .nils,.f .nils]])/\s.h.get P=some (.arr 2 0 [[B,dC]]))/\Own s.h 2 P dC (zaR c)/\Gro s.h (P+1) s.c 3 B (zes W)/\(∀p∈W,Own s.h (P+1) s.c p.2 (zbO p.1.ts)/\∀x,p.2.oid=some x->B.oid≠some x)/\P<s.c/\2≤P
theorem zBZ(c:CQ)(hc:CqSm c):Ans pr 26 [.ag (cqF c)] (.ag (cqF ⟨c.as,c.cs,c.ne,false⟩)):=by
 refine zcQ fn26 ?_;simp only[g26,rU];simp -implicitDefEqProofs [rW,st0,zal,cqE,za4,za2];refine zdi rfl rfl (eff59 c (by have:=hc.sc;omega)) ?_;rintro dC h' c' lw mx ⟨hf,hO⟩ hcc;simp only[rG]at hf hO hcc;have e0:=hf 0 (by omega);have e1:=hf 1 (by omega);simp[Vse.T.zad]at e0 e1;have hcd:=hO.2.1;have n0:¬(0=c'):=by omega
 have n1:¬(1=c'):=by omega
 simp -implicitDefEqProofs [rW,e0,e1,hcd,n0,n1,zdr];refine zex c.as.length (XY1 c) (fun x s=>x= .exit 0/\XY1 c c.as.length s) ?_ ?_ _ ?_ ?_
 ·rintro n s hn ⟨P,B,dC,W,hW,⟨h1,h2,h3,h11,h12,h13,g1,gP⟩,hC,hg,hall,hPc,hP2⟩;have hw:=zaB n (by have:=hc.sa;omega);have hx:c.as[n]? =some c.as[n]:=List.getElem?_eq_getElem hn;have hst:=hc.st _ (List.getElem_mem hn);have htk:=List.take_succ_eq_append_getElem hn;generalize hA:c.as[n]=A at hx hst htk;simp -implicitDefEqProofs [rW,h1,h2,h3,h11,h12,h13,g1,gP,hn,zeu,hx,hA,atE,zc0];refine zdi rfl rfl (eff60 A.ts (by omega)) ?_;rintro d H2 c2 lw2 mx2 ⟨hf2,hO2⟩ hcc2;simp only[rG]at hf2 hO2 hcc2;have eP:=hf2 P (by omega);have eQ:=hf2 s.c (by omega);have e1:=hf2 1 (by omega);have nP:¬(P=s.c):=by omega
  have nP':¬(s.c=P):=by omega
  have n1:¬(1=s.c):=by omega
  have np1:¬(1=P):=by omega
  simp[Vse.T.zad,nP,n1,gP,g1]at eP eQ e1;have hlow:∀j,j<s.c->H2.get j=s.h.get j:=fun j hj=>by
   have:=hf2 j (by omega);have nj:¬j=s.c:=by omega
   simpa [Vse.T.zad,nj]using this
  have hdc:=hO2.2.1;have hWl:(zes W).length≤12:=by
   have h1:W.length=(c.as.take n).length:=by rw[<-hW];simp
   have:=hc.sa;simp[zes,h1];omega
  have nP2:¬(P=c2):=by omega
  have n1c:¬(1=c2):=by omega
  rcases hO2.1 with rfl|⟨a1,a2,a3,a4,a5,a6,rfl⟩
  ·simp -implicitDefEqProofs [rW,h1,h2,h3,h11,h12,h13,eP,eQ,e1,hdc,nP,nP',nP2,n1c,zc0,zmR];refine⟨by omega,?_⟩;refine zgm (za9 (c':=c2) hg (by omega) fun x h1 h2=> ?_) (by omega) (by simp;omega) (by omega) ?_
   ·have nx:¬(x=s.c):=by omega
    have nx2:¬(x=c2):=by omega
    simp[Vse.T.zad,nx,nx2];exact hlow x h2
   intro r hr1 hr2 hr3 hr4 hr5;have hPr:=hr4 P (by omega) (zbN hg (by omega));have h1r:=hr4 1 (by omega) (zbN hg (by omega));simp[Vse.T.zad,nP,n1,nP2,n1c,eP,e1]at hPr h1r;have hr6:∀x,x<c2->x≠s.c->B.oid≠some x->(wrT _ r.wr).get x=H2.get x:=fun x h1 h2 h3=>by
    have nx2:¬(x=c2):=by omega
    rw[hr4 x (by omega) h3];simp[Vse.T.zad,h2,nx2]
   refine⟨hr1,?_⟩;simp -implicitDefEqProofs [rW,hPr,zbf hr2,nP2,n1c];refine⟨by omega,?_⟩;refine⟨P,r.d,dC,W++[(A,.f (zbO A.ts))],by simp[hW,htk],?_,?_,?_,?_,?_,hP2⟩
   ·simp -implicitDefEqProofs [rW,h1,h2,h3,h11,h12,h13,hw,h1r,hPr,np1]
   ·refine hC.up (fun x hx=> ?_) (Nat.le_refl _) (Nat.le_refl _);have hx2:=hC.2.2.1 x hx;have nx:¬(x=P):=by omega
    simp -implicitDefEqProofs [rW,nx];rw[hr6 x (by omega) (by omega) (zbN hg (by omega)),hlow x (by omega)]
   ·have e:zes (W++[(A,.f (zbO A.ts))])=zes W++[[.f (.s A.r),.f (.b A.neg),.f (zbO A.ts)]]:=by simp[zes]
    rw[e];refine za9 hr2 (by simp -implicitDefEqProofs [rW,]) fun x h1 h2=> ?_
    have nx:¬(x=P):=by omega
    simp -implicitDefEqProofs [rW,nx]
   ·intro p hp;rcases List.mem_append.1 hp with hp|hp
    ·obtain⟨o1,o2⟩ :=hall p hp;refine⟨o1.up (fun x hx=> ?_) (Nat.le_refl _) (by simp -implicitDefEqProofs [rW,];omega),fun x hx hy=> ?_⟩
     ·have hx2:=o1.2.2.1 x hx;have nx:¬(x=P):=by omega
      simp -implicitDefEqProofs [rW,nx];rw[hr6 x (by omega) (by omega) (o2 x hx),hlow x (by omega)]
     ·have hx2:=o1.2.2.1 x hx;rcases hr5 x hy with e|e
      ·omega
      ·exact o2 x hx e
    ·obtain rfl:p=(A,.f (zbO A.ts)):=by simpa using hp
     refine⟨hO2.up (fun x hx=> ?_) (by omega) (by simp -implicitDefEqProofs [rW,];omega),fun x hx hy=> ?_⟩
     ·have hx2:=hO2.2.2.1 x hx;have nx:¬(x=P):=by omega
      simp -implicitDefEqProofs [rW,nx];rw[hr6 x (by omega) (by omega) (fun e=>by have:=zcL hg e;omega)]
     ·have hx2:=hO2.2.2.1 x hx;rcases hr5 x hy with e|e
      ·omega
      ·have:=zcL hg e;omega
   ·simp -implicitDefEqProofs [rW,];omega
  ·simp -implicitDefEqProofs [rW,h1,h2,h3,h11,h12,h13,eP,eQ,e1,hdc,nP,nP',nP2,n1c,zc0,zmR];refine⟨by omega,?_⟩;refine zgm (za9 (c':=c2+1) hg (by omega) fun x h1 h2=> ?_) (by omega) (by simp;omega) (by omega) ?_
   ·have nx:¬(x=s.c):=by omega
    have nx2:¬(x=c2):=by omega
    simp[Vse.T.zad,nx,nx2];exact hlow x h2
   intro r hr1 hr2 hr3 hr4 hr5;have hPr:=hr4 P (by omega) (zbN hg (by omega));have h1r:=hr4 1 (by omega) (zbN hg (by omega));simp[Vse.T.zad,nP,n1,nP2,n1c,eP,e1]at hPr h1r;have hr6:∀x,x<c2->x≠s.c->B.oid≠some x->(wrT _ r.wr).get x=H2.get x:=fun x h1 h2 h3=>by
    have nx2:¬(x=c2):=by omega
    rw[hr4 x (by omega) h3];simp[Vse.T.zad,h2,nx2]
   refine⟨hr1,?_⟩;simp -implicitDefEqProofs [rW,hPr,zbf hr2,nP2,n1c];refine⟨by omega,?_⟩;refine⟨P,r.d,dC,W++[(A,.sl a1 a2 a3 a4 a5 a6)],by simp[hW,htk],?_,?_,?_,?_,?_,hP2⟩
   ·simp -implicitDefEqProofs [rW,h1,h2,h3,h11,h12,h13,hw,h1r,hPr,np1]
   ·refine hC.up (fun x hx=> ?_) (Nat.le_refl _) (Nat.le_refl _);have hx2:=hC.2.2.1 x hx;have nx:¬(x=P):=by omega
    simp -implicitDefEqProofs [rW,nx];rw[hr6 x (by omega) (by omega) (zbN hg (by omega)),hlow x (by omega)]
   ·have e:zes (W++[(A,.sl a1 a2 a3 a4 a5 a6)])=zes W++[[.f (.s A.r),.f (.b A.neg),.sl a1 a2 a3 a4 a5 a6]]:=by simp[zes]
    rw[e];refine za9 hr2 (by simp -implicitDefEqProofs [rW,]) fun x h1 h2=> ?_
    have nx:¬(x=P):=by omega
    simp -implicitDefEqProofs [rW,nx]
   ·intro p hp;rcases List.mem_append.1 hp with hp|hp
    ·obtain⟨o1,o2⟩ :=hall p hp;refine⟨o1.up (fun x hx=> ?_) (Nat.le_refl _) (by simp -implicitDefEqProofs [rW,];omega),fun x hx hy=> ?_⟩
     ·have hx2:=o1.2.2.1 x hx;have nx:¬(x=P):=by omega
      simp -implicitDefEqProofs [rW,nx];rw[hr6 x (by omega) (by omega) (o2 x hx),hlow x (by omega)]
     ·have hx2:=o1.2.2.1 x hx;rcases hr5 x hy with e|e
      ·omega
      ·exact o2 x hx e
    ·obtain rfl:p=(A,.sl a1 a2 a3 a4 a5 a6):=by simpa using hp
     refine⟨hO2.up (fun x hx=> ?_) (by omega) (by simp -implicitDefEqProofs [rW,];omega),fun x hx hy=> ?_⟩
     ·have hx2:=hO2.2.2.1 x hx;have nx:¬(x=P):=by omega
      simp -implicitDefEqProofs [rW,nx];rw[hr6 x (by omega) (by omega) (fun e=>by have:=zcL hg e;omega)]
     ·have hx2:=hO2.2.2.1 x hx;rcases hr5 x hy with e|e
      ·omega
      ·have:=zcL hg e;omega
   ·simp -implicitDefEqProofs [rW,];omega
 ·rintro s ⟨P,B,dC,W,hW,⟨h1,h2,h3,h11,h12,h13,g1,gP⟩,hC,hg,hall,hPc,hP2⟩;simp -implicitDefEqProofs [rW,h1,h2,h3,h11,h12,h13,g1,gP];refine⟨P,B,dC,W,hW,?_,hC,hg,hall,hPc,hP2⟩;simp -implicitDefEqProofs [rW,h1,h2,h3,h11,h12,h13,g1,gP]
 ·refine⟨c',.f .nils,dC,[],by simp,?_,?_,.inl ⟨rfl,rfl⟩,by simp,?_,by omega⟩
  ·simp -implicitDefEqProofs [rW,e1,n1]
  ·refine hO.up (fun x hx=> ?_) (Nat.le_refl _) (Nat.le_refl _);have:=hO.2.2.1 x hx;have nx:¬(x=c'):=by omega
   simp -implicitDefEqProofs [rW,nx]
  ·simp -implicitDefEqProofs [rW,]
 ·rintro x s ⟨rfl,P,B,dC,W,hW,⟨h1,h2,h3,h11,h12,h13,g1,gP⟩,hC,hg,hall,hPc,hP2⟩;rw[List.take_length]at hW;obtain⟨rd,hz⟩ :=zjq 8 fun p hp=>(hall p hp).1
  have nP1:¬(P=1):=by omega
  have hh:∀y,y≠1->(s.h.set 1 (.arr 2 0 [[B,dC]])).get y=s.h.get y:=fun y hy=>by simp[Vse.T.zad,hy]
  obtain⟨rd,hz⟩ :=zjq (h:=s.h.set 1 (.arr 2 0 [[B,dC]])) 8 fun p hp=>((hall p hp).1.up (fun x hx=>hh x (by have:=(hall p hp).1.2.2.1 x hx;omega)) (Nat.le_refl _) (Nat.le_refl _))
  obtain⟨rd1,h1⟩ :=zqh (za9 (h':=s.h.set 1 (.arr 2 0 [[B,dC]])) hg (Nat.le_refl _) fun x h1 _=>hh x (by omega)) hz (by simp[zes]);obtain⟨rd2,h2'⟩ :=hC.2.2.2 (s.h.set 1 (.arr 2 0 [[B,dC]])) (fun x hx=>hh x (by have:=hC.2.2.1 x hx;omega)) 9;have eW:(W.map fun p=>atF p.1)=c.as.map atF:=by rw[<-hW,List.map_map];rfl
  have eA:slc 3 (c.as.map atF)=zaO ⟨c.as,c.cs,c.ne,false⟩ :=by unfold zaO Sm.asF;rw[if_neg (by simp)]
  have eC:zaR c=zaR ⟨c.as,c.cs,c.ne,false⟩ :=rfl;rw[eW,eA]at h1;rw[eC]at h2';have hdc:=hC.2.1;simp -implicitDefEqProofs [rW,h1,h2,h3,h11,h12,h13,g1,gP,nP1,zbf hg,hdc,h1,h2'];omega
theorem zqV(f:Go.Vse.A->Option D)(x:Go.Vse.A):O.res f (.cap x)=(f x).bind fun x=>some (.cap x):=rfl
theorem zvO{pr:Pr}{s:St}{Q:St->Prop}{dst:Option Nat}{l:List Go.Vse.Op}{x:Go.Vse.A}:wpO pr (⟨dst,none,.cap x⟩ ::l) s Q↔oB (((O.cap x).res (zab s.tm)).bind (opv s.h.get s.c)) fun r=>zau r.c r.wr=true/\wpO pr l (s.aft dst r.d r.wr r.c) Q:=zcZ rfl
theorem zqU(f:Go.Vse.A->Option D)(es byt:Nat)(z:List F)(x n:Go.Vse.A):O.res f (.apz es byt z x n)=(f x).bind fun x=>(f n).bind fun n=>some (.apz es byt z x n):=rfl
theorem zvN{pr:Pr}{s:St}{Q:St->Prop}{dst:Option Nat}{l:List Go.Vse.Op}{es byt:Nat}{z:List F}{x n:Go.Vse.A}:wpO pr (⟨dst,none,.apz es byt z x n⟩ ::l) s Q↔oB (((O.apz es byt z x n).res (zab s.tm)).bind (opv s.h.get s.c)) fun r=>zau r.c r.wr=true/\wpO pr l (s.aft dst r.d r.wr r.c) Q:=zcZ rfl
theorem fn132:pr.fn 132=some zu7:=by kernel_rfl
theorem fn89:pr.fn 89=some g89:=by kernel_rfl
theorem fn91:pr.fn 91=some g91:=by kernel_rfl
theorem zwc(t:Trm):(tmF t).map D.f=tmD t:=by cases t<;>rfl
theorem zkO(k:Cm):(cmF k).map D.f=cmD k:=by
 cases k with
 |mk op l r=>cases l<;>cases r<;>rfl
theorem zwH(op a b:Int):Ans pr 132 [.ag (cmF ⟨op,.cst a,.cst b⟩)] (.b (zuF op a b)):=by
 have q:=fun k=>zaC (k:=k) (zuw a b)
 refine zcQ fn132 ?_;simp only[zu7,rU];unfold zuF;simp only[vF]at q
 by_cases h1:op=1
 ·subst h1;simp -implicitDefEqProofs [rR,st0,zal,cmF,tmF,q,zjP]
 ·by_cases h2:op=2
  ·subst h2;simp -implicitDefEqProofs [rR,st0,zal,cmF,tmF,q,zFJ]
  ·by_cases h3:op=3
   ·subst h3;simp -implicitDefEqProofs [rR,st0,zal,cmF,tmF,q,zkP]
   ·by_cases h4:op=4
    ·subst h4;simp -implicitDefEqProofs [rR,st0,zal,cmF,tmF,q,zFG]
    ·simp -implicitDefEqProofs [rR,st0,zal,cmF,tmF,q,h1,h2,h3,h4]
theorem ro91(k:Cm)(hk:zbt k){h:T Ob}{c:Nat}:RO pr 91 [.ag (cmD k)] h c (.f (.b (alT k))):=by
 refine zd0 za5 fn91 rfl ?_;obtain⟨op,l,r⟩ :=k;simp only[g91,rU];have q:=fun k=>zaC (k:=k) (zic l r hk.1 hk.2)
 simp only[tmE]at q;unfold alT;cases l with
 |cst a=>
  cases r with
  |cst b=>
   have q2:=fun k=>zaC (k:=k) (zwH op a b)
   simp only[cmF,tmF,List.cons_append,List.nil_append]at q2;simp -implicitDefEqProofs [rW,st0,zal,cmD,tmD,zcn,zcp,zcr,q2,zaS];simp (disch:=omega) only[zbz,zb8]
  |var b=>
   have hb:b≠[]:=hk.2;simp only[zcn,zcp,zcr,zbj,zbn,zbq]at q;simp -implicitDefEqProofs [rW,st0,zal,cmD,tmD,zcn,zcp,zcr,zbj,zbn,zbq,hb,q,zaS];simp (disch:=omega) only[zbz,zb8]
 |var a=>
  have ha:a≠[]:=hk.1;simp only[zbj,zbn,zbq]at q;generalize hz:decide (Trm.var a=r)=z at q
  by_cases h1:op=1
  ·cases z<;>(simp -implicitDefEqProofs [rW,st0,zal,cmD,tmD,zbj,zbn,zbq,ha,q,hz,h1,zaS]<;>simp (disch:=omega) only[zbz,zb8])
  ·by_cases h4:op=4
   ·cases z<;>(simp -implicitDefEqProofs [rW,st0,zal,cmD,tmD,zbj,zbn,zbq,ha,q,hz,h1,h4,zaS]<;>simp (disch:=omega) only[zbz,zb8])
   ·cases z<;>(simp -implicitDefEqProofs [rW,st0,zal,cmD,tmD,zbj,zbn,zbq,ha,q,hz,h1,h4,zaS]<;>simp (disch:=omega) only[zbz,zb8])
theorem ro89(k:Cm)(hk:zbt k){h:T Ob}{c:Nat}:RO pr 89 [.ag (cmD k)] h c (.f (.b (alF k))):=by
 refine zd0 za5 fn89 rfl ?_;obtain⟨op,l,r⟩ :=k;simp only[g89,rU];have q:=fun k=>zaC (k:=k) (zic l r hk.1 hk.2)
 simp only[tmE]at q;unfold alF;cases l with
 |cst a=>
  cases r with
  |cst b=>
   have q2:=fun k=>zaC (k:=k) (zwH op a b)
   simp only[cmF,tmF,List.cons_append,List.nil_append]at q2;simp -implicitDefEqProofs [rW,st0,zal,cmD,tmD,zcn,zcp,zcr,q2,zaS];simp (disch:=omega) only[zbz,zb8]
  |var b=>
   have hb:b≠[]:=hk.2;simp only[zcn,zcp,zcr,zbj,zbn,zbq]at q;simp -implicitDefEqProofs [rW,st0,zal,cmD,tmD,zcn,zcp,zcr,zbj,zbn,zbq,hb,q,zaS];simp (disch:=omega) only[zbz,zb8]
 |var a=>
  have ha:a≠[]:=hk.1;simp only[zbj,zbn,zbq]at q;generalize hz:decide (Trm.var a=r)=z at q
  by_cases h1:op=2
  ·cases z<;>(simp -implicitDefEqProofs [rW,st0,zal,cmD,tmD,zbj,zbn,zbq,ha,q,hz,h1,zaS]<;>simp (disch:=omega) only[zbz,zb8])
  ·by_cases h4:op=3
   ·cases z<;>(simp -implicitDefEqProofs [rW,st0,zal,cmD,tmD,zbj,zbn,zbq,ha,q,hz,h1,h4,zaS]<;>simp (disch:=omega) only[zbz,zb8])
   ·cases z<;>(simp -implicitDefEqProofs [rW,st0,zal,cmD,tmD,zbj,zbn,zbq,ha,q,hz,h1,h4,zaS]<;>simp (disch:=omega) only[zbz,zb8])
theorem fn90:pr.fn 90=some g90:=by kernel_rfl
theorem fn88:pr.fn 88=some g88:=by kernel_rfl
theorem fn93:pr.fn 93=some g93:=by kernel_rfl
theorem fn94:pr.fn 94=some g94:=by kernel_rfl
def CsD(h:T Ob)(lo c:Nat)(d:D)(q:CQ):Prop:=(d= .f .nils/\q.cs=[]/\q.ne=false)\/∃Y tail ex,d= .sl Y 0 q.cs.length 9 (q.cs.length+tail.length) ex/\h.get Y=some (.arr 9 0 (q.cs.map cmD++tail))/\(q.cs=[]->q.ne=true)/\(q.cs≠[]->ex=false)/\lo≤Y/\Y<c/\(∀x∈tail,x.length=9)/\q.cs.length+tail.length≤10000
theorem zsw{h:T Ob}{lo c:Nat}{d:D}{q:CQ}(H:CsD h lo c d q):zco d=some q.cs.length:=by
 rcases H with⟨rfl,e,-⟩ |⟨Y,tail,ex,rfl,-⟩
 ·rw[e];rfl
 ·rfl
theorem zJc{h:T Ob}{lo c:Nat}{d:D}{q:CQ}(H:CsD h lo c d q){n:Nat}(hn:n<q.cs.length):∃Y rows,iaB 9 d n=some (.ptr Y 9 n 0)/\h.get Y=some (.arr 9 0 rows)/\rows[n]? =some (cmD q.cs[n])/\lo≤Y/\Y<c:=by
 rcases H with⟨rfl,e,-⟩ |⟨Y,tail,ex,rfl,hY,-,-,h1,h2,-⟩
 ·rw[e]at hn;simp at hn
 ·refine⟨Y,_,?_,hY,?_,h1,h2⟩
  ·simp[zhJ,hn]
  ·rw[List.getElem?_append_left (by simpa using hn)];simp[hn]
theorem zhr{h h':T Ob}{lo lo' c c':Nat}{d:D}{q:CQ}(H:CsD h lo c d q)(hh:∀x,lo≤x->x<c->h'.get x=h.get x)(hl:lo'≤lo)(hc:c≤c'):CsD h' lo' c' d q:=by
 rcases H with H|⟨Y,tail,ex,rfl,hY,h3,h4,h1,h2,h5⟩
 ·exact .inl H
 ·exact .inr ⟨Y,tail,ex,rfl,by rw[hh Y h1 h2];exact hY,h3,h4,by omega,by omega,h5⟩
theorem zAY(q:CQ)(p:Cm->Bool)(hl:q.cs.length<100000){h:T Ob}{lo c0 c g:Nat}{d fv:D}{cap:List D}(hfv:zda fv=some (g,[],cap))(hd:CsD h lo c0 d q)(hcl:∀n (hn:n<q.cs.length),RO pr g (.ag (cmD q.cs[n])::cap) h c (.f (.b (p q.cs[n])))):
  RO pr 90 [d,fv] h c (.f (.i .i64 (ixP q.cs p))):=by
 refine zd0 za5 fn90 rfl ?_;simp only[g90,rU];have hlen:=zsw hd;simp -implicitDefEqProofs [rW,st0,zal,hlen];refine zeS q.cs p (fun n s=>s.tm.get 0=some (d)/\s.tm.get 1=some (fv)/\s.tm.get 7=some (.f (.i .i64 q.cs.length))/\s.tm.get 8=some (.f (.i .i64 n))/\s.h=h/\s.c=c/\s.lw=c) (fun x s=>x= .exit 0/\s.lw=c) (fun n y s=>y= .ret/\s.tm.get 4=some (.f (.i .i64 n))/\s.lw=c) ?_ ?_ _ ?_ ?_ ?_
 ·rintro n s hn ⟨h0,h1,h7,h8,eh,ec,el⟩;have hw:=zaB n (by omega);have hp:=hcl n hn;obtain⟨Y,rows,hi,hY,hr,-,-⟩ :=zJc hd hn;rw[<-eh]at hY;generalize hA:q.cs[n]=A at hp hr⊢;simp -implicitDefEqProofs [rW,h0,h1,h7,h8,hn,hi,hY,hr,cmD,tmD,hfv];refine zdn (d:= .f (.b (p A))) ?_ ?_ ?_
  ·simp only[rG];rw[eh,ec];exact hp
  ·simp only[rG];omega
  ·intro mx;cases hb:p A with
   |true=>simp -implicitDefEqProofs [rW,h0,h1,h7,h8,el]
   |false=>simp -implicitDefEqProofs [rW,h0,h1,h7,h8,hw,eh,ec,el]
 ·rintro s ⟨h0,h1,h7,h8,eh,ec,el⟩;simp -implicitDefEqProofs [rW,h0,h1,h7,h8,el]
 ·simp -implicitDefEqProofs [rW,st0,zal]
 ·rintro h z s ⟨rfl,el⟩;rw[zkW h];simp -implicitDefEqProofs [rW,zaS,el]
 ·rintro n hn hp hm z s ⟨rfl,h4,el⟩;rw[zj8 hn hp hm];simp -implicitDefEqProofs [rW,h4,zaS,el]
theorem ro88(q:CQ)(p:Cm->Bool)(hl:q.cs.length<100000){h:T Ob}{lo c0 c g:Nat}{d fv:D}{cap:List D}(hfv:zda fv=some (g,[],cap))(hd:CsD h lo c0 d q)(hcl:∀n (hn:n<q.cs.length),RO pr g (.ag (cmD q.cs[n])::cap) h c (.f (.b (p q.cs[n])))):
  RO pr 88 [d,fv] h c (.f (.b (q.cs.any p))):=by
 refine zd0 za5 fn88 rfl ?_;simp only[g88,rU];rw[<-zmD q.cs p];simp -implicitDefEqProofs [rW,st0,zal];refine zdn (d:= .f (.i .i64 (ixP q.cs p))) ?_ ?_ ?_
 ·simp only[rG];exact zAY q p hl hfv hd hcl
 ·simp only[rG];omega
 ·intro mx;simp -implicitDefEqProofs [rW,zaS]
theorem zA0(t:Trm)(hd:List Str)(hh:hd.length<1000)(ht:zax t){h:T Ob}{c H:Nat}(gH:h.get H=some (.arr 1 0 [[.f (zaw hd)]]))(hH:H<c):RO pr 93 [.ag (tmD t),.ptr H 1 0 0] h c (.f (.b (frT hd t))):=by
  refine zd0 za5 fn93 rfl ?_;simp only[g93,rU];have nH:¬H=c:=by omega
  cases t with
  | cst a=>
    unfold frT;simp -implicitDefEqProofs [rW,st0,zal,tmD,zcn,zcp,zcr,gH,nH,zaS];simp (disch:=omega) only[zbz,zb8]
  | var s=>
    have hs:s≠[]:=ht;unfold frT;have q:=fun k=>zaC (k:=k) (zuv hd s (by omega))
    obtain⟨b,hb⟩ :∃b,b=hd.any (· ==s):=⟨_,rfl⟩
    rw[<-hb]at q;simp -implicitDefEqProofs [rW,st0,zal,tmD,zbj,zbn,zbq,gH,nH,hs,zbl,q,zaS];simp (disch:=omega) only[zbz,zb8];exact⟨hb,trivial⟩
theorem ro94(k:Cm)(hd:List Str)(hh:hd.length<1000)(hk:zbt k){h:T Ob}{c H X:Nat}(gH:h.get H=some (.arr 1 0 [[.f (zaw hd)]]))(hH:H<c)(gX:h.get X=some (.arr 1 0 [[.fn 93 [] [.ptr H 1 0 0]]]))(hX:X<c):RO pr 94 [.ag (cmD k),.ptr X 1 0 0] h c (.f (.b (eqV hd k))):=by
 refine zd0 za5 fn94 rfl ?_;obtain⟨op,l,r⟩ :=k;simp only[g94,rU];have nH:¬H=c:=by omega
 have nX:¬X=c:=by omega
 unfold eqV
 by_cases h1:op=1
 ·subst h1;simp -implicitDefEqProofs [rW,st0,zal,cmD,tmD,gX,nX];refine zdn (d:= .f (.b (frT hd l))) ?_ ?_ ?_
  ·simp only[rG];exact zA0 l hd hh hk.1 (by rw[Vse.T.zad,if_neg nH];exact gH) (by omega)
  ·simp only[rG];simp (disch:=omega) only[zbz,zb8];omega
  ·intro mx;cases hb:frT hd l with
   |true=>
    simp -implicitDefEqProofs [rW,st0,zal,cmD,tmD,zaS];simp (disch:=omega) only[zbz,zb8]
   |false=>
    simp -implicitDefEqProofs [rW,st0,zal,cmD,tmD,gX,nX];refine zdn (d:= .f (.b (frT hd r))) ?_ ?_ ?_
    ·simp only[rG];exact zA0 r hd hh hk.2 (by rw[Vse.T.zad,if_neg nH];exact gH) (by omega)
    ·simp only[rG];simp (disch:=omega) only[zbz,zb8];omega
    ·intro mx;simp -implicitDefEqProofs [rW,zaS];simp (disch:=omega) only[zbz,zb8]
 ·simp -implicitDefEqProofs [rW,st0,zal,cmD,tmD,h1,zaS];simp (disch:=omega) only[zbz,zb8]
end Go.Proofs.YtmnkdfjljkhneaaGreat
end
section
namespace Go.Proofs.YtmnkdfjljkhneaaGreat
open Go Go.RowKit
set_option maxRecDepth 100000
set_option maxHeartbeats 4000000
theorem zHI{P:Program}{ops:Array Oper}{o:Oper}{a:Act}{w w':World}{v:Value}{K:Act->World->Prop}{Q:Exit->Act->World->Prop}{E:Prop}
  (hg:o.guard=none)(d s:Operand)(dT sT:TypeId)(hop:o.op=Op.call {callee:=Callee.builtin Builtin.copy,args:= #[d,s],argTypes:= #[dT,sT]})
  (dv sv:Value)(hd:a.eval d=dv)(hs:a.eval s=sv)(hrun:(Builtin.copy_ #[dT,sT] o.type #[dv,sv]).run P w= .ok v w')(hK:K (a.put o.dst v) w'):
  if Region.wanted o (yielded ops a.tmps)=true then Oper.wp P o a w K Q else E:=by
 have hw:Region.wanted o (yielded ops a.tmps)=true:=by simp[Region.wanted,hg]
 rw[if_pos hw];unfold Oper.wp;simp[execOp,hop,resolve,invoke,builtin,hd,hs,hrun,Result.andThen];exact hK
theorem repB(w w1 w2:World)(b bv m k i C Cv:Nat)(hi:i+1<m)(hk:2≤k)(hm:m≤1000)(hk2:k≤1000)(hC:m+k - 1≤C)
  (hov:(callFunc 108 #[.slice (some ⟨b,(i+k)*2,none⟩) (m - (i+1)) (C - (i+k)),.slice (some ⟨bv,0,none⟩) k Cv]).run Tryz.prog w.drew= .ok (.value (.bool false)) w.drew)
  (hcp1:(Builtin.copy_ #[24,24] 3 #[.slice (some ⟨b,(i+k)*2,none⟩) (m - (i+1)) (C - (i+k)),.slice (some ⟨b,(i+1)*2,none⟩) (m - (i+1)) (C - (i+1))]).run Tryz.prog w.drew.drew= .ok (.int .i64 ((m - (i+1):Nat):Int)) w1)
  (hcp2:(Builtin.copy_ #[24,24] 3 #[.slice (some ⟨b,i*2,none⟩) (i+k+(m - (i+1)) - i) (C - i),.slice (some ⟨bv,0,none⟩) k Cv]).run Tryz.prog w1= .ok (.int .i64 ((k:Nat):Int)) w2):
  Calls Tryz.prog 64 #[.slice (some ⟨b,0,none⟩) m C,.int .i64 ((i:Nat):Int),.int .i64 ((i+1:Nat):Int),.slice (some ⟨bv,0,none⟩) k Cv] w fun e w'=>e= .returned (.slice (some ⟨b,0,none⟩) (i+k+(m - (i+1))) C)/\w'=w2:=by
 have hw:IntKind.i64.wrap ((i:Int)+(k:Int))=(i:Int)+k:=IntWalk.i64_in _ (by omega);have hto:((i:Int)+(k:Int)).toNat=i+k:=by omega
 have hne:¬C=i+k:=by omega
 have hne2:¬C=i+1:=by omega
 have h0:(0:Int)≤(i:Int)+k:=by omega
 have h01:(0:Int)≤(i:Int)+1:=by omega
 have hle1:(i:Int)+1≤m:=by omega
 have hto1:((i:Int)+1).toNat=i+1:=by omega
 have hle:(i:Int)+k≤i+k+((m - (i+1):Nat):Int):=by omega
 go_enter Tryz.func64,Tryz.ntmps64
 go_wp2
 go_region
 go_wp2
 go_region_law (refine zHI rfl (.tmp 126) (.tmp 129) 24 24 rfl _ _ (by simp[Act.eval,Act.put]) (by simp[Act.eval,Act.put]) hcp1 ?_)
 go_wp2
 go_ret
 exact⟨rfl,rfl⟩
theorem zEA:Tryz.prog.underlying 24=some (.slice 32):=by kernel_rfl
theorem szo32:((Tryz.prog.info? 32).map (·.size)).isSome=true:=by kernel_rfl
theorem zHv:Go.Vse.zaM Tryz.prog 32=some 2:=by kernel_rfl
theorem zGI:Go.Vse.zzs Tryz.prog 64 2 24:=by
  intro w w1 w2 b bv m k i C Cv hi hk hm hk2 hC hap h1 h2;obtain⟨hne,tA,kA,tB,kB,hsa,hsb,hkB,hfa,hfe⟩ :=hap;have e1:m+k - 1 - (i+k)=m - (i+1):=by omega
  have e2:m+k - 1=i+k+(m - (i+1)):=by omega
  rw[e1]at h1;rw[e2]at h2⊢;refine repB w w1 w2 b bv m k i C Cv hi hk hm hk2 hC ?_ h1 h2;rw[run_callFunc_extern Tryz.func108 (by kernel_rfl) (by kernel_rfl) (by kernel_rfl) (e:=Extern.SlicesOverlaps.overlaps Tryz.f108.params Tryz.f108.resultTypes) rfl];obtain⟨i',hi'⟩ :=Option.isSome_iff_exists.1 szo32;obtain⟨inf,hinf,_⟩ :=Option.map_eq_some_iff.1 hi';have:=Go.Lib.run_overlaps_apart (P:=Tryz.prog) w.drew 24 4 32 zEA inf.size (by intro w;simp[sizeOf,typeInfo,hinf]) ⟨b,(i+k)*2,none⟩ ⟨bv,0,none⟩ (m - (i+1)) (C - (i+k)) k Cv hne tA tB kA kB hsa hsb hkB hfa hfe;exact (congrArg (Result.andThen · _) this).trans rfl
end Go.Proofs.YtmnkdfjljkhneaaGreat
end
section
namespace Go.Proofs.YtmnkdfjljkhneaaGreat
open Go Go.Vse Go.Vse.Sm
set_option maxRecDepth 100000
set_option maxHeartbeats 1000000
set_option linter.all false
theorem zyx(f:Go.Vse.A->Option D)(es:Nat)(x n:Go.Vse.A):O.res f (.cpy es x n)=(f x).bind fun x=>(f n).bind fun n=>some (.cpy es x n):=rfl
theorem zD5{pr:Pr}{s:St}{Q:St->Prop}{dst:Option Nat}{l:List Go.Vse.Op}{es:Nat}{x n:Go.Vse.A}:wpO pr (⟨dst,none,.cpy es x n⟩ ::l) s Q↔oB (((O.cpy es x n).res (zab s.tm)).bind (opv s.h.get s.c)) fun r=>zau r.c r.wr=true/\wpO pr l (s.aft dst r.d r.wr r.c) Q:=zcZ rfl
theorem zCq{pr:Pr}{s:St}{Q:St->Prop}{dst:Option Nat}{L:List (List Nat×List Nat)}{mask:Nat}{l:List (Go.Vse.Op×Nat)}{es:Nat}{x n:Go.Vse.A}:wpE pr L ((⟨dst,none,.cpy es x n⟩,mask)::l) s Q↔oB (((O.cpy es x n).res (zab s.tm)).bind (opv s.h.get s.c)) fun r=>zau r.c r.wr=true/\zct mask L r.rd (r.wr.map (·.1))/\wpE pr (L++[(r.rd,r.wr.map (·.1))]) l (s.ae dst r.d r.wr r.c) Q:=zca rfl
theorem zIL{h:Nat->Option Ob}{c es byt id lim i:Nat}{z:List F}{els:List (List D)}{ro:Nat}{k:Nat}(ho:h id=some (.arr es ro els))(hi:i≤els.length)(hk:0<k)(hl:lim<i+k)(hb:(i+k)*byt≤zat)(hm:i+k≤zat)(hkm:k≤zat):
  opv h c (.apz es byt z (.sl id 0 i es lim true) (.f (.i .i64 (k:Int))))=
   some {d:= .sl c 0 (i+k) es (i+k) false,rd:=[id],wr:=[(c,some (.arr es 0 (els.take i++List.replicate k (z.map D.f))))],c:=c+1}:=by
 have h1:¬k=0:=by omega
 have h2:¬i+k≤lim:=by omega
 simp only[opv,zbQ];unfold zbi;have hkb:k*byt≤zat:=Nat.le_trans (Nat.mul_le_mul_right byt (by omega)) hb;simp[hm,hb,h1,h2,ho,hi,hkm,hkb]
theorem zwX{h:Nat->Option Ob}{c es id off m lim:Nat}{ex:Bool}{e:D}{els old:List (List D)}{len ro:Nat}{rd:List Nat}(hs:zh8 es h m e=some (els,len,rd))(ho:h id=some (.arr es ro old))(hle:off≤old.length)(hro:ro≤off)
  (hk:zcm old (old.take off++els.take (Nat.min len m)++old.drop (off+Nat.min len m))=true):
  opv h c (.cpy es (.sl id off m es lim ex) e)=some {d:= .f (.i .i64 (Nat.min len m)),rd:=id::rd,wr:=[(id,some (.arr es ro (old.take off++els.take (Nat.min len m)++old.drop (off+Nat.min len m))))],c}:=by
 simp only[opv,hs,ho];rw[if_pos ⟨trivial,trivial,hle,.inl hro,hk⟩]
theorem ztC{h:Nat->Option Ob}{es id off len m lim ro:Nat}{ex:Bool}{els:List (List D)}(ho:h id=some (.arr es ro els))(hle:off+len≤els.length):
  zh8 es h m (.sl id off len es lim ex)=some ((els.drop off).take len,((els.drop off).take len).length,[id]):=by
 simp only[zh8,elemsOf,ho];rw[if_pos ⟨trivial,trivial,hle⟩]
theorem zAR{h:T Ob}{id vid vro vlim n m k i C:Nat}{vex:Bool}{els vels:List (List D)}(ho:h.get id=some (.arr 2 0 els))(hv:h.get vid=some (.arr 2 vro vels))(hm:els.length=m)(hk:vels.length=k)(hi:i+1<m)(hk2:2≤k)(hm1:m≤1000)(hk1:k≤1000)(hid:id<n)(hvid:vid<n)(hl2:∀x∈els,x.length=2)(hv2:∀x∈vels,x.length=2)(hC1:m≤C)(hC2:C<m+k - 1):
  ∃q,zpG pr g64 [.sl id 0 m 2 C true,.f (.i .i64 ((i:Nat):Int)),.f (.i .i64 ((i+1:Nat):Int)),.sl vid 0 k 2 vlim vex] h n q/\(q.d= .sl (n+13) 0 (m+k - 1) 2 (m+k - 1) false/\(∀x,q.h.get x=if x=n+13 then some (.arr 2 0 (els.take i++vels++els.drop (i+1)))else h.get x)/\n+13<q.c/\q.lw=n):=by
 refine znz (R:=fun d h' c' lw=>d= .sl (n+13) 0 (m+k - 1) 2 (m+k - 1) false/\(∀x,h'.get x=if x=n+13 then some (.arr 2 0 (els.take i++vels++els.drop (i+1)))else h.get x)/\n+13<c'/\lw=n) ?_;obtain⟨r,hr⟩ :∃r,r=m - (i+1):=⟨_,rfl⟩
 obtain⟨j,hj⟩ :∃j,j=i+1:=⟨_,rfl⟩
 have hsum:m+k - 1=i+(k+r):=by omega
 rw[hsum,<-hj];obtain⟨N,hN⟩ :∃N,N=n+13:=⟨_,rfl⟩
 have hne:¬id=N:=by omega
 have hnv:¬vid=N:=by omega
 have hij:¬(i:Int)=j:=by omega
 have hjm:¬(j:Int)=m:=by omega
 have l1:i≤j:=by omega
 have l2:j≤m:=by omega
 have l3:i≤m:=by omega
 have hmj:m - j=r:=by omega
 obtain⟨a,ha⟩ :∃a,a=i+k:=⟨_,rfl⟩
 obtain⟨t,ht⟩ :∃t,t=i+k+r:=⟨_,rfl⟩
 obtain⟨u,hu⟩ :∃u,u=k+r:=⟨_,rfl⟩
 have w1:IntKind.i64.wrap ((i:Int)+k)=(a:Int):=by rw[wrap_i64 _ (by omega) (by omega)];omega
 have w2:IntKind.i64.wrap ((a:Int)+r)=(t:Int):=by rw[wrap_i64 _ (by omega) (by omega)];omega
 have w3:IntKind.i64.wrap ((t:Int) - i)=(u:Int):=by rw[wrap_i64 _ (by omega) (by omega)];omega
 rw[<-hu];have hgt:(C:Int)<t:=by omega
 have hCt:C<t:=by omega
 have l4:i≤i+u:=by omega
 have l5:a≤i+u:=by omega
 have vcap:∀(h:Nat->Option Ob) c,opv h c (.cap (.sl id 0 m 2 C true))=some {d:= .f (.i .i64 (C:Int)),c:=c}:=fun h c=>by simp[opv,zpV,okF]
 have eN:n+1+1+1+1+1+1+1+1+1+1+1+1+1=N:=by omega
 have Z:=zIL (h:=h.get) (c:=N) (es:=2) (byt:=48) (lim:=C) (z:=[.nils,.nils]) (k:=u) ho (i:=i) (by omega) (by omega) (by omega) (by simp[zat];omega) (by simp[zat];omega) (by simp[zat];omega);generalize hzz:[F.nils,F.nils].map D.f=zz at Z;have hr1:(els.take i++List.replicate u zz).take i=els.take i:=by rw[List.take_append_of_le_length (by simp;omega),List.take_take,Nat.min_self]
 have hz2:∀q,∀x∈List.replicate q zz,x.length=2:=fun q x hx=>by rw[(List.mem_replicate.1 hx).2,<-hzz];rfl
 have hok:∀l,zcm (els.take i++List.replicate u zz) l=true:=fun l=>by
  unfold zcm;rw[zfw (es:=2) (by decide) fun x hx=>(List.mem_append.1 hx).elim (fun hx=>hl2 x (List.mem_of_mem_take hx)) (hz2 _ x)];rfl
 have hiu:i+u - a=r:=by omega
 have hmk:Nat.min k u=k:=Nat.min_eq_left (by omega);have hmr:Nat.min r r=r:=Nat.min_self _;have hrw1:els.take i++List.replicate u zz=els.take i++List.replicate u zz:=rfl;have hB:∀c,opv (h.set N (.arr 2 0 (els.take i++List.replicate u zz))).get c (.cpy 2 (.sl N i u 2 (i+u) false) (.sl vid 0 k 2 vlim vex))=some {d:= .f (.i .i64 (k:Int)),rd:=[N,vid],wr:=[(N,some (.arr 2 0 (els.take i++vels++List.replicate r zz)))],c:=c}:=fun c=>by
  have e1:(h.set N (.arr 2 0 (els.take i++List.replicate u zz))).get vid=some (.arr 2 vro vels):=by rw[Vse.T.zad,if_neg hnv];exact hv
  have e2:(h.set N (.arr 2 0 (els.take i++List.replicate u zz))).get N=some (.arr 2 0 (els.take i++List.replicate u zz)):=by rw[Vse.T.zad,if_pos rfl]
  have:=zwX (c:=c) (off:=i) (m:=u) (lim:=i+u) (ex:=false) (ztC (m:=u) (off:=0) (lim:=vlim) (ex:=vex) e1 (len:=k) (by omega)) e2 (by simp;omega) (Nat.zero_le _) (hok _);have e3:(vels.drop 0).take k=vels:=by rw[List.drop_zero,List.take_of_length_le (by omega)]
  have e4:(els.take i++List.replicate u zz).drop (i+k)=List.replicate r zz:=by
   rw[List.drop_append];have:(els.take i).length=i:=by simp;omega
   rw[this,List.drop_of_length_le (by omega),List.nil_append,List.drop_replicate]
   congr 1;omega
  rw[e3,hk,hmk,hr1,e4,List.take_of_length_le (show vels.length≤k by omega)]at this;exact this
 have hCp:∀c,opv ((h.set N (.arr 2 0 (els.take i++List.replicate u zz))).set N (.arr 2 0 (els.take i++vels++List.replicate r zz))).get c (.cpy 2 (.sl N a r 2 (i+u) false) (.sl id j r 2 C true))=some {d:= .f (.i .i64 (r:Int)),rd:=[N,id],wr:=[(N,some (.arr 2 0 (els.take i++vels++els.drop j)))],c:=c}:=fun c=>by
  have e1:((h.set N (.arr 2 0 (els.take i++List.replicate u zz))).set N (.arr 2 0 (els.take i++vels++List.replicate r zz))).get id=some (.arr 2 0 els):=by rw[Vse.T.zad,if_neg hne,Vse.T.zad,if_neg hne];exact ho
  have e2:((h.set N (.arr 2 0 (els.take i++List.replicate u zz))).set N (.arr 2 0 (els.take i++vels++List.replicate r zz))).get N=some (.arr 2 0 (els.take i++vels++List.replicate r zz)):=by rw[Vse.T.zad,if_pos rfl]
  have hl:(els.take i++vels).length=a:=by simp;omega
  have:=zwX (c:=c) (off:=a) (m:=r) (lim:=i+u) (ex:=false) (ztC (m:=r) (off:=j) (lim:=C) (ex:=true) e1 (len:=r) (by omega)) e2 (by simp;omega) (Nat.zero_le _) (by
   unfold zcm;rw[zfw (es:=2) (by decide) fun x hx=>(List.mem_append.1 hx).elim (fun hx=>(List.mem_append.1 hx).elim (fun hx=>hl2 x (List.mem_of_mem_take hx)) (hv2 x)) (hz2 _ x)];rfl)
  have e3:(els.drop j).take r=els.drop j:=List.take_of_length_le (by simp;omega);have e4:(els.take i++vels++List.replicate r zz).take a=els.take i++vels:=by
   rw[List.take_append_of_le_length (by omega),List.take_of_length_le (by omega)]
  have e5:(els.take i++vels++List.replicate r zz).drop (a+r)=[]:=List.drop_of_length_le (by simp;omega);have e6:(els.drop j).length=r:=by simp;omega
  have e7:(els.drop j).take r=els.drop j:=e3;rw[e3,e6,hmr,e4,e5,List.append_nil,e7]at this;exact this
 clear hok hr1;generalize els.take i++List.replicate u zz=E1 at*;generalize els.take i++vels++List.replicate r zz=E2 at*;generalize els.take i++vels++els.drop j=E3 at*;simp only[g64,rU];simp -implicitDefEqProofs [rW,st0,zal,w1,w2,w3,hij,hjm,l1,l2,l3,zhN,zfV,ho,hv,zvO,zqV,vcap,hmj,hgt,zvN,zqU,Z];rw[<-hN];refine zcI ?_;simp -implicitDefEqProofs [rW,st0,zal,w1,w2,w3,hij,hjm,l1,l2,l3,l4,l5,zhN,zfV,ho,hv,zvO,zqV,vcap,hmj,hgt,zvN,zqU,Z,zD5,zCq,zyx,hB,hCp,hiu,hne,hnv,eN];refine zcI ?_;simp -implicitDefEqProofs [rW,st0,zal,w1,w2,w3,hij,hjm,l1,l2,l3,l4,l5,zhN,zfV,ho,hv,zvO,zqV,vcap,hmj,hgt,zvN,zqU,Z,zD5,zCq,zyx,hB,hCp,hiu,hne,hnv,eN,zp1];refine⟨by omega,fun x=> ?_,by omega,?_⟩
 ·by_cases hx:x=N
  ·simp[hx]
  ·simp[hx]
 ·simp (disch:=omega) only[zbz,zb8]
theorem zGR{h:T Ob}{id vid vro vlim n m k i:Nat}{vex:Bool}{els vels:List (List D)}(ho:h.get id=some (.arr 2 0 els))(hv:h.get vid=some (.arr 2 vro vels))(hm:els.length=m)(hk:vels.length=k)(hi:i+1=m)(hk2:2≤k)(hm1:m≤1000)(hk1:k≤1000)(hid:id<n)(hvid:vid<n)(hl2:∀x∈els,x.length=2):
  ∃q,zpG pr g64 [.sl id 0 m 2 m false,.f (.i .i64 ((i:Nat):Int)),.f (.i .i64 ((i+1:Nat):Int)),.sl vid 0 k 2 vlim vex] h n q/\(q.d= .sl n 0 (m+k - 1) 2 (m+k - 1) false/\(∀x,q.h.get x=if x=n then some (.arr 2 0 (els.take i++vels++els.drop (i+1)))else if x=id then none else h.get x)/\n<q.c/\q.lw=id):=by
 refine znz (R:=fun d h' c' lw=>d= .sl n 0 (m+k - 1) 2 (m+k - 1) false/\(∀x,h'.get x=if x=n then some (.arr 2 0 (els.take i++vels++els.drop (i+1)))else if x=id then none else h.get x)/\n<c'/\lw=id) ?_;have hsum:m+k - 1=i+k:=by omega
 rw[hsum,List.drop_of_length_le (show els.length≤i+1 by omega),List.append_nil,hi];have hne:¬id=n:=by omega
 have him:¬(i:Int)=m:=by omega
 have l1:i≤m:=by omega
 have hA:∀rd,zbi 2 48 h.get n (.sl id 0 i 2 m false) vels rd=some {d:= .sl n 0 (i+k) 2 (i+k) false,rd:=id::rd,wr:=[(id,none),(n,some (.arr 2 0 (els.take i++vels)))],c:=n+1}:=fun rd=>by
  have h0:¬vels.length=0:=by omega
  have h1:¬0+i+vels.length≤m:=by omega
  have h2:¬i=els.length:=by omega
  have m1:(i+k≤zat)=True:=zcN (by omega);have m2:((i+k)*48≤zat)=True:=zcN (by omega);have hok:zcm els (els.take i++vels)=true:=by unfold zcm;rw[zfw (es:=2) (by decide) hl2];rfl
  rw[zno,if_neg h0,ho];simp only[hk,Nat.zero_add]at h1⊢;have h3:¬i=m:=by omega
  have h4:m≤i+k:=by omega
  have h5:i≤m:=by omega
  simp[h1,h3,h4,h5,m1,m2,hok,hm]
 have hd1:vels.take k=vels:=List.take_of_length_le (by omega);have hlt:¬((i:Int)+k<m):=by omega
 simp only[g64,rU];simp -implicitDefEqProofs [rulN,Function.comp_def,Nat.blt_eq,zvJ,zvz,zvA,zvx,zvv,zvw,zvu,zvD,zvG,zvI,zvE,zvL,zvM,zvK,st0,zal,him,l1,zhN,zfV,ho,hv,hA,hd1,hne,hk,hlt,zp1];have hnb:¬n<id:=by omega
 refine⟨by omega,?_,fun _=>rfl⟩;simp[zcx,hid,hnb]
end Go.Proofs.YtmnkdfjljkhneaaGreat
end
