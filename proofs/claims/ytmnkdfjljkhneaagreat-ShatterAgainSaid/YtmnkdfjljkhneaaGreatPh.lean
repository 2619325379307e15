/- rewrite: a query simplified and split as long as there is a step. -/
import Derived.Test.YtmnkdfjljkhneaaGreatPg
import Derived.KernelRfl
import Derived.IntWalk
import Derived.Test.YtmnkdfjljkhneaaGreatPb
import Derived.Test.YtmnkdfjljkhneaaGreatFct
import Derived.Test.YtmnkdfjljkhneaaGreatPe
set_option linter.all false
noncomputable section
section
namespace Go.Proofs.YtmnkdfjljkhneaaGreat
open Go Go.Vse Go.Vse.Sm
set_option maxRecDepth 100000
set_option maxHeartbeats 1000000
set_option linter.all false
theorem fn31:pr.fn 31=some g31:=by kernel_rfl
theorem fn11:pr.fn 11=some g11:=by kernel_rfl
def QE(h:T Ob)(lo c:Nat)(d:D)(l:List CQ):Prop:=(d= .f .nils/\l=[])\/∃id,d= .sl id 0 l.length 2 l.length false/\l≠[]/\h.get id=some (.arr 2 0 (fD (l.map cqF)))/\lo≤id/\id<c
theorem QE.d{h:T Ob}{lo c:Nat}{d:D}{l:List CQ}(H:QE h lo c d l):QD h c d l:=by
 rcases H with H|⟨id,h1,h2,h3,-,h5⟩
 ·exact .inl H
 ·exact .inr ⟨id,h1,h2,h3,h5⟩
theorem QE.up{h h':T Ob}{lo c c':Nat}{d:D}{l:List CQ}(H:QE h lo c d l)(hh:∀x,lo≤x->x<c->h'.get x=h.get x)(hc:c≤c'):QE h' lo c' d l:=by
 rcases H with H|⟨id,h1,h2,h3,h4,h5⟩
 ·exact .inl H
 ·exact .inr ⟨id,h1,h2,by rw[hh id h4 h5];exact h3,h4,by omega⟩
theorem QE.oid{h:T Ob}{lo c:Nat}{d:D}{l:List CQ}(H:QE h lo c d l){x:Nat}(hx:x<lo):d.oid≠some x:=by
 rcases H with⟨rfl,-⟩ |⟨id,rfl,-,-,h4,-⟩
 ·simp[D.oid]
 ·simp[D.oid];omega
theorem zgb(l:List (List F)):(fD l).length=l.length:=by simp[fD]
theorem zxR{hd:List Str}{l:List CQ}(hQ:QG hd l){h:T Ob}{n:Nat}:Eff pr 19 [.ag [.f (zav hd),.f (qsF l)]] h n fun d h' c'=>Frm h h' n/\∃dq,d= .ag [.f (zav hd),dq]/\QE h' n c' dq (zaV hd l):=by
 obtain⟨q,h1,h2,h3⟩ :=zvs (args:=[.ag [.f (zav hd),.f (qsF l)]]) (h:=h) (n:=n) (rd:=[]) hQ (by rfl) (by simp);refine⟨q,h1,?_,h3⟩;rcases h2 with⟨e,h4,h5,h6⟩ |⟨e,h4,h5,h6⟩
 ·rw[h4,h5,e];exact⟨fun x hx=>rfl,_,rfl,.inl ⟨rfl,rfl⟩⟩
 ·rw[h4,h5,h6];refine⟨fun x hx=> ?_,_,rfl,.inr ⟨n,rfl,e,by simp[Vse.T.zad],Nat.le_refl _,Nat.lt_succ_self _⟩⟩;have:¬x=n:=by omega
  simp[Vse.T.zad,this,zao,wrT]
theorem zKb{hd:List Str}{l:List CQ}(hQ:QG hd l){h:T Ob}{n:Nat}{dq:D}(hD:QD h n dq l):Eff pr 19 [.ag [.f (zav hd),dq]] h n fun d h' c'=>(∀x,x<n->dq.oid≠some x->h'.get x=h.get x)/\∃dq',d= .ag [.f (zav hd),dq']/\QE h' n c' dq' (zaV hd l):=by
 have key:∃rd,zbN h.get [.ag [.f (zav hd),dq]]=some ([.ag [zav hd,qsF l]],rd)/\(∀x∈rd,x<n)/\∀x,dq.oid≠some x->(wrT h (zao h.get rd)).get x=h.get x:=by
  rcases hD with⟨rfl,rfl⟩ |⟨id,rfl,hne,hg,hid⟩
  ·exact⟨[],rfl,by simp,fun x _=>rfl⟩
  ·have hl:(fD (l.map cqF)).length=l.length:=by rw[zgb,List.length_map]
   have hz:frz h.get 11 (.sl id 0 l.length 2 l.length false)=some (qsF l,[id]):=by
    have e:=zgW h.get 9 (l.map cqF);rw[zdf,hg,zaT,zcH];have e2:((fD (l.map cqF)).drop 0).take l.length=(l.map cqF).map fun a=>a.map D.f:=by
     rw[List.drop_zero,<-hl,List.take_length];rfl
    rw[if_pos ⟨rfl,by rw[hl];omega⟩,e2,e,zaT,zcz (by simpa using hne)];rfl
   refine⟨[id],?_,by simpa using hid,fun x hx=> ?_⟩
   ·simp -implicitDefEqProofs [rW,hz]
   ·have hx':¬x=id:=fun e=>hx (by rw[e];rfl)
    have h0:¬((fD (l.map cqF)).length≤0):=by
     rw[hl];intro e;exact hne (List.length_eq_zero_iff.1 (by omega))
    rw[zru,hg,zkI,if_neg h0,zrv,zoF,zoE,Vse.T.zad,if_neg hx']
 obtain⟨rd,hz,hr,hlow⟩ :=key;obtain⟨q,h1,h2,h3⟩ :=zvs (h:=h) (n:=n) hQ hz hr;refine⟨q,h1,?_,h3⟩;rcases h2 with⟨e,h4,h5,h6⟩ |⟨e,h4,h5,h6⟩
 ·rw[h4,h5,e];exact⟨fun x _=>hlow x,_,rfl,.inl ⟨rfl,rfl⟩⟩
 ·rw[h4,h5,h6];refine⟨fun x hx hne=> ?_,_,rfl,.inr ⟨n,rfl,e,by simp[Vse.T.zad],Nat.le_refl _,Nat.lt_succ_self _⟩⟩;have:¬x=n:=by omega
  rw[Vse.T.zad,if_neg this];exact hlow x hne
theorem zxW{l L:List CQ}{h:T Ob}{Y V n i:Nat}{ex:Bool}(hY:h.get Y=some (.arr 2 0 (fD (l.map cqF))))(hV:h.get V=some (.arr 2 0 (fD (L.map cqF))))(hi:i<l.length)(h2:2≤L.length)(hl:l.length≤1000)(hL:L.length≤1000)(hne:Y≠V)(hYn:Y<n)(hVn:V<n):
  Eff pr 64 [.sl Y 0 l.length 2 l.length false,.f (.i .i64 (i:Int)),.f (.i .i64 ((i:Int)+1)),.sl V 0 L.length 2 L.length ex] h n fun d h' c'=>∃N,n≤N/\N<c'/\d= .sl N 0 (rp l i L).length 2 (rp l i L).length false/\h'.get N=some (.arr 2 0 (fD ((rp l i L).map cqF)))/\∀x,x≠N->x≠Y->h'.get x=h.get x:=by
 have w2:∀m:List CQ,∀x∈fD (m.map cqF),x.length=2:=by
  intro m x hx;simp only[fD,List.mem_map]at hx;obtain⟨y,⟨c,-,rfl⟩,rfl⟩ :=hx;rfl
 have e1:∀m:List CQ,(fD (m.map cqF)).length=m.length:=fun m=>by rw[zgb,List.length_map]
 have:=eff64 (h:=h) (vlim:=L.length) (vex:=ex) (n:=n) (i:=i) hY hV (by rw[e1];exact hi) (by rw[e1];exact h2) (by rw[e1];exact hl) (by rw[e1];exact hL) hne hYn hVn (w2 l) (w2 L);rw[e1,e1]at this;have el:(rp l i L).length=l.length+L.length - 1:=by simp[rp];omega
 obtain⟨q,g1,⟨N,g2,g3,g4,g5⟩,g6⟩ :=this;refine⟨q,g1,⟨N,g2,g3,by rw[g4,el],?_,fun x hx hy=>by rw[g5,if_neg hx,if_neg hy]⟩,g6⟩;rw[g5,if_pos rfl];simp[rp,fD]
def RWI(h0:T Ob)(hd:List Str)(stp:List CQ->Option (Nat×List CQ))(fv:D)(c0:Nat)(r:Option (List CQ))(k:Nat)(s:St):Prop:=∃(l:List CQ) (dq:D),RwN hd stp k l r/\(s.tm.get 1=some (fv)/\s.tm.get 2=some (.ptr c0 2 0 0)/\s.tm.get 4=some (.ptr (c0+1) 2 0 0))/\s.h.get c0=some (.arr 2 0 [[.f (zav hd),dq]])/\s.h.get (c0+1)=some (.arr 2 0 [[.f .nils,.f .nils]])/\QE s.h (c0+2) s.c dq l/\c0+2≤s.c/\Frm h0 s.h c0
def RWR(h0:T Ob)(hd:List Str)(c0:Nat)(r:Option (List CQ))(x:Ex)(s:St):Prop:=x= .ret/\∃(e1 e2:D) (e:Int),(s.tm.get 4=some (.ptr (c0+1) 2 0 0)/\s.tm.get 5=some (.f (.i .i64 e)))/\s.h.get (c0+1)=some (.arr 2 0 [[e1,e2]])/\Frm h0 s.h c0/\c0+2≤s.c/\match r with
 |none=>e=4/\e1= .f .nils/\e2= .f .nils
 |some l=>e=0/\e1= .f (zav hd)/\QE s.h (c0+2) s.c e2 l
def RwP(hd:List Str)(r:Option (List CQ))(c0:Nat)(d:D)(h':T Ob)(c':Nat):Prop:=match r with
 |none=>d= .tu [.ag [.f .nils,.f .nils],.f (.i .i64 4)]
 |some l=>∃dq,d= .tu [.ag [.f (zav hd),dq],.f (.i .i64 0)]/\QE h' c0 c' dq l
set_option maxHeartbeats 4000000 in
theorem zDx{hd:List Str}{l0:List CQ}(hQ0:QG hd l0){stp:List CQ->Option (Nat×List CQ)}{g:Nat}{fv:D}(hfv:zc1 fv=some (g,[],[]))(hcl:∀l,QG hd l->∀(h:T Ob) (c:Nat) (dq:D),QD h c dq l->Eff pr g [.ag [.f (zav hd),dq]] h c (StP (stp l) h c)){k:Nat}{r:Option (List CQ)}(hR:RwN hd stp k (zaV hd l0) r){h:T Ob}{c0:Nat}:
  Eff pr 31 [.ag [.f (zav hd),.f (qsF l0)],fv] h c0 fun d h' c'=>Frm h h' c0/\RwP hd r c0 d h' c':=by
 refine zcG za8 fn31 ?_;simp only[g31,rU];have n01:¬(c0=c0+1):=by omega
 simp -implicitDefEqProofs [rW,st0,zaj,zaS,zeF,n01];refine zcS rfl rfl (zxR hQ0) ?_;rintro d H c1 lw1 mx1 ⟨hF1,dq,rfl,hQE⟩ hcc;simp only[rG]at hF1 hQE hcc;have k0:=hF1 c0 (by omega);have k1:=hF1 (c0+1) (by omega);simp[Vse.T.zad,n01]at k0 k1;simp -implicitDefEqProofs [rW,k0];refine⟨by omega,zk8 (RWI h hd stp fv c0 r) (RWR h hd c0 r) ?_ k _ ?_ ?_⟩
 ·rintro k s ⟨l,dq,hR,⟨h1,h2,h4⟩,g0,g1,hE,hlo,hF⟩;have hlen:=znn hE.d;have n10:¬(c0+1=c0):=by omega
  have fin:∀(H:T Ob) (o:Option Ob) (x:Nat),x<c0->Frm h H c0->(if x=c0+1 then o else H.get x)=h.get x:=fun H o x hx hF=>by
   have y:¬(x=c0+1):=by omega
   rw[if_neg y];exact hF x hx
  cases hR with
  |big hQ hb=>
   have hb':(64:Int)<l.length:=by omega
   simp -implicitDefEqProofs [rW,h1,h2,h4,g0,g1,hlen,hb'];refine⟨by omega,rfl,.f .nils,.f .nils,4,?_,?_,fun x hx=> ?_,?_,rfl,rfl,rfl⟩
   ·simp -implicitDefEqProofs [rW,h4]
   ·simp -implicitDefEqProofs [rW,]
   ·simp -implicitDefEqProofs [rW,];exact fin _ _ x hx hF
   ·simp -implicitDefEqProofs [rW,hlo]
  |stop hQ hb hs=>
   have hb':¬(64:Int)<l.length:=by omega
   simp -implicitDefEqProofs [rW,h1,h2,h4,g0,g1,hlen,hb',hfv];refine zcS rfl rfl (hcl l hQ _ _ _ hE.d) ?_;rintro d H c1 lw1 mx1 ⟨hF1,hd1⟩ hcc;rw[hs]at hd1;subst hd1;simp only[rG]at hF1 hcc;have k0:=hF1 c0 (by omega);have k1:=hF1 (c0+1) (by omega);rw[g0]at k0;rw[g1]at k1;simp -implicitDefEqProofs [rW,h1,h2,h4,k0,k1];refine⟨by omega,rfl,.f (zav hd),dq,0,?_,?_,fun x hx=> ?_,?_,rfl,rfl,hE.up (fun x h1 h2=> ?_) ?_⟩
   ·simp -implicitDefEqProofs [rW,h4]
   ·simp -implicitDefEqProofs [rW,]
   ·simp -implicitDefEqProofs [rW,];exact fin _ _ x hx fun x hx=>by rw[hF1 x (by omega)];exact hF x hx
   ·simp -implicitDefEqProofs [rW,];omega
   ·have y:¬(x=c0+1):=by omega
    simp -implicitDefEqProofs [rW,y];exact hF1 x h2
   ·simp -implicitDefEqProofs [rW,];omega
  | @too _ _ i L hQ hb hs hi hL2 h3 hr4=>
   have hb':¬(64:Int)<l.length:=by omega
   have hE0:=hE;rcases hE with⟨-,e⟩ |⟨Y,rfl,hne,hY,hY1,hY2⟩
   ·rw[e]at hi;simp at hi
   simp -implicitDefEqProofs [rW,h1,h2,h4,g0,g1,hb',hfv];refine zcS rfl rfl (hcl l hQ _ _ _ hE0.d) ?_;rintro d H c1 lw1 mx1 ⟨hF1,hd1⟩ hcc;rw[hs]at hd1;obtain⟨V,ex,rfl,hV,hV1,hV2⟩ :=hd1;simp only[rG]at hF1 hcc hV hV1 hV2;have k0:=hF1 c0 (by omega);have k1:=hF1 (c0+1) (by omega);have kY:=hF1 Y (by omega);rw[g0]at k0;rw[g1]at k1;rw[hY]at kY;have hL0:¬(L.length=0):=by omega
   have hw:=zaC i (by have:=hQ.2.1;omega);simp -implicitDefEqProofs [rW,h1,h2,h4,k0,k1,hL0,hw];refine zcS rfl rfl (zxW kY hV hi hL2 hQ.2.1 (by omega) (by omega) (by simp only[rG];omega) (by simp only[rG];omega)) ?_;rintro d H2 c2 lw2 mx2 ⟨N,hN1,hN2,rfl,hN,hH2⟩ hcc2;simp only[rG]at hN1 hN hH2 hcc2;have m0:=hH2 c0 (by omega) (by omega);have m1:=hH2 (c0+1) (by omega) (by omega);rw[k0]at m0;rw[k1]at m1;have nN:¬(N=c0):=by omega
   have hb2:(64:Int)< (rp l i L).length:=by omega
   have hlow:∀x,x<c0->H2.get x=h.get x:=fun x hx=>by
    rw[hH2 x (by omega) (by omega),hF1 x (by omega)];exact hF x hx
   simp -implicitDefEqProofs [rW,h1,h2,h4,m0,m1,hb2,n10,n01];refine⟨by omega,by omega,rfl,.f .nils,.f .nils,4,?_,?_,fun x hx=> ?_,?_,rfl,rfl,rfl⟩
   ·simp -implicitDefEqProofs [rW,h4]
   ·simp -implicitDefEqProofs [rW,]
   ·have y:¬(x=c0):=by omega
    have y1:¬(x=c0+1):=by omega
    simp -implicitDefEqProofs [rW,y,y1];exact hlow x hx
   ·simp -implicitDefEqProofs [rW,];omega
  | @go k _ i L _ hQ hb hs hi hL2 h3 hr4 hG hR'=>
   have hb':¬(64:Int)<l.length:=by omega
   have hE0:=hE;rcases hE with⟨-,e⟩ |⟨Y,rfl,hne,hY,hY1,hY2⟩
   ·rw[e]at hi;simp at hi
   simp -implicitDefEqProofs [rW,h1,h2,h4,g0,g1,hb',hfv];refine zcS rfl rfl (hcl l hQ _ _ _ hE0.d) ?_;rintro d H c1 lw1 mx1 ⟨hF1,hd1⟩ hcc;rw[hs]at hd1;obtain⟨V,ex,rfl,hV,hV1,hV2⟩ :=hd1;simp only[rG]at hF1 hcc hV hV1 hV2;have k0:=hF1 c0 (by omega);have k1:=hF1 (c0+1) (by omega);have kY:=hF1 Y (by omega);rw[g0]at k0;rw[g1]at k1;rw[hY]at kY;have hL0:¬(L.length=0):=by omega
   have hw:=zaC i (by have:=hQ.2.1;omega);simp -implicitDefEqProofs [rW,h1,h2,h4,k0,k1,hL0,hw];refine zcS rfl rfl (zxW kY hV hi hL2 hQ.2.1 (by omega) (by omega) (by simp only[rG];omega) (by simp only[rG];omega)) ?_;rintro d H2 c2 lw2 mx2 ⟨N,hN1,hN2,rfl,hN,hH2⟩ hcc2;simp only[rG]at hN1 hN hH2 hcc2;have m0:=hH2 c0 (by omega) (by omega);have m1:=hH2 (c0+1) (by omega) (by omega);rw[k0]at m0;rw[k1]at m1;have nN:¬(N=c0):=by omega
   have hb2:¬(64:Int)< (rp l i L).length:=by omega
   have hlow:∀x,x<c0->H2.get x=h.get x:=fun x hx=>by
    rw[hH2 x (by omega) (by omega),hF1 x (by omega)];exact hF x hx
   simp -implicitDefEqProofs [rW,h1,h2,h4,m0,m1,hb2,n10,n01];refine⟨by omega,?_⟩;have hne2:rp l i L≠[]:=by
    intro e;have:(rp l i L).length=l.length+L.length - 1:=by simp[rp];omega
    rw[e]at this;simp at this;omega
   refine zcS rfl rfl (zKb hG (.inr ⟨N,rfl,hne2,?_,?_⟩)) ?_
   ·simp only[rG];rw[Vse.T.zad,if_neg nN];exact hN
   ·simp only[rG];exact hN2
   rintro d H3 c3 lw3 mx3 ⟨hF3,dq3,rfl,hE3⟩ hcc3;simp only[rG]at hF3 hE3 hcc3;simp only[zyM,ne_eq,Option.some.injEq]at hF3;have p0:=hF3 c0 (by omega) (by omega);have p1:=hF3 (c0+1) (by omega) (by omega);rw[Vse.T.zad,if_pos rfl]at p0;rw[Vse.T.zad,if_neg n10,m1]at p1;simp -implicitDefEqProofs [rW,h1,h2,h4,p0];refine⟨by omega,k,by omega,zaV hd (rp l i L),dq3,hR',?_,?_,?_,?_,?_,fun x hx=> ?_⟩
   ·simp -implicitDefEqProofs [rW,h1,h2,h4]
   ·simp -implicitDefEqProofs [rW,]
   ·simp -implicitDefEqProofs [rW,n10,p1]
   ·rcases hE3 with h|⟨id,a1,a2,a3,a4,a5⟩
    ·exact .inl h
    ·refine .inr ⟨id,a1,a2,?_,by omega,?_⟩
     ·have y:¬(id=c0):=by omega
      simp -implicitDefEqProofs [rW,y,a3]
     ·simp -implicitDefEqProofs [rW,a5]
   ·simp -implicitDefEqProofs [rW,];omega
   ·have y:¬(x=c0):=by omega
    simp -implicitDefEqProofs [rW,y];rw[hF3 x (by omega) (by omega),Vse.T.zad,if_neg y];exact hlow x hx
 ·refine⟨zaV hd l0,dq,hR,?_,?_,?_,hQE.up (fun x h1 h2=> ?_) (by simp -implicitDefEqProofs [rW,]),?_,fun x hx=> ?_⟩
  ·simp -implicitDefEqProofs [rW,]
  ·simp -implicitDefEqProofs [rW,n01]
  ·have y:¬(c0+1=c0):=by omega
   simp -implicitDefEqProofs [rW,y,k1]
  ·have y:¬(x=c0):=by omega
   simp -implicitDefEqProofs [rW,y]
  ·simp -implicitDefEqProofs [rW,];omega
  ·have y:¬(x=c0):=by omega
   simp -implicitDefEqProofs [rW,y];rw[hF1 x (by omega)];have y2:¬(x=c0+1):=by omega
   simp[Vse.T.zad,y,y2]
 ·rintro x s ⟨rfl,e1,e2,e,⟨h4,h5⟩,g1,hF,hlo,hr⟩;simp -implicitDefEqProofs [rW,h4,h5,g1,zbR];cases r with
  |none=>
   obtain⟨rfl,rfl,rfl⟩ :=hr;exact⟨⟨hF,rfl⟩,fun _ _ _=>⟨fun _ _=>rfl,rfl⟩⟩
  |some l=>
   obtain⟨rfl,rfl,hE⟩ :=hr;have hE2:QE s.h c0 s.c e2 l:=by
    rcases hE with h|⟨id,a1,a2,a3,a4,a5⟩
    ·exact .inl h
    ·exact .inr ⟨id,a1,a2,a3,by omega,a5⟩
   refine⟨⟨hF,_,rfl,hE2⟩,fun _ _ hf=>⟨fun _ _=>rfl,_,rfl,?_⟩⟩;rcases hE with h|⟨id,rfl,-⟩
   ·exact .inl h
   ·cases hf
theorem zyV{h:T Ob}{lo c:Nat}{d:D}{l:List CQ}(H:QE h lo c d l)(k:Nat):∃rd,frz h.get (k+2) d=some (qsF l,rd):=by
 rcases H with⟨rfl,rfl⟩ |⟨id,rfl,hne,hg,-,-⟩
 ·exact⟨[],rfl⟩
 ·have hl:(fD (l.map cqF)).length=l.length:=by rw[zgb,List.length_map]
  have e:=zgW h.get k (l.map cqF);have e2:((fD (l.map cqF)).drop 0).take l.length=(l.map cqF).map fun a=>a.map D.f:=by
   rw[List.drop_zero,<-hl,List.take_length];rfl
  refine⟨[id],?_⟩;rw[zdf,hg,zaT,zcH,if_pos ⟨rfl,by rw[hl];omega⟩,e2,e,zaT,zcz (by simpa using hne)];rfl
theorem zlV{h:T Ob}{lo c:Nat}{d:D}{l:List CQ}(H:QE h lo c d l):d.cells=some [d]:=by
 rcases H with⟨rfl,-⟩ |⟨id,rfl,-⟩ <;>rfl
def rwF(hd:List Str)(r:Option (List CQ)):F:=match r with
 |none=> .tu [.ag [.nils,.nils],.i .i64 4]
 |some l=> .tu [.ag [zav hd,qsF l],.i .i64 0]
theorem zpJ{hd:List Str}{l0:List CQ}(hQ0:QG hd l0){k:Nat}{r:Option (List CQ)}(hR:RwN hd (shS hd) k (zaV hd l0) r):Ans pr 11 [.ag [zav hd,qsF l0]] (rwF hd r):=by
 refine zcm fn11 ?_;simp only[g11,rU];simp -implicitDefEqProofs [rW,st0,zaj,zaS,zeF];refine zcS rfl rfl (zDx hQ0 (stp:=shS hd) (fv:= .f (.fn 32)) rfl (fun l hQ h c dq hD=>eff32 hd l hQ hD) hR) ?_;rintro d H c1 lw1 mx1 ⟨hF1,hP⟩ hcc;simp only[rG]at hF1 hP hcc;have k1:=hF1 1 (by omega);simp[Vse.T.zad]at k1;cases r with
 |none=>
  simp only[RwP]at hP;subst hP;simp -implicitDefEqProofs [rW,k1];exact⟨by omega,rfl⟩
 |some l=>
  obtain⟨dq,rfl,hE⟩ :=hP;have hE2:=hE.up (h':=H.set 1 (.arr 2 0 [[.f (zav hd),dq]])) (fun x h1 h2=>by
   have y:¬(x=1):=by omega
   simp[Vse.T.zad,y]) (Nat.le_refl _)
  obtain⟨rd,hz⟩ :=zyV hE2 8;have hz:frz (H.set 1 (.arr 2 0 [[.f (zav hd),dq]])).get 10 dq=some (qsF l,rd):=hz;simp -implicitDefEqProofs [rW,k1,hz,zlV hE];exact⟨by omega,rfl⟩
theorem fn24:pr.fn 24=some g24:=by kernel_rfl
theorem fn55:pr.fn 55=some g55:=by kernel_rfl
theorem fn57:pr.fn 57=some g57:=by kernel_rfl
theorem zvD:pr.fn 23=some g23:=by kernel_rfl
theorem zeE(a:Int)(m:Nat)(hm:m<2147483648):∃r:Nat,r≤m/\zbh .and (.i .i64 a) (.i .i64 m)=some (.i .i64 r):=by
 refine⟨(BitVec.ofInt 64 a&&& BitVec.ofInt 64 m).toNat,?_,?_⟩
 ·rw[BitVec.toNat_and];refine Nat.le_trans Nat.and_le_right ?_;rw[BitVec.toNat_ofInt];omega
 ·have hle:(BitVec.ofInt 64 a&&& BitVec.ofInt 64 m).toNat≤m:=by
   rw[BitVec.toNat_and];refine Nat.le_trans Nat.and_le_right ?_;rw[BitVec.toNat_ofInt];omega
  have e:zbh .and (.i .i64 a) (.i .i64 m)=some (.i .i64 (IntKind.i64.wrap ((BitVec.ofInt 64 a&&& BitVec.ofInt 64 m).toNat:Int))):=rfl;rw[e,wrap_i64 _ (by omega) (by omega)]
def zgd(x:F):Prop:=x= .nils\/∃zs:List Int,x= .sl 1 (zs.map fun z=>[.i .i64 z])
theorem zgu(a b:Nat)(hb:b≠0):zbh .rem (.i .i64 a) (.i .i64 b)=some (.i .i64 ((a%b:Nat):Int)):=by
 rw[zGj _ _ (by omega)];rfl
theorem zLr(f:A->Option D)(x:A):(O.s2b x).res f=(f x).bind fun y=>some (.s2b y):=rfl
theorem zK5(f:A->Option D)(x:A):(O.b2s x).res f=(f x).bind fun y=>some (.b2s y):=rfl
theorem o_s2b{pr:Pr}{s:St}{Q:St->Prop}{dst:Option Nat}{l:List Go.Vse.Op}{x:A}:wpO pr (⟨dst,none,.s2b x⟩ ::l) s Q↔oB (((O.s2b x).res (zab s.tm)).bind (opv s.h.get s.c)) fun r=>zau r.c r.wr=true/\wpO pr l (s.aft dst r.d r.wr r.c) Q:=zcX rfl
theorem o_b2s{pr:Pr}{s:St}{Q:St->Prop}{dst:Option Nat}{l:List Go.Vse.Op}{x:A}:wpO pr (⟨dst,none,.b2s x⟩ ::l) s Q↔oB (((O.b2s x).res (zab s.tm)).bind (opv s.h.get s.c)) fun r=>zau r.c r.wr=true/\wpO pr l (s.aft dst r.d r.wr r.c) Q:=zcX rfl
def byE(l:Str):List (List D):=l.map fun x=>[D.f (.i .u8 x.toNat)]
theorem v_s2b{h:Nat->Option Ob}{c:Nat}{l:Str}(hl:l≠[]):opv h c (.s2b (.f (.s l)))=some {d:= .sl c 0 l.length 1 l.length false,wr:=[(c,some (.arr 1 0 (byE l)))],c:=c+1}:=by
 simp[opv,hl,byE]
theorem zCS:∀l:Str,zde (byE l)=some l
 |[]=>rfl
 |x::l=>by
  have:=zCS l;simp only[byE,List.map_cons,zde]at this⊢;rw[this];simp
theorem v_b2s{h:Nat->Option Ob}{c id len lim:Nat}{ex:Bool}{l:Str}(hg:h id=some (.arr 1 0 (byE l)))(hl:l.length=len):opv h c (.b2s (.sl id 0 len 1 lim ex))=some {d:= .f (.s l),rd:=[id],c:=c}:=by
 have h1:(byE l).length=l.length:=by simp[byE]
 have h2:elemsOf 1 h (.sl id 0 len 1 lim ex)=some (byE l,[id]):=by
  rw[zvv,hg,zaT,znV,if_pos ⟨rfl,rfl,by omega⟩,List.drop_zero,<-hl,<-h1,List.take_length]
 simp only[opv,h2,zCS]
theorem zHA(a b:Nat)(hb:b≠0)(ha:a<1000000):zbh .quo (.i .i64 a) (.i .i64 b)=some (.i .i64 ((a/b:Nat):Int)):=by
 have:=Nat.div_le_self a b;rw[zGi _ _ (by omega),show(a:Int).tdiv b=((a/b:Nat):Int)from rfl];generalize a/b=q at*;rw[wrap_i64 _ (by omega) (by omega)]
theorem zF3(a b:Nat)(ha:a<1000000)(hb:b<1000000):IntKind.i64.wrap ((a:Int)+b)=((a+b:Nat):Int):=by
 rw[wrap_i64 _ (by omega) (by omega)];omega
theorem ans55{x:F}(hx:zgd x)(i:Nat)(hi:i<1000):∃n:Nat,n<100000/\Ans pr 55 [x,.i .i64 i] (.i .i64 n):=by
 obtain⟨r0,hr0,he0⟩ :=zeE i 65535 (by omega);have he0':zbh .and (.i .i64 i) (.i .i64 65535)=some (.i .i64 r0):=he0;have nil:zcn (.f .nils)=some 0:=rfl
 by_cases hz:x= .nils\/x= .sl 1 []
 ·refine⟨r0,by omega,zcm fn55 ?_⟩;simp only[g55,rU];rcases hz with rfl|rfl
  ·simp -implicitDefEqProofs [rW,st0,zaj,he0']
  ·simp -implicitDefEqProofs [rW,st0,zaj,he0',F.d]
 ·rcases hx with rfl|⟨zs,rfl⟩
  ·exact absurd (.inl rfl) hz
  ·have hz:zs≠[]:=fun e=>hz (.inr (by rw[e];rfl))
   have hlen:0<zs.length:=List.length_pos_iff.2 hz;have hn0:¬zs.length=0:=by omega
   have hni:¬((zs.length:Int)=0):=by omega
   have hmod:i%zs.length<zs.length:=Nat.mod_lt _ hlen;have hrem:=zgu i zs.length hn0;have hquo:=zHA i zs.length hn0 (by omega);have hdl:i/zs.length≤i:=Nat.div_le_self _ _;generalize i%zs.length=m at hmod hrem;generalize i/zs.length=d at hquo hdl;obtain⟨r,hr,he⟩ :=zeE zs[m] 65535 (by omega);have he':zbh .and (.i .i64 zs[m]) (.i .i64 65535)=some (.i .i64 r):=he;have hx:zs[m]? =some zs[m]:=List.getElem?_eq_getElem hmod;have hw:=zF3 r d (by omega) (by omega);refine⟨r+d,by omega,zcm fn55 ?_⟩;simp only[g55,rU];simp -implicitDefEqProofs [rW,st0,zaj,hni,hn0,F.d];refine zbY ?_;simp -implicitDefEqProofs [rW,st0,zaj,hrem,hquo,hmod,he',hx,hw,F.d]
theorem bin8(a b:Int):zbh .eql (.i .u8 a) (.i .u8 b)=some (.b (a==b)):=rfl
theorem zyk{R:Str}(h:R≠[]):hd8 (byE R)=true:=by
 cases R with
 |nil=>exact absurd rfl h
 |cons a l=>rfl
def JR(r z:Nat)(p:Str)(n:Nat)(s:St):Prop:=(s.tm.get 1=some (.f (.i .i64 z))/\s.tm.get 4=some (.ptr 0 2 0 0)/\s.tm.get 5=some (.sl 1 0 p.length 1 p.length false)/\s.tm.get 6=some (.f (.i .i64 n))/\s.h.get 0=some (.arr 2 0 [[.f .nils,.f .nils]])/\s.h.get 1=some (.arr 1 0 (byE ((p.take n).map (rb r)++p.drop n))))/\2≤s.c
theorem ans57(p:Str)(z:Nat)(c:CQ)(hp:p≠[])(hl:p.length<1000)(h:Ans pr 54 [.s (p.map (rb (z%3)))] (.tu [.ag [.nils,.sl 2 [cqF c]],.i .i64 0])):Ans pr 57 [.s p,.i .i64 z] (.ag (cqF c)):=by
 refine zcm fn57 ?_;simp only[g57,rU];have hs2b:=fun h c=>v_s2b (h:=h) (c:=c) hp
 have hrem:=zgu z 3 (by omega);rw[show((3:Nat):Int)=3 from rfl]at hrem;have hr3:z%3<3:=Nat.mod_lt _ (by omega);generalize z%3=r at h hrem hr3;have q76:=fun k=>zay (k:=k) h
 have hbl:∀n,((p.take n).map (rb r)++p.drop n).length=p.length:=fun n=>by simp;omega
 simp -implicitDefEqProofs [rW,st0,zaj,o_s2b,zLr,hs2b];refine zpP p (fun(x:Unit) _=>x) () (fun n _ s=>JR r z p n s) (fun x s=>x= .exit 0/\JR r z p p.length s) ?_ ?_ _ ?_ ?_
 ·rintro n a s hn - ⟨⟨h1,h4,h5,h6,g0,g1⟩,hc⟩;have hw:=zaC n (by omega);have hL:=hbl n;have hx:((p.take n).map (rb r)++p.drop n)[n]? =some p[n]:=by
   rw[List.getElem?_append_right (by simp;omega)];simp[hn,Nat.min_eq_left (Nat.le_of_lt hn)]
  have hnx:(p.take (n+1)).map (rb r)++p.drop (n+1)=((p.take n).map (rb r)++p.drop n).set n (rb r p[n]):=by
   have e:n - (List.map (rb r) (List.take n p)).length=0:=by simp;omega
   rw[List.set_append_right _ _ (by simp;omega),e,List.take_succ_eq_append_getElem hn,List.drop_eq_getElem_cons hn,List.map_append,List.append_assoc];rfl
  generalize hR:(p.take n).map (rb r)++p.drop n=R at*;have hbe:(byE R)[n]? =some [D.f (.i .u8 p[n].toNat)]:=by simp[byE,hx]
  have hbn:(byE R).length=p.length:=by simp[byE,hL]
  have hbg:∀h:n< (byE R).length,(byE R)[n]=[D.f (.i .u8 p[n].toNat)]:=fun h=>by
   rw[List.getElem?_eq_getElem h]at hbe;exact Option.some.inj hbe
  have hst:(byE R).set n [D.f (.i .u8 (rb r p[n]).toNat)]=byE (R.set n (rb r p[n])):=by
   unfold byE;rw[List.map_set]
  have hR0:R≠[]:=fun e=>by rw[e]at hL;simp at hL;omega
  have h81:=zyk hR0
  by_cases h64:p[n]=64
  ·have hcv:IntKind.u8.wrap (49+(r:Int))=((rb r 64).toNat:Int):=by
    obtain rfl|rfl|rfl:r=0\/r=1\/r=2:=by omega
    all_goals rfl
   have hv:IntKind.i64.wrap (49+(r:Int))=49+(r:Int):=wrap_i64 _ (by omega) (by omega);rw[h64]at hbg hst hnx;have h82:=zyk (R:=R.set n (rb r 64)) (by simpa using hR0);simp -implicitDefEqProofs [rW,h1,h4,h5,h6,g0,g1,hn,hbg,hbn,hrem,hv,hcv,bin8,hst,h81,h82];refine⟨by omega,⟨?_,?_⟩⟩
   ·simp -implicitDefEqProofs [rW,h1,h4,h5,h6,g0,g1,hw,hnx];rw[<-hnx,List.map_take]
   ·simp -implicitDefEqProofs [rW,hc]
  ·have hne:¬((p[n].toNat:Int)=64):=fun e=>h64 (UInt8.toNat_inj.1 (by have:UInt8.toNat 64=64:=rfl;omega))
   have hrb:rb r p[n]=p[n]:=by unfold rb;rw[if_neg h64]
   rw[hrb,<-Option.some.inj ((List.getElem?_eq_getElem (by omega)).symm.trans hx),List.set_getElem_self]at hnx;simp -implicitDefEqProofs [rW,h1,h4,h5,h6,g0,g1,hn,hbg,hbn,h64,bin8,hne];refine⟨?_,?_⟩
   ·simp -implicitDefEqProofs [rW,h1,h4,h5,h6,g0,g1,hw,hnx];rw[<-hnx,List.map_take]
   ·simp -implicitDefEqProofs [rW,hc]
 ·rintro s ⟨⟨h1,h4,h5,h6,g0,g1⟩,hc⟩;simp -implicitDefEqProofs [rW,h1,h4,h5,h6,g0,g1];refine⟨?_,?_⟩
  ·simp -implicitDefEqProofs [rW,h1,h4,h5,h6,g0,g1]
  ·simp -implicitDefEqProofs [rW,hc]
 ·refine⟨?_,?_⟩
  ·simp -implicitDefEqProofs [rW,]
  ·simp -implicitDefEqProofs [rW,]
 ·rintro x s ⟨rfl,⟨h1,h4,h5,h6,g0,g1⟩,hc⟩;rw[List.take_length,List.drop_length,List.append_nil]at g1;have hb2s:=fun(h:Nat->Option Ob) c (hg:h 1=some (.arr 1 0 (byE (p.map (rb r)))))=>v_b2s (c:=c) (lim:=p.length) (ex:=false) hg (len:=p.length) (by simp)
  have n0:¬(0=s.c):=by omega
  have n0':¬(s.c=0):=by omega
  simp only[cqE]at q76⊢;simp -implicitDefEqProofs [rW,h1,h4,h5,h6,g0,g1,o_b2s,zK5,hb2s,q76,n0,n0',za7,za4]
theorem pick{L:List (List F)}(h:∀x∈L,RdX x){j:Nat}(hj:j<L.length)(z:Nat):∃c∈CQl,∃p,L[j]? =some [.s p]/\Ans pr 57 [.s p,.i .i64 z] (.ag (cqF c)):=by
 obtain⟨p,e,h1,h2,h3⟩ :=h L[j] (List.getElem_mem hj);obtain⟨c,hc,q⟩ :=h3 (z%3) (Nat.mod_lt _ (by omega));exact⟨c,hc,p,by rw[List.getElem?_eq_getElem hj,e],ans57 p z c h1 h2 q⟩
theorem ans24(n:Int):∃c∈CQl,Ans pr 24 [.i .i64 n] (.ag (cqF c)):=by
 obtain⟨r,hr,he⟩ :=zeE n 65535 (by omega);obtain⟨z,hz⟩ :∃z:Int,zbh .shr (.i .i64 n) (.i .u64 6)=some (.i .i64 z):=⟨_,rfl⟩
 obtain⟨k,hk,hke⟩ :=zeE z 7 (by omega);have he':zbh .and (.i .i64 n) (.i .i64 65535)=some (.i .i64 r):=he;have hke':zbh .and (.i .i64 z) (.i .i64 7)=some (.i .i64 k):=hke;have hrem:=zgu r 24 (by omega);rw[show((24:Nat):Int)=24 from rfl]at hrem;have hpl:paL.length=24:=rfl;have hj:r%24<paL.length:=by rw[hpl];exact Nat.mod_lt _ (by omega)
 generalize r%24=j at hrem hj;obtain⟨c,hc,p,hp,h38⟩ :=pick rdA hj k;have hp2:∀h:j<paL.length,paL[j]=[.s p]:=fun h=>by
  rw[List.getElem?_eq_getElem h]at hp;exact Option.some.inj hp
 simp only[cqE]at h38;rw[hpl]at hj;have q37:=fun k=>zay (k:=k) zCK
 have q38:=fun k=>zay (k:=k) h38
 refine⟨c,hc,zcm fn24 ?_⟩;simp only[g24,rU];simp -implicitDefEqProofs [rR,st0,zaj,q37,he',hz,hke',hrem,hp,hpl,hp2,hj,q38,cqE,za7,za4]
theorem atZ{x:F}(hx:zgd x):∃z:Nat->Nat,∀i,i<1000->z i<100000/\Ans pr 55 [x,.i .i64 i] (.i .i64 (z i)):=by
 have:∀i:Nat,∃n:Nat,i<1000->n<100000/\Ans pr 55 [x,.i .i64 i] (.i .i64 n):=fun i=>by
  by_cases hi:i<1000
  ·obtain⟨n,h⟩ :=ans55 hx i hi;exact⟨n,fun _=>h⟩
  ·exact⟨0,fun h=>absurd h hi⟩
 exact Classical.skolem.1 this
theorem zk5{x:F}(hx:zgd x):x.d= .f x:=by
 rcases hx with rfl|⟨zs,rfl⟩
 ·rfl
 ·rfl
theorem zoh{h:T Ob}{lo c id:Nat}{l:List Str}(hl:l≠[])(hg:h.get id=some (.arr 1 0 (za3 l)))(h1:lo≤id)(h2:id<c):Own h lo c (.sl id 0 l.length 1 l.length true) (zav l):=by
 refine⟨.inr ⟨_,_,_,_,_,_,rfl⟩,rfl,fun x hx=> ?_,fun h' hh k=>⟨[id],?_⟩⟩
 ·simp only[D.oid,Option.some.injEq]at hx;omega
 ·rw[zdf,hh id rfl,hg,zaT,zcH];simp only[true_and,Nat.zero_add,zeI,Nat.le_refl,if_true,List.drop_zero,zzP,zrY,zaT];rw[zrZ hl]
theorem zwL(cf:Nat->CQ)(n:Nat):(List.range (n+1)).map cf=(List.range n).map cf++[cf n]:=by
 rw[List.range_succ,List.map_append];rfl
theorem clF{cf:Nat->CQ}(h:∀i,cf i∈CQl)(n:Nat):∀c∈(List.range n).map cf,CqN 1 c:=by
 intro c hc;obtain⟨i,_,rfl⟩ :=List.mem_map.1 hc;exact zC9 _ (h i)
def QN(l:List CQ):Prop:=l≠[]/\l.length≤3/\∀c∈l,CqN 1 c
def b12:C:= .seq (oD [oM 25 7,oM 26 0,oR 27 (.callp 55 [(.t 26),(.k (.i .i64 1))]),oR 28 (.bin .rem (.t 27) (.k (.i .i64 2))),oR 29 (.bin .leq (.t 25) (.t 28))] 29 .skip (.exit 1))
 (.seq (.blk 2 (.dreg [(oF 32 1 3,0),(oK 33 1 32,0),(oM 34 5,3),(oM 35 0,7),(oM 36 7,15),(oR 37 (.bin .add (.k (.i .i64 2)) (.t 36)),15),(oR 38 (.callp 55 [(.t 35),(.t 37)]),7),(oM 39 6,127),(oR 40 (.bin .rem (.t 38) (.t 39)),7),(oI 41 1 34 40,3),(oK 42 1 41,3),(oM 43 0,2047),(oM 44 7,4095),(oR 45 (.bin .add (.k (.i .i64 4)) (.t 44)),4095),(oR 46 (.callp 55 [(.t 43),(.t 45)]),1927),(oR 47 (.callp 57 [(.t 42),(.t 46)]),3),(oR 48 (.bsf 2 [.nils,.nils] 1 [(0,(.t 47))]),3),(oR 49 (.app 2 48 (.t 33) (.t 48)),0),(oF 50 1 3,0),(oS 1 50 49,0)]))
 (.reg [oM 30 7,oR 31 (.bin .add (.t 30) (.k (.i .i64 1))),oM 7 31]))
def XQ(hp0:T Ob)(x:F)(hd:List Str)(L:List CQ)(P:Nat)(s:St):Prop:=∃d dh,(s.tm.get 0=some (.f x)/\s.tm.get 2=some (.ptr 1 2 0 0)/\s.tm.get 3=some (.ptr 2 2 0 0)/\s.h.get 1=some (.arr 2 0 [[.f .nils,.f .nils]])/\s.h.get 2=some (.arr 2 0 [[dh,d]]))/\3≤P/\P≤s.c/\Own s.h 3 P dh (zav hd)/\Gro s.h P s.c 2 d (zeW L)/\GZ s.h d/\s.h.get 0=hp0.get 0
theorem zv3{hp0:T Ob}{x:F}(hx:zgd x){z:Nat->Nat}(hz:∀i,i<1000->z i<100000/\Ans pr 55 [x,.i .i64 i] (.i .i64 (z i))){cf:Nat->CQ}{S:Nat}(hS:0<S/\S≤24)(hcf:∀i,∃p,paL[z (2+i)%S]? =some [.s p]/\Ans pr 57 [.s p,.i .i64 (z (4+i))] (.ag (cqF (cf i)))){hd:List Str}{P:Nat}{Q:Ex->St->Prop}(s:St)(h:XQ hp0 x hd [] P s)(h5:s.tm.get 5=some (.f (.sl 1 paL))/\s.tm.get 6=some (.f (.i .i64 S))/\s.tm.get 7=some (.f (.i .i64 0)))(hQ:∀s,XQ hp0 x hd ((List.range (z 1%2+1)).map cf) P s->Q (.exit 1) s):WL pr b12 s Q:=by
 have h36:Ans pr 55 [x,.i .i64 1] (.i .i64 (z 1)):=(hz 1 (by omega)).2;have q36:=fun k=>zay (k:=k) h36
 have hrem:=zgu (z 1) 2 (by omega);rw[show((2:Nat):Int)=2 from rfl]at hrem;have hm:z 1%2<2:=Nat.mod_lt _ (by omega);generalize z 1%2=m at hrem hm hQ;refine zk8 (fun k s=>∃n:Nat,(k=m+1 - n/\n≤m+1)/\XQ hp0 x hd ((List.range n).map cf) P s/\s.tm.get 5=some (.f (.sl 1 paL))/\s.tm.get 6=some (.f (.i .i64 S))/\s.tm.get 7=some (.f (.i .i64 n))) (fun e s=>e= .exit 1/\XQ hp0 x hd ((List.range (m+1)).map cf) P s) ?_ (m+1) _ ⟨0,⟨rfl,by omega⟩,h,h5⟩ (by rintro e s ⟨rfl,h⟩;exact hQ s h);clear h h5 hQ s;rintro k s ⟨n,⟨rfl,hn⟩,⟨d,dh,⟨h0,h2,h3,g1,g2⟩,hP,hPc,hO,hg,hgz,e00⟩,h5,h6,h7⟩;unfold b12;simp only[rU]
 by_cases hle:n≤m
 ·have h36n:=(hz (2+n) (by omega)).2;rw[Int.natCast_add,show((2:Nat):Int)=2 from rfl]at h36n;have q36n:=fun k=>zay (k:=k) h36n
  have h36m:=(hz (4+n) (by omega)).2;rw[Int.natCast_add,show((4:Nat):Int)=4 from rfl]at h36m;have q36m:=fun k=>zay (k:=k) h36m
  obtain⟨p,hp,h38⟩ :=hcf n;have hrem2:=zgu (z (2+n)) S (by omega);have hpl:paL.length=24:=rfl;have hj:z (2+n)%S<24:=Nat.lt_of_lt_of_le (Nat.mod_lt _ hS.1) hS.2;have hni:¬((S:Int)=0):=by omega
  have hn0:¬(S=0):=by omega
  generalize z (2+n)%S=j at*;have hp2:∀h:j<paL.length,paL[j]=[.s p]:=fun h=>by
   rw[List.getElem?_eq_getElem h]at hp;exact Option.some.inj hp
  have q38:=fun k=>zay (k:=k) h38
  have hw:=zaC n (by omega);have hw2:IntKind.i64.wrap (2+(n:Int))=2+(n:Int):=wrap_i64 _ (by omega) (by omega);have hw4:IntKind.i64.wrap (4+(n:Int))=4+(n:Int):=wrap_i64 _ (by omega) (by omega);simp only[cqE]at q38;simp -implicitDefEqProofs [rW,h0,h2,h3,h5,h6,h7,g1,g2,q36,hrem,hle];refine zbY ?_;simp -implicitDefEqProofs [rW,h0,h2,h3,h5,h6,h7,g1,g2,hw2,hw4,q36n,q36m,hni,hn0,hrem2,hp,hpl,hp2,hj,q38,cqE,za7,za4];refine zn0 (zbf hg (by omega) fun _ _ _=>rfl) hgz (by omega) (by rw[zhu];simp;omega) (by omega) ?_;intro r hr1 hr2 hr3 hr4 hr5 hr6;have e9:=hr4 0 (by omega) (zbz hg (by omega));have e0:=hr4 1 (by omega) (zbz hg (by omega));have e1:=hr4 2 (by omega) (zbz hg (by omega));rw[g1]at e0;rw[g2]at e1;rw[e00]at e9;refine⟨hr1,?_⟩;simp -implicitDefEqProofs [rW,e1,zbi hr2];rw[zdK];refine⟨by omega,m+1 - (n+1),by omega,n+1,⟨rfl,by omega⟩,⟨r.d,dh,?_,hP,?_,?_,?_,?_,?_⟩,?_⟩
  ·simp -implicitDefEqProofs [rW,h0,h2,h3,e0,e1]
  ·simp -implicitDefEqProofs [rW,];omega
  ·refine hO.up (fun y hy=> ?_) (Nat.le_refl _) (Nat.le_refl _);have hy2:=hO.2.2.1 y hy;have e:=hr4 y (by omega) (zbz hg (by omega));have ny:¬(y=2):=by omega
   simp -implicitDefEqProofs [rW,ny,e]
  ·rw[zwL,zoU];refine zbf hr2 (by simp -implicitDefEqProofs [rW,];omega) fun y h1 h2=> ?_
   have ny:¬(y=2):=by omega
   simp -implicitDefEqProofs [rW,ny]
  ·intro i es ro els h1 h2;have hi2:¬(i=2):=by
    intro e;subst e;exact zbz hr2 (show 2<P by omega) h1
   simp -implicitDefEqProofs [rW,hi2]at h2;exact hr6 i es ro els h1 h2
  ·simp -implicitDefEqProofs [rW,e9]
  ·simp -implicitDefEqProofs [rW,h5,h6,hw]
 ·have e:n=m+1:=by omega
  subst e;have hl:¬((m:Int)+1≤m):=by omega
  simp -implicitDefEqProofs [rW,h0,h2,h3,h5,h6,h7,g1,g2,q36,hrem,hl];refine⟨d,dh,?_,hP,?_,?_,?_,?_,?_⟩
  ·simp -implicitDefEqProofs [rW,h0,h2,h3,g1,g2]
  ·simp -implicitDefEqProofs [rW,];exact hPc
  ·simp -implicitDefEqProofs [rW,];exact hO
  ·simp -implicitDefEqProofs [rW,];exact hg
  ·simp -implicitDefEqProofs [rW,];exact hgz
  ·simp -implicitDefEqProofs [rW,];exact e00
theorem zvz{hp0:T Ob}{x:F}{hd:List Str}{L:List CQ}{P:Nat}{s:St}(h:XQ hp0 x hd L P s):∃d dh,(s.tm.get 2=some (.ptr 1 2 0 0)/\s.tm.get 3=some (.ptr 2 2 0 0)/\s.h.get 1=some (.arr 2 0 [[.f .nils,.f .nils]])/\s.h.get 2=some (.arr 2 0 [[dh,d]]))/\d.cells=some [d]/\dh.cells=some [dh]/\(∀x,dh.oid=some x->d.oid≠some x)/\3≤s.c/\∀H:T Ob,(∀y,y≠1->H.get y=s.h.get y)->∀c',s.c≤c'->Own H 1 c' dh (zav hd)/\Gro H 1 c' 2 d (zeW L)/\GZ H d/\H.get 0=hp0.get 0:=by
 obtain⟨d,dh,⟨h0,h2,h3,g1,g2⟩,hP,hPc,hO,hg,hz,e00⟩ :=h;refine⟨d,dh,⟨h2,h3,g1,g2⟩,zbi hg,hO.2.1,(fun x h1 h2=>by have:=hO.2.2.1 x h1;have:=zcI hg h2;omega),by omega,fun H hH c' hc=>⟨hO.up (fun y hy=>hH y (by have:=hO.2.2.1 y hy;omega)) (by omega) (by omega),?_,?_,by rw[hH 0 (by omega)];exact e00⟩⟩
 ·rcases hg with h|⟨id,ro,h1,h2,h3,h4,h5,h6⟩
  ·exact .inl h
  ·exact .inr ⟨id,ro,h1,h2,by rw[hH id (by omega)];exact h3,h4,by omega,by omega⟩
 ·intro i es ro els h1 h2;have:=zcI hg h1;rw[hH i (by omega)]at h2;exact hz i es ro els h1 h2
theorem zni{h h':T Ob}{lo lo' c c':Nat}{d:D}{X:F}(H:Own h lo c d X)(hd:d.isF=true):Own h' lo' c' d X:=by
 obtain⟨h1,h2,h3,h4⟩ :=H;rcases h1 with rfl|⟨a,b,e,f,g,x,rfl⟩
 ·exact⟨.inl rfl,h2,fun x hx=>by simp[D.oid]at hx,fun h'' _ k=>⟨[],rfl⟩⟩
 ·cases hd
theorem zmX{h h':T Ob}{lo lo' c c' es:Nat}{d:D}{els:List (List D)}(H:Gro h lo c es d els)(hd:d.isF=true):Gro h' lo' c' es d els:=by
 rcases H with H|⟨id,ro,rfl,-⟩
 ·exact .inl H
 ·cases hd
theorem zpR{h h':T Ob}{lo c es:Nat}{d:D}{els:List (List D)}(H:Gro h lo c es d els)(hd:d.isF=true):GZ h' d:=by
 rcases H with⟨rfl,-⟩ |⟨id,ro,rfl,-⟩
 ·intro i es ro els h;simp[D.oid]at h
 ·cases hd
theorem eff23{x:F}(hx:zgd x){hp0:T Ob}:∃hd l,hd.length<10/\QN l/\Eff pr 23 [.f x] hp0 1 fun d h' c'=>h'.get 0=hp0.get 0/\∃dh dl,d= .ag [dh,dl]/\Own h' 1 c' dh (zav hd)/\Gro h' 1 c' 2 dl (zeW l)/\GZ h' dl/\∀x,dh.oid=some x->dl.oid≠some x:=by
 obtain⟨z,hz⟩ :=atZ hx;have h0:Ans pr 55 [x,.i .i64 0] (.i .i64 (z 0)):=(hz 0 (by omega)).2;have q0:=fun k=>zay (k:=k) h0
 have q37:=fun k=>zay (k:=k) zCK
 have hpl:paL.length=24:=rfl;have hrem:=zgu (z 0) 4 (by omega);rw[show((4:Nat):Int)=4 from rfl]at hrem;have hr4:z 0%4<4:=Nat.mod_lt _ (by omega);generalize z 0%4=r at hrem hr4;obtain⟨cf,hcf⟩ :=Classical.skolem.1 fun i=>pick rdA (j:=z (2+i)%(if r=3 then 9 else 24)) (by rw[hpl];split<;>omega) (z (4+i))
 have hm:z 1%2<2:=Nat.mod_lt _ (by omega);have hc2:(D.f x).cells=some [.f x]:=by rcases hx with rfl|⟨zs,rfl⟩ <;>rfl
 have hQN:QN ((List.range (z 1%2+1)).map cf):=⟨by simp,by simp;omega,clF (fun i=>(hcf i).1) _⟩
 have hcf:=fun i=>(hcf i).2
 obtain rfl|rfl|rfl|rfl:r=0\/r=1\/r=2\/r=3:=by omega
 ·refine⟨[],_,by decide,hQN,zcG za8 zvD ?_⟩;simp only[g23,rU];simp -implicitDefEqProofs [rW,st0,zaj,zk5 hx,q0,q37,hrem,hpl,hc2];refine zv3 hx hz (by decide) hcf (hp0:=hp0) (P:=3) (hd:=[]) _ ⟨.f .nils,.f .nils,?_,by omega,?_,zla (rows:=[]) (.inl ⟨rfl,rfl⟩),.inl ⟨rfl,rfl⟩,(fun i es ro els h=>by simp[D.oid]at h),?_⟩ ?_ fun s h=> ?_
  ·simp -implicitDefEqProofs [rW,]
  ·simp -implicitDefEqProofs [rW,]
  ·simp -implicitDefEqProofs [rW,]
  ·simp -implicitDefEqProofs [rW,hpl]
  ·obtain⟨d,dh,⟨h2,h3,g1,g2⟩,c1,c2,c3,hc,hgz⟩ :=zvz h;simp -implicitDefEqProofs [rW,h2,h3,g1,g2,c1,c2,zbR];obtain⟨o1,o2,o3,o4⟩ :=hgz (s.h.set 1 (.arr 2 0 [[dh,d]])) (fun y hy=>by simp[Vse.T.zad,hy]) s.c (Nat.le_refl _);have o5:s.h.get 0=hp0.get 0:=by rw[<-o4];simp[Vse.T.zad]
   exact⟨by omega,⟨o5,dh,d,⟨rfl,rfl⟩,o1,o2,o3,c3⟩,fun _ f1 f2=>⟨dh,d,⟨rfl,rfl⟩,zni o1 f1,zmX o2 f2,zpR o2 f2,c3⟩⟩
 ·refine⟨[[120]],_,by decide,hQN,zcG za8 zvD ?_⟩;simp only[g23,rU];simp -implicitDefEqProofs [rW,st0,zaj,zk5 hx,q0,q37,hrem,hpl,hc2];refine zv3 hx hz (by decide) hcf (hp0:=hp0) (P:=4) (hd:=[[120]]) _ ⟨.f .nils,.sl 3 0 1 1 1 true,?_,by omega,?_,zoh (l:=[[120]]) (by simp) (by simp -implicitDefEqProofs [rW,za3]) (by omega) (by omega),.inl ⟨rfl,rfl⟩,(fun i es ro els h=>by simp[D.oid]at h),?_⟩ ?_ fun s h=> ?_
  ·simp -implicitDefEqProofs [rW,]
  ·simp -implicitDefEqProofs [rW,]
  ·simp -implicitDefEqProofs [rW,]
  ·simp -implicitDefEqProofs [rW,hpl]
  ·obtain⟨d,dh,⟨h2,h3,g1,g2⟩,c1,c2,c3,hc,hgz⟩ :=zvz h;simp -implicitDefEqProofs [rW,h2,h3,g1,g2,c1,c2,zbR];obtain⟨o1,o2,o3,o4⟩ :=hgz (s.h.set 1 (.arr 2 0 [[dh,d]])) (fun y hy=>by simp[Vse.T.zad,hy]) s.c (Nat.le_refl _);have o5:s.h.get 0=hp0.get 0:=by rw[<-o4];simp[Vse.T.zad]
   exact⟨by omega,⟨o5,dh,d,⟨rfl,rfl⟩,o1,o2,o3,c3⟩,fun _ f1 f2=>⟨dh,d,⟨rfl,rfl⟩,zni o1 f1,zmX o2 f2,zpR o2 f2,c3⟩⟩
 ·refine⟨[[120]],_,by decide,hQN,zcG za8 zvD ?_⟩;simp only[g23,rU];simp -implicitDefEqProofs [rW,st0,zaj,zk5 hx,q0,q37,hrem,hpl,hc2];refine zv3 hx hz (by decide) hcf (hp0:=hp0) (P:=4) (hd:=[[120]]) _ ⟨.f .nils,.sl 3 0 1 1 1 true,?_,by omega,?_,zoh (l:=[[120]]) (by simp) (by simp -implicitDefEqProofs [rW,za3]) (by omega) (by omega),.inl ⟨rfl,rfl⟩,(fun i es ro els h=>by simp[D.oid]at h),?_⟩ ?_ fun s h=> ?_
  ·simp -implicitDefEqProofs [rW,]
  ·simp -implicitDefEqProofs [rW,]
  ·simp -implicitDefEqProofs [rW,]
  ·simp -implicitDefEqProofs [rW,hpl]
  ·obtain⟨d,dh,⟨h2,h3,g1,g2⟩,c1,c2,c3,hc,hgz⟩ :=zvz h;simp -implicitDefEqProofs [rW,h2,h3,g1,g2,c1,c2,zbR];obtain⟨o1,o2,o3,o4⟩ :=hgz (s.h.set 1 (.arr 2 0 [[dh,d]])) (fun y hy=>by simp[Vse.T.zad,hy]) s.c (Nat.le_refl _);have o5:s.h.get 0=hp0.get 0:=by rw[<-o4];simp[Vse.T.zad]
   exact⟨by omega,⟨o5,dh,d,⟨rfl,rfl⟩,o1,o2,o3,c3⟩,fun _ f1 f2=>⟨dh,d,⟨rfl,rfl⟩,zni o1 f1,zmX o2 f2,zpR o2 f2,c3⟩⟩
 ·refine⟨[[121],[120]],_,by decide,hQN,zcG za8 zvD ?_⟩;simp only[g23,rU];simp -implicitDefEqProofs [rW,st0,zaj,zk5 hx,q0,q37,hrem,hpl,hc2];refine zv3 hx hz (by decide) hcf (hp0:=hp0) (P:=4) (hd:=[[121],[120]]) _ ⟨.f .nils,.sl 3 0 2 1 2 true,?_,by omega,?_,zoh (l:=[[121],[120]]) (by simp) (by simp -implicitDefEqProofs [rW,za3]) (by omega) (by omega),.inl ⟨rfl,rfl⟩,(fun i es ro els h=>by simp[D.oid]at h),?_⟩ ?_ fun s h=> ?_
  ·simp -implicitDefEqProofs [rW,]
  ·simp -implicitDefEqProofs [rW,]
  ·simp -implicitDefEqProofs [rW,]
  ·simp -implicitDefEqProofs [rW,hpl]
  ·obtain⟨d,dh,⟨h2,h3,g1,g2⟩,c1,c2,c3,hc,hgz⟩ :=zvz h;simp -implicitDefEqProofs [rW,h2,h3,g1,g2,c1,c2,zbR];obtain⟨o1,o2,o3,o4⟩ :=hgz (s.h.set 1 (.arr 2 0 [[dh,d]])) (fun y hy=>by simp[Vse.T.zad,hy]) s.c (Nat.le_refl _);have o5:s.h.get 0=hp0.get 0:=by rw[<-o4];simp[Vse.T.zad]
   exact⟨by omega,⟨o5,dh,d,⟨rfl,rfl⟩,o1,o2,o3,c3⟩,fun _ f1 f2=>⟨dh,d,⟨rfl,rfl⟩,zni o1 f1,zmX o2 f2,zpR o2 f2,c3⟩⟩
end Go.Proofs.YtmnkdfjljkhneaaGreat
end
