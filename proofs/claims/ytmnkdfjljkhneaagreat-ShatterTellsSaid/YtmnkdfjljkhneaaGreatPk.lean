/- rewrite: a query simplified and split as long as there is a step. -/
import Derived.Test.YtmnkdfjljkhneaaGreatPj
import Derived.KernelRfl
import Derived.IntWalk
import Derived.Test.YtmnkdfjljkhneaaGreatPi
set_option linter.all false
set_option maxRecDepth 100000
set_option maxHeartbeats 4000000
section
namespace Go.Proofs.YtmnkdfjljkhneaaGreat
open Go Go.Vse Go.Vse.Sm
def fn31:pr.fn 31=some g31:=by kernel_rfl
def fn11:pr.fn 11=some g11:=by kernel_rfl
def QE(h:T Ob)(lo c:Nat)(d:D)(l:List CQ):Prop:=(d= .f .nils/\l=[])\/∃id,d= .sl id 0 l.length 2 l.length false/\l≠[]/\h.get id=some (.arr 2 0 (fD (l.map cqF)))/\lo<=id/\id<c
def QE.d{h:T Ob}{lo c:Nat}{d:D}{l:List CQ}(H:QE h lo c d l):QD h c d l:=by
 rcases H with H|⟨id,h1,h2,h3,-,h5⟩
 .exact .inl H
 .exact .inr ⟨id,h1,h2,h3,h5⟩
def QE.up{h h':T Ob}{lo c c':Nat}{d:D}{l:List CQ}(H:QE h lo c d l)(hh:∀x,lo<=x->x<c->h'.get x=h.get x)(hc:c<=c'):QE h' lo c' d l:=by
 rcases H with H|⟨id,h1,h2,h3,h4,h5⟩
 .exact .inl H
 .exact .inr ⟨id,h1,h2,by rw[hh id h4 h5];exact h3,h4,by omega⟩
def QE.oid{h:T Ob}{lo c:Nat}{d:D}{l:List CQ}(H:QE h lo c d l){x:Nat}(hx:x<lo):d.oid≠some x:=by
 rcases H with⟨rfl,-⟩ |⟨id,rfl,-,-,h4,-⟩
 .simp[D.oid]
 .simp[D.oid];omega
def zlw(l:List (List F)):(fD l).length=l.length:=by simp[fD]
def zAD{hd:List Str}{l:List CQ}(hQ:QG hd l){h:T Ob}{n:Nat}:Eff pr 19 [.ag [.f (zaq hd),.f (qsF l)]] h n fun d h' c'=>Frm h h' n/\∃dq,d= .ag [.f (zaq hd),dq]/\QE h' n c' dq (zbu hd l):=by
 obtain⟨q,h1,h2,h3⟩ :=zHH (args:=[.ag [.f (zaq hd),.f (qsF l)]]) (h:=h) (n:=n) (rd:=[]) hQ (by rfl) (by simp);refine⟨q,h1,?_,h3⟩;rcases h2 with⟨e,h4,h5,h6⟩ |⟨e,h4,h5,h6⟩
 .rw[h4,h5,e];exact⟨fun x hx=>rfl,_,rfl,.inl ⟨rfl,rfl⟩⟩
 .rw[h4,h5,h6];refine⟨fun x hx=> ?_,_,rfl,.inr ⟨n,rfl,e,by simp[Vse.T.zad],Z2 _,Nat.lt_succ_self _⟩⟩;have:¬x=n:=by omega
  simp[Vse.T.zad,this,zax,wrT]
def zOY{hd:List Str}{l:List CQ}(hQ:QG hd l){h:T Ob}{n:Nat}{dq:D}(hD:QD h n dq l):Eff pr 19 [.ag [.f (zaq hd),dq]] h n fun d h' c'=>(∀x,x<n->dq.oid≠some x->h'.get x=h.get x)/\∃dq',d= .ag [.f (zaq hd),dq']/\QE h' n c' dq' (zbu hd l):=by
 have key:∃rd,zcp h.get [.ag [.f (zaq hd),dq]]=some ([.ag [zaq hd,qsF l]],rd)/\(∀x∈rd,x<n)/\∀x,dq.oid≠some x->(wrT h (zax h.get rd)).get x=h.get x:=by
  rcases hD with⟨rfl,rfl⟩ |⟨id,rfl,hne,hg,hid⟩
  .exact⟨[],rfl,by simp,fun x _=>rfl⟩
  .have hl:(fD (l.map cqF)).length=l.length:=by rw[zlw,Z18]
   have hz:frz h.get 11 (.sl id 0 l.length 2 l.length false)=some (qsF l,[id]):=by
    have e:=zfm h.get 9 (l.map cqF);rw[zdx,hg,za9,zdf];have e2:((fD (l.map cqF)).drop 0).take l.length=(l.map cqF).map fun a=>a.map D.f:=by
     rw[Z34,<-hl,Z7];rfl
    rw[if_pos ⟨rfl,by rw[hl];omega⟩,e2,e,za9,zbR (by simpa using hne)];rfl
   refine⟨[id],?_,by simpa using hid,fun x hx=> ?_⟩
   .simp[rW,hz]
   .have hx':¬x=id:=fun e=>hx (by rw[e];rfl)
    have h0:¬((fD (l.map cqF)).length<=0):=by
     rw[hl];intro e;exact hne (Z17.1 (by omega))
    rw[zFk,hg,ztN,if_neg h0,zFm,zzT,zzS,Vse.T.zad,if_neg hx']
 obtain⟨rd,hz,hr,hlow⟩ :=key;obtain⟨q,h1,h2,h3⟩ :=zHH (h:=h) (n:=n) hQ hz hr;refine⟨q,h1,?_,h3⟩;rcases h2 with⟨e,h4,h5,h6⟩ |⟨e,h4,h5,h6⟩
 .rw[h4,h5,e];exact⟨fun x _=>hlow x,_,rfl,.inl ⟨rfl,rfl⟩⟩
 .rw[h4,h5,h6];refine⟨fun x hx hne=> ?_,_,rfl,.inr ⟨n,rfl,e,by simp[Vse.T.zad],Z2 _,Nat.lt_succ_self _⟩⟩;have:¬x=n:=by omega
  rw[Vse.T.zad,if_neg this];exact hlow x hne
theorem zAG{l L:List CQ}{h:T Ob}{Y V n i:Nat}{ex:Bool}(hY:h.get Y=some (.arr 2 0 (fD (l.map cqF))))(hV:h.get V=some (.arr 2 0 (fD (L.map cqF))))(hi:i<l.length)(h2:2<=L.length)(hl:l.length<=1000)(hL:L.length<=1000)(hne:Y≠V)(hYn:Y<n)(hVn:V<n):
  Eff pr 64 [.sl Y 0 l.length 2 l.length false,.f (.i .i64 (i:Int)),.f (.i .i64 ((i:Int)+1)),.sl V 0 L.length 2 L.length ex] h n fun d h' c'=>∃N,n<=N/\N<c'/\d= .sl N 0 (rp l i L).length 2 (rp l i L).length false/\h'.get N=some (.arr 2 0 (fD ((rp l i L).map cqF)))/\∀x,x≠N->x≠Y->h'.get x=h.get x:=by
 have w2:∀m:List CQ,∀x∈fD (m.map cqF),x.length=2:=by
  intro m x hx;simp only[fD,Z12]at hx;obtain⟨y,⟨c,-,rfl⟩,rfl⟩ :=hx;rfl
 have e1:∀m:List CQ,(fD (m.map cqF)).length=m.length:=fun m=>by rw[zlw,Z18]
 have:=eff64 (h:=h) (vlim:=L.length) (vex:=ex) (n:=n) (i:=i) hY hV (by rw[e1];exact hi) (by rw[e1];exact h2) (by rw[e1];exact hl) (by rw[e1];exact hL) hne hYn hVn (w2 l) (w2 L);rw[e1,e1]at this;have el:(rp l i L).length=l.length+L.length - 1:=by simp[rp];omega
 obtain⟨q,g1,⟨N,g2,g3,g4,g5⟩,g6⟩ :=this;refine⟨q,g1,⟨N,g2,g3,by rw[g4,el],?_,fun x hx hy=>by rw[g5,if_neg hx,if_neg hy]⟩,g6⟩;rw[g5,if_pos rfl];simp[rp,fD]
def RWI(h0:T Ob)(hd:List Str)(stp:List CQ->Option (Nat×List CQ))(fv:D)(c0:Nat)(r:Option (List CQ))(k:Nat)(s:St):Prop:=∃(l:List CQ) (dq:D),RwN hd stp k l r/\(s.tm.get 1=some (fv)/\s.tm.get 2=some (.ptr c0 2 0 0)/\s.tm.get 4=some (.ptr (c0+1) 2 0 0))/\s.h.get c0=some (.arr 2 0 [[.f (zaq hd),dq]])/\s.h.get (c0+1)=some (.arr 2 0 [[.f .nils,.f .nils]])/\QE s.h (c0+2) s.c dq l/\c0+2<=s.c/\Frm h0 s.h c0
def RWR(h0:T Ob)(hd:List Str)(c0:Nat)(r:Option (List CQ))(x:Ex)(s:St):Prop:=x= .ret/\∃(e1 e2:D) (e:Int),(s.tm.get 4=some (.ptr (c0+1) 2 0 0)/\s.tm.get 5=some (.f (.i .i64 e)))/\s.h.get (c0+1)=some (.arr 2 0 [[e1,e2]])/\Frm h0 s.h c0/\c0+2<=s.c/\match r with
 |none=>e=4/\e1= .f .nils/\e2= .f .nils
 |some l=>e=0/\e1= .f (zaq hd)/\QE s.h (c0+2) s.c e2 l
def RwP(hd:List Str)(r:Option (List CQ))(c0:Nat)(d:D)(h':T Ob)(c':Nat):Prop:=match r with
 |none=>d= .tu [.ag [.f .nils,.f .nils],.f (.i .i64 4)]
 |some l=>∃dq,d= .tu [.ag [.f (zaq hd),dq],.f (.i .i64 0)]/\QE h' c0 c' dq l
theorem zHJ{hd:List Str}{l0:List CQ}(hQ0:QG hd l0){stp:List CQ->Option (Nat×List CQ)}{g:Nat}{fv:D}(hfv:zdH fv=some (g,[],[]))(hcl:∀l,QG hd l->∀(h:T Ob) (c:Nat) (dq:D),QD h c dq l->Eff pr g [.ag [.f (zaq hd),dq]] h c (StP (stp l) h c)){k:Nat}{r:Option (List CQ)}(hR:RwN hd stp k (zbu hd l0) r){h:T Ob}{c0:Nat}:
  Eff pr 31 [.ag [.f (zaq hd),.f (qsF l0)],fv] h c0 fun d h' c'=>Frm h h' c0/\RwP hd r c0 d h' c':=by
 refine zci zbi fn31 ?_;simp only[g31,rU];have n01:¬(c0=c0+1):=by omega
 simp[rW,st0,zae,zaN,zcy,n01];refine zcz rfl rfl (zAD hQ0) ?_;rintro d H c1 lw1 mx1 ⟨hF1,dq,rfl,hQE⟩ hcc;simp only[rG]at hF1 hQE hcc;have k0:=hF1 c0 (by omega);have k1:=hF1 (c0+1) (by omega);simp[Vse.T.zad,n01]at k0 k1;simp[rW,k0];refine⟨by omega,zfE (RWI h hd stp fv c0 r) (RWR h hd c0 r) ?_ k _ ?_ ?_⟩
 .rintro k s ⟨l,dq,hR,⟨h1,h2,h4⟩,g0,g1,hE,hlo,hF⟩;have hlen:=zo5 hE.d;have n10:¬(c0+1=c0):=by omega
  have fin:∀(H:T Ob) (o:Option Ob) (x:Nat),x<c0->Frm h H c0->(if x=c0+1 then o else H.get x)=h.get x:=fun H o x hx hF=>by
   have y:¬(x=c0+1):=by omega
   rw[if_neg y];exact hF x hx
  cases hR with
  |big hQ hb=>
   have hb':(64:Int)<l.length:=by omega
   simp[rW,h1,h2,h4,g0,g1,hlen,hb'];refine⟨by omega,rfl,.f .nils,.f .nils,4,?_,?_,fun x hx=> ?_,?_,rfl,rfl,rfl⟩
   .simp[rW,h4]
   .simp[rW,]
   .simp[rW,];exact fin _ _ x hx hF
   .simp[rW,hlo]
  |stop hQ hb hs=>
   have hb':¬(64:Int)<l.length:=by omega
   simp[rW,h1,h2,h4,g0,g1,hlen,hb',hfv];refine zcz rfl rfl (hcl l hQ _ _ _ hE.d) ?_;rintro d H c1 lw1 mx1 ⟨hF1,hd1⟩ hcc;rw[hs]at hd1;subst hd1;simp only[rG]at hF1 hcc;have k0:=hF1 c0 (by omega);have k1:=hF1 (c0+1) (by omega);rw[g0]at k0;rw[g1]at k1;simp[rW,h1,h2,h4,k0,k1];refine⟨by omega,rfl,.f (zaq hd),dq,0,?_,?_,fun x hx=> ?_,?_,rfl,rfl,hE.up (fun x h1 h2=> ?_) ?_⟩
   .simp[rW,h4]
   .simp[rW,]
   .simp[rW,];exact fin _ _ x hx fun x hx=>by rw[hF1 x (by omega)];exact hF x hx
   .simp[rW,];omega
   .have y:¬(x=c0+1):=by omega
    simp[rW,y];exact hF1 x h2
   .simp[rW,];omega
  | @too _ _ i L hQ hb hs hi hL2 h3 hr4=>
   have hb':¬(64:Int)<l.length:=by omega
   have hE0:=hE;rcases hE with⟨-,e⟩ |⟨Y,rfl,hne,hY,hY1,hY2⟩
   .rw[e]at hi;simp at hi
   simp[rW,h1,h2,h4,g0,g1,hb',hfv];refine zcz rfl rfl (hcl l hQ _ _ _ hE0.d) ?_;rintro d H c1 lw1 mx1 ⟨hF1,hd1⟩ hcc;rw[hs]at hd1;obtain⟨V,ex,rfl,hV,hV1,hV2⟩ :=hd1;simp only[rG]at hF1 hcc hV hV1 hV2;have k0:=hF1 c0 (by omega);have k1:=hF1 (c0+1) (by omega);have kY:=hF1 Y (by omega);rw[g0]at k0;rw[g1]at k1;rw[hY]at kY;have hL0:¬(L.length=0):=by omega
   have hw:=zao i (by have:=hQ.2.1;omega);simp[rW,h1,h2,h4,k0,k1,hL0,hw];refine zcz rfl rfl (zAG kY hV hi hL2 hQ.2.1 (by omega) (by omega) (by simp only[rG];omega) (by simp only[rG];omega)) ?_;rintro d H2 c2 lw2 mx2 ⟨N,hN1,hN2,rfl,hN,hH2⟩ hcc2;simp only[rG]at hN1 hN hH2 hcc2;have m0:=hH2 c0 (by omega) (by omega);have m1:=hH2 (c0+1) (by omega) (by omega);rw[k0]at m0;rw[k1]at m1;have nN:¬(N=c0):=by omega
   have hb2:(64:Int)< (rp l i L).length:=by omega
   have hlow:∀x,x<c0->H2.get x=h.get x:=fun x hx=>by
    rw[hH2 x (by omega) (by omega),hF1 x (by omega)];exact hF x hx
   simp[rW,h1,h2,h4,m0,m1,hb2,n10,n01];refine⟨by omega,by omega,rfl,.f .nils,.f .nils,4,?_,?_,fun x hx=> ?_,?_,rfl,rfl,rfl⟩
   .simp[rW,h4]
   .simp[rW,]
   .have y:¬(x=c0):=by omega
    have y1:¬(x=c0+1):=by omega
    simp[rW,y,y1];exact hlow x hx
   .simp[rW,];omega
  | @go k _ i L _ hQ hb hs hi hL2 h3 hr4 hG hR'=>
   have hb':¬(64:Int)<l.length:=by omega
   have hE0:=hE;rcases hE with⟨-,e⟩ |⟨Y,rfl,hne,hY,hY1,hY2⟩
   .rw[e]at hi;simp at hi
   simp[rW,h1,h2,h4,g0,g1,hb',hfv];refine zcz rfl rfl (hcl l hQ _ _ _ hE0.d) ?_;rintro d H c1 lw1 mx1 ⟨hF1,hd1⟩ hcc;rw[hs]at hd1;obtain⟨V,ex,rfl,hV,hV1,hV2⟩ :=hd1;simp only[rG]at hF1 hcc hV hV1 hV2;have k0:=hF1 c0 (by omega);have k1:=hF1 (c0+1) (by omega);have kY:=hF1 Y (by omega);rw[g0]at k0;rw[g1]at k1;rw[hY]at kY;have hL0:¬(L.length=0):=by omega
   have hw:=zao i (by have:=hQ.2.1;omega);simp[rW,h1,h2,h4,k0,k1,hL0,hw];refine zcz rfl rfl (zAG kY hV hi hL2 hQ.2.1 (by omega) (by omega) (by simp only[rG];omega) (by simp only[rG];omega)) ?_;rintro d H2 c2 lw2 mx2 ⟨N,hN1,hN2,rfl,hN,hH2⟩ hcc2;simp only[rG]at hN1 hN hH2 hcc2;have m0:=hH2 c0 (by omega) (by omega);have m1:=hH2 (c0+1) (by omega) (by omega);rw[k0]at m0;rw[k1]at m1;have nN:¬(N=c0):=by omega
   have hb2:¬(64:Int)< (rp l i L).length:=by omega
   have hlow:∀x,x<c0->H2.get x=h.get x:=fun x hx=>by
    rw[hH2 x (by omega) (by omega),hF1 x (by omega)];exact hF x hx
   simp[rW,h1,h2,h4,m0,m1,hb2,n10,n01];refine⟨by omega,?_⟩;have hne2:rp l i L≠[]:=by
    intro e;have:(rp l i L).length=l.length+L.length - 1:=by simp[rp];omega
    rw[e]at this;simp at this;omega
   refine zcz rfl rfl (zOY hG (.inr ⟨N,rfl,hne2,?_,?_⟩)) ?_
   .simp only[rG];rw[Vse.T.zad,if_neg nN];exact hN
   .simp only[rG];exact hN2
   rintro d H3 c3 lw3 mx3 ⟨hF3,dq3,rfl,hE3⟩ hcc3;simp only[rG]at hF3 hE3 hcc3;simp only[zBJ,ne_eq,Z45]at hF3;have p0:=hF3 c0 (by omega) (by omega);have p1:=hF3 (c0+1) (by omega) (by omega);rw[Vse.T.zad,if_pos rfl]at p0;rw[Vse.T.zad,if_neg n10,m1]at p1;simp[rW,h1,h2,h4,p0];refine⟨by omega,k,by omega,zbu hd (rp l i L),dq3,hR',?_,?_,?_,?_,?_,fun x hx=> ?_⟩
   .simp[rW,h1,h2,h4]
   .simp[rW,]
   .simp[rW,n10,p1]
   .rcases hE3 with h|⟨id,a1,a2,a3,a4,a5⟩
    .exact .inl h
    .refine .inr ⟨id,a1,a2,?_,by omega,?_⟩
     .have y:¬(id=c0):=by omega
      simp[rW,y,a3]
     .simp[rW,a5]
   .simp[rW,];omega
   .have y:¬(x=c0):=by omega
    simp[rW,y];rw[hF3 x (by omega) (by omega),Vse.T.zad,if_neg y];exact hlow x hx
 .refine⟨zbu hd l0,dq,hR,?_,?_,?_,hQE.up (fun x h1 h2=> ?_) (by simp[rW,]),?_,fun x hx=> ?_⟩
  .simp[rW,]
  .simp[rW,n01]
  .have y:¬(c0+1=c0):=by omega
   simp[rW,y,k1]
  .have y:¬(x=c0):=by omega
   simp[rW,y]
  .simp[rW,];omega
  .have y:¬(x=c0):=by omega
   simp[rW,y];rw[hF1 x (by omega)];have y2:¬(x=c0+1):=by omega
   simp[Vse.T.zad,y,y2]
 .rintro x s ⟨rfl,e1,e2,e,⟨h4,h5⟩,g1,hF,hlo,hr⟩;simp[rW,h4,h5,g1,zbl];cases r with
  |none=>
   obtain⟨rfl,rfl,rfl⟩ :=hr;exact⟨⟨hF,rfl⟩,fun _ _ _=>⟨fun _ _=>rfl,rfl⟩⟩
  |some l=>
   obtain⟨rfl,rfl,hE⟩ :=hr;have hE2:QE s.h c0 s.c e2 l:=by
    rcases hE with h|⟨id,a1,a2,a3,a4,a5⟩
    .exact .inl h
    .exact .inr ⟨id,a1,a2,a3,by omega,a5⟩
   refine⟨⟨hF,_,rfl,hE2⟩,fun _ _ hf=>⟨fun _ _=>rfl,_,rfl,?_⟩⟩;rcases hE with h|⟨id,rfl,-⟩
   .exact .inl h
   .cases hf
def zBX{h:T Ob}{lo c:Nat}{d:D}{l:List CQ}(H:QE h lo c d l)(k:Nat):∃rd,frz h.get (k+2) d=some (qsF l,rd):=by
 rcases H with⟨rfl,rfl⟩ |⟨id,rfl,hne,hg,-,-⟩
 .exact⟨[],rfl⟩
 .have hl:(fD (l.map cqF)).length=l.length:=by rw[zlw,Z18]
  have e:=zfm h.get k (l.map cqF);have e2:((fD (l.map cqF)).drop 0).take l.length=(l.map cqF).map fun a=>a.map D.f:=by
   rw[Z34,<-hl,Z7];rfl
  refine⟨[id],?_⟩;rw[zdx,hg,za9,zdf,if_pos ⟨rfl,by rw[hl];omega⟩,e2,e,za9,zbR (by simpa using hne)];rfl
def ztE{h:T Ob}{lo c:Nat}{d:D}{l:List CQ}(H:QE h lo c d l):d.cells=some [d]:=by
 rcases H with⟨rfl,-⟩ |⟨id,rfl,-⟩ <;>rfl
def rwF(hd:List Str)(r:Option (List CQ)):F:=match r with
 |none=> .tu [.ag [.nils,.nils],.i .i64 4]
 |some l=> .tu [.ag [zaq hd,qsF l],.i .i64 0]
def zGA{hd:List Str}{l0:List CQ}(hQ0:QG hd l0){k:Nat}{r:Option (List CQ)}(hR:RwN hd (shS hd) k (zbu hd l0) r):Ans pr 11 [.ag [zaq hd,qsF l0]] (rwF hd r):=by
 refine zbd fn11 ?_;simp only[g11,rU];simp[rW,st0,zae,zaN,zcy];refine zcz rfl rfl (zHJ hQ0 (stp:=shS hd) (fv:= .f (.fn 32)) rfl (fun l hQ h c dq hD=>eff32 hd l hQ hD) hR) ?_;rintro d H c1 lw1 mx1 ⟨hF1,hP⟩ hcc;simp only[rG]at hF1 hP hcc;have k1:=hF1 1 (by omega);simp[Vse.T.zad]at k1;cases r with
 |none=>
  simp only[RwP]at hP;subst hP;simp[rW,k1];exact⟨by omega,rfl⟩
 |some l=>
  obtain⟨dq,rfl,hE⟩ :=hP;have hE2:=hE.up (h':=H.set 1 (.arr 2 0 [[.f (zaq hd),dq]])) (fun x h1 h2=>by
   have y:¬(x=1):=by omega
   simp[Vse.T.zad,y]) (Z2 _)
  obtain⟨rd,hz⟩ :=zBX hE2 8;have hz:frz (H.set 1 (.arr 2 0 [[.f (zaq hd),dq]])).get 10 dq=some (qsF l,rd):=hz;simp[rW,k1,hz,ztE hE];exact⟨by omega,rfl⟩
def fn73:pr.fn 73=some g73:=by kernel_rfl
def fn113:pr.fn 113=some zys:=by kernel_rfl
def fn72:pr.fn 72=some g72:=by kernel_rfl
def inH(hd:List Str)(x:Str):Bool:=hd.any (· ==x)
def kp(hd:List Str)(l:List Str):List Str:=l.filter fun x=>!(inH hd x)
def ro73(hd:List Str)(x:Str)(hh:hd.length<1000000){h:T Ob}{c A:Nat}(gA:h.get A=some (.arr 1 0 [[.f (zaq hd)]]))(hA:A<c):RO pr 73 [.f (.s x),.ptr A 1 0 0] h c (.f (.b (inH hd x))):=by
 refine zdz zbi fn73 rfl ?_;simp only[g73,rU];have q1:=fun k=>zaj (k:=k) (zxN hd x hh)
 simp[rW,st0,zae,gA,zaN,q1,za4];rfl
def zB6(l:List Str)(p:Str->Bool)(hl:l.length<100000){h:T Ob}{c g:Nat}{d fv:D}{cap:List D}(H:RdV h d l)(hfv:zdH fv=some (g,[],cap))(hcl:∀n (hn:n<l.length),RO pr g (.f (.s l[n])::cap) h c (.f (.b (p l[n])))):RO pr 113 [d,fv] h c (.f (.i .i64 (ixP l p))):=by
 refine zdz zbi fn113 rfl ?_;simp only[zys,rU];simp[rW,st0,zae,zwM H];refine zcf l p (fun n s=>(s.tm.get 0=some (d)/\s.tm.get 1=some (fv)/\s.tm.get 7=some (.f (.i .i64 l.length))/\s.tm.get 8=some (.f (.i .i64 n)))/\s.h=h/\s.c=c/\s.lw=c) (fun x s=>x= .exit 0/\s.lw=c) (fun n y s=>y= .ret/\s.tm.get 4=some (.f (.i .i64 n))/\s.lw=c) ?_ ?_ _ ?_ ?_ ?_
 .rintro n s hn ⟨⟨h0,h1,h7,h8⟩,eh,ec,el⟩;have hw:=zao n (by omega);have hp:=hcl n hn;obtain⟨q,rd,hq,hr⟩ :=zB0 H hn;generalize hA:l[n]=A at hp hr|-;simp[rW,h0,h1,h7,h8,hn,hq,hr,eh,hfv];refine zdo (d:= .f (.b (p A))) ?_ ?_ ?_
  .simp only[rG];rw[eh,ec];exact hp
  .simp only[rG];omega
  .intro mx;cases hb:p A with
   |true=>simp[rW,h0,h1,h7,h8,el]
   |false=>simp[rW,h0,h1,h7,h8,hw,eh,ec,el]
 .rintro s ⟨⟨h0,h1,h7,h8⟩,eh,ec,el⟩;simp[rW,h0,h1,h7,h8,el]
 .simp[rW,st0,zae]
 .rintro h z s ⟨rfl,el⟩;rw[zmx h];simp[rW,za4,el]
 .rintro n hn hp hm z s ⟨rfl,h4,el⟩;rw[zlD hn hp hm];simp[rW,h4,za4,el]
def zwm(l:List Str):hd8 (zaT l)=false:=by cases l<;>rfl
def zBA(hd:List Str)(l:List Str){n:Nat}(hn:n<l.length):kp hd (l.take (n+1))=kp hd (l.take n)++if inH hd l[n]then[]else[l[n]]:=by
 unfold kp;rw[Z6 hn,List.filter_append]
 congr 1
 cases h:inH hd l[n]<;>simp[h]
def zIZ(hd:List Str)(l:List Str):(kp hd l).length<=l.length:=List.length_filter_le _ _
def KD(h:T Ob)(hd l:List Str)(id A c i:Nat)(k':Nat)(s:St):Prop:=∃(j:Nat) (R:List Str),i+1<=j/\j<=l.length/\k'=l.length - j/\(kp hd (l.take j)).length<j/\(s.tm.get 0=some (.sl id 0 l.length 1 l.length false)/\s.tm.get 1=some (.fn 73 [] [.ptr A 1 0 0])/\s.tm.get 5=some (.f (.i .i64 (kp hd (l.take j)).length))/\s.tm.get 6=some (.f (.i .i64 j)))/\s.h.get id=some (.arr 1 0 (zaT R))/\R.length=l.length/\R.take (kp hd (l.take j)).length=kp hd (l.take j)/\(∀q,j<=q->R[q]? =l[q]?)/\(∀x,x<c->x≠id->s.h.get x=h.get x)/\c<=s.c/\s.lw<=s.c
def KE(h:T Ob)(hd l:List Str)(id c:Nat)(s:St):Prop:=∃R:List Str,(s.tm.get 0=some (.sl id 0 l.length 1 l.length false)/\s.tm.get 5=some (.f (.i .i64 (kp hd l).length)))/\s.h.get id=some (.arr 1 0 (zaT R))/\R.length=l.length/\R.take (kp hd l).length=kp hd l/\(∀x,x<c->x≠id->s.h.get x=h.get x)/\c<=s.c
theorem eff72(hd l:List Str)(hh:hd.length<1000000)(hl:l.length<100000){h:T Ob}{c id A:Nat}(gI:h.get id=some (.arr 1 0 (zaT l)))(hid:id<c)(hne:l≠[])(gA:h.get A=some (.arr 1 0 [[.f (zaq hd)]]))(hA:A<c)(hAi:A≠id):
  Eff pr 72 [.sl id 0 l.length 1 l.length false,.fn 73 [] [.ptr A 1 0 0]] h c fun d h' c'=>∃R:List Str,d= .sl id 0 (kp hd l).length 1 l.length false/\h'.get id=some (.arr 1 0 (zaT R))/\R.length=l.length/\R.take (kp hd l).length=kp hd l/\∀x,x<c->x≠id->h'.get x=h.get x:=by
 refine zci zbi fn72 ?_;simp only[g72,rU];simp[rW,st0,zae];have hR0:RdV h (.sl id 0 l.length 1 l.length false) l:= .inr ⟨0,c,.inr ⟨id,0,by rw[zbO],fun e=>hne (zk3 e),gI,Nat.zero_le _,Nat.zero_le _,hid⟩⟩;refine zdo (d:= .f (.i .i64 (ixP l (inH hd)))) ?_ ?_ ?_
 .simp only[rG];exact zB6 l (inH hd) hl hR0 rfl fun n hn=>ro73 hd _ hh gA hA
 .simp only[rG];omega
 intro mx;unfold ixP;cases hx:l.findIdx? (inH hd)with
 |none=>
  have hk:kp hd l=l:=by
   unfold kp;rw[List.filter_eq_self];intro a ha;rw[Z43.1 hx a ha];rfl
  simp[rW,hk,zbl];exact⟨l,gI,rfl,Z7 ..⟩
 |some i=>
  obtain⟨hi,hp,hbf⟩ :=Z26.1 hx;have hw:=zao i (by omega);have hm1:¬((i:Int)= -1):=by omega
  have hki:kp hd (l.take i)=l.take i:=by
   unfold kp;rw[List.filter_eq_self];intro a ha;obtain⟨m,hm,rfl⟩ :=List.mem_iff_getElem.1 ha;have hm':m<i:=by simp at hm;omega
   rw[List.getElem_take];have:=hbf m hm';simpa using this
  have hks:kp hd (l.take (i+1))=l.take i:=by
   rw[zBA hd l hi,hki,hp];simp
  simp[rW,hw,hm1];refine zfE (KD h hd l id A c i) (fun x s=>x= .exit 0/\KE h hd l id c s) ?_ (l.length - (i+1)) _ ?_ ?_
  .rintro k' s ⟨j,R,hj1,hj2,rfl,hlt,⟨h0,h1,h5,h6⟩,gE,hRl,hRt,hRd,hf,hc3,hl3⟩
   by_cases hjl:j<l.length
   .have hwj:=zao j (by omega);have hks2:=zBA hd l hjl;have hrj:(zaT R)[j]? =some [.f (.s l[j])]:=by
     have:R[j]? =some l[j]:=by rw[hRd j (Z2 _)];exact Z0 hjl
     simp[zaT,this]
    generalize hX:l[j]=X at hks2 hrj;generalize hN:kp hd (l.take j)=N at*;have hwN:=zao N.length (by omega);simp[rW,h0,h1,h5,h6,hjl,gE,hrj];refine zdo (d:= .f (.b (inH hd X))) ?_ ?_ ?_
    .simp only[rG];exact ro73 hd X hh (by rw[hf A hA hAi];exact gA) (by omega)
    .simp only[rG];omega
    intro mx;cases hb:inH hd X with
    |true=>
     rw[hb]at hks2;simp only[if_true,Z22]at hks2;simp[rW,h0,h1,h5,h6,hwj];rw[zdk];refine⟨l.length - (j+1),by omega,j+1,R,by omega,hjl,rfl,by rw[hks2];omega,?_,?_,hRl,by rw[hks2];exact hRt,fun q hq=>hRd q (by omega),fun x h1 h2=> ?_,?_,?_⟩
     .rw[hks2];simp[rW,h0,h1,h5,h6,hwj]
     .simp[rW,gE]
     .simp[rW,];exact hf x h1 h2
     .simp[rW,];exact hc3
     .simp[rW,];exact hl3
    |false=>
     rw[hb]at hks2;simp only[Bool.false_eq_true,if_false]at hks2;have hNl:N.length<l.length:=by omega
     have hxN:(zaT R)[N.length]? =some [.f (.s (R[N.length]'(by omega)))]:=by
      have:N.length<R.length:=by omega
      simp[zaT,this]
     have hset:(zaT R).set N.length [.f (.s X)]=zaT (R.set N.length X):=by simp[zaT,List.map_set]
     simp[rW,h0,h1,h5,h6,hwj,hwN,gE,hNl,hxN,zwm,hset];refine⟨by omega,?_⟩;rw[zdk];have hl1:(N++[X]).length=N.length+1:=by simp
     refine⟨l.length - (j+1),by omega,j+1,R.set N.length X,by omega,hjl,rfl,by rw[hks2,hl1];omega,?_,?_,by simpa using hRl,?_,fun q hq=> ?_,fun x h1 h2=> ?_,?_,?_⟩
     .rw[hks2,hl1];simp[rW,h0,h1,h5,h6]
     .simp[rW,]
     .rw[hks2,hl1,List.take_add_one,List.take_set_of_le (Z2 _),hRt,List.getElem?_set_self (by omega)];rfl
     .rw[List.getElem?_set_ne (by omega)];exact hRd q (by omega)
     .simp[rW,h2];exact hf x h1 h2
     .simp[rW,];exact hc3
     .simp[rW,]
      repeat refine Z3 (zb8 _ _).1 ?_
      omega
   .have hje:j=l.length:=by omega
    subst hje;rw[Z7]at h5 hRt;simp[rW,h0,h1,h5,h6];refine⟨R,?_,gE,hRl,hRt,hf,hc3⟩;simp[rW,h0,h5]
  .refine⟨i+1,l,Z2 _,hi,rfl,?_,?_,?_,rfl,?_,fun q _=>rfl,fun x _ _=> ?_,?_,?_⟩
   .rw[hks,Z41];omega
   .have:(l.take i).length=i:=by simp;omega
    rw[hks,this];simp[rW,]
   .simp[rW,gI]
   .rw[hks,Z41,Nat.min_eq_left (by omega)]
   .simp[rW,]
   .simp[rW,]
   .simp[rW,]
  .rintro x s ⟨rfl,R,⟨h0,h5⟩,gE,hRl,hRt,hf,hc3⟩;have hcl:=zIZ hd l;have hsum:(kp hd l).length+(l.length - (kp hd l).length)=l.length:=by omega
   have hrow:List.take (kp hd l).length (zaT R)++(List.replicate (l.length - (kp hd l).length) [D.f (F.s [])]++List.drop l.length (zaT R))=zaT (kp hd l++List.replicate (l.length - (kp hd l).length) []):=by
    rw[Z24 (by rw[zbO];omega),Z22];have:List.take (kp hd l).length (zaT R)=zaT (R.take (kp hd l).length):=by simp[zaT,List.map_take]
    rw[this,hRt];simp[zaT]
   simp[rW,h0,h5,gE,zhH,zfz,zzM,zpM,hcl,hsum,hRl,zbO,zwm,hrow];refine⟨by omega,?_⟩;simp[rW,zbl];refine⟨_,rfl,by rw[Z16,List.length_replicate];exact hsum,by rw[Z27 (Z2 _),Z7],fun x h1 h2=> ?_⟩;rw[if_neg h2];exact hf x h1 h2
def fn38:pr.fn 38=some g38:=by kernel_rfl
def SZ(h:T Ob)(c:Nat)(d:D)(m:List Str):Prop:=(d= .f .nils/\m=[])\/∃(id lim:Nat) (R:List Str),d= .sl id 0 m.length 1 lim false/\h.get id=some (.arr 1 0 (zaT R))/\R.length=lim/\R.take m.length=m/\id<c
def SZ.le{h:T Ob}{c id lim:Nat}{m R:List Str}(h2:R.length=lim)(h3:R.take m.length=m):m.length<=lim:=by
 have:=congrArg List.length h3;rw[Z41]at this;omega
def zQ0{h:T Ob}{c:Nat}{d:D}{m:List Str}(H:SZ h c d m):zcx d=some m.length:=by
 rcases H with⟨rfl,rfl⟩ |⟨id,lim,R,rfl,-⟩ <;>rfl
def zJD{id lim:Nat}{m R:List Str}(h3:R.take m.length=m){n:Nat}(hn:n<m.length):(zaT R)[n]? =some [.f (.s m[n])]:=by
 have h1:(R.take m.length)[n]? =m[n]? :=by rw[h3]
 rw[List.getElem?_take_of_lt hn,Z0 hn]at h1;simp[zaT,h1]
theorem zO6(hd l:List Str)(hh:hd.length<1000000)(hl:l.length<100000){h:T Ob}{c lo A:Nat}{d:D}(H:SV h lo c d l)(gA:h.get A=some (.arr 1 0 [[.f (zaq hd)]]))(hA:A<lo)(hlo:lo<=c):
  Eff pr 72 [d,.fn 73 [] [.ptr A 1 0 0]] h c fun d' h' c'=>SZ h' c' d' (kp hd l)/\∀x,x<lo->h'.get x=h.get x:=by
 rcases H with⟨rfl,rfl⟩ |⟨id,rfl,hne,hg,h1,h2⟩
 .refine zci zbi fn72 ?_;simp only[g72,rU];simp[rW,st0,zae];refine zdo (d:= .f (.i .i64 (ixP [] (inH hd)))) ?_ ?_ ?_
  .simp only[rG];exact zB6 [] (inH hd) (by simp) (.inl rfl) rfl fun n hn=>by simp at hn
  .simp only[rG];omega
  intro mx;simp[rW,ixP,zbl,kp];exact .inl ⟨rfl,rfl⟩
 .obtain⟨q,g1,⟨R,g2,g3,g4,g5,g6⟩,g7⟩ :=eff72 hd l hh hl hg h2 hne gA (by omega) (by omega);exact⟨q,g1,⟨.inr ⟨id,l.length,R,g2,g3,g4,g5,by have:=g7.1;omega⟩,fun x hx=>g6 x (by omega) (by omega)⟩,g7⟩
def syP(c:CQ)(x y:Str):Bool:=!(c.cs.any (zcY 3 (.var x) (.var y)))&&zhP c x y
def syF(c:CQ)(ns:List Str)(i:Nat):Option (Str×Str):=match ns[i]? with
 |some x=>((ns.drop (i+1)).find? (syP c x)).map fun y=>(x,y)
 |none=>none
def sym(c:CQ)(ns:List Str):Option (Str×Str):=(List.range ns.length).findSome? (syF c ns)
def zC3(c:CQ){ns:List Str}{i:Nat}{x:Str}(h:ns[i]? =some x):syF c ns i=((ns.drop (i+1)).find? (syP c x)).map fun y=>(x,y):=by unfold syF;rw[h]
def ziw{α:Type}{l:List α}{p:α->Bool}{n:Nat}(h:n<l.length)(h1:p l[n]=true)(h2:∀m (h':m<n),p (l[m]'(by omega))=false):l.find? p=some l[n]:=by
 rw[List.find?_eq_some_iff_getElem];exact⟨h1,n,h,rfl,fun j hj=>by rw[h2 j hj];rfl⟩
def syR:Option (Str×Str)->F
 |none=> .tu [.s [],.s [],.b false]
 |some p=> .tu [.s p.1,.s p.2,.b true]
def XZ1(q:CQ)(d:D)(ns:List Str)(n:Nat)(s:St):Prop:=(s.tm.get 2=some (.ptr 0 2 0 0)/\s.tm.get 7=some (d)/\s.tm.get 16=some (d)/\s.tm.get 17=some (.f (.i .i64 ns.length))/\s.tm.get 18=some (.f (.i .i64 n))/\s.h.get 0=some (.arr 2 0 [[.f (zaB q),.f (zaC q)]]))/\SZ s.h s.c d ns
def XZ2(q:CQ)(d e:D)(ns:List Str)(n:Nat)(x:Str)(m:Nat)(s:St):Prop:=(s.tm.get 2=some (.ptr 0 2 0 0)/\s.tm.get 7=some (d)/\s.tm.get 16=some (d)/\s.tm.get 17=some (.f (.i .i64 ns.length))/\s.tm.get 18=some (.f (.i .i64 n))/\s.tm.get 9=some (.f (.s x))/\s.tm.get 26=some (e)/\s.tm.get 27=some (.f (.i .i64 (ns.length - (n+1):Nat)))/\s.tm.get 28=some (.f (.i .i64 m))/\s.h.get 0=some (.arr 2 0 [[.f (zaB q),.f (zaC q)]]))/\SZ s.h s.c d ns
def XZR(p:Str×Str)(e:Ex)(s:St):Prop:=e= .ret/\s.tm.get 4=some (.f (.s p.1))/\s.tm.get 5=some (.f (.s p.2))/\s.tm.get 6=some (.f (.b true))
def zI0{hd l:List Str}(h:∀s∈l,s≠[]):∀s∈kp hd l,s≠[]:=fun s hs=>h s (List.mem_filter.1 hs).1
def rd_3(s:St)(a b c:Rv):resD s [a,b,c]=om (resV s a) fun x=>om (resV s b) fun y=>om (resV s c) fun z=>some (.tu [x,y,z]):=by
 simp only[resD,zaw,om];cases resV s a<;>cases resV s b<;>cases resV s c<;>rfl
def zcC(l:List Str):(D.f (zaq l)).cells=some [.f (zaq l)]:=zfL _ _
def ans38(q:CQ)(hd:List Str)(hq:CqG q)(hh:hd.length<1000):Ans pr 38 [.ag (cqF q),zaq hd] (syR (sym q (kp hd (vrs q)))):=by
 refine zbd fn38 ?_;simp only[g38,rU];simp[rW,st0,zae,cqE,zaF,zaH,zaN,zcC];refine zcz rfl rfl (zHI q hq.toCqSm) ?_;rintro d H c1 lw1 mx1 ⟨hF,hS⟩ hcc;simp only[rG]at hF hS hcc;have k0:=hF 0 (by omega);have k1:=hF 1 (by omega);simp[Vse.T.zad]at k0 k1;have hvl:=zmM hq.toCqSm;simp[rW,];refine zcz rfl rfl (zO6 hd (vrs q) (by omega) (by omega) (A:=1) hS (by simp only[rG];exact k1) (by omega) (by simp only[rG];omega)) ?_;rintro d2 H2 c2 lw2 mx2 ⟨hSW,hF2⟩ hcc2;simp only[rG]at hSW hF2 hcc2;have m0:=hF2 0 (by omega);rw[k0]at m0;have hlen:=zQ0 hSW;have hne:=zI0 (hd:=hd) (zhO q);have hkl:=zIZ hd (vrs q);generalize kp hd (vrs q)=ns at*;simp[rW,hlen];refine zcf (List.range ns.length) (fun i=>(syF q ns i).isSome) (XZ1 q d2 ns) (fun e s=>e= .exit 0) (fun n e s=>∃p,syF q ns n=some p/\XZR p e s) ?_ ?_ _ ?_ ?_ ?_
 .rintro n s hn ⟨⟨h2,h7,h16,h17,h18,g0⟩,hW⟩;rw[Z37]at hn;rw[List.getElem_range];have hw:=zao n (by omega);rcases hW with⟨-,e⟩ |⟨id,lim,R,rfl,gR,hRl,hRt,hid⟩
  .rw[e]at hn;simp at hn
  have hle:=SZ.le (h:=H) (c:=0) (id:=0) hRl hRt;have hat:=fun m (hm:m<ns.length)=>zJD (id:=id) (lim:=lim) hRt hm
  have hx:=hat n hn;have hnx:ns[n]? =some ns[n]:=Z0 hn;have hxne:=hne _ (Z1 hn);generalize hX:ns[n]=x at hx hnx hxne;have h1n:n+1<=ns.length:=by omega
  have h0n:(0:Int)<=(n:Int)+1:=by omega
  have hyn:=zC3 q hnx;simp[rW,h2,h7,h16,h17,h18,g0,hn,gR,hx,hw,zhH,zfz,h1n,h0n];have hdl:(ns.drop (n+1)).length=ns.length - (n+1):=by simp
  refine zcf (ns.drop (n+1)) (syP q x) (XZ2 q (.sl id 0 ns.length 1 lim false) (.sl id (n+1) (ns.length - (n+1)) 1 lim false) ns n x) (fun e s'=>e= .exit 2/\XZ1 q (.sl id 0 ns.length 1 lim false) ns n s') (fun m e s'=>∃y,(ns.drop (n+1))[m]? =some y/\XZR (x,y) e s') ?_ ?_ _ ?_ ?_ ?_
  .rintro m s' hm ⟨⟨h2,h7,h16,h17,h18,h9,h26,h27,h28,g0⟩,hW⟩;have hm2:m<ns.length - (n+1):=by omega
   have hw2:=zao m (by omega);rcases hW with⟨e,-⟩ |⟨id',lim',R,e,gR,hRl,hRt,hid⟩
   .cases e
   cases e;have hy:=zJD (id:=id) (lim:=lim) hRt (n:=n+1+m) (by omega);have hey:(ns.drop (n+1))[m]=ns[n+1+m]:=by rw[List.getElem_drop]
   have hyn2:(ns.drop (n+1))[m]? =some ns[n+1+m]:=by rw[<-hey];exact Z0 hm
   have hyne:=hne _ (Z1 (show n+1+m<ns.length by omega));rw[hey];generalize hY:ns[n+1+m]=y at hy hyn2 hyne|-;have q1:=fun f=>zaj (k:=f) (zGN q 3 (.var x) (.var y) hq hxne hyne)
   have q2:=fun f=>zaj (k:=f) (ans75 q x y hq hxne hyne)
   simp only[cqE,tmF]at q1 q2;unfold syP;generalize hb1:q.cs.any (zcY 3 (.var x) (.var y))=b1 at q1|-;generalize hb2:zhP q x y=b2 at q2|-;have stay:SZ s'.h s'.c (.sl id 0 ns.length 1 lim false) ns:= .inr ⟨id,lim,R,rfl,gR,hRl,hRt,hid⟩;have hYn:ns[n+1+m]? =some y:=by rw[<-hY];exact Z0 (by omega)
   cases b1 with
   |true=>
    simp[rW,h2,h7,h16,h17,h18,h9,h26,h27,h28,g0,hm2,gR,hy,q1,hw2,zaF,zaH];refine⟨?_,by simp[rW,];exact stay⟩;simp[rW,h2,h7,h16,h17,h18,h9,h26,h27,h28,g0,hw2]
   |false=>
    cases b2 with
    |true=>
     simp[rW,h2,h7,h16,h17,h18,h9,h26,h27,h28,g0,hm2,gR,hy,q1,q2,hw2,zaF,zaH];refine⟨y,hYn,rfl,?_⟩;simp[rW,h2,h7,h16,h17,h18,h9,h26,h27,h28,g0]
    |false=>
     simp[rW,h2,h7,h16,h17,h18,h9,h26,h27,h28,g0,hm2,gR,hy,q1,q2,hw2,zaF,zaH];refine⟨?_,by simp[rW,];exact stay⟩;simp[rW,h2,h7,h16,h17,h18,h9,h26,h27,h28,g0,hw2]
  .rintro s' ⟨⟨h2,h7,h16,h17,h18,h9,h26,h27,h28,g0⟩,hW⟩;rw[hdl]at h28;simp[rW,h2,h7,h16,h17,h18,h9,h26,h27,h28,g0];refine⟨?_,by simp[rW,];exact hW⟩;simp[rW,h2,h7,h16,h17,h18,g0]
  .refine⟨?_,by simp[rW,];exact .inr ⟨id,lim,R,rfl,gR,hRl,hRt,hid⟩⟩;simp[rW,h2,h7,h16,h17,h18,g0]
  .rintro hno e s' ⟨rfl,⟨h2,h7,h16,h17,h18,g0⟩,hW⟩;have hf:(ns.drop (n+1)).find? (syP q x)=none:=List.find?_eq_none.2 fun y hy=>by rw[hno y hy];simp
   rw[hf]at hyn;simp[rW,h2,h7,h16,h17,h18,g0,hw,hyn];refine⟨?_,by simp[rW,];exact hW⟩;simp[rW,h2,h7,h16,h17,h18,g0,hw]
  .rintro m hm hp hbf e s' ⟨y,hy,rfl,hR⟩;have hf:(ns.drop (n+1)).find? (syP q x)=some y:=by
    rw[Z0 hm]at hy;cases hy;exact ziw hm hp hbf
   rw[hf]at hyn;simp[rW,hyn];exact⟨x,y,⟨rfl,rfl⟩,rfl,hR⟩
 .rintro s ⟨⟨h2,h7,h16,h17,h18,g0⟩,hW⟩;rw[Z37]at h18;simp[rW,h2,h7,h16,h17,h18,g0]
 .refine⟨?_,by simp[rW,];exact hSW⟩;simp[rW,m0]
 .rintro hno e s rfl;have hf:sym q ns=none:=by
   unfold sym;exact zrV hno
  rw[hf];simp[rW,rd_3];rfl
 .rintro n hn hp hbf e s ⟨p,hp2,rfl,h4,h5,h6⟩;have hf:sym q ns=some p:=by
   unfold sym;rw[zot hn hp hbf,List.getElem_range];exact hp2
  rw[hf];simp[rW,h4,h5,h6,rd_3];rfl
def fn37:pr.fn 37=some g37:=by kernel_rfl
def fn13:pr.fn 13=some g13:=by kernel_rfl
def sp3(q:CQ)(x y:Str):List CQ:=[wth q ⟨3,.var x,.var y⟩,mpC (sbT y (.var x)) q,wth q ⟨3,.var y,.var x⟩]
def rkQ(hd:List Str)(c:CQ):Option (Str×Str):=sym c (kp hd (vrs c))
def rkS(hd:List Str)(l:List CQ):Option (Nat×List CQ):=match l.findIdx? fun c=>(rkQ hd c).isSome with
 |some i=>match l[i]? with
  |some c=>(rkQ hd c).map fun p=>(i,sp3 c p.1 p.2)
  |none=>none
 |none=>none
def zC4{c:CQ}{ns:List Str}{p:Str×Str}(h:sym c ns=some p):∃i x,ns[i]? =some x/\p.1=x/\p.2∈ns.drop (i+1)/\syP c x p.2=true:=by
 unfold sym at h;obtain⟨i,hi,h⟩ :=List.exists_of_findSome?_eq_some h;have hi2:i<ns.length:=by simpa using hi
 rw[zC3 c (Z0 hi2)]at h;cases hf:(ns.drop (i+1)).find? (syP c ns[i])with
 |none=>rw[hf]at h;cases h
 |some y=>
  rw[hf]at h;cases h;exact⟨i,_,Z0 hi2,rfl,List.mem_of_find?_eq_some hf,List.find?_some hf⟩
def zP1{hd:List Str}{c:CQ}{p:Str×Str}(h:rkQ hd c=some p):p.1≠[]/\p.2≠[]:=by
 obtain⟨i,x,h1,rfl,h3,-⟩ :=zC4 h;have hne:=zI0 (hd:=hd) (zhO c);exact⟨hne _ (Z39 h1),hne _ (Z21 h3)⟩
def XU1(h0:T Ob)(hd:List Str)(dq:D)(l:List CQ)(c0 n:Nat)(s:St):Prop:=(s.tm.get 1=some (.ptr c0 2 0 0)/\s.tm.get 10=some (dq)/\s.tm.get 11=some (.f (.i .i64 l.length))/\s.tm.get 12=some (.f (.i .i64 n)))/\s.h.get c0=some (.arr 2 0 [[.f (zaq hd),dq]])/\c0+1<=s.c/\Frm h0 s.h c0
def XUR(h0:T Ob)(c0 n:Nat)(q:CQ)(o:Option (Str×Str))(s:St):Prop:=∃p id ex,o=some p/\(s.tm.get 2=some (.f (.i .i64 n))/\s.tm.get 3=some (.sl id 0 3 2 3 ex))/\s.h.get id=some (.arr 2 0 (fD ((sp3 q p.1 p.2).map cqF)))/\c0<=id/\id<s.c/\Frm h0 s.h c0
def eff37(hd:List Str)(l:List CQ)(hQ:QG hd l){h:T Ob}{c0:Nat}{dq:D}(hD:QD h c0 dq l):Eff pr 37 [.ag [.f (zaq hd),dq]] h c0 (StP (rkS hd l) h c0):=by
 obtain⟨hh,hl,hq⟩ :=hQ;refine zci zbi fn37 ?_;simp only[g37,rU];simp[rW,st0,zae,zkW hD,zo5 hD,zaN];refine zcf l (fun c=>(rkQ hd c).isSome) (XU1 h hd dq l c0) (fun x s=>x= .exit 0/\XU1 h hd dq l c0 l.length s) (fun n y s=>y= .ret/\∃c,l[n]? =some c/\XUR h c0 n c (rkQ hd c) s) ?_ ?_ _ ?_ ?_ ?_
 .rintro n s hn ⟨⟨h1,h10,h11,h12⟩,g0,hlo,hF⟩;have hw:=zao n (by omega);obtain⟨id,rows,hi,hY,hr,hid⟩ :=zzg hD hn;rw[<-hF id hid]at hY;have hqn:=hq _ (Z1 hn);have hln:l[n]? =some l[n]:=Z0 hn;generalize hA:l[n]=A at hr hqn hln;have q1:=fun k=>zaj (k:=k) (ans38 A hd hqn hh)
  have n0:¬(c0=s.c):=by omega
  have hid2:¬(id=s.c):=by omega
  have e0:rkQ hd A=sym A (kp hd (vrs A)):=rfl;cases ho:sym A (kp hd (vrs A))with
  |none=>
   rw[ho]at q1 e0;simp only[cqE,syR]at q1;simp[rW,h1,h10,h11,h12,hn,hi,hY,hr,g0,n0,q1,zaN,zbQ,zaF,zaH,e0,hw,hA];refine⟨?_,?_,by simp[rW,];omega,fun x hx=> ?_⟩
   .simp[rW,h1,h10,h11,h12]
   .simp[rW,n0,g0]
   .have nx:¬(x=s.c):=by omega
    simp[rW,nx];exact hF x hx
  |some p=>
   rw[ho]at q1 e0;obtain⟨p1,p2⟩ :=zP1 e0;simp only[cqE,syR]at q1;have r1:=fun k=>zaj (k:=k) (zrJ A 3 (.var p.1) (.var p.2) hqn)
   have r2:=fun k=>zaj (k:=k) (ans39 A p.2 p.1 p2 p1 hqn)
   have r3:=fun k=>zaj (k:=k) (zxM _ (zgS hqn (f:=sbT p.2 (.var p.1)) (fun t ht=>zjH (s:=p.2) (t:= .var p.1) p1 ht)).toCqSm)
   have r4:=fun k=>zaj (k:=k) (zrJ A 3 (.var p.2) (.var p.1) hqn)
   simp only[cqE,tmF]at r1 r2 r3 r4;simp[rW,h1,h10,h11,h12,hn,hi,hY,hr,g0,n0,q1,zaN,zbQ,zaF,zaH,e0,hw,hA];refine zaL ?_;simp[rW,h1,h10,h11,h12,zaF,zaH,r1,r2,r3,r4];refine⟨A,hln,p,s.c+1+1+1+1+1+1+1+1+1+1+1+1+1+1+1+1+1+1+1+1,true,e0,⟨?_,?_⟩,?_,?_,?_,fun x hx=> ?_⟩
   .simp[rW,]
   .simp[rW,]
   .simp[rW,];rfl
   .omega
   .simp[rW,]
   .have nx:¬(x=s.c):=by omega
    have ny:¬(x=s.c+1+1+1+1+1+1+1+1+1+1+1+1+1+1+1+1+1+1+1+1):=by omega
    simp[rW,nx,ny];exact hF x hx
 .rintro s ⟨⟨h1,h10,h11,h12⟩,g0,hlo,hF⟩;simp[rW,h1,h10,h11,h12];refine⟨?_,by simp[rW,];exact g0,by simp[rW,];exact hlo,by simp[rW,];exact hF⟩;simp[rW,h1,h10,h11,h12]
 .refine⟨?_,?_,?_,fun x hx=> ?_⟩
  .simp[rW,st0,zae]
  .simp[rW,]
  .simp[rW,]
  .have nx:¬(x=c0):=by omega
   simp[rW,nx]
 .rintro hno x s ⟨rfl,⟨h1,h10,h11,h12⟩,g0,hlo,hF⟩;have hst:rkS hd l=none:=by
   unfold rkS;rw[show(l.findIdx? fun c=>(rkQ hd c).isSome)=none from Z43.2 hno]
  rw[hst];simp[rW,h1,h10,h11,h12,zbl];exact⟨⟨hF,rfl⟩,fun _=>⟨fun _ _=>rfl,rfl⟩⟩
 .rintro n hn hp hbf y s ⟨rfl,q,hqn,p,id,ex,ho,⟨h2,h3⟩,gI,hi1,hi2,hF⟩;have hst:rkS hd l=some (n,sp3 q p.1 p.2):=by
   unfold rkS;rw[show(l.findIdx? fun c=>(rkQ hd c).isSome)=some n from Z26.2 ⟨hn,hp,fun j hj=>by simpa using hbf j hj⟩];simp only[hqn,ho,Option.map_some]
  rw[hst];simp[rW,h2,h3,zbl];exact⟨hF,id,ex,rfl,gI,hi1,hi2⟩
def zGB{hd:List Str}{l0:List CQ}(hQ0:QG hd l0){k:Nat}{r:Option (List CQ)}(hR:RwN hd (rkS hd) k (zbu hd l0) r):Ans pr 13 [.ag [zaq hd,qsF l0]] (rwF hd r):=by
 refine zbd fn13 ?_;simp only[g13,rU];simp[rW,st0,zae,zaN,zcy];refine zcz rfl rfl (zHJ hQ0 (stp:=rkS hd) (fv:= .f (.fn 37)) rfl (fun l hQ h c dq hD=>eff37 hd l hQ hD) hR) ?_;rintro d H c1 lw1 mx1 ⟨hF1,hP⟩ hcc;simp only[rG]at hF1 hP hcc;have k1:=hF1 1 (by omega);simp[Vse.T.zad]at k1;cases r with
 |none=>
  simp only[RwP]at hP;subst hP;simp[rW,k1];exact⟨by omega,rfl⟩
 |some l=>
  obtain⟨dq,rfl,hE⟩ :=hP;have hE2:=hE.up (h':=H.set 1 (.arr 2 0 [[.f (zaq hd),dq]])) (fun x h1 h2=>by
   have y:¬(x=1):=by omega
   simp[Vse.T.zad,y]) (Z2 _)
  obtain⟨rd,hz⟩ :=zBX hE2 8;have hz:frz (H.set 1 (.arr 2 0 [[.f (zaq hd),dq]])).get 10 dq=some (qsF l,rd):=hz;simp[rW,k1,hz,ztE hE];exact⟨by omega,rfl⟩
end Go.Proofs.YtmnkdfjljkhneaaGreat
end
