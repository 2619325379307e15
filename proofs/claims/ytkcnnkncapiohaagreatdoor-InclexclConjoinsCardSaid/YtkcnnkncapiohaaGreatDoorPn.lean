/- All worlds. -/
import Derived.Test.YtkcnnkncapiohaaGreatDoorPm
import Derived.KernelRfl
import Derived.IntWalk
import Derived.Test.YtkcnnkncapiohaaGreatDoorPd
import Derived.Test.YtkcnnkncapiohaaGreatDoorPj
import Derived.Test.YtkcnnkncapiohaaGreatDoorQs0
import Derived.Test.YtkcnnkncapiohaaGreatDoorQs1
set_option linter.all false
set_option maxRecDepth 100000
set_option maxHeartbeats 4000000
noncomputable section
section
namespace Go.Proofs.YtkcnnkncapiohaaGreatDoor
open Go Go.Vse Go.Vse.Sm
def fn17:pr.fn 17=some g17:=by kernel_rfl
def wsF(W:List (List Int)):F:=slc 1 (W.map fun w=>[wF w])
def wsE(W:List (List Int)):List (List D):=W.map fun w=>[D.f (wF w)]
def J17(B:List (List (List F)))(k:Nat)(s:St):Prop:=∃(ok:Bool) (x:F) (d:D) (W:List (List Int)),(s.tm.get 1=some (.ptr 0 1 0 0)/\s.tm.get 3=some (d)/\s.tm.get 4=some (.f x)/\s.tm.get 5=some (.f (.b ok))/\s.h.get 0=some (.arr 1 0 [[.f (spF B)]]))/\1<=s.c/\Gro s.h 1 s.c 1 d (wsE W)/\(∀w∈W,WOk B w)/\
 ((ok=true/\∃v,x=wF v/\WOk B v/\W.length<=rkw B v/\k=prd B - rkw B v)\/(ok=false/\W.length<=prd B))
def R17(B:List (List (List F)))(x:Ex)(s:St):Prop:=x= .exit 0/\∃(d:D) (W:List (List Int)),s.tm.get 3=some d/\Gro s.h 1 s.c 1 d (wsE W)/\(∀w∈W,WOk B w)/\W.length<=prd B
def zPU(h:Nat->Option Ob)(k:Nat)(W:List (List Int)):zaU (frz h (k+1)) (wsE W)=some (W.map fun w=>[wF w],[]):=by
 have:=zhO h k (W.map fun w=>[wF w]);rw[Z33]at this;exact this
def ans17{B:List (List (List F))}{R:List (List (Nat×Nat))}(hS:zkt B R):∃W,((∀w∈W,WOk B w)/\W.length<=262144)/\Ans pr 17 [.ag [spF B]] (wsF W):=by
 have main:∃y,(∃W,y=wsF W/\(∀w∈W,WOk B w)/\W.length<=262144)/\Ans pr 17 [.ag [spF B]] y:=by
  refine zdR fn17 ?_;obtain⟨b,hv⟩ :=ans38 hS;have qv:=fun k=>zad (k:=k) hv
  have hB:=hS.n;have hp4:prd B<=262144:=Z3 (zFx B fun b hb=>(hS.b b hb).1) (Z3 (Z113 (by omega) hB) (by decide));simp only[g17,rU];cases b with
  |false=>
   simp[rW,st0,zal,zia,zgm,qv];exact⟨[],rfl,by simp,by simp⟩
  |true=>
   obtain⟨w0,hw0,a0⟩ :=ans39 hS hv;have q0:=fun k=>zad (k:=k) a0
   have hr0:=zns B w0 hw0;simp[rW,st0,zal,zia,zgm,qv,q0,w_d];refine zbS (J17 B) (R17 B) ?_ (prd B - rkw B w0) _ ⟨true,wF w0,.f .nils,[],⟨?_,?_,?_,?_,?_⟩,?_,.inl ⟨rfl,rfl⟩,by simp,.inl ⟨rfl,w0,rfl,hw0,by simp,rfl⟩⟩ ?_
   .rintro k s ⟨ok,x,d,W,⟨h1,h3,h4,h5,g0⟩,hc,hg,hW,(⟨rfl,v,rfl,hv,hl,rfl⟩ |⟨rfl,hl⟩)⟩
    .have hr:=zns B v hv;obtain⟨y,hy,ay⟩ :=ans40 hS v hv;have qy:=fun k=>zad (k:=k) ay
     simp[rW,h1,h3,h4,h5,g0,w_d,zDp];refine zb6 (new:=[[.f (wF v)]]) hg hc (by simp[wsE];omega) ?_ ?_
     .omega
     intro r1 hr1 hr2 hr3 hr4 hr5;refine⟨hr1,?_⟩;have e0:(wrT s.h r1.wr).get 0=some (.arr 1 0 [[.f (spF B)]]):=by rw[hr4 0 (by omega) (fun e=>by have:=zbf hg e;omega)];exact g0
     rcases hy with rfl|⟨v',hv',hlt,rfl⟩
     .simp[rW,h1,e0,zia,zgm,w_d,qy];rw[za1];refine⟨0,by omega,false,.nils,r1.d,W++[v],⟨?_,?_,?_,?_,?_⟩,?_,?_,?_,.inr ⟨rfl,?_⟩⟩
      .simp[rW,h1]
      .simp[rW]
      .simp[rW]
      .simp[rW]
      .simp[rW,e0]
      .simp[rW]<;>omega
      .simp[rW];simpa [wsE]using hr2
      .intro w hw;rcases Z4.1 hw with h|h
       .exact hW w h
       .rw[Z31.1 h];exact hv
      .simp;omega
     .have hr':=zns B v' hv';simp[rW,h1,e0,zia,zgm,w_d,qy];rw[za1];refine⟨prd B - rkw B v',by omega,true,wF v',r1.d,W++[v],⟨?_,?_,?_,?_,?_⟩,?_,?_,?_,.inl ⟨rfl,v',rfl,hv',?_,rfl⟩⟩
      .simp[rW,h1]
      .simp[rW]
      .simp[rW]
      .simp[rW]
      .simp[rW,e0]
      .simp[rW]<;>omega
      .simp[rW];simpa [wsE]using hr2
      .intro w hw;rcases Z4.1 hw with h|h
       .exact hW w h
       .rw[Z31.1 h];exact hv
      .simp;omega
    .simp[rW,h5];exact⟨rfl,d,W,by simp[rW,h3],by simp[rW];exact hg,hW,hl⟩
   .simp[rW]
   .simp[rW]
   .simp[rW]
   .simp[rW]
   .simp[rW]
   .simp[rW]
   .rintro x s ⟨rfl,d,W,h3,hg,hW,hl⟩;simp[rW,h3];obtain⟨rd,hf⟩ :=zi3 (k:=11) hg (zPU _ 10 _) (by simp[wsE]);simp[rW,hf];exact⟨W,rfl,hW,by omega⟩
 obtain⟨_,⟨W,rfl,hW⟩,ha⟩ :=main;exact⟨W,hW,ha⟩
def fn41:pr.fn 41=some g41:=by kernel_rfl
def fn18:pr.fn 18=some g18:=by kernel_rfl
def eqC2(a b c d:Int):∃z,zbd [0,0] [D.f (.i .i64 a),D.f (.i .i64 b)] [D.f (.i .i64 c),D.f (.i .i64 d)]=some z:=⟨_,by simp[zbd];rfl⟩
def re_d(r:List (Nat×Nat)):(rfE r).d= .f (rfE r):=zeI ..
def zL2(r:List (Nat×Nat))(n:Nat):iaB 2 (.f (rfE r)) n=(r[n]?).map fun p=>D.fptr [.i .i64 (p.1:Nat),.i .i64 (p.2:Nat)]:=by simp[rfE,zd6,Z67]
def J41(R:List (List (Nat×Nat)))(w:List Int)(a b n:Nat)(s:St):Prop:=(s.tm.get 0=some (.f (rfF R))/\s.tm.get 1=some (.f (wF w))/\s.tm.get 5=some (.ptr 0 2 0 0)/\s.tm.get 7=some (.f (.i .i64 n))/\s.h.get 0=some (.arr 2 0 [[.f (.i .i64 (a:Nat)),.f (.i .i64 (b:Nat))]]))/\1<=s.c
def Q41(x:Ex)(s:St):Prop:=x= .exit 0\/(x= .ret/\s.tm.get 6=some (.f (.b true)))
def ans41{B:List (List (List F))}{R:List (List (Nat×Nat))}(hS:zkt B R)(w:List Int)(hw:WOk B w)(a b:Nat):∃z,Ans pr 41 [rfF R,wF w,.ag [.i .i64 (a:Nat),.i .i64 (b:Nat)]] (.b z):=by
 have main:∃y,(∃z,y= .b z)/\Ans pr 41 [rfF R,wF w,.ag [.i .i64 (a:Nat),.i .i64 (b:Nat)]] y:=by
  refine zdR fn41 ?_;have hB:=hS.n;have hRB:R.length=B.length:=by have:=congrArg List.length hS.e;simpa using this.symm
  have hwn:=hw.n;simp only[g41,rU];simp[rW,st0,zal,znr,w_d];refine zbS (fun k s=>∃n:Nat,n<=R.length/\k=R.length - n/\J41 R w a b n s) Q41 ?_ R.length _ ⟨0,Z61 _,rfl,⟨?_,?_,?_,?_,?_⟩,?_⟩ ?_
  .rintro k s ⟨n,hn,rfl,⟨h0,h1,h5,h7,g0⟩,hc⟩;have hwr:=zaB n (by omega)
   by_cases hlt:n<R.length
   .have hnB:n<B.length:=by omega
    have hnw:n<w.length:=by omega
    have hx:w[n]? =some w[n]:=Z0 hnw;have hxr:R[n]? =some R[n]:=Z0 hlt;have hb:=hw.b n hnw hnB;have hlR:R[n].length=B[n].length:=by
     have:=congrArg (fun l=>l[n]?) hS.e;simp only[Z36,Z0 hnB,hxr,Z134,Z45]at this;exact this.symm
    rw[<-hlR]at hb;generalize hR:R[n]=r at hxr hb;generalize hv:w[n]=v at hx hb
    by_cases hv0:0<=v
    .obtain⟨j,rfl⟩ :∃j:Nat,v=j:=⟨v.toNat,by omega⟩
     have hj:j<r.length:=by omega
     have hxj:r[j]? =some r[j]:=Z0 hj;generalize hp:r[j]=p at hxj;obtain⟨p1,p2⟩ :=p;obtain⟨z,hz⟩ :=eqC2 (p1:Nat) (p2:Nat) (a:Nat) (b:Nat);cases z with
     |true=>
      simp[rW,h0,h1,h5,h7,g0,hlt,zjK,znL,hx,hnw,hv,hv0];refine zaq ?_;simp[rW,h0,h1,h5,h7,g0,hlt,zjK,zL4,hxr,hR,znL,hx,hnw,hv,hv0,re_d,zL2,hxj,hj,hp,hz];exact .inr ⟨rfl,by simp[rW]⟩
     |false=>
      simp[rW,h0,h1,h5,h7,g0,hlt,zjK,znL,hx,hnw,hv,hv0];refine zaq ?_;simp[rW,h0,h1,h5,h7,g0,hlt,zjK,zL4,hxr,hR,znL,hx,hnw,hv,hv0,re_d,zL2,hxj,hj,hp,hz,hwr];rw[za1];exact⟨R.length - (n+1),by omega,n+1,by omega,rfl,⟨by simp[rW,h0],by simp[rW,h1],by simp[rW,h5],by simp[rW,hwr],by simp[rW,g0]⟩,by simp[rW,hc]<;>omega⟩
    .simp[rW,h0,h1,h5,h7,g0,hlt,zjK,znL,hx,hnw,hv,hv0];refine zaq ?_;simp[rW,h0,h1,h5,h7,g0,hlt,zjK,znL,hx,hnw,hv,hv0,hwr];rw[za1];exact⟨R.length - (n+1),by omega,n+1,by omega,rfl,⟨by simp[rW,h0],by simp[rW,h1],by simp[rW,h5],by simp[rW,hwr],by simp[rW,g0]⟩,by simp[rW,hc]⟩
   .have hnl:n=R.length:=by omega
    subst hnl;simp[rW,h0,h7,zjK];exact .inl rfl
  .simp[rW]
  .simp[rW]
  .simp[rW]
  .simp[rW]
  .simp[rW]
  .simp[rW]
  .rintro x s (rfl|⟨rfl,h6⟩)
   .simp[rW]
   .simp[rW,h6]
 obtain⟨_,⟨b,rfl⟩,ha⟩ :=main;exact⟨b,ha⟩
def zPE(l:List Int):(D.f (valsF l)).cells=some [.f (valsF l)]:=zdk _ _
def zkI(p:D×Rl):List D:=[.f (.s p.2.nm),.f (.b p.2.ce),.f p.2.co,p.1]
structure zkq(h:T Ob)(c:Nat)(dO:D)(W:List (D×Rl)):Prop where
 g:Gro h 1 c 4 dO (W.map zkI)
 o:∀p∈W,Own h 2 c p.1 (zeL p.2.tu)
 n:∀p∈W,NE dO p.1
def zkq.up{h h':T Ob}{c c':Nat}{dO:D}{W:List (D×Rl)}(H:zkq h c dO W)(hf:∀id,1<=id->id<c->h'.get id=h.get id)(hc:c<=c'):zkq h' c' dO W:=
 ⟨zbB H.g hc hf,fun p hp=>(H.o p hp).up (fun x hx=>by have:=(H.o p hp).2.2.1 x hx;exact hf x (by omega) this.2) (Z2 _) hc,H.n⟩
theorem zE6{h h':T Ob}{c c':Nat}{dO d dN:D}{r:Rl}{W:List (D×Rl)}(H:zkq h c dO W)(ho:Own h 2 c d (zeL r.tu))(n1:NE dO d)
  (hg:Gro h' 1 c' 4 dN (W.map zkI++[zkI (d,r)]))(hc:c<=c')(hf:∀id,id<c->dO.oid≠some id->h'.get id=h.get id)(hN:∀x,dN.oid=some x->x=c\/dO.oid=some x):zkq h' c' dN (W++[(d,r)]):=by
 have key:∀{d:D} {X:F},NE dO d->Own h 2 c d X->Own h' 2 c' d X:=fun{d X} hn ho=>ho.up (fun x hx=>by
  have:=ho.2.2.1 x hx;exact hf x this.2 fun e=>hn x e hx) (Z2 _) hc
 have kn:∀{d:D},NE dO d->(∀x,d.oid=some x->x<c)->NE dN d:=fun{d} hn hb x hx e=>by
  rcases hN x hx with rfl|h1
  .have:=hb _ e;omega
  .exact hn x h1 e
 refine⟨by rw[Z20];exact hg,fun p hp=> ?_,fun p hp=> ?_⟩
 .rcases Z4.1 hp with hp|hp
  .exact key (H.n p hp) (H.o p hp)
  .rw[Z31.1 hp];exact key n1 ho
 .rcases Z4.1 hp with hp|hp
  .exact kn (H.n p hp) fun x hx=>((H.o p hp).2.2.1 x hx).2
  .rw[Z31.1 hp];exact kn n1 fun x hx=>(ho.2.2.1 x hx).2
theorem zt7{h:T Ob}{c:Nat}(k:Nat):∀{W:List (D×Rl)},(∀p∈W,Own h 2 c p.1 (zeL p.2.tu))->∃rd,zaU (frz h.get (k+2)) (W.map zkI)=some (W.map fun p=>rlF p.2,rd)
 |[],_=>⟨[],rfl⟩
 |p::W,hW=>by
  obtain⟨rd,hr⟩ :=zt7 k (W:=W) fun q hq=>hW q (by simp[hq])
  obtain⟨rd2,h2⟩ :=(hW p (by simp)).2.2.2 h (fun _ _=>rfl) k;have h3:za3 (frz h.get (k+2)) (zkI p)=some (rlF p.2,rd2):=by
   rw[rlE];have ef:∀x,frz h.get (k+2) (.f x)=some (x,[]):=fun _=>rfl
   simp[zkI,za3,h2,ef]
  exact⟨rd2++rd,by
   rw[Z10,zh5,h3];simp[hr]⟩
def zkq.frz{h:T Ob}{c:Nat}{dO:D}{W:List (D×Rl)}(H:zkq h c dO W)(k:Nat):∃rd,frz h.get (k+3) dO=some (zcj (W.map (·.2)),rd):=by
 obtain⟨r1,h1⟩ :=zt7 k H.o;obtain⟨s1,k1⟩ :=zlD (k:=k+2) H.g h1 (by simp);exact⟨s1,by rw[k1,zcj,Z33];rfl⟩
def zxe:List F:=[.b false,.sl 1 [[.i .u32 1]],.sl 1 [[.i .u32 1]]]
def zv3(ts:List (List Int×List F)):Prop:=ts.length<=3/\∀t∈ts,t.2=zxe
def O18(l:List Rl)(R:List (List (Nat×Nat)))(w:List Int)(n:Nat)(s:St):Prop:=∃dO W,(s.tm.get 1=some (.f (rfF R))/\s.tm.get 2=some (.f (wF w))/\s.tm.get 3=some (.ptr 0 4 0 0)/\s.tm.get 7=some (dO)/\s.h.get 0=some (.arr 4 0 [[.f (zcj l),.f .nils,.f .nils,.f .nils]]))/\1<=s.c/\zkq s.h s.c dO W/\W.length=n/\∀p∈W,zv3 p.2.tu
def J18(l:List Rl)(R:List (List (Nat×Nat)))(w:List Int)(n:Nat)(s:St):Prop:=O18 l R w n s/\s.tm.get 8=some (.f (.i .i64 n))
def O18.up{l:List Rl}{R:List (List (Nat×Nat))}{w:List Int}{n:Nat}{s S:St}(H:O18 l R w n s)(hh:S.h=s.h)(hc:s.c<=S.c)(t1:S.tm.get 1=s.tm.get 1)(t2:S.tm.get 2=s.tm.get 2)(t3:S.tm.get 3=s.tm.get 3)(t7:S.tm.get 7=s.tm.get 7):O18 l R w n S:=by
 obtain⟨dO,W,⟨h1,h2,h3,h7,g0⟩,hc1,hI,hn,hW⟩ :=H;exact⟨dO,W,⟨t1.trans h1,t2.trans h2,t3.trans h3,t7.trans h7,by rw[hh];exact g0⟩,by omega,hI.up (fun id _ _=>by rw[hh]) hc,hn,hW⟩
def tuD(ts:List (List Int×List F)):List (List D):=(ts.map tuF).map fun a=>a.map D.f
def zPv(ts:List (List Int×List F)):(tuD ts).length=ts.length:=by simp[tuD]
def zIy(ts:List (List Int×List F))(vs:List Int)(p:List F):tuD (ts++[(vs,p)])=tuD ts++[.f (valsF vs)::p.map D.f]:=by simp[tuD,tuF]
def N18(l:List Rl)(R:List (List (Nat×Nat)))(w:List Int)(r:Rl)(n P:Nat)(h0:T Ob)(dO:D)(k:Nat)(s:St):Prop:=∃(d:D) (ts:List (List Int×List F)),(s.tm.get 1=some (.f (rfF R))/\s.tm.get 2=some (.f (wF w))/\s.tm.get 3=some (.ptr 0 4 0 0)/\s.tm.get 7=some (dO)/\s.tm.get 8=some (.f (.i .i64 n))/\s.tm.get 9=some (.ptr P 4 0 0)/\s.tm.get 10=some (.f (.i .i64 k))/\s.h.get P=some (.arr 4 0 [[.f (.s r.nm),.f (.b r.ce),.f r.co,d]]))/\(∀id,id<P->s.h.get id=h0.get id)/\Gro s.h (P+1) s.c 4 d (tuD ts)/\P<s.c/\ts.length<=k/\∀t∈ts,t.2=zxe
def ans18{l:List Rl}{B:List (List (List F))}{R:List (List (Nat×Nat))}(hn8:l.length<=8)(hl:∀r∈l,r.tu.length<=3/\r.co.d= .f r.co/\(D.f r.co).cells=some [.f r.co]/\∀t∈r.tu,Pc t.2)(hS:zkt B R)(w:List Int)(hw:WOk B w):∃L,(L.length=l.length/\∀r∈L,zv3 r.tu)/\Ans pr 18 [.ag (pgF l),rfF R,wF w] (zcj L):=by
 have main:∃y,(∃L,y=zcj L/\L.length=l.length/\∀r∈L,zv3 r.tu)/\Ans pr 18 [.ag (pgF l),rfF R,wF w] y:=by
  refine zdR fn18 ?_;simp only[g18,rU];simp[rW,st0,zal,znr,w_d,pgF,zcY,zf4];refine zex l.length (J18 l R w) (fun e s=>e= .exit 0/\O18 l R w l.length s) ?_ ?_ _ ⟨⟨.f .nils,[],⟨?_,?_,?_,?_,?_⟩,?_,⟨.inl ⟨rfl,rfl⟩,by simp,by simp⟩,rfl,by simp⟩,?_⟩ ?_
  .rintro n s hn ⟨⟨dO,W,⟨h1,h2,h3,h7,g0⟩,hc,hI,hWn,hWt⟩,h8⟩;have hwn:=zaB n (by omega);have hx:l[n]? =some l[n]:=Z0 hn;obtain⟨htl,hco,hcc,hpc⟩ :=hl _ (Z1 hn);generalize hA:l[n]=r at hx htl hco hcc hpc;obtain⟨P,hP⟩ :∃P,P=s.c:=⟨_,rfl⟩
   have nP0:¬(0=P):=by omega
   have nPa:¬(P=0):=by omega
   simp[rW,h1,h2,h3,h7,h8,g0,hn,zdn,zd5,hx,hA,rlE,hco,hcc,<-hP];refine zex r.tu.length (N18 l R w r n P s.h dO) (fun e s'=>e= .exit 2/\N18 l R w r n P s.h dO r.tu.length s') ?_ ?_ _ ⟨.f .nils,[],⟨?_,?_,?_,?_,?_,?_,?_,?_⟩,?_,.inl ⟨rfl,rfl⟩,?_,by simp,by simp⟩ ?_
   .clear hP;have g0':=g0;clear h1 h2 h3 h7 h8;generalize s.h=H0 at*;clear g0 hI;rintro k s hk ⟨d,ts,⟨h1,h2,h3,h7,h8,h9,h10,gP⟩,hfr,hg,hPc,htl2,hone⟩;have hwk:=zaB k (by omega);have g0:s.h.get 0=some (.arr 4 0 [[.f (zcj l),.f .nils,.f .nils,.f .nils]]):=by rw[hfr 0 (by omega)];exact g0'
    have hxt:r.tu[k]? =some r.tu[k]:=Z0 hk;have hpT:=hpc _ (Z1 hk);generalize hTt:r.tu[k]=T at hxt hpT;obtain⟨p0,p1,p2,hpe,d0,d1,d2⟩ :=hpT;have htu:tuF T=[valsF T.1,p0,p1,p2]:=by unfold tuF;rw[hpe]
    obtain⟨z,az⟩ :=ans41 hS w hw n k;have qz:=fun k=>zad (k:=k) az
    have q1:=fun k=>zad (k:=k) fi1
    by_cases hcond:r.ce=true\/(r.ce=false/\z=true)
    .rcases hcond with hb|⟨hb,rfl⟩
     all_goals
      simp[rW,h1,h2,h3,h7,h8,h9,h10,g0,gP,zd5,hx,hA,rlE,zfr,hk,hb,znr,w_d,qz];refine zaq ?_;simp[rW,h1,h2,h3,h7,h8,h9,h10,g0,gP,zd5,hx,hA,rlE,zfr,hk,hb,zjP,hxt,hTt,htu,zav,zPE,d0,d1,d2,q1];refine zb6 (new:=[[D.f (valsF T.1),D.f (.b false),D.f (.sl 1 [[.i .u32 1]]),D.f (.sl 1 [[.i .u32 1]])]]) (zbB hg ?_ fun _ _ _=>rfl) ?_ ?_ ?_ ?_
      .omega
      .omega
      .rw[zPv];simp;omega
      .omega
      intro r1 hr1 hr2 hr3 hr4 hr5;refine⟨hr1,?_⟩;have eP:(wrT s.h r1.wr).get P=some (.arr 4 0 [[.f (.s r.nm),.f (.b r.ce),.f r.co,d]]):=by rw[hr4 P (by omega) (fun e=>by have:=zbf hg e;omega)];exact gP
      have hPr:P<r1.c+1+1:=by omega
      have hce:=zbW hr2;simp[rW,eP,hce,hPr,hwk];refine⟨r1.d,ts++[(T.1,zxe)],⟨?_,?_,?_,?_,?_,?_,?_,?_⟩,?_,?_,?_,by simp;omega,fun t ht=> ?_⟩
      .simp[rW,h1]
      .simp[rW,h2]
      .simp[rW,h3]
      .simp[rW,h7]
      .simp[rW,h8]
      .simp[rW,h9]
      .simp[rW,hwk]
      .simp[rW]
      .intro id hid;have i0:¬id=P:=by omega
       have e2:=hr4 id (by omega) (fun e=>by have:=zbf hg e;omega);simp[rW,i0,e2];exact hfr id hid
      .simp[rW];rw[zIy];exact zbB hr2 (by omega) fun id h1 _=>by
        have i0:¬id=P:=by omega
        simp[TG,i0]
      .simp[rW];omega
      .rcases Z4.1 ht with ht|ht
       .exact hone t ht
       .rw[Z31.1 ht]
    .have hb:r.ce=false:=by cases h:r.ce<;>simp_all
     have hz:z=false:=by cases z<;>simp_all
     subst hz;simp[rW,h1,h2,h3,h7,h8,h9,h10,g0,gP,zd5,hx,hA,rlE,zfr,hk,hb,znr,w_d,qz,hwk];refine⟨d,ts,⟨?_,?_,?_,?_,?_,?_,?_,?_⟩,?_,?_,?_,by omega,hone⟩
     .simp[rW,h1]
     .simp[rW,h2]
     .simp[rW,h3]
     .simp[rW,h7]
     .simp[rW,h8]
     .simp[rW,h9]
     .simp[rW]
     .simp[rW,gP]
     .simp[rW];exact hfr
     .simp[rW];exact hg
     .simp[rW,hPc]
   .rintro s2 ⟨d,ts,⟨h1,h2,h3,h7,h8,h9,h10,gP⟩,hfr,hg,hPc,htl2,hone⟩;have g1:s2.h.get 0=some (.arr 4 0 [[.f (zcj l),.f .nils,.f .nils,.f .nils]]):=by rw[hfr 0 (by omega)];exact g0
    simp[rW,h3,h8,h10,g1,zd5,hx,hA,rlE,zfr];exact⟨d,ts,⟨by simp[rW,h1],by simp[rW,h2],by simp[rW,h3],by simp[rW,h7],by simp[rW,h8],by simp[rW,h9],by simp[rW,h10],by simp[rW,gP]⟩,by simp[rW];exact hfr,by simp[rW];exact hg,by simp[rW,hPc],htl2,hone⟩
   .simp[rW,h1]
   .simp[rW,h2]
   .simp[rW,h3]
   .simp[rW,h7]
   .simp[rW,h8]
   .simp[rW]
   .simp[rW]
   .simp[rW]
   .intro id hid;have i0:¬id=P:=by omega
    simp[rW,i0]
   .simp[rW]<;>omega
   .clear h1 h2 h3 h7 h8;rintro x s2 ⟨rfl,d,ts,⟨h1,h2,h3,h7,h8,h9,h10,gP⟩,hfr,hg,hPc,htl2,hone⟩;have g1:s2.h.get 0=some (.arr 4 0 [[.f (zcj l),.f .nils,.f .nils,.f .nils]]):=by rw[hfr 0 (by omega)];exact g0
    have hI1:zkq s2.h s2.c dO W:=hI.up (fun id _ h=>hfr id (by omega)) (by omega);have ho:Own s2.h 2 s2.c d (zeL ts):=zsS hg (by omega);have n1:NE dO d:=zqP (P:=P) (fun x hx=>by have:=zbf hI.g hx;omega) fun x hx=>by have:=zbf hg hx;omega
    have hd1:∀x,dO.oid=some x->1<=x/\x<P:=fun x hx=>by have:=zbf hI.g hx;omega
    have hTs:zv3 ts:=⟨by omega,hone⟩
    have hWb:(W.map zkI).length+1<=1000000:=by rw[Z18];omega
    have hWa:∀dd,∀p∈W++[(dd,({nm:=r.nm,ce:=r.ce,co:=r.co,tu:=ts}:Rl))],zv3 p.2.tu:=fun dd p hp=>by
     rcases Z4.1 hp with hp|hp
     .exact hWt p hp
     .rw[Z31.1 hp];exact hTs
    rcases hg with⟨rfl,he⟩ |⟨ib,rb,rfl,hn0,gb,hb1,hb2,hb3⟩
    .simp[rW,h7,h8,h9,gP,hcc];refine zb6 (new:=[zkI (.f .nils,{nm:=r.nm,ce:=r.ce,co:=r.co,tu:=ts})]) hI1.g (by omega) hWb ?_ ?_
     .omega
     intro r1 hr1 hr2 hr3 hr4 hr5;refine⟨hr1,?_⟩;have e0:=hr4 0 (by omega) (fun e=>by have:=hd1 0 e;omega);simp[rW,hwn,h8];refine⟨⟨r1.d,_,⟨?_,?_,?_,?_,?_⟩,?_,?_,?_,hWa (.f .nils)⟩,?_⟩
     .simp[rW,h1]
     .simp[rW,h2]
     .simp[rW,h3]
     .simp[rW]
     .simp[rW,e0,g1]
     .simp[rW]<;>omega
     .simp[rW];exact zE6 hI1 ho n1 hr2 hr3 hr4 hr5
     .simp[hWn]
     .simp[rW,hwn]
    .simp[rW,h7,h8,h9,gP,hcc,zvw];generalize hdd:D.sl ib 0 (tuD ts).length 4 (tuD ts).length false=dd at*;have hI2:zkq (s2.h.set s2.c (.arr 4 0 [[.f (.s r.nm),.f (.b r.ce),.f r.co,dd]])) (s2.c+1) dO W:=hI1.up (fun id _ h2=>by
      have i0:¬id=s2.c:=by omega
      simp[TG,i0]) (by omega)
     have ho2:Own (s2.h.set s2.c (.arr 4 0 [[.f (.s r.nm),.f (.b r.ce),.f r.co,dd]])) 2 (s2.c+1) dd (zeL ts):=ho.up (fun x hx=>by
      have:=ho.2.2.1 x hx;have i0:¬x=s2.c:=by omega
      simp[TG,i0]) (Z2 _) (by omega)
     refine zb6 (new:=[zkI (dd,{nm:=r.nm,ce:=r.ce,co:=r.co,tu:=ts})]) hI2.g (by omega) hWb ?_ ?_
     .omega
     intro r1 hr1 hr2 hr3 hr4 hr5;refine⟨hr1,?_⟩;have e0:=hr4 0 (by omega) (fun e=>by have:=hd1 0 e;omega);have i0:¬0=s2.c:=by omega
     rw[TG,Z49 i0]at e0;simp[rW,hwn,h8];refine⟨⟨r1.d,_,⟨?_,?_,?_,?_,?_⟩,?_,?_,?_,hWa dd⟩,?_⟩
     .simp[rW,h1]
     .simp[rW,h2]
     .simp[rW,h3]
     .simp[rW]
     .simp[rW,e0,g1]
     .simp[rW]<;>omega
     .simp[rW];exact zE6 hI2 ho2 n1 hr2 hr3 hr4 hr5
     .simp[hWn]
     .simp[rW,hwn]
  .rintro s ⟨hO,h8⟩;obtain⟨dO,W,⟨h1,h2,h3,h7,g0⟩,hc,hI,hWn,hWt⟩ :=id hO;simp[rW,h1,h2,h3,h7,h8,g0,zdn];exact hO.up (by simp[rW]) (by simp[rW]) (by simp[rW]) (by simp[rW]) (by simp[rW]) (by simp[rW])
  .simp[rW]
  .simp[rW]
  .simp[rW]
  .simp[rW]
  .simp[rW]
  .simp[rW]
  .simp[rW]
  .rintro x s ⟨rfl,dO,W,⟨h1,h2,h3,h7,g0⟩,hc,hI,hWn,hWt⟩;simp[rW,h7];obtain⟨rd,hf⟩ :=hI.frz 9;simp[rW,hf];exact⟨_,rfl,by simpa using hWn,fun r hr=>by
    obtain⟨p,hp,rfl⟩ :=Z12.1 hr;exact hWt p hp⟩
 obtain⟨_,⟨L,rfl,hL⟩,ha⟩ :=main;exact⟨L,hL,ha⟩
def fn43:pr.fn 43=some g43:=by kernel_rfl
def fn19:pr.fn 19=some g19:=by kernel_rfl
def ans43(l L:List Rl):Ans pr 43 [.ag (pgF l),zcj L] (.b true):=by
 refine zbN fn43 ?_;simp only[g43,rU];simp[rW,st0,zal,pgF,zcY,zf4];refine zbS (fun k s=>s.tm.get 2=some (.ptr 0 4 0 0)/\s.tm.get 5=some (.f (.i .i64 0))/\s.h.get 0=some (.arr 4 0 [[.f (zcj l),.f .nils,.f .nils,.f .nils]])) (fun x s=>x= .exit 0/\s.tm.get 2=some (.ptr 0 4 0 0)/\s.h.get 0=some (.arr 4 0 [[.f (zcj l),.f .nils,.f .nils,.f .nils]])) ?_ 0 _ ⟨?_,?_,?_⟩ ?_
 .rintro k s ⟨h2,h5,g0⟩;simp[rW,h2,h5,g0]
 .simp[rW]
 .simp[rW]
 .simp[rW]
 .rintro x s ⟨rfl,h2,g0⟩;simp[rW,h2,g0];refine zbS (fun k s=>s.tm.get 2=some (.ptr 0 4 0 0)/\s.tm.get 6=some (.f (.i .i64 0))/\s.h.get 0=some (.arr 4 0 [[.f (zcj l),.f .nils,.f .nils,.f .nils]])) (fun x s=>x= .exit 2) ?_ 0 _ ⟨?_,?_,?_⟩ ?_
  .clear h2 g0 s;rintro k s ⟨h2,h6,g0⟩;simp[rW,h2,h6,g0]
  .simp[rW,h2]
  .simp[rW]
  .simp[rW,g0]
  .rintro x s rfl;simp[rW]
def W19(l:List Rl)(y0 y1 y2:F)(s:St):Prop:=(s.tm.get 4=some (.ptr 0 4 0 0)/\s.tm.get 8=some (.ptr 2 3 0 0)/\s.tm.get 9=some (.ptr 3 3 0 0)/\s.h.get 0=some (.arr 4 0 [[.f (zcj l),.f .nils,.f .nils,.f .nils]])/\s.h.get 2=some (.arr 3 0 [[.f (.b false),.f .nils,.f .nils]])/\s.h.get 3=some (.arr 3 0 [[.f y0,.f y1,.f y2]]))/\3<s.c
def ans19(l L:List Rl){B:List (List (List F))}{R:List (List (Nat×Nat))}(hS:zkt B R){w:List Int}(hw:WOk B w):∃r,FrP 300 r/\Ans pr 19 [.ag (pgF l),.ag [spF B],wF w,zcj L] (.ag r):=by
 obtain⟨r,hr,ar⟩ :=ans44 hS hw;refine⟨r,hr,?_⟩;obtain⟨y0,y1,y2,rfl,i0,i1,i2,j0,j1,j2⟩ :=hr.cells;have qr:=fun k=>zad (k:=k) ar
 have qc:=fun k=>zad (k:=k) (ans43 l L)
 simp only[pgF]at qc;refine zbN fn19 ?_;simp only[g19,rU];simp[rW,st0,zal,pgF,zcY,zf4,zia,zgm,w_d,qc,qr,i0,i1,i2,j0,j1,j2];refine zbS (fun k s=>W19 l y0 y1 y2 s/\s.tm.get 10=some (.f (.i .i64 0))) (fun x s=>x= .exit 0/\W19 l y0 y1 y2 s) ?_ 0 _ ⟨⟨⟨?_,?_,?_,?_,?_,?_⟩,?_⟩,?_⟩ ?_
 .rintro k s ⟨⟨⟨h4,h8,h9,g0,g2,g3⟩,hc⟩,h10⟩;simp[rW,h4,h8,h9,h10,g0,g2,g3];exact⟨⟨by simp[rW,h4],by simp[rW,h8],by simp[rW,h9],by simp[rW,g0],by simp[rW,g2],by simp[rW,g3]⟩,by simp[rW,hc]⟩
 .simp[rW]
 .simp[rW]
 .simp[rW]
 .simp[rW]
 .simp[rW]
 .simp[rW]
 .simp[rW]
 .simp[rW]
 .rintro x s ⟨rfl,⟨h4,h8,h9,g0,g2,g3⟩,hc⟩;have c2:2<s.c:=by omega
  simp[rW,h8,h9,g2,g3,c2,i0,i1,i2,j0,j1,j2]
def fn6:pr.fn 6=some g6:=by kernel_rfl
def ws_d(W:List (List Int)):(wsF W).d= .f (wsF W):=zeI ..
def zrO(W:List (List Int)):zbj (.f (wsF W))=some W.length:=by simp[wsF,zdp]
def zDv(W:List (List Int))(n:Nat):iaB 1 (.f (wsF W)) n=(W[n]?).map fun w=>D.fptr [wF w]:=by simp[wsF,zd6,Z67]
def zGI(c:List F):Prop:=∃(w:List Int) (L:List Rl) (p0 p1 p2:F),c=[wF w,zcj L,p0,p1,p2]/\zoK L
def caE(C:List (List F)):List (List D):=C.map fun c=>c.map D.f
def zNr(h:Nat->Option Ob)(k:Nat)(C:List (List F)):zaU (frz h (k+1)) (caE C)=some (C,[]):=zhO h k C
def O6(l:List Rl)(B:List (List (List F)))(R:List (List (Nat×Nat)))(W:List (List Int))(n:Nat)(s:St):Prop:=∃d C,(s.tm.get 1=some (.ptr 0 4 0 0)/\s.tm.get 3=some (.ptr 1 1 0 0)/\s.tm.get 4=some (.f (rfF R))/\s.tm.get 5=some (.f (wsF W))/\s.tm.get 6=some (d)/\s.h.get 0=some (.arr 4 0 [[.f (zcj l),.f .nils,.f .nils,.f .nils]])/\s.h.get 1=some (.arr 1 0 [[.f (spF B)]]))/\2<=s.c/\Gro s.h 2 s.c 5 d (caE C)/\C.length<=n/\∀c∈C,zGI c
def J6(l:List Rl)(B:List (List (List F)))(R:List (List (Nat×Nat)))(W:List (List Int))(n:Nat)(s:St):Prop:=O6 l B R W n s/\s.tm.get 7=some (.f (.i .i64 n))
def O6.up{l:List Rl}{B:List (List (List F))}{R:List (List (Nat×Nat))}{W:List (List Int)}{n m:Nat}{s S:St}(H:O6 l B R W n s)(hh:∀id,id<s.c->S.h.get id=s.h.get id)(hc:s.c<=S.c)(hn:n<=m)(t1:S.tm.get 1=s.tm.get 1)(t3:S.tm.get 3=s.tm.get 3)(t4:S.tm.get 4=s.tm.get 4)(t5:S.tm.get 5=s.tm.get 5)(t6:S.tm.get 6=s.tm.get 6):O6 l B R W m S:=by
 obtain⟨d,C,⟨h1,h3,h4,h5,h6,g0,g1⟩,hc1,hg,hn1,hC⟩ :=H;exact⟨d,C,⟨t1.trans h1,t3.trans h3,t4.trans h4,t5.trans h5,t6.trans h6,by rw[hh 0 (by omega)];exact g0,by rw[hh 1 (by omega)];exact g1⟩,by omega,zbB hg hc (fun id _ h=>hh id h),by omega,hC⟩
def ans6(l:List Rl)(hn8:l.length<=8)(hu:3*unc l<=9)(hl:∀r∈l,zd7 SSp PPp r):∃C,(C.length<=262144/\∀c∈C,zGI c)/\Ans pr 6 [.ag (pgF l)] (slc 5 C):=by
 have main:∃y,(∃C,y=slc 5 C/\C.length<=262144/\∀c∈C,zGI c)/\Ans pr 6 [.ag (pgF l)] y:=by
  refine zdR fn6 ?_;obtain⟨B,R,hS,asp⟩ :=ans16 l hn8 hu hl;obtain⟨W,⟨hW,hWn⟩,aal⟩ :=ans17 hS;have qs:=fun k=>zad (k:=k) asp
  have qa:=fun k=>zad (k:=k) aal
  simp only[pgF]at qs;simp only[g6,rU];simp[rW,st0,zal,pgF,zcY,zf4,qs,zia,zgm,znr,qa,ws_d];refine zex W.length (J6 l B R W) (fun e s=>e= .exit 0/\O6 l B R W W.length s) ?_ ?_ _ ⟨⟨.f .nils,[],⟨?_,?_,?_,?_,?_,?_,?_⟩,?_,.inl ⟨rfl,rfl⟩,by simp,by simp⟩,?_⟩ ?_
  .rintro n s hn ⟨hO,h7⟩;obtain⟨d,C,⟨h1,h3,h4,h5,h6,g0,g1⟩,hc,hg,hCn,hC⟩ :=id hO;have hwn:=zaB n (by omega);have hx:W[n]? =some W[n]:=Z0 hn;have hw:=hW _ (Z1 hn);generalize hA:W[n]=w at hx hw;obtain⟨L,⟨hLn,hL⟩,ain⟩ :=ans18 (l:=l) hn8 (fun r hr=>⟨(hl r hr).n,(hl r hr).co,(hl r hr).cc,fun t ht=>zcH _ ((hl r hr).p t ht)⟩) hS w hw;obtain⟨r,hr,aw⟩ :=ans19 l L hS hw;obtain⟨z,az⟩ :=zpP hr (by omega) (by omega);obtain⟨y0,y1,y2,rfl,i0,i1,i2,j0,j1,j2⟩ :=hr.cells;have q1:=fun k=>zad (k:=k) ain
   have q2:=fun k=>zad (k:=k) aw
   have q3:=fun k=>zad (k:=k) az
   simp only[pgF]at q1 q2;have hXL:zoK L:=⟨by omega,fun r hr=>⟨(hL r hr).1,fun t ht=>by rw[(hL r hr).2 t ht];exact⟨_,_,_,rfl,rfl,rfl,rfl⟩⟩⟩
   have n0:¬0=s.c:=by omega
   have n1:¬1=s.c:=by omega
   simp[rW,h1,h3,h4,h5,h6,h7,g0,g1,zrO,hn];refine zaq ?_;simp[rW,h1,h3,h4,h5,h6,h7,g0,g1,zrO,hn,zDv,hx,hA,zcY,zf4,znr,w_d,zDp,q1];refine zaq ?_;simp[rW,h1,h3,h4,h5,h6,h7,g0,g1,zrO,hn,zDv,hx,hA,zcY,zf4,znr,w_d,zDp,zia,zgm,q2,i0,i1,i2,j0,j1,j2]
   by_cases hz:0<z
   .simp[rW,q3,hz];refine zaq ?_;simp[rW,h1,h3,h4,h5,h6,h7,g0,g1,zDv,hx,hA,hn,zcY,zf4,w_d,zDp,i0,i1,i2,j0,j1,j2];refine zb6 (new:=[[.f (wF w),.f (zcj L),.f y0,.f y1,.f y2]]) (zbB hg ?_ ?_) ?_ ?_ ?_ ?_
    .omega
    .intro id h8 h9;have i0:∀k,¬id=s.c+k:=fun k=>by omega
     rw[TG,Z49 (by omega),TG,Z49 (by omega)]
    .omega
    .simp[caE];omega
    .omega
    intro r1 hr1 hr2 hr3 hr4 hr5;refine⟨hr1,?_⟩;have e0:=hr4 0 (by omega) (fun e=>by have:=zbf hg e;omega);have e1:=hr4 1 (by omega) (fun e=>by have:=zbf hg e;omega);rw[TG,Z49 (by omega),TG,Z49 (by omega)]at e0 e1;simp[rW,hwn];refine⟨⟨r1.d,C++[[wF w,zcj L,y0,y1,y2]],⟨?_,?_,?_,?_,?_,?_,?_⟩,?_,?_,by simp;omega,fun c hcm=> ?_⟩,?_⟩
    .simp[rW,h1]
    .simp[rW,h3]
    .simp[rW,h4]
    .simp[rW,h5]
    .simp[rW]
    .simp[rW,e0,g0]
    .simp[rW,e1,g1]
    .simp[rW]<;>omega
    .simp[rW];have:caE (C++[[wF w,zcj L,y0,y1,y2]])=caE C++[[.f (wF w),.f (zcj L),.f y0,.f y1,.f y2]]:=by simp[caE]
     rw[this];exact zbB hr2 (by omega) fun _ _ _=>rfl
    .rcases Z4.1 hcm with h|h
     .exact hC c h
     .rw[Z31.1 h];exact⟨w,L,y0,y1,y2,rfl,hXL⟩
    .simp[rW,hwn]
   .simp[rW,q3,hz,hwn];refine⟨hO.up (fun id hid=> ?_) ?_ (by omega) ?_ ?_ ?_ ?_ ?_,?_⟩
    .simp[rW];have i0:¬id=s.c+1+1+1+1+1+1+1+1+1+1+1+1+1+1+1+1:=by omega
     simp[i0]
    .simp[rW]<;>omega
    .simp[rW]
    .simp[rW]
    .simp[rW]
    .simp[rW]
    .simp[rW]
    .simp[rW,hwn]
  .rintro s ⟨hO,h7⟩;obtain⟨d,C,⟨h1,h3,h4,h5,h6,g0,g1⟩,hc,hg,hCn,hC⟩ :=id hO;simp[rW,h5,h7,zrO];exact hO.up (fun id _=>by simp[rW]) (by simp[rW]) (Z2 _) (by simp[rW]) (by simp[rW]) (by simp[rW]) (by simp[rW]) (by simp[rW])
  .simp[rW]
  .simp[rW]
  .simp[rW]
  .simp[rW]
  .simp[rW]
  .simp[rW]
  .simp[rW]
  .simp[rW]
  .simp[rW]
  .rintro x s ⟨rfl,d,C,⟨h1,h3,h4,h5,h6,g0,g1⟩,hc,hg,hCn,hC⟩;simp[rW,h6];obtain⟨rd,hf⟩ :=zi3 (k:=11) hg (zNr _ 10 _) (by simp[caE]);simp[rW,hf];exact⟨C,rfl,by omega,hC⟩
 obtain⟨_,⟨C,rfl,hC⟩,ha⟩ :=main;exact⟨C,hC,ha⟩
end Go.Proofs.YtkcnnkncapiohaaGreatDoor
end
section
namespace Go.Proofs.YtkcnnkncapiohaaGreatDoor
open Go Go.Vse Go.Vse.Sm
def txR:Str:=[114,101,108,97,116,105,111,110,32,82,40,97,32,105,110,116,44,32,98,32,105,110,116,41,10]
def fmR:Ans pr 48 [.ag [.sl 4 [[.s [82],.b false,coR,.nils]],.nils,.nils,.nils]] (.s txR):=Qs442
def txS:Str:=[114,101,108,97,116,105,111,110,32,83,40,97,32,105,110,116,41,10]
def fmS:Ans pr 48 [.ag [.sl 4 [[.s [83],.b false,coS,.nils]],.nils,.nils,.nils]] (.s txS):=Qs454
def txK:Str:=[114,101,108,97,116,105,111,110,32,75,40,107,32,105,110,116,32,107,101,121,44,32,118,32,105,110,116,41,10]
def fmK:Ans pr 48 [.ag [.sl 4 [[.s [75],.b false,coK,.nils]],.nils,.nils,.nils]] (.s txK):=Qs470
def txC:Str:=[99,101,114,116,97,105,110,32,67,40,97,32,105,110,116,44,32,98,32,105,110,116,41,10]
def fmC:Ans pr 48 [.ag [.sl 4 [[.s [67],.b true,coC,.nils]],.nils,.nils,.nils]] (.s txC):=Qs482
def ruL:List (List F):=[[.s [107,101,121,32,82,40,97,41]],[.s [114,117,108,101,32,82,40,120,44,32,121,41,32,105,109,112,108,105,101,115,32,83,40,120,41]],[.s [114,117,108,101,32,83,40,120,41,32,105,109,112,108,105,101,115,32,82,40,120,44,32,121,41,32,111,114,32,75,40,120,44,32,121,41]],[.s [99,111,117,110,116,32,48,32,116,111,32,50,32,111,102,32,82,40,120,44,32,121,41]],[.s [99,111,117,110,116,32,48,32,116,111,32,49,32,111,102,32,83,40,120,41,44,32,120,32,60,32,51]],[.s [102,97,99,116,111,114,32,51,47,50,32,102,111,114,32,82,40,120,44,32,121,41,44,32,83,40,121,41]],[.s [102,97,99,116,111,114,32,49,47,51,32,102,111,114,32,83,40,120,41,44,32,110,111,116,32,75,40,120,44,32,49,41]],[.s [102,97,99,116,111,114,32,50,32,102,111,114,32,75,40,120,44,32,121,41]],[.s [114,117,108,101,32,82,40,120,44,32,120,41,32,105,109,112,108,105,101,115,32,102,97,108,115,101]],[.s [102,97,99,116,111,114,32,48,32,102,111,114,32,82,40,49,44,32,50,41,44,32,83,40,50,41]],[.s [107,101,121,32,75,40,118,41]],[.s [111,98,115,101,114,118,101,32,82,40,120,44,32,121,41]],[.s [100,101,110,121,32,83,40,49,41]],[.s [111,98,115,101,114,118,101,32,83,40,120,41,32,111,114,32,75,40,120,44,32,121,41]],[.s [100,101,110,121,32,82,40,120,44,32,120,41]],[.s [102,97,99,116,111,114,32,53,47,52,32,102,111,114,32,82,40,120,44,32,121,41,44,32,82,40,121,44,32,122,41]],[.s [114,117,108,101,32,75,40,120,44,32,121,41,44,32,67,40,121,44,32,122,41,32,105,109,112,108,105,101,115,32,83,40,122,41]],[.s [99,111,117,110,116,32,49,32,116,111,32,51,32,111,102,32,67,40,120,44,32,121,41,44,32,120,32,60,61,32,121]]]
def zTf:Ans pr 49 [] (.sl 1 ruL):=Qs68
def prsF:List (List F):=[[.s [82],.b false,.sl 3 [[.s [97],.i .i64 1,.b false],[.s [98],.i .i64 1,.b false]],.nils],[.s [83],.b false,.sl 3 [[.s [97],.i .i64 1,.b false]],.nils],[.s [75],.b false,.sl 3 [[.s [107],.i .i64 1,.b true],[.s [118],.i .i64 1,.b false]],.nils],[.s [67],.b true,.sl 3 [[.s [97],.i .i64 1,.b false],[.s [98],.i .i64 1,.b false]],.nils]]
def zSE:Ans pr 50 [.s (txR++(txS++(txK++txC)))] (.tu [.ag [.sl 4 prsF,.nils,.nils,.nils],.i .i64 0,.i .i64 0]):=Qs484
end Go.Proofs.YtkcnnkncapiohaaGreatDoor
end
section
namespace Go.Proofs.YtkcnnkncapiohaaGreatDoor
open Go Go.Vse Go.Vse.Sm
def fn21:pr.fn 21=some g21:=by kernel_rfl
def fn7:pr.fn 7=some g7:=by kernel_rfl
def rl4(a b c d:List (List Int×List F)):List Rl:=[rR a,rS b,rK c,rC d]
def at0:Ans pr 28 [.nils,.i .i64 0] (.i .i64 0):=zaF (n:=1000) (zaM pr) (by kernel_rfl)
def txt:Nat->Str
 |0=>[]
 |1=>txR
 |2=>txR++txS
 |3=>txR++(txS++txK)
 |_=>txR++(txS++(txK++txC))
def P21(l:List Rl)(s:St):Prop:=(s.tm.get 1=some (.f .nils)/\s.tm.get 2=some (.ptr 0 4 0 0)/\s.tm.get 4=some (.ptr 1 4 0 0)/\s.h.get 0=some (.arr 4 0 [[.f (zcj l),.f .nils,.f .nils,.f .nils]])/\s.h.get 1=some (.arr 4 0 [[.f .nils,.f .nils,.f .nils,.f .nils]]))/\2<=s.c
def J21(l:List Rl)(n:Nat)(s:St):Prop:=P21 l s/\(s.tm.get 5=some (.f (.s (txt n)))/\s.tm.get 6=some (.f (.i .i64 n)))
def ans21(a b c d:List (List Int×List F)):Ans pr 21 [.ag (pgF (rl4 a b c d)),.nils] (.ag (pgF (rl4 a b c d))):=by
 refine zbN fn21 ?_;have hlen:(rl4 a b c d).length=4:=rfl;have q1:=fun k=>zad (k:=k) fmR
 have q2:=fun k=>zad (k:=k) fmS
 have q3:=fun k=>zad (k:=k) fmK
 have q4:=fun k=>zad (k:=k) fmC
 have q5:=fun k=>zad (k:=k) zTf
 have q6:=fun k=>zad (k:=k) zSE
 have q7:=fun k=>zad (k:=k) at0
 simp only[g21,rU];simp[rW,st0,zal,pgF,zcY,zf4];refine zex 4 (J21 (rl4 a b c d)) (fun x s=>x= .exit 0/\J21 (rl4 a b c d) 4 s) ?_ ?_ _ ⟨⟨⟨?_,?_,?_,?_,?_⟩,?_⟩,?_,?_⟩ ?_
 .rintro n s hn ⟨⟨⟨h1,h2,h4,g0,g1⟩,hc⟩,h5,h6⟩;have n0:¬0=s.c:=by omega
  have n1:¬1=s.c:=by omega
  have hn4:n=0\/n=1\/n=2\/n=3:=by omega
  have x0:(rl4 a b c d)[0]? =some (rR a):=rfl;have x1:(rl4 a b c d)[1]? =some (rS b):=rfl;have x2:(rl4 a b c d)[2]? =some (rK c):=rfl;have x3:(rl4 a b c d)[3]? =some (rC d):=rfl;rcases hn4 with rfl|rfl|rfl|rfl
  .have y:∀h,(rl4 a b c d)[0]'h=rR a:=fun _=>rfl
   have f1:(rR a).nm=[82]:=rfl;have f2:(rR a).ce=false:=rfl;have f3:(rR a).co=coR:=rfl;have f4:coR.d= .f coR:=rfl;have f5:(D.f coR).cells=some [.f coR]:=rfl;have hw:IntKind.i64.wrap 1=1:=by decide
   have et:txt 0++txR=txt 1:=by simp[txt]
   simp[rW,h1,h2,h4,h5,h6,g0,g1,zdn,hlen,zd5,x0,y,f1,f2,f3,f4,f5,rlE,q1,hw,et];exact⟨⟨⟨by simp[rW,h1],by simp[rW,h2],by simp[rW,h4],by simp[rW,g0,n0],by simp[rW,g1,n1]⟩,by simp[rW]<;>omega⟩,by simp[rW,et],by simp[rW,hw]⟩
  .have y:∀h,(rl4 a b c d)[1]'h=rS b:=fun _=>rfl
   have f1:(rS b).nm=[83]:=rfl;have f2:(rS b).ce=false:=rfl;have f3:(rS b).co=coS:=rfl;have f4:coS.d= .f coS:=rfl;have f5:(D.f coS).cells=some [.f coS]:=rfl;have hw:IntKind.i64.wrap 2=2:=by decide
   have et:txt 1++txS=txt 2:=by simp[txt]
   simp[rW,h1,h2,h4,h5,h6,g0,g1,zdn,hlen,zd5,x1,y,f1,f2,f3,f4,f5,rlE,q2,hw,et];exact⟨⟨⟨by simp[rW,h1],by simp[rW,h2],by simp[rW,h4],by simp[rW,g0,n0],by simp[rW,g1,n1]⟩,by simp[rW]<;>omega⟩,by simp[rW,et],by simp[rW,hw]⟩
  .have y:∀h,(rl4 a b c d)[2]'h=rK c:=fun _=>rfl
   have f1:(rK c).nm=[75]:=rfl;have f2:(rK c).ce=false:=rfl;have f3:(rK c).co=coK:=rfl;have f4:coK.d= .f coK:=rfl;have f5:(D.f coK).cells=some [.f coK]:=rfl;have hw:IntKind.i64.wrap 3=3:=by decide
   have et:txt 2++txK=txt 3:=by simp[txt]
   simp[rW,h1,h2,h4,h5,h6,g0,g1,zdn,hlen,zd5,x2,y,f1,f2,f3,f4,f5,rlE,q3,hw,et];exact⟨⟨⟨by simp[rW,h1],by simp[rW,h2],by simp[rW,h4],by simp[rW,g0,n0],by simp[rW,g1,n1]⟩,by simp[rW]<;>omega⟩,by simp[rW,et],by simp[rW,hw]⟩
  .have y:∀h,(rl4 a b c d)[3]'h=rC d:=fun _=>rfl
   have f1:(rC d).nm=[67]:=rfl;have f2:(rC d).ce=true:=rfl;have f3:(rC d).co=coC:=rfl;have f4:coC.d= .f coC:=rfl;have f5:(D.f coC).cells=some [.f coC]:=rfl;have hw:IntKind.i64.wrap 4=4:=by decide
   have et:txt 3++txC=txt 4:=by simp[txt]
   simp[rW,h1,h2,h4,h5,h6,g0,g1,zdn,hlen,zd5,x3,y,f1,f2,f3,f4,f5,rlE,q4,hw,et];exact⟨⟨⟨by simp[rW,h1],by simp[rW,h2],by simp[rW,h4],by simp[rW,g0,n0],by simp[rW,g1,n1]⟩,by simp[rW]<;>omega⟩,by simp[rW,et],by simp[rW,hw]⟩
 .rintro s ⟨⟨⟨h1,h2,h4,g0,g1⟩,hc⟩,h5,h6⟩;simp[rW,h2,h6,g0,zdn,hlen];exact⟨⟨⟨by simp[rW,h1],by simp[rW,h2],by simp[rW,h4],by simp[rW,g0],by simp[rW,g1]⟩,by simp[rW,hc]⟩,by simp[rW,h5],by simp[rW,h6]⟩
 .simp[rW]
 .simp[rW]
 .simp[rW]
 .simp[rW]
 .simp[rW]
 .simp[rW]
 .simp[rW,txt]
 .simp[rW]
 .rintro x s ⟨rfl,⟨⟨h1,h2,h4,g0,g1⟩,hc⟩,h5,h6⟩;have hr:zaN .rem (.i .i64 0) (.i .i64 4)=some (.i .i64 0):=by rfl
  simp[rW,h1,h2,h4,h5,g0,g1,q5];refine zbS (fun k s=>P21 (rl4 a b c d) s/\(s.tm.get 5=some (.f (.s (txt 4)))/\s.tm.get 8=some (.f (.i .i64 0)))) (fun x s=>x= .exit 2/\P21 (rl4 a b c d) s/\s.tm.get 5=some (.f (.s (txt 4)))) ?_ 0 _ ⟨⟨⟨?_,?_,?_,?_,?_⟩,?_⟩,?_,?_⟩ ?_
  .clear h1 h2 h4 h5 h6 g0 g1 hc s;rintro k s ⟨⟨⟨h1,h2,h4,g0,g1⟩,hc⟩,h5,h8⟩;simp[rW,h1,h8,q7,hr];exact⟨⟨⟨by simp[rW,h1],by simp[rW,h2],by simp[rW,h4],by simp[rW,g0],by simp[rW,g1]⟩,by simp[rW,hc]⟩,by simp[rW,h5]⟩
  .simp[rW,h1]
  .simp[rW,h2]
  .simp[rW,h4]
  .simp[rW,g0]
  .simp[rW,g1]
  .simp[rW,hc]
  .simp[rW,h5]
  .simp[rW]
  .clear h1 h2 h4 h5 h6 g0 g1 hc s;rintro x s ⟨rfl,⟨⟨h1,h2,h4,g0,g1⟩,hc⟩,h5⟩;have et:txt 4=txR++(txS++(txK++txC)):=rfl;rw[et]at h5;have n0:¬0=s.c:=by omega
   have n1:¬1=s.c:=by omega
   simp[rW,h1,h2,h4,h5,g0,g1,q6,n0,n1];refine zaq ?_;simp[rW,h1,h2,h4,h5,g0,g1,n0,n1]
def ans7(x:F)(hx:zc1 x)(hxd:x.d= .f x):∃a b c d,(a.length<=3/\∀t∈a,TuR t)/\(b.length<=3/\∀t∈b,TuS t)/\(c.length<=3/\∀t∈c,TuK t)/\(d.length<=3/\∀t∈d,TuC t)/\Ans pr 7 [x,.nils] (.ag (pgF (rl4 a b c d))):=by
 obtain⟨a,b,c,d,ha,hb,hc,hd,ar⟩ :=ans22 x hx hxd;refine⟨a,b,c,d,ha,hb,hc,hd,zbN fn7 ?_⟩;have e:slc 4 ([rR a,rS b,rK c,rC d].map rlF)=zcj (rl4 a b c d):=rfl;rw[e]at ar;have q1:=fun k=>zad (k:=k) ar
 have q2:=fun k=>zad (k:=k) (ans21 a b c d)
 simp only[pgF]at q2;simp only[g7,rU];simp[rW,st0,zal,hxd,q1,zcY,zf4,q2,pgF]
def zSN{a b c d:List (List Int×List F)}(ha:a.length<=3/\∀t∈a,TuR t)(hb:b.length<=3/\∀t∈b,TuS t)(hc:c.length<=3/\∀t∈c,TuK t)(hd:d.length<=3/\∀t∈d,TuC t):(rl4 a b c d).length<=8/\3*unc (rl4 a b c d)<=9/\∀r∈rl4 a b c d,zd7 SSp PPp r:=by
 refine⟨by simp[rl4],by simp[rl4,unc,rR,rS,rK,rC],fun r hr=> ?_⟩;simp only[rl4,Z5,Z164,or_false]at hr;rcases hr with rfl|rfl|rfl|rfl
 .exact okR a ha.1 ha.2
 .exact okS b hb.1 hb.2
 .exact okK c hc.1 hc.2
 .exact okC d hd.1 hd.2
def fn30:pr.fn 30=some g30:=by kernel_rfl
def pick{L:List (List F)}(h:∀x∈L,RdX x){j:Nat}(hj:j<L.length)(z:Nat):∃c∈CQl,∃p,L[j]? =some [.s p]/\Ans pr 70 [.s p,.i .i64 z] (.ag (cqF c)):=by
 obtain⟨p,e,h1,h2,h3⟩ :=h L[j] (Z1 hj);obtain⟨c,hc,q⟩ :=h3 (z%3) (Z124 _ (by omega));exact⟨c,hc,p,by rw[Z0 hj,e],ans70 p z c h1 h2 q⟩
def ans29(n:Int):∃c∈CQl,Ans pr 29 [.i .i64 n] (.ag (cqF c)):=by
 obtain⟨r,hr,he⟩ :=zgM n 65535 (by omega);obtain⟨z,hz⟩ :∃z:Int,zaN .shr (.i .i64 n) (.i .u64 6)=some (.i .i64 z):=⟨_,rfl⟩
 obtain⟨k,hk,hke⟩ :=zgM z 7 (by omega);have he':zaN .and (.i .i64 n) (.i .i64 65535)=some (.i .i64 r):=he;have hke':zaN .and (.i .i64 z) (.i .i64 7)=some (.i .i64 k):=hke;have hrem:=zcX r 24 (by omega);rw[show((24:Nat):Int)=24 from rfl]at hrem;have hpl:paL.length=24:=rfl;have hj:r%24<paL.length:=by rw[hpl];exact Z124 _ (by omega)
 generalize r%24=j at hrem hj;obtain⟨c,hc,p,hp,h38⟩ :=pick rdA hj k;have hp2:∀h:j<paL.length,paL[j]=[.s p]:=fun h=>by
  rw[Z0 h]at hp;exact Z53 hp
 simp only[cqE]at h38;rw[hpl]at hj;have q37:=fun k=>zad (k:=k) ans69
 have q38:=fun k=>zad (k:=k) h38
 refine⟨c,hc,zbN fn29 ?_⟩;simp only[g29,rU];simp -implicitDefEqProofs [zaR,rR,apO,st0,zal,q37,he',hz,hke',hrem,hp,hpl,hp2,hj,q38,cqE,zdL,zea]
def ans30(n:Nat):∃c∈CQl,Ans pr 30 [.i .i64 n] (.ag (cqF c)):=by
 obtain⟨r,hr,he⟩ :=zgM n 65535 (by omega);obtain⟨z,hz⟩ :∃z:Int,zaN .shr (.i .i64 n) (.i .u64 6)=some (.i .i64 z):=⟨_,rfl⟩
 obtain⟨k,hk,hke⟩ :=zgM z 7 (by omega);have he':zaN .and (.i .i64 n) (.i .i64 65535)=some (.i .i64 r):=he;have hke':zaN .and (.i .i64 z) (.i .i64 7)=some (.i .i64 k):=hke;have hrem:=zcX r 18 (by omega);rw[show((18:Nat):Int)=18 from rfl]at hrem;have hpl:poL.length=18:=rfl;have hj:r%18<poL.length:=by rw[hpl];exact Z124 _ (by omega)
 generalize r%18=j at hrem hj;obtain⟨c,hc,p,hp,h38⟩ :=pick rdO hj k;have hp2:∀h:j<poL.length,poL[j]=[.s p]:=fun h=>by
  rw[Z0 h]at hp;exact Z53 hp
 simp only[cqE]at h38;rw[hpl]at hj;have q77:=fun k=>zad (k:=k) ans71
 have q38:=fun k=>zad (k:=k) h38
 refine⟨c,hc,zbN fn30 ?_⟩;simp only[g30,rU];simp -implicitDefEqProofs [zaR,rR,apO,st0,zal,q77,he',hz,hke',hrem,hp,hpl,hp2,hj,q38,cqE,zdL,zea]
end Go.Proofs.YtkcnnkncapiohaaGreatDoor
end
