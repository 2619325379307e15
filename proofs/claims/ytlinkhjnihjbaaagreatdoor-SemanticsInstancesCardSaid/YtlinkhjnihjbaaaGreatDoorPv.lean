/- relation.Validate, relation.Blocks of the program: valid relations. -/
import Derived.Test.YtlinkhjnihjbaaaGreatDoorPu
import Derived.KernelRfl
import Derived.IntWalk
set_option linter.all false
set_option maxRecDepth 100000
set_option maxHeartbeats 4000000
section
namespace Go.Proofs.YtlinkhjnihjbaaaGreatDoor
open Go Go.Vse Go.Vse.Sm
def fn112:pr.fn 112=some zyq:=by kernel_rfl
def fn113:pr.fn 113=some zys:=by kernel_rfl
def ztw(r:Rl)(s:St):Prop:=(s.tm.get 1=some (.ptr 0 4 0 0)/\s.h.get 0=some (.arr 4 0 [[.f (.s r.nm),.f (.b r.ce),.f r.co,.f (zaW r.tu)]]))/\1<=s.c
def J112(r:Rl)(n:Nat)(s:St):Prop:=ztw r s/\(s.tm.get 20=some (.f (zaW r.tu))/\s.tm.get 21=some (.f (.i .i64 r.tu.length))/\s.tm.get 22=some (.f (.i .i64 n)))
def K112(r:Rl)(B:List (List Nat))(n:Nat)(s:St):Prop:=ztw r s/\(s.tm.get 6=some (.f (zcm B))/\s.tm.get 53=some (.f (zcm B))/\s.tm.get 54=some (.f (.i .i64 B.length))/\s.tm.get 55=some (.f (.i .i64 n)))
def M112(r:Rl)(B:List (List Nat))(n:Nat)(s:St):Prop:=ztw r s/\(s.tm.get 63=some (.f (zcm B))/\s.tm.get 64=some (.f (.i .i64 B.length))/\s.tm.get 65=some (.f (.i .i64 n)))
def zmr(s:Nat×Nat):∃z:Int,0<=z/\sgN s= .i .i64 z:=⟨_,by split<;>omega,rfl⟩
def zAi{r:Rl}{B:List (List Nat)}(h:Gx r B):Ans pr 112 [.ag (rlF r)] (.i .i64 0):=by
 refine zb6 fn112 ?_;have qv:=fun k=>zaj (k:=k) h.vp
 have hco:=h.k.co;have hcc:=h.k.cc;have hn:=h.k.n;have hd:(zaW r.tu).d= .f (zaW r.tu):=zd5 _;have hc2:(D.f (zaW r.tu)).cells=some [.f (zaW r.tu)]:=zcc _ _;have h64:¬(64:Int)< (r.tu.length:Nat):=by omega
 simp only[zyq,rU];simp[rW,st0,zax,rlE,hco,hd,hcc,hc2,qv,zfc,h64];refine zcz r.tu.length (J112 r) (fun e s=>e= .exit 0/\ztw r s) ?_ ?_ _ ⟨⟨⟨?_,?_⟩,?_⟩,?_,?_,?_⟩ ?_
 .rintro n s hlt ⟨⟨⟨h1,g0⟩,hc⟩,h20,h21,h22⟩;have hw:=zaK n (by omega);have hx:r.tu[n]? =some r.tu[n]:=Z0 hlt;have hpT:=h.k.p _ (Z1 hlt);have hcp:=h.cp _ (Z1 hlt);have hlT:=h.k.l;have nc:¬0=s.c:=by omega
  have nd:¬s.c=0:=by omega
  cases n with
  |zero=>
   generalize hTt:r.tu[0]=T at hx hpT hcp;obtain⟨p0,p1,p2,hpe,d0,d1,d2⟩ :=zaX _ hpT;have htu:tuF T=[valsF T.1,p0,p1,p2]:=by unfold tuF;rw[hpe]
   rw[htu]at hcp;have qc:=fun k=>zaj (k:=k) hcp
   have hw1:IntKind.i64.wrap 1=1:=rfl;simp[rW,h1,h20,h21,h22,g0,hlt,zfZ,hx,hTt,htu,qc,hco,hcc,d0,d1,d2,nc,nd,hw];exact⟨⟨⟨by simp[rW,h1],by simp[rW,g0,nc]⟩,by simp[rW]<;>omega⟩,by simp[rW,h20],by simp[rW,h21],by simp[rW,hw1]⟩
  |succ m=>
   have hml:m<r.tu.length:=by omega
   have hxm:r.tu[m]? =some r.tu[m]:=Z0 hml;have hcmp:=h.s m hlt (by omega);have hac:=zKb (r.tu[m]).1 (r.tu[m+1]).1 (by have:=h.k.l _ (Z1 hml);omega);have hpM:=h.k.p _ (Z1 hml);generalize hTt:r.tu[m+1]=T at hx hpT hcp hcmp hac;generalize hMt:r.tu[m]=U at hxm hcmp hac hpM;obtain⟨p0,p1,p2,hpe,d0,d1,d2⟩ :=zaX _ hpT;obtain⟨u0,u1,u2,hue,-,-,-⟩ :=zaX _ hpM;have htu:tuF T=[valsF T.1,p0,p1,p2]:=by unfold tuF;rw[hpe]
   have htm:tuF U=[valsF U.1,u0,u1,u2]:=by unfold tuF;rw[hue]
   rw[htu]at hcp;have qc:=fun k=>zaj (k:=k) hcp
   have qk:=fun k=>zaj (k:=k) hac
   generalize cmpL U.1 T.1=z at hcmp qk;have z0:¬z=0:=by omega
   have z1:¬z=1:=by omega
   have hwm:IntKind.i64.wrap (m:Int)=(m:Int):=wrap_i64 _ (by omega) (by omega);have hw2:IntKind.i64.wrap ((m:Int)+1+1)=((m+2:Nat):Int):=wrap_i64 _ (by omega) (by omega);have hne:¬((m:Int)+1=0):=by omega
   have hp0:(0:Int)<=(m:Int)+1:=by omega
   have hltI:(m:Int)+1<r.tu.length:=by omega
   simp[rW,h1,h20,h21,h22,g0,hlt,hltI,zfZ,hx,hTt,htu,qc,hco,hcc,d0,d1,d2,nc,nd,hne,hp0];refine zaM ?_;simp[rW,h1,h20,h21,h22,g0,hlt,hml,zfZ,hx,hxm,hTt,hMt,htu,htm,hwm,nc,nd,qk,z0,z1,hw2];exact⟨⟨⟨by simp[rW,h1],by simp[rW,g0,nc]⟩,by simp[rW]<;>omega⟩,by simp[rW,h20],by simp[rW,h21],by simp[rW]<;>omega⟩
 .rintro s ⟨⟨⟨h1,g0⟩,hc⟩,h20,h21,h22⟩;simp[rW,h1,h20,h21,h22];exact⟨⟨by simp[rW,h1],by simp[rW,g0]⟩,by simp[rW,hc]⟩
 .simp[rW]
 .simp[rW]
 .simp[rW]
 .simp[rW]
 .simp[rW]
 .simp[rW]
 .rintro e s ⟨rfl,⟨h1,g0⟩,hc⟩;have qg:=fun k=>zaj (k:=k) h.gp
  simp only[rlE]at qg;have hBn:=h.n;simp[rW,h1,g0,hco,hd,hcc,hc2,qg,zmG,zdo];refine zcz B.length (K112 r B) (fun e s=>e= .exit 3/\ztw r s/\s.tm.get 6=some (.f (zcm B))) ?_ ?_ _ ⟨⟨⟨?_,?_⟩,?_⟩,?_,?_,?_,?_⟩ ?_
  .clear h1 g0 hc s;rintro n s hlt ⟨⟨⟨h1,g0⟩,hc⟩,h6,h53,h54,h55⟩;have hw:=zaK n (by omega);have hx:B[n]? =some B[n]:=Z0 hlt;have hbl:=(h.b _ (Z1 hlt)).1;generalize hb:B[n]=b at hx hbl;have h16:¬(16:Int)< (b.length:Nat):=by omega
   simp[rW,h1,h6,h53,h54,h55,g0,hlt,zdo,zgP,hx,hb,zgS,zlR,h16,hw];exact⟨⟨⟨by simp[rW,h1],by simp[rW,g0]⟩,by simp[rW,hc]⟩,by simp[rW,h6],by simp[rW,h53],by simp[rW,h54],by simp[rW]⟩
  .clear h1 g0 hc s;rintro s ⟨⟨⟨h1,g0⟩,hc⟩,h6,h53,h54,h55⟩;simp[rW,h53,h54,h55];exact⟨⟨⟨by simp[rW,h1],by simp[rW,g0]⟩,by simp[rW,hc]⟩,by simp[rW,h6]⟩
  .simp[rW,h1]
  .simp[rW,g0]
  .simp[rW,hc]
  .simp[rW]
  .simp[rW]
  .simp[rW]
  .simp[rW]
  .clear h1 g0 hc s;rintro e s ⟨rfl,⟨⟨h1,g0⟩,hc⟩,h6⟩;simp[rW,h6,zdo];refine zcz B.length (M112 r B) (fun e s=>e= .exit 5) ?_ ?_ _ ⟨⟨⟨?_,?_⟩,?_⟩,?_,?_,?_⟩ ?_
   .clear h1 g0 hc h6 s;rintro n s hlt ⟨⟨⟨h1,g0⟩,hc⟩,h63,h64,h65⟩;have hw:=zaK n (by omega);have hx:B[n]? =some B[n]:=Z0 hlt;obtain⟨hbl,hbi,ns,hB,hle⟩ :=h.b _ (Z1 hlt);generalize hb:B[n]=b at hx hbl hbi hB;have aS:=zHA r h.k.co h.k.cc b ns hbl hB hle;have hI:=allL uC _ (zn6 ns (by rw[hB.1];exact hbl) hB.mem) hle;obtain⟨-,-,-,a4,a5⟩ :=hI;generalize sN ns=sm at aS a4 a5;obtain⟨z,hz0,hz⟩ :=zmr (cmN sm);rw[hz]at a5;simp only[frE,rlE]at aS a4 a5;have q1:=fun k=>zaj (k:=k) aS
    have q2:=fun k=>zaj (k:=k) a4
    have q3:=fun k=>zaj (k:=k) a5
    have hzn:¬z<0:=by omega
    simp[rW,h1,h63,h64,h65,g0,hlt,zdo,zgP,hx,hb,zgS,zlR,hco,hd,hcc,hc2,q1,q2,q3,zer,hzn,hw];exact⟨⟨⟨by simp[rW,h1],by simp[rW,g0]⟩,by simp[rW,hc]⟩,by simp[rW,h63],by simp[rW,h64],by simp[rW]⟩
   .rintro s ⟨⟨⟨h1,g0⟩,hc⟩,h63,h64,h65⟩;simp[rW,h63,h64,h65]
   .simp[rW,h1]
   .simp[rW,g0]
   .simp[rW,hc]
   .simp[rW]
   .simp[rW]
   .simp[rW]
   .rintro e s rfl;simp[rW]
def zJ4{r:Rl}{B:List (List Nat)}(h:Gx r B):Ans pr 113 [.ag (rlF r)] (zcm B):=by
 have qe:=fun k=>zaj (k:=k) (zAi h)
 have qg:=fun k=>zaj (k:=k) h.gp
 have hco:=h.k.co;have hcc:=h.k.cc;have hd:(zaW r.tu).d= .f (zaW r.tu):=zd5 _;have hc2:(D.f (zaW r.tu)).cells=some [.f (zaW r.tu)]:=zcc _ _;refine zb6 fn113 ?_;simp only[zys,rU];simp only[rlE]at qe qg;simp[rW,st0,zax,rlE,hco,hd,hcc,hc2,qe,qg,zmG]
def fn45:pr.fn 45=some g45:=by kernel_rfl
def norm2{p:List F}(h:PPp p):Ans pr 85 [.ag p] (.ag p):=by
 obtain⟨n,hn,rfl⟩ :=ztj h;have hd:n∈DI:=zDl (k:=1) (by have:=ziQ (k:=0) (by omega) (Z31.2 rfl) hn;rwa[eN n hn]at this);exact (allL uC _ hd (Z50.1 (by decide:(PN.all le1)=true) n hn)).2.2.1
def rb_nn{L:List RB}(h:L≠[]):rbF L= .sl 4 (L.map fun p=>rlF p.1):=by
 cases L with
 |nil=>exact absurd rfl h
 |cons p L=>simp[rbF,zc3,slc]
def V45(L:List RB)(n:Nat)(s:St):Prop:=(s.tm.get 0=some (.f (rbF L))/\s.tm.get 2=some (.ptr 0 1 0 0)/\s.tm.get 24=some (.f (rbF L))/\s.tm.get 25=some (.f (.i .i64 L.length))/\s.tm.get 26=some (.f (.i .i64 n))/\s.h.get 0=some (.arr 1 0 [[.f .nils]]))/\1<=s.c
def W45(L:List RB)(r:Rl)(n P m:Nat)(s:St):Prop:=V45 L n s/\(s.tm.get 6=some (.ptr P 4 0 0)/\s.tm.get 39=some (.f (.sl 4 ((L.map fun p=>rlF p.1).take n)))/\s.tm.get 40=some (.f (.i .i64 n))/\s.tm.get 41=some (.f (.i .i64 m))/\s.h.get P=some (.arr 4 0 [[.f (.s r.nm),.f (.b r.ce),.f r.co,.f (zaW r.tu)]]))/\1<=P/\P<s.c
def O45(L:List RB)(Q U:Nat)(XB:List (List (List F)))(XR:List (List (Nat×Nat)))(s:St):Prop:=∃dB dR WB WR,(s.tm.get 0=some (.f (rbF L))/\s.tm.get 2=some (.ptr 0 1 0 0)/\s.tm.get 10=some (.ptr Q 1 0 0)/\s.tm.get 11=some (dR)/\s.tm.get 55=some (.f (rbF L))/\s.tm.get 56=some (.f (.i .i64 L.length))/\s.h.get 0=some (.arr 1 0 [[.f .nils]])/\s.h.get Q=some (.arr 1 0 [[dB]]))/\zdL (Q+1) s.h s.c dB dR WB WR/\WB.map (·.2)=XB/\WR.map (·.2)=XR/\Q<s.c/\dB.oid≠some U/\dR.oid≠some U
def O45.up{L:List RB}{Q U:Nat}{XB:List (List (List F))}{XR:List (List (Nat×Nat))}{s S:St}(H:O45 L Q U XB XR s)(hh:S.h=s.h)(hc:s.c<=S.c)(t0:S.tm.get 0=s.tm.get 0)(t2:S.tm.get 2=s.tm.get 2)(t5:S.tm.get 10=s.tm.get 10)(t6:S.tm.get 11=s.tm.get 11)(t55:S.tm.get 55=s.tm.get 55)(t56:S.tm.get 56=s.tm.get 56):O45 L Q U XB XR S:=by
 obtain⟨dB,dR,WB,WR,⟨h0,h2,h5,h6,h55,h56,g0,g1⟩,hR,hB,hW,hlo,hU1,hU2⟩ :=H;exact⟨dB,dR,WB,WR,⟨t0.trans h0,t2.trans h2,t5.trans h5,t6.trans h6,t55.trans h55,t56.trans h56,by rw[hh];exact g0,by rw[hh];exact g1⟩,hR.up (fun id _ _=>by rw[hh]) hc,hB,hW,by omega,hU1,hU2⟩
def J45(L:List RB)(Q n:Nat)(s:St):Prop:=O45 L Q 0 (spL (L.take n)) (rfL (L.take n)) s/\s.tm.get 57=some (.f (.i .i64 n))
def R45(L:List RB)(Q:Nat)(x:Ex)(s:St):Prop:=x= .exit 4/\O45 L Q 0 (spL L) (rfL L) s
def M45(L:List RB)(Q:Nat)(r:Rl)(B:List (List Nat))(n U k:Nat)(s:St):Prop:=O45 L Q U (spL (L.take n)++(B.take k).map (bP r)) (rfL (L.take n)++(B.take k).map (bR n)) s/\(s.tm.get 57=some (.f (.i .i64 n))/\s.tm.get 12=some (.f (.i .i64 n))/\s.tm.get 13=some (.ptr U 4 0 0)/\s.tm.get 63=some (.f (zcm B))/\s.tm.get 64=some (.f (.i .i64 B.length))/\s.tm.get 65=some (.f (.i .i64 k))/\s.h.get U=some (.arr 4 0 [[.f (.s r.nm),.f (.b r.ce),.f r.co,.f (zaW r.tu)]]))/\U<s.c/\¬U=Q
def T45(L:List RB)(Q:Nat)(r:Rl)(B:List (List Nat))(n:Nat)(x:Ex)(s:St):Prop:=x= .exit 6/\O45 L Q 0 (spL (L.take n)++B.map (bP r)) (rfL (L.take n)++B.map (bR n)) s/\s.tm.get 57=some (.f (.i .i64 n))
def N45(L:List RB)(Q:Nat)(r:Rl)(B:List (List Nat))(b:List Nat)(n U k P:Nat)(h0:T Ob)(dR:D)(j:Nat)(s:St):Prop:=∃(db dr:D),(s.tm.get 0=some (.f (rbF L))/\s.tm.get 2=some (.ptr 0 1 0 0)/\s.tm.get 10=some (.ptr Q 1 0 0)/\s.tm.get 11=some (dR)/\s.tm.get 55=some (.f (rbF L))/\s.tm.get 56=some (.f (.i .i64 L.length))/\s.tm.get 57=some (.f (.i .i64 n))/\s.tm.get 12=some (.f (.i .i64 n))/\s.tm.get 13=some (.ptr U 4 0 0)/\s.tm.get 63=some (.f (zcm B))/\s.tm.get 64=some (.f (.i .i64 B.length))/\s.tm.get 65=some (.f (.i .i64 k))/\s.tm.get 16=some (.ptr P 1 0 0)/\s.tm.get 17=some (dr)/\s.tm.get 69=some (.f (ixF b))/\s.tm.get 70=some (.f (.i .i64 b.length))/\s.tm.get 71=some (.f (.i .i64 j))/\s.h.get P=some (.arr 1 0 [[db]]))/\
 (∀id,id<P->s.h.get id=h0.get id)/\Gro s.h (P+1) s.c 3 db ((bP r (b.take j)).map fun a=>a.map D.f)/\Gro s.h (P+1) s.c 2 dr (rfD (bR n (b.take j)))/\NE db dr/\P<s.c
def Y45(L:List RB)(Q:Nat)(r:Rl)(B:List (List Nat))(b:List Nat)(n U k P:Nat)(h0:T Ob)(dR:D)(x:Ex)(s:St):Prop:=x= .exit 8/\N45 L Q r B b n U k P h0 dR b.length s
def zEz{L:List RB}(hL:LOk L):Ans pr 45 [rbF L] (.tu [.ag [spF (spL L)],rfF (rfL L),.i .i64 0]):=by
 refine zb6 fn45 ?_;simp only[g45,rU];have hn8:=hL.n;have h8:¬(8:Int)< (L.length:Nat):=by omega
 simp[rW,st0,zax,zgj,zdv,h8];refine zcz L.length (V45 L) (fun e s=>e= .exit 0/\(s.tm.get 0=some (.f (rbF L))/\s.tm.get 2=some (.ptr 0 1 0 0)/\s.h.get 0=some (.arr 1 0 [[.f .nils]]))/\1<=s.c) ?_ ?_ _ ⟨⟨?_,?_,?_,?_,?_,?_⟩,?_⟩ ?_
 .rintro n s hlt ⟨⟨h0,h2,h24,h25,h26,g0⟩,hc⟩;have hw:=zaK n (by omega);have hx:L[n]? =some L[n]:=Z0 hlt;have hG:=hL.g _ (Z1 hlt);have hdn:=fun m p hm hmn=>hL.d m n p _ hm hx hmn
  have hrb:rbF L= .sl 4 (L.map fun p=>rlF p.1):=rb_nn (by rintro rfl;simp at hlt);generalize hA:L[n]=q at hx hG hdn;obtain⟨r,B⟩ :=q;simp only at hG hdn;have qe:=fun k=>zaj (k:=k) (zAi hG)
  simp only[rlE]at qe;have hco:=hG.k.co;have hcc:=hG.k.cc;have hd:(zaW r.tu).d= .f (zaW r.tu):=zd5 _;have hc2:(D.f (zaW r.tu)).cells=some [.f (zaW r.tu)]:=zcc _ _;have nc:¬0=s.c:=by omega
  have nd:¬s.c=0:=by omega
  have hnl:n<=L.length:=by omega
  simp[rW,h0,h2,h24,h25,h26,g0,hlt,zet,hx,hA,rlE,hco,hcc,hc2,hd,qe,nc,nd];rw[hrb];simp[rW,hnl,hlt,Nat.sub_zero,Z34];refine zcz n (W45 L r n s.c) (fun e S=>e= .exit 2/\V45 L n S) ?_ ?_ _ ⟨⟨⟨?_,?_,?_,?_,?_,?_⟩,?_⟩,⟨?_,?_,?_,?_,?_⟩,hc,?_⟩ ?_
  .generalize s.c=P;clear nc nd hc h0 h2 h24 h25 h26 g0 s;rintro m s hmn ⟨⟨⟨h0,h2,h24,h25,h26,g0⟩,hc⟩,⟨h6,h39,h40,h41,gP⟩,hP1,hPc⟩;have hwm:=zaK m (by omega);have hxm:L[m]? =some L[m]:=Z0 (by omega);have hml:m<L.length:=by omega
   have hnm:=hdn m _ hxm hmn;have hGm:=hL.g _ (Z1 hml);generalize hM:L[m]=r2 at hxm hnm hGm;have hco2:=hGm.k.co;have hcc2:=hGm.k.cc;have hd2:(zaW r2.1.tu).d= .f (zaW r2.1.tu):=zd5 _;have hc22:(D.f (zaW r2.1.tu)).cells=some [.f (zaW r2.1.tu)]:=zcc _ _;have nP:¬P=s.c:=by omega
   have nQ:¬s.c=P:=by omega
   have n0:¬0=s.c:=by omega
   simp[rW,h0,h2,h24,h25,h26,h6,h39,h40,h41,g0,gP,hmn,hml,hxm,hM,rlE,hco2,hcc2,hd2,hc22,nP,nQ,n0,hnm,hwm];exact⟨⟨⟨by simp[rW,h0],by simp[rW,h2],by simp[rW,h24],by simp[rW,h25],by simp[rW,h26],by simp[rW,g0,n0]⟩,by simp[rW]<;>omega⟩,⟨by simp[rW,h6],by simp[rW,h39],by simp[rW,h40],by simp[rW],by simp[rW,gP,nP]⟩,hP1,by simp[rW]<;>omega⟩
  .generalize s.c=P;clear nc nd hc h0 h2 h24 h25 h26 g0 s;rintro s ⟨⟨⟨h0,h2,h24,h25,h26,g0⟩,hc⟩,⟨h6,h39,h40,h41,gP⟩,hP1,hPc⟩;simp[rW,h40,h41];exact⟨⟨by simp[rW,h0],by simp[rW,h2],by simp[rW,h24],by simp[rW,h25],by simp[rW,h26],by simp[rW,g0]⟩,by simp[rW,hc]⟩
  .simp[rW,h0]
  .simp[rW,h2]
  .simp[rW,h24]
  .simp[rW,h25]
  .simp[rW,h26]
  .simp[rW,g0,nc]
  .simp[rW]<;>omega
  .simp[rW]
  .simp[rW]
  .simp[rW]
  .simp[rW]
  .simp[rW]
  .simp[rW]
  .clear nc nd hc h0 h2 h24 h25 h26 g0 s;rintro e s ⟨rfl,⟨h0,h2,h24,h25,h26,g0⟩,hc⟩;simp[rW,h26,hw];exact⟨⟨by simp[rW,h0],by simp[rW,h2],by simp[rW,h24],by simp[rW,h25],by simp[rW],by simp[rW,g0]⟩,by simp[rW,hc]⟩
 .rintro s ⟨⟨h0,h2,h24,h25,h26,g0⟩,hc⟩;simp[rW,h25,h26];exact⟨⟨by simp[rW,h0],by simp[rW,h2],by simp[rW,g0]⟩,by simp[rW,hc]⟩
 .simp[rW]
 .simp[rW]
 .simp[rW]
 .simp[rW]
 .simp[rW]
 .simp[rW]
 .simp[rW]
 .rintro e s ⟨rfl,⟨h0,h2,g0⟩,hc⟩;have nc:¬0=s.c:=by omega
  simp[rW,h0,h2,g0,zdv];obtain⟨Q,hQ⟩ :∃Q,Q=s.c:=⟨_,rfl⟩
  rw[<-hQ]at hc nc|-;refine zcz L.length (J45 L Q) (R45 L Q) ?_ ?_ _ ⟨⟨.f .nils,.f .nils,[],[],⟨?_,?_,?_,?_,?_,?_,?_,?_⟩,⟨.inl ⟨rfl,rfl⟩,.inl ⟨rfl,rfl⟩,by simp,by simp,fun x hx=>by simp[D.oid]at hx,by simp,by simp⟩,rfl,rfl,?_,by simp[D.oid],by simp[D.oid]⟩,?_⟩ ?_
  .clear hQ h0 h2 g0 nc s;rintro n s hlt ⟨hO,h57⟩;have hw:=zaK n (by omega);have hx:L[n]? =some L[n]:=Z0 hlt;have hG:=hL.g _ (Z1 hlt);generalize hA:L[n]=q at hx hG;obtain⟨r,B⟩ :=q;simp only at hG;have es:=zxy hx;have er:=zw2 hx;have qB:=fun k=>zaj (k:=k) (zJ4 hG)
   simp only[rlE]at qB;have hco:=hG.k.co;have hcc:=hG.k.cc;have hd:(zaW r.tu).d= .f (zaW r.tu):=zd5 _;have hc2:(D.f (zaW r.tu)).cells=some [.f (zaW r.tu)]:=zcc _ _;obtain⟨dB,dR,WB,WR,⟨h0,h2,h10,h11,h55,h56,g0,gQ⟩,hRI,hWB,hWR,hlo,hUB,hUR⟩ :=id hO;obtain⟨U,hU⟩ :∃U,U=s.c:=⟨_,rfl⟩
   have n0:¬0=U:=by omega
   have nQ:¬Q=U:=by omega
   simp[rW,h0,h2,h10,h11,h55,h56,h57,g0,gQ,hlt,zet,hx,hA,rlE,hco,hcc,hc2,hd,qB,zmG,zdo,<-hU];refine zcz B.length (M45 L Q r B n U) (T45 L Q r B n) ?_ ?_ _ ⟨⟨dB,dR,WB,WR,⟨?_,?_,?_,?_,?_,?_,?_,?_⟩,hRI.up ?_ ?_,by simpa using hWB,by simpa using hWR,?_,fun e=>by have:=zaU hRI.gB e;omega,fun e=>by have:=zaU hRI.gR e;omega⟩,⟨?_,?_,?_,?_,?_,?_,?_⟩,?_,by omega⟩ ?_
   .clear n0 nQ hO h0 h2 h10 h11 h55 h56 g0 gQ hRI hWB hWR hlo hUB hUR h57 dB dR WB WR hU s;rintro k s hk ⟨hO,⟨h57,h12,h13,h63,h64,h65,gU⟩,hUc,hUQ⟩;obtain⟨dB,dR,WB,WR,⟨h0,h2,h10,h11,h55,h56,g0,gQ⟩,hRI,hWB,hWR,hlo,hUB,hUR⟩ :=id hO;have hBn:=hG.n;have hwk:=zaK k (by omega);have hxb:B[k]? =some B[k]:=Z0 hk;obtain⟨hbl,hbi,-⟩ :=hG.b _ (Z1 hk);have hbz:=hG.z _ (Z1 hk);have hsnB:(B.take (k+1)).map (bP r)=(B.take k).map (bP r)++[bP r B[k]]:=by rw[Z105,hxb,Z20];rfl
    have hsnR:(B.take (k+1)).map (bR n)=(B.take k).map (bR n)++[bR n B[k]]:=by rw[Z105,hxb,Z20];rfl
    generalize hBk:B[k]=b at hxb hbl hbi hbz hsnB hsnR;obtain⟨P,hP⟩ :∃P,P=s.c:=⟨_,rfl⟩
    have nP0:¬(0=P):=by omega
    have nPQ:¬(Q=P):=by omega
    have nPU:¬(U=P):=by omega
    simp[rW,h57,h12,h13,h63,h64,h65,h0,h2,h10,h11,h55,h56,g0,gQ,gU,hk,zgP,hxb,hBk,zgS,zlR,<-hP];refine zcz b.length (N45 L Q r B b n U k P s.h dR) (Y45 L Q r B b n U k P s.h dR) ?_ ?_ _ ⟨.f .nils,.f .nils,⟨?_,?_,?_,?_,?_,?_,?_,?_,?_,?_,?_,?_,?_,?_,?_,?_,?_,?_⟩,?_,.inl ⟨rfl,by simp[bP]⟩,.inl ⟨rfl,by simp[bR,rfD]⟩,fun x hx=>by simp[D.oid]at hx,?_⟩ ?_
    .have hP2:Q<P:=by omega
     have hP3:U<P:=by omega
     clear hP;have gU':=gU;clear h0 h2 h10 h11 h55 h56 h57 h12 h13 h63 h64 h65 hO g0 gQ gU hWB hWR;generalize s.h=H0 at*;clear hRI hlo hUc hUB hUR hUQ;rintro j s hj ⟨db,dr,⟨h0,h2,h10,h11,h55,h56,h57,h12,h13,h63,h64,h65,h16,h17,h69,h70,h71,gP⟩,hfr,hgb,hgr,hne,hPc⟩;have gU:=(hfr U hP3).trans gU';have hwj:=zaK j (by omega);have hxi:b[j]? =some b[j]:=Z0 hj;have hib:=hbi _ (Z1 hj);generalize hI:b[j]=i at hxi hib;have hxt:r.tu[i]? =some r.tu[i]:=Z0 hib;have hpT:=hG.k.p _ (Z1 hib);generalize hTt:r.tu[i]=T at hxt hpT;have sP:=zAn hxi hxt;have sR:=zAo (n:=n) hxi;have lP:(bP r (b.take j)).length<=3:=by simp[bP];omega
     have lR:(bR n (b.take j)).length<=3:=by simp[bR];omega
     obtain⟨p0,p1,p2,hpe,d0,d1,d2⟩ :=zaX _ hpT;have qn:=fun k=>zaj (k:=k) (norm2 hpT)
     have htu:tuF T=[valsF T.1,p0,p1,p2]:=by unfold tuF;rw[hpe]
     rw[hpe]at qn sP;generalize bP r (b.take j)=ps at hgb sP lP;generalize bR n (b.take j)=rs at hgr sR lR;have hix:ixF b= .sl 1 (b.map fun i=>[.i .i64 (i:Nat)]):=rfl;have nUP:¬U=P:=by omega
     simp[rW,h0,h2,h10,h11,h55,h56,h57,h12,h13,h63,h64,h65,h16,h17,h69,h70,h71,gP,gU,hj,hix,hxi,hI];refine zaM ?_;simp[rW,h0,h2,h10,h11,h55,h56,h57,h12,h13,h63,h64,h65,h16,h17,h69,h70,h71,gP,gU,hj,hix,hxi,hI,zfZ,hxt,hTt,htu,qn,d0,d1,d2];refine zde (new:=[[D.f p0,D.f p1,D.f p2]]) (zeI hgb ?_ fun _ _ _=>rfl) ?_ ?_ (by omega) ?_
     .omega
     .omega
     .simp;omega
     intro r1 hr1 hr2 hr3 hr4 hr5;refine⟨hr1,?_⟩;have bdb:∀x,db.oid=some x->P+1<=x/\x<s.c:=fun x hx=>zaU hgb hx
     have bdr:∀x,dr.oid=some x->P+1<=x/\x<s.c:=fun x hx=>zaU hgr hx
     have eP:(wrT s.h r1.wr).get P=some (.arr 1 0 [[db]]):=by rw[hr4 P (by omega) (zBx hgb (by omega))];exact gP
     have hPr:P<r1.c+1+1:=by omega
     have hce:=zcN hr2;have hh8:=zpz hgb;simp[rW,eP,hce,hPr,hh8];have hgr2:Gro ((wrT s.h r1.wr).set P (.arr 1 0 [[r1.d]])) (P+1) (r1.c+1+1+1) 2 dr (rfD rs):=zfy hgr (fun Y hY=>by
      have:=bdr Y hY;have i0:¬Y=P:=by omega
      rw[TG,Z49 i0];exact hr4 Y (by omega) fun e=>hne Y e hY) (by omega)
     refine zde (new:=[[D.f (.i .i64 (n:Nat)),D.f (.i .i64 (i:Nat))]]) hgr2 ?_ ?_ ?_ ?_
     .omega
     .simp[rfD];omega
     .omega
     intro r2 hs1 hs2 hs3 hs4 hs5;refine⟨hs1,?_⟩;have hall:∀Y,Y<r1.c->dr.oid≠some Y->¬Y=P->(wrT ((wrT s.h r1.wr).set P (.arr 1 0 [[r1.d]])) r2.wr).get Y=(wrT s.h r1.wr).get Y:=fun Y h1 h2 h3=>by
      rw[hs4 Y (by omega) h2,TG,Z49 h3]
     refine⟨r1.d,r2.d,⟨?_,?_,?_,?_,?_,?_,?_,?_,?_,?_,?_,?_,?_,?_,?_,?_,?_,?_⟩,?_,?_,?_,?_,?_⟩
     .simp[rW,h0]
     .simp[rW,h2]
     .simp[rW,h10]
     .simp[rW,h11]
     .simp[rW,h55]
     .simp[rW,h56]
     .simp[rW,h57]
     .simp[rW,h12]
     .simp[rW,h13]
     .simp[rW,h63]
     .simp[rW,h64]
     .simp[rW,h65]
     .simp[rW,h16]
     .simp[rW]
     .simp[rW,h69,hix]
     .simp[rW,h70]
     .simp[rW,hwj]
     .have:=hs4 P (by omega) (fun e=>by have:=bdr P e;omega);simp[TG]at this;simp[rW,this]
     .intro id hid;have e1:=hall id (by omega) (fun e=>by have:=bdr id e;omega) (by omega);have e2:=hr4 id (by omega) (fun e=>by have:=bdb id e;omega);simp[rW,e1,e2];exact hfr id hid
     .have e1:Gro (wrT ((wrT s.h r1.wr).set P (.arr 1 0 [[r1.d]])) r2.wr) (P+1) r2.c 3 r1.d (ps.map (fun a=>a.map D.f)++[[D.f p0,D.f p1,D.f p2]]):=zfy hr2 (fun Y hY=>by
       have:=zaU hr2 hY;refine hall Y (by omega) (fun e=> ?_) (by omega);have h9:=bdr Y e;rcases hr5 Y hY with h8|h8
       .omega
       .exact hne Y h8 e) (by omega)
      rw[sP,Z20];simp[rW];exact e1
     .have e1:rfD (rs++[(n,i)])=rfD rs++[[D.f (.i .i64 (n:Nat)),D.f (.i .i64 (i:Nat))]]:=by simp[rfD]
      rw[sR,e1];simp[rW];exact hs2
     .intro x hx e;rcases hr5 x hx with h8|h8
      .rcases hs5 x e with h9|h9
       .omega
       .have:=bdr x h9;omega
      .have:=bdb x h8;rcases hs5 x e with h9|h9
       .omega
       .exact hne x h8 h9
     .simp[rW]<;>omega
    .have hP2:Q<P:=by omega
     clear hP;clear h0 h2 h10 h11 h55 h56 h57 h12 h13 h63 h64 h65 hO g0 gQ gU hWB hWR;generalize s.h=H0 at*;clear hRI hlo hUc hUB hUR hUQ;rintro s ⟨db,dr,⟨h0,h2,h10,h11,h55,h56,h57,h12,h13,h63,h64,h65,h16,h17,h69,h70,h71,gP⟩,hfr,hgb,hgr,hne,hPc⟩;rw[Z7]at hgb hgr;simp[rW,h70,h71];exact⟨rfl,db,dr,⟨by simp[rW,h0],by simp[rW,h2],by simp[rW,h10],by simp[rW,h11],by simp[rW,h55],by simp[rW,h56],by simp[rW,h57],by simp[rW,h12],by simp[rW,h13],by simp[rW,h63],by simp[rW,h64],by simp[rW,h65],by simp[rW,h16],by simp[rW,h17],by simp[rW,h69],by simp[rW,h70],by simp[rW,h71],by simp[rW,gP]⟩,by simp[rW];exact hfr,by simp[rW];exact hgb,by simp[rW];exact hgr,hne,by simp[rW,hPc]⟩
    .simp[rW,h0]
    .simp[rW,h2]
    .simp[rW,h10]
    .simp[rW,h11]
    .simp[rW,h55]
    .simp[rW,h56]
    .simp[rW,h57]
    .simp[rW,h12]
    .simp[rW,h13]
    .simp[rW,h63]
    .simp[rW,h64]
    .simp[rW,h65]
    .simp[rW]
    .simp[rW]
    .simp[rW]
    .simp[rW]
    .simp[rW]
    .simp[rW]
    .intro id hid;have i0:¬id=P:=by omega
     simp[rW,i0]
    .simp[rW]
    .have hP2:Q<P:=by omega
     have hP3:U<P:=by omega
     have g0':=g0;have gQ':=gQ;have gU':=gU;clear h0 h2 h10 h11 h55 h56 h57 h12 h13 h63 h64 h65 hO g0 gQ gU;rw[<-hP]at hRI;clear hP;generalize s.h=H0 at*;clear hlo hUc s;rintro x s ⟨rfl,db,dr,⟨h0,h2,h10,h11,h55,h56,h57,h12,h13,h63,h64,h65,h16,h17,h69,h70,h71,gP⟩,hfr,hgb,hgr,hne,hPc⟩;rw[Z7]at hgb hgr;have g0:=(hfr 0 (by omega)).trans g0';have gQ:=(hfr Q hP2).trans gQ';have gU:=(hfr U hP3).trans gU';have hR1:zdL (Q+1) s.h s.c dB dR WB WR:=hRI.up (fun id _ h=>hfr id h) (by omega);have lWB:WB.length<=30:=by
      have h1:=congrArg List.length hWB;have h2:=zib hL;have h3:(spL (L.take n)).length<=(spL L).length:=by
       have e:=congrArg (fun M=>(spL M).length) (Z94 n L);simp only[spL,Z183,Z16]at e|-;omega
      simp only[Z18,Z16,Z41]at h1;omega
     have lWR:WR.length<=30:=by
      have h0:=congrArg List.length hWB;have h1:=congrArg List.length hWR;have h2:=congrArg List.length (zmw (L.take n) 0);simp only[Z18,Z16,rfL]at h0 h1 h2;omega
     have np:bP r b≠[]:=by simpa [bP]using hbz
     have nr:bR n b≠[]:=by simpa [bR]using hbz
     generalize bP r b=ps at hgb hsnB np;generalize bR n b=rs at hgr hsnR nr;rw[zGK]at hgr;have ob:Own s.h (Q+1) s.c db (slc 3 ps):=(zm1 hgb).up (fun _ _=>rfl) (by omega) (Z2 _);have or':Own s.h (Q+1) s.c dr (rfE rs):=(zm1 hgr).up (fun _ _=>rfl) (by omega) (Z2 _);have n1:NE dB db:=zhP (fun x hx=>(zaU hRI.gB hx).2) fun x hx=>by have:=zaU hgb hx;omega
     have n2:NE dR db:=zhP (fun x hx=>(zaU hRI.gR hx).2) fun x hx=>by have:=zaU hgb hx;omega
     have n3:NE dB dr:=zhP (fun x hx=>(zaU hRI.gB hx).2) fun x hx=>by have:=zaU hgr hx;omega
     have n4:NE dR dr:=zhP (fun x hx=>(zaU hRI.gR hx).2) fun x hx=>by have:=zaU hgr hx;omega
     have cb:=zcN hgb;have cr:=zcN hgr;have hd1:∀x,dB.oid=some x->Q+1<=x/\x<P:=fun x hx=>zaU hRI.gB hx
     have hd2:∀x,dR.oid=some x->Q+1<=x/\x<P:=fun x hx=>zaU hRI.gR hx
     have hB8:=zpz hRI.gB;rcases hgb with⟨-,he⟩ |⟨ib,rb,rfl,hn0,gb,hb1,hb2,hb3⟩
     .exact absurd (by simpa using he) np
     rcases hgr with⟨-,he⟩ |⟨ir,rr,rfl,hm0,gr,hc1,hc2,hc3⟩
     .exact absurd (by simpa using he) nr
     simp only[Z18]at gP ob n1 n2 n3 n4 cb cr hne or' h17;simp[rW,h0,h2,h10,h11,h55,h56,h57,h12,h13,h63,h64,h65,h16,h17,h69,h70,h71,gP,gQ,zkT];have hR2:zdL (Q+1) (s.h.set s.c (.arr 1 0 [[.sl ib 0 ps.length 3 ps.length false]])) (s.c+1) dB dR WB WR:=hR1.up (fun id _ h2=>by
      have i0:¬id=s.c:=by omega
      simp[TG,i0]) (by omega)
     have ob2:Own (s.h.set s.c (.arr 1 0 [[.sl ib 0 ps.length 3 ps.length false]])) (Q+1) (s.c+1) (.sl ib 0 ps.length 3 ps.length false) (slc 3 ps):=ob.up (fun x hx=>by
      simp only[D.oid,Z45]at hx;have i0:¬x=s.c:=by omega
      simp[TG,i0]) (Z2 _) (by omega)
     refine zde (new:=[[.sl ib 0 ps.length 3 ps.length false]]) hR2.gB (by omega) (by simp;omega) ?_ ?_
     .omega
     intro r1 hr1 hr2 hr3 hr4 hr5;refine⟨hr1,?_⟩;have hR3:=zGL hR2 ob2 n1 n2 hr2 hr3 hr4 hr5;have e1:=hr4 Q (by omega) (fun e=>by have:=hd1 Q e;omega);have e0:=hr4 0 (by omega) (fun e=>by have:=hd1 0 e;omega);have eU:=hr4 U (by omega) hUB;have er:=hr4 ir (by omega) (fun e=>n3 ir e rfl);have ns0:¬0=s.c:=by omega
     have ns1:¬Q=s.c:=by omega
     have nsU:¬U=s.c:=by omega
     have nsr:¬ir=s.c:=by omega
     simp only[TG,ns0,ns1,nsU,nsr,Z63,g0,gQ,gU,gr]at e0 e1 er eU;have h1r:Q<r1.c:=by omega
     simp[rW,e1,zcN hr2,hB8,h1r,zkT];have hR4:zdL (Q+1) (((wrT (s.h.set s.c (.arr 1 0 [[.sl ib 0 ps.length 3 ps.length false]])) r1.wr).set Q (.arr 1 0 [[r1.d]])).set r1.c (.arr 1 0 [[.sl ir 0 rs.length 2 rs.length false]])) (r1.c+1) r1.d dR (WB++[(.sl ib 0 ps.length 3 ps.length false,ps)]) WR:=hR3.up (fun id h1 h2=>by
      have i0:¬id=Q:=by omega
      have i1:¬id=r1.c:=by omega
      simp[TG,i0,i1]) (by omega)
     have or2:Own (((wrT (s.h.set s.c (.arr 1 0 [[.sl ib 0 ps.length 3 ps.length false]])) r1.wr).set Q (.arr 1 0 [[r1.d]])).set r1.c (.arr 1 0 [[.sl ir 0 rs.length 2 rs.length false]])) (Q+1) (r1.c+1) (.sl ir 0 rs.length 2 rs.length false) (rfE rs):=or'.up (fun x hx=>by
      simp only[D.oid,Z45]at hx;subst hx;have i0:¬ir=Q:=by omega
      have i1:¬ir=r1.c:=by omega
      simp only[TG,i0,i1,Z63,er,gr]) (Z2 _) (by omega)
     refine zde (new:=[[.sl ir 0 rs.length 2 rs.length false]]) hR4.gR (by omega) (by simp;omega) ?_ ?_
     .omega
     intro r2 hs1 hs2 hs3 hs4 hs5;refine⟨hs1,?_⟩;have hR5:=zGN hR4 or2 (fun x hx e=>by
      simp only[D.oid,Z45]at e;rcases hr5 x hx with h8|h8
      .omega
      .have:=hd1 x h8;omega) n4 hs2 hs3 hs4 hs5
     have f0:=hs4 0 (by omega) (fun e=>by have:=hd2 0 e;omega);have f1:=hs4 Q (by omega) (fun e=>by have:=hd2 Q e;omega);have fU:=hs4 U (by omega) hUR;have nr0:¬0=r1.c:=by omega
     have nr1:¬Q=r1.c:=by omega
     have nrU:¬U=r1.c:=by omega
     have n0Q:¬0=Q:=by omega
     simp[TG,e0,eU,nr0,nr1,nrU,n0Q,hUQ]at f0 f1 fU;refine⟨⟨r1.d,r2.d,WB++[(.sl ib 0 ps.length 3 ps.length false,ps)],WR++[(.sl ir 0 rs.length 2 rs.length false,rs)],⟨?_,?_,?_,?_,?_,?_,?_,?_⟩,?_,by rw[Z20,hWB,hsnB,Z32];rfl,by rw[Z20,hWR,hsnR,Z32];rfl,?_,fun e=>by
      rcases hr5 U e with h8|h8
      .omega
      .exact hUB h8,fun e=>by
      rcases hs5 U e with h8|h8
      .omega
      .exact hUR h8⟩,⟨?_,?_,?_,?_,?_,?_,?_⟩,?_,hUQ⟩
     .simp[rW,h0]
     .simp[rW,h2]
     .simp[rW,h10]
     .simp[rW]
     .simp[rW,h55]
     .simp[rW,h56]
     .simp[rW,f0]
     .simp[rW,f1]
     .simp[rW];exact hR5
     .simp[rW]<;>omega
     .simp[rW,h57]
     .simp[rW,h12]
     .simp[rW,h13]
     .simp[rW,h63]
     .simp[rW,h64]
     .simp[rW,hwk]
     .simp[rW,fU]
     .simp[rW]<;>omega
   .clear n0 nQ hO h0 h2 h10 h11 h55 h56 g0 gQ hRI hWB hWR hlo hUB hUR h57 dB dR WB WR hU s;rintro s ⟨hO,⟨h57,h12,h13,h63,h64,h65,gU⟩,hUc,hUQ⟩;rw[Z7]at hO;have hO2:O45 L Q 0 (spL (L.take n)++B.map (bP r)) (rfL (L.take n)++B.map (bR n)) s:=by
     obtain⟨dB,dR,WB,WR,hh,hRI,hWB,hWR,hlo,-,-⟩ :=hO;exact⟨dB,dR,WB,WR,hh,hRI,hWB,hWR,hlo,fun e=>by have:=zaU hRI.gB e;omega,fun e=>by have:=zaU hRI.gR e;omega⟩
    simp[rW,h64,h65];exact⟨rfl,hO2.up (by simp[rW]) (by simp[rW]) (by simp[rW]) (by simp[rW]) (by simp[rW]) (by simp[rW]) (by simp[rW]) (by simp[rW]),by simp[rW,h57]⟩
   .simp[rW,h0]
   .simp[rW,h2]
   .simp[rW,h10]
   .simp[rW,h11]
   .simp[rW,h55]
   .simp[rW,h56]
   .simp[rW,g0,n0]
   .simp[rW,gQ,nQ]
   .intro id h1 h2;have i0:¬id=U:=by omega
    simp[rW,i0]
   .simp[rW]<;>omega
   .simp[rW]<;>omega
   .simp[rW,h57]
   .simp[rW]
   .simp[rW]
   .simp[rW]
   .simp[rW]
   .simp[rW]
   .simp[rW]
   .simp[rW]<;>omega
   .clear n0 nQ hO h0 h2 h10 h11 h55 h56 g0 gQ hRI hWB hWR hlo hUB hUR h57 dB dR WB WR hU s;rintro x s ⟨rfl,hO,h57⟩;rw[<-es,<-er]at hO;simp[rW,h57,hw];exact⟨hO.up (by simp[rW]) (by simp[rW]) (by simp[rW]) (by simp[rW]) (by simp[rW]) (by simp[rW]) (by simp[rW]) (by simp[rW]),by simp[rW,hw]⟩
  .clear hQ h0 h2 g0 nc s;rintro s ⟨hO,h57⟩;rw[Z7]at hO;obtain⟨dB,dR,WB,WR,⟨h0,h2,h10,h11,h55,h56,g0,gQ⟩,hRI,hWB,hWR,hlo,hUB,hUR⟩ :=id hO;simp[rW,h56,h57];exact⟨rfl,hO.up (by simp[rW]) (by simp[rW]) (by simp[rW]) (by simp[rW]) (by simp[rW]) (by simp[rW]) (by simp[rW]) (by simp[rW])⟩
  .simp[rW,h0]
  .simp[rW,h2]
  .simp[rW]
  .simp[rW]
  .simp[rW]
  .simp[rW]
  .simp[rW,g0,nc]
  .simp[rW]
  .simp[rW]
  .simp[rW]
  .clear hQ h0 h2 g0 nc s;rintro x s ⟨rfl,dB,dR,WB,WR,⟨h0,h2,h10,h11,h55,h56,g0,gQ⟩,hRI,hWB,hWR,hlo,-⟩;have hc0:0<s.c:=by omega
   simp[rW,h0,h2,h10,h11,g0,gQ,hc0,zcN hRI.gB,rd_3];have hR2:zdL (Q+1) (s.h.set 0 (.arr 1 0 [[dB]])) s.c dB dR WB WR:=hRI.up (fun id h1 _=>by
    have i0:¬id=0:=by omega
    simp[TG,i0]) (Z2 _)
   obtain⟨⟨r1,k1⟩,-⟩ :=hR2.frz 7;obtain⟨-,r2,k2⟩ :=hR2.frz 8;have k1:frz (s.h.set 0 (.arr 1 0 [[dB]])).get 10 dB=some (spF (WB.map (·.2)),r1):=k1;have k2:frz (s.h.set 0 (.arr 1 0 [[dB]])).get 11 dR=some (rfF (WR.map (·.2)),r2):=k2;rw[k1,k2,hWB,hWR];rfl
def fn5:pr.fn 5=some g5:=by kernel_rfl
def fn134:pr.fn 134=some zyx:=by kernel_rfl
def fn241:pr.fn 241=some zyH:=by kernel_rfl
def fn58:pr.fn 58=some g58:=by kernel_rfl
def fn117:pr.fn 117=some zyt:=by kernel_rfl
def fn214:pr.fn 214=some zyB:=by kernel_rfl
def fn49:pr.fn 49=some g49:=by kernel_rfl
def psF(l:List (List F)):F:=slc 3 l
def zfD(B:List (List (List F))):(spF B).d= .f (spF B):=zgb ..
def zew(B:List (List (List F))):(D.f (spF B)).cells=some [.f (spF B)]:=zcc _ _
def zfX(B:List (List (List F))):zcE (.f (spF B))=some B.length:=by simp[spF,zfb]
def zhW(B:List (List (List F)))(n:Nat):iaB 1 (.f (spF B)) n=(B[n]?).map fun b=>D.fptr [psF b]:=by simp[spF,zfC,psF,Z67]
def ziF(B:List (List (Nat×Nat))):(rfF B).d= .f (rfF B):=zgb ..
def ziG(B:List (List (Nat×Nat))):zcE (.f (rfF B))=some B.length:=by simp[rfF,zfb]
def zzN(B:List (List (Nat×Nat)))(n:Nat):iaB 1 (.f (rfF B)) n=(B[n]?).map fun b=>D.fptr [rfE b]:=by simp[rfF,zfC,Z67]
def zi5(b:List (List F)):(psF b).d= .f (psF b):=zgb ..
def ziU(b:List (List F)):(D.f (psF b)).cells=some [.f (psF b)]:=zcc _ _
def zeL(b:List (List F)):zcE (.f (psF b))=some b.length:=by simp[psF,zfb]
def zs7(b:List (List F))(n:Nat):iaB 3 (.f (psF b)) n=(b[n]?).map D.fptr:=by simp[psF,zfC]
def zBH(l:List Rl):(D.f (zc3 l)).cells=some [.f (zc3 l)]:=zcc _ _
def pgF(L:List RB):List F:=[rbF L,.nils,.nils,.nils]
def ans5{L:List RB}(hL:LOk L):Ans pr 5 [.ag (pgF L)] (.tu [.ag [spF (spL L)],rfF (rfL L)]):=by
 have qy:=fun k=>zaj (k:=k) (zEy hL)
 refine zb6 fn5 ?_;simp only[g5,rU];simp[rW,st0,zax,pgF,zgj,zgV,qy,zfD,zew,ziF]
structure PB(ps:List (List F))(ns:List (Nat×Nat)):Prop where
 e:ps=ns.map fr
 n:ns.length<=3
 p:∀p∈ns,p∈PN
 l:le1 (sN ns)=true
def bP_eq{r:Rl}{b:List Nat}{ns:List (Nat×Nat)}(h:Bks r b ns):bP r b=ns.map fr:=by
 refine List.ext_getElem (by simp[bP,h.1]) fun k h1 h2=> ?_
 simp only[bP,Z18]at h1 h2;obtain⟨T,hT,h3,-⟩ :=h.2 k h1 h2;simp[bP,hT,h3]
def spOk{L:List RB}(h:LOk L):∀ps∈spL L,∃ns,PB ps ns:=by
 intro ps hp;obtain⟨q,hq,h2⟩ :=Z38.1 hp;obtain⟨b,hb,rfl⟩ :=Z12.1 h2;have hG:=h.g q hq;obtain⟨h3,-,ns,hB,hl⟩ :=hG.b b hb;exact⟨ns,bP_eq hB,by rw[hB.1];exact h3,hB.mem,hl⟩
def zfw(s:Nat×Nat):fr s=[.b false,frN s.1,frN s.2]:=rfl
def J241(ns:List (Nat×Nat))(n:Nat)(s:St):Prop:=(s.tm.get 0=some (.f (psF (ns.map fr)))/\s.tm.get 2=some (.ptr 0 3 0 0)/\s.tm.get 3=some (.ptr 1 3 0 0)/\s.tm.get 4=some (.f (.i .i64 n))/\s.h.get 0=some (.arr 3 0 [[.f (.b false),.f .nils,.f .nils]])/\s.h.get 1=some (.arr 3 0 [[.f (.b false),.f (frN (sN (ns.take n)).1),.f (frN (sN (ns.take n)).2)]]))/\2<=s.c
def zKh{ps:List (List F)}{ns:List (Nat×Nat)}(h:PB ps ns):Ans pr 241 [psF ps] (.ag (fr (sN ns))):=by
 obtain⟨rfl,hl,hp,hle⟩ :=h;refine zb6 fn241 ?_;have fi0x:Ans pr 35 [.i .i64 0] (.ag [.b false,.nils,.sl 1 [[.i .u32 1]]]):=fi0;have q0:=fun k=>zaj (k:=k) fi0x
 simp only[zyH,rU];simp[rW,st0,zax,zi5,q0];refine zcz ns.length (J241 ns) (fun e s=>e= .exit 0/\J241 ns ns.length s) ?_ ?_ _ ⟨⟨?_,?_,?_,?_,?_,?_⟩,?_⟩ ?_
 .rintro n s hn ⟨⟨h0,h2,h3,h4,g0,g1⟩,hc⟩;have hw:=zaK n (by omega);have hs:sN (ns.take (n+1))=adN (sN (ns.take n)) ns[n]:=by
   rw[Z105,Z0 hn];exact zkd _ _
  have hm:=hp _ (Z1 hn);have hA:UA (sN (ns.take n)) ns[n]:=allL (allL uA _ (zvc _ (by rw[Z41];omega) fun p hq=>hp p (Z13 hq))) _ hm;unfold UA at hA;rw[<-hs]at hA;have hx:ns[n]? =some ns[n]:=Z0 hn;simp only[frE]at hA;have q1:=fun k=>zaj (k:=k) hA
  generalize hM:ns[n]=m at q1 hx;generalize sN (ns.take n)=s1 at g1 q1;generalize hS2:sN (ns.take (n+1))=s2 at q1;have c1:1<s.c:=by omega
  simp[rW,h0,h2,h3,h4,g0,g1,hn,zeL];refine zaM ?_;simp[rW,h0,h2,h3,h4,g0,g1,hn,zs7,hx,hM,zfw,zer,zeQ,q1,c1,hw];refine⟨⟨?_,?_,?_,?_,?_,?_⟩,?_⟩
  all_goals simp[rW,h0,h2,h3,h4,g0,g1,hw,hc,hS2]
 .rintro s ⟨⟨h0,h2,h3,h4,g0,g1⟩,hc⟩;simp[rW,h0,h4,zeL];exact⟨⟨by simp[rW,h0],by simp[rW,h2],by simp[rW,h3],by simp[rW,h4],by simp[rW,g0],by simp[rW,g1]⟩,by simp[rW,hc]⟩
 .simp[rW]
 .simp[rW]
 .simp[rW]
 .simp[rW]
 .simp[rW]
 .simp[rW];exact⟨rfl,rfl⟩
 .simp[rW]
 .rintro e s ⟨rfl,⟨h0,h2,h3,h4,g0,g1⟩,hc⟩;have c1:0<s.c:=by omega
  rw[Z7]at g1;simp[rW,h2,h3,g0,g1,c1,zer,zeQ];rfl
def zJ7{ps:List (List F)}{ns:List (Nat×Nat)}(h:PB ps ns):Ans pr 134 [.ag [psF ps]] (.ag (fr (cmN (sN ns)))):=by
 have q1:=fun k=>zaj (k:=k) (zKh h)
 have a2:=(allL uC _ (zn6 ns h.n h.p) h.l).1;simp only[zfw]at q1 a2;have q2:=fun k=>zaj (k:=k) a2
 refine zb6 fn134 ?_;simp only[zyx,rU];simp[rW,st0,zax,zi5,ziU,q1,q2,zer,zeQ];rfl
def C58(B:List (List (List F)))(s:St):Prop:=(s.tm.get 1=some (.ptr 0 1 0 0)/\s.h.get 0=some (.arr 1 0 [[.f (spF B)]]))/\1<=s.c
def J58(B:List (List (List F)))(n:Nat)(s:St):Prop:=C58 B s/\s.tm.get 3=some (.f (.i .i64 n))
def K58(B:List (List (List F)))(b:List (List F))(n k:Nat)(s:St):Prop:=J58 B n s/\∃P,(s.tm.get 4=some (.ptr P 1 0 0)/\s.tm.get 5=some (.f (.i .i64 k))/\s.h.get P=some (.arr 1 0 [[.f (psF b)]]))/\1<=P/\P<s.c
def ans58{B:List (List (List F))}(hB:∀ps∈B,∃ns,PB ps ns)(hn:B.length<=24):Ans pr 58 [.ag [spF B]] (.b true):=by
 refine zb6 fn58 ?_;have h0:¬(4096:Int)< (B.length:Nat):=by omega
 simp only[g58,rU];simp[rW,st0,zax,zfD,zew,zfX,h0];refine zcz B.length (J58 B) (fun e s=>e= .exit 0) ?_ ?_ _ ⟨⟨⟨?_,?_⟩,?_⟩,?_⟩ ?_
 .rintro n s hlt ⟨⟨⟨h1,g0⟩,hc⟩,h3⟩;have hw:=zaK n (by omega);have hx:B[n]? =some B[n]:=Z0 hlt;obtain⟨ns,hP⟩ :=hB _ (Z1 hlt);generalize hA:B[n]=b at hx hP;have ar:=zJ7 hP;have az:=(allL uC _ (zn6 ns hP.n hP.p) hP.l).2.1;obtain⟨z,hz0,hz⟩ :=zmr (cmN (sN ns));rw[hz]at az;simp only[zfw]at ar az;have q1:=fun k=>zaj (k:=k) ar
  have q2:=fun k=>zaj (k:=k) az
  have hzn:¬z<0:=by omega
  have hbl:b.length=ns.length:=by rw[hP.e,Z18]
  have h16:¬(16:Int)< (b.length:Nat):=by have:=hP.n;omega
  have h16b:(b.length:Int)<=16:=by have:=hP.n;omega
  have nc:¬0=s.c:=by omega
  simp[rW,h1,h3,g0,hlt,zfX,zhW,hx,hA,zi5,ziU,zeL,h16,h16b,q1,q2,zer,zeQ,hzn,nc];refine zcz b.length (K58 B b n) (fun e s=>e= .exit 2/\J58 B n s) ?_ ?_ _ ⟨⟨⟨⟨?_,?_⟩,?_⟩,?_⟩,s.c,⟨?_,?_,?_⟩,hc,?_⟩ ?_
  .clear nc h1 g0 h3 hc s;rintro m s hml ⟨⟨⟨⟨h1,g0⟩,hc⟩,h3⟩,P,⟨h4,h5,gP⟩,hP1,hPc⟩;have hnl:=hP.n;have hwm:=zaK m (by omega);have hxp:b[m]? =some b[m]:=Z0 hml;have hmn:m<ns.length:=by omega
   have hpm:=hP.p _ (Z1 hmn);have hbm:b[m]=fr ns[m]:=by simp[hP.e]
   have av:=(allL uZ _ hpm).2.1;obtain⟨v,hv0,hv⟩ :=zmr ns[m];rw[hv]at av;rw[hbm]at hxp;simp only[zfw]at av hxp hbm;have q3:=fun k=>zaj (k:=k) av
   have hvn:¬v<0:=by omega
   simp[rW,h1,h3,h4,h5,g0,gP,hml,zeL,zs7,hxp,hbm,zer,q3,hvn,hwm];exact⟨⟨⟨⟨by simp[rW,h1],by simp[rW,g0]⟩,by simp[rW,hc]⟩,by simp[rW,h3]⟩,P,⟨by simp[rW,h4],by simp[rW,hwm],by simp[rW,gP]⟩,hP1,by simp[rW,hPc]⟩
  .clear nc h1 g0 h3 hc s;rintro s ⟨⟨⟨⟨h1,g0⟩,hc⟩,h3⟩,P,⟨h4,h5,gP⟩,hP1,hPc⟩;simp[rW,h4,h5,gP,zeL];exact⟨⟨⟨by simp[rW,h1],by simp[rW,g0]⟩,by simp[rW,hc]⟩,by simp[rW,h3]⟩
  .simp[rW,h1]
  .simp[rW,g0,nc]
  .simp[rW]<;>omega
  .simp[rW,h3]
  .simp[rW]
  .simp[rW]
  .simp[rW]
  .simp[rW]
  .clear nc h1 g0 h3 hc s;rintro x s ⟨rfl,⟨⟨h1,g0⟩,hc⟩,h3⟩;simp[rW,h3,hw];exact⟨⟨⟨by simp[rW,h1],by simp[rW,g0]⟩,by simp[rW,hc]⟩,by simp[rW,hw]⟩
 .rintro s ⟨⟨⟨h1,g0⟩,hc⟩,h3⟩;simp[rW,h1,h3,g0,zfX]
 .simp[rW]
 .simp[rW]
 .simp[rW]
 .simp[rW]
 .rintro x s rfl;simp[rW]
def zeroA:Ans pr 227 [] (.ag [.b false,.nils,.sl 1 [[.i .u32 1]]]):=zab (n:=1000) (zad pr) (by kernel_rfl)
def J214(ns:List (Nat×Nat))(n:Nat)(s:St):Prop:=(s.tm.get 2=some (.ptr 0 3 0 0)/\s.tm.get 3=some (.ptr 1 3 0 0)/\s.tm.get 7=some (.f (psF (ns.map fr)))/\s.tm.get 8=some (.f (.i .i64 ns.length))/\s.tm.get 9=some (.f (.i .i64 n))/\s.h.get 0=some (.arr 3 0 [[.f (.b false),.f .nils,.f .nils]])/\s.h.get 1=some (.arr 3 0 [[.f (.b false),.f (frN (sN (ns.take n)).1),.f (frN (sN (ns.take n)).2)]]))/\2<=s.c
def zKc{ps:List (List F)}{ns:List (Nat×Nat)}(h:PB ps ns):Ans pr 214 [psF ps] (.ag (fr (sN ns))):=by
 obtain⟨rfl,hl,hp,hle⟩ :=h;have hk:=zGS hl hp hle;refine zb6 fn214 ?_;have q0:=fun k=>zaj (k:=k) zeroA
 simp only[zyB,rU];simp[rW,st0,zax,zi5,q0,zeL];refine zcz ns.length (J214 ns) (fun e s=>e= .exit 0/\J214 ns ns.length s) ?_ ?_ _ ⟨⟨?_,?_,?_,?_,?_,?_,?_⟩,?_⟩ ?_
 .rintro n s hn ⟨⟨h2,h3,h7,h8,h9,g0,g1⟩,hc⟩;have hw:=zaK n (by omega);have hs:sN (ns.take (n+1))=adN (sN (ns.take n)) ns[n]:=by
   rw[Z105,Z0 hn];exact zkd _ _
  have hm:=hp _ (Z1 hn);have hA:=allL (allL uB _ (zvc (ns.take n) (by rw[Z41];omega) fun p hq=>hp p (Z13 hq))) _ hm (by rw[<-hs];exact hk (n+1));unfold UB at hA;rw[<-hs]at hA;have hx:ns[n]? =some ns[n]:=Z0 hn;simp only[frE]at hA;have q1:=fun k=>zaj (k:=k) hA
  generalize hM:ns[n]=m at q1 hx;generalize sN (ns.take n)=s1 at g1 q1;generalize hS2:sN (ns.take (n+1))=s2 at q1;have c1:1<s.c:=by omega
  have c3:0<s.c:=by omega
  have n0:¬0=s.c:=by omega
  have n1:¬1=s.c:=by omega
  have n2:¬s.c=1:=by omega
  simp[rW,h2,h3,h7,h8,h9,g0,g1,hn,zs7,hx,hM,zfw,zer,zeQ,q1,c1,c3,hw,n0,n1,n2];refine⟨⟨?_,?_,?_,?_,?_,?_,?_⟩,?_⟩
  all_goals simp[rW,h2,h3,h7,h8,h9,g0,g1,hw,hc,hS2,n0,n1,n2]
  all_goals omega
 .rintro s ⟨⟨h2,h3,h7,h8,h9,g0,g1⟩,hc⟩;simp[rW,h8,h9];exact⟨⟨by simp[rW,h2],by simp[rW,h3],by simp[rW,h7],by simp[rW,h8],by simp[rW,h9],by simp[rW,g0],by simp[rW,g1]⟩,by simp[rW,hc]⟩
 .simp[rW]
 .simp[rW]
 .simp[rW]
 .simp[rW]
 .simp[rW]
 .simp[rW]
 .simp[rW];exact⟨rfl,rfl⟩
 .simp[rW]
 .rintro e s ⟨rfl,⟨h2,h3,h7,h8,h9,g0,g1⟩,hc⟩;have c1:0<s.c:=by omega
  rw[Z7]at g1;simp[rW,h2,h3,g0,g1,c1,zer,zeQ];rfl
def zJ5{ps:List (List F)}{ns:List (Nat×Nat)}(h:PB ps ns):Ans pr 117 [.ag [psF ps]] (.ag (fr (cmN (sN ns)))):=by
 have q1:=fun k=>zaj (k:=k) (zKc h)
 have a2:=(allL uC _ (zn6 ns h.n h.p) h.l).2.2.2.1;simp only[zfw]at q1 a2;have q2:=fun k=>zaj (k:=k) a2
 refine zb6 fn117 ?_;simp only[zyt,rU];simp[rW,st0,zax,zi5,ziU,q1,q2,zer,zeQ];rfl
def C49(B:List (List (List F)))(n:Nat)(s:St):Prop:=(s.tm.get 1=some (.ptr 0 1 0 0)/\s.tm.get 12=some (.f (spF B))/\s.tm.get 13=some (.f (.i .i64 B.length))/\s.tm.get 14=some (.f (.i .i64 n))/\s.h.get 0=some (.arr 1 0 [[.f (spF B)]]))/\1<=s.c
def K49(B:List (List (List F)))(b:List (List F))(n P k:Nat)(s:St):Prop:=C49 B n s/\(s.tm.get 4=some (.ptr P 1 0 0)/\s.tm.get 23=some (.f (psF b))/\s.tm.get 24=some (.f (.i .i64 b.length))/\s.tm.get 25=some (.f (.i .i64 k))/\s.h.get P=some (.arr 1 0 [[.f (psF b)]]))/\1<=P/\P<s.c
def ans49{B:List (List (List F))}(hB:∀ps∈B,∃ns,PB ps ns)(hn:B.length<=24):Ans pr 49 [.ag [spF B]] (.b true):=by
 refine zb6 fn49 ?_;have h0:¬(4096:Int)< (B.length:Nat):=by omega
 simp only[g49,rU];simp[rW,st0,zax,zfD,zew,zfX,h0];refine zcz B.length (C49 B) (fun e s=>e= .exit 0) ?_ ?_ _ ⟨⟨?_,?_,?_,?_,?_⟩,?_⟩ ?_
 .rintro n s hlt ⟨⟨h1,h12,h13,h14,g0⟩,hc⟩;have hw:=zaK n (by omega);have hx:B[n]? =some B[n]:=Z0 hlt;obtain⟨ns,hP⟩ :=hB _ (Z1 hlt);generalize hA:B[n]=b at hx hP;have hbl:b.length=ns.length:=by rw[hP.e,Z18]
  have h16:¬(16:Int)< (b.length:Nat):=by have:=hP.n;omega
  have h16b:(b.length:Int)<=16:=by have:=hP.n;omega
  have nc:¬0=s.c:=by omega
  simp[rW,h1,h12,h13,h14,g0,hlt,zhW,hx,hA,zi5,ziU,zeL,h16,h16b,nc];refine zcz b.length (K49 B b n s.c) (fun e S=>e= .exit 2/\C49 B n S/\(S.tm.get 4=some (.ptr s.c 1 0 0)/\S.h.get s.c=some (.arr 1 0 [[.f (psF b)]]))/\s.c<S.c) ?_ ?_ _ ⟨⟨⟨?_,?_,?_,?_,?_⟩,?_⟩,⟨?_,?_,?_,?_,?_⟩,hc,?_⟩ ?_
  .clear nc h1 h12 h13 h14 g0;generalize s.c=P;clear hc s;rintro m s hml ⟨⟨⟨h1,h12,h13,h14,g0⟩,hc⟩,⟨h4,h23,h24,h25,gP⟩,hP1,hPc⟩;have hnl:=hP.n;have hwm:=zaK m (by omega);have hxp:b[m]? =some b[m]:=Z0 hml;have hmn:m<ns.length:=by omega
   have hpm:=hP.p _ (Z1 hmn);have hbm:b[m]=fr ns[m]:=by simp[hP.e]
   have av:=(allL uZ _ hpm).2.2;obtain⟨v,hv0,hv⟩ :=zmr ns[m];rw[hv]at av;rw[hbm]at hxp;simp only[zfw]at av hxp hbm;have q3:=fun k=>zaj (k:=k) av
   have hvn:¬v<0:=by omega
   have nP:¬P=s.c:=by omega
   have nQ:¬s.c=P:=by omega
   have n0:¬0=s.c:=by omega
   simp[rW,h1,h12,h13,h14,h4,h23,h24,h25,g0,gP,hml,zs7,hxp,hbm,zer,zeQ,q3,hvn,hwm,nP,nQ,n0];exact⟨⟨⟨by simp[rW,h1],by simp[rW,h12],by simp[rW,h13],by simp[rW,h14],by simp[rW,g0,n0]⟩,by simp[rW]<;>omega⟩,⟨by simp[rW,h4],by simp[rW,h23],by simp[rW,h24],by simp[rW,hwm],by simp[rW,gP,nP]⟩,hP1,by simp[rW]<;>omega⟩
  .clear nc h1 h12 h13 h14 g0;generalize s.c=P;clear hc s;rintro s ⟨⟨⟨h1,h12,h13,h14,g0⟩,hc⟩,⟨h4,h23,h24,h25,gP⟩,hP1,hPc⟩;simp[rW,h24,h25];exact⟨⟨⟨by simp[rW,h1],by simp[rW,h12],by simp[rW,h13],by simp[rW,h14],by simp[rW,g0]⟩,by simp[rW,hc]⟩,⟨by simp[rW,h4],by simp[rW,gP]⟩,by simp[rW,hPc]⟩
  .simp[rW,h1]
  .simp[rW,h12]
  .simp[rW,h13]
  .simp[rW,h14]
  .simp[rW,g0,nc]
  .simp[rW]<;>omega
  .simp[rW]
  .simp[rW]
  .simp[rW]
  .simp[rW]
  .simp[rW]
  .simp[rW]
  .have ar:=zJ5 hP;have az:=(allL uC _ (zn6 ns hP.n hP.p) hP.l).2.2.2.2;obtain⟨z,hz0,hz⟩ :=zmr (cmN (sN ns));rw[hz]at az;simp only[zfw]at ar az;have q1:=fun k=>zaj (k:=k) ar
   have q2:=fun k=>zaj (k:=k) az
   have hzn:¬z<0:=by omega
   clear nc h1 h12 h13 h14 g0;generalize s.c=P;clear hc s;rintro x s ⟨rfl,⟨⟨h1,h12,h13,h14,g0⟩,hc⟩,⟨h4,gP⟩,hPc⟩;simp[rW,h1,h12,h13,h14,h4,gP,zi5,ziU,q1,q2,zer,zeQ,hzn,hw];exact⟨⟨by simp[rW,h1],by simp[rW,h12],by simp[rW,h13],by simp[rW,hw],by simp[rW,g0]⟩,by simp[rW,hc]⟩
 .rintro s ⟨⟨h1,h12,h13,h14,g0⟩,hc⟩;simp[rW,h13,h14]
 .simp[rW]
 .simp[rW]
 .simp[rW]
 .simp[rW]
 .simp[rW]
 .simp[rW]
 .rintro x s rfl;simp[rW]
def wF(w:List Int):F:=slc 1 (w.map fun k=>[.i .i64 k])
def wG(e:Bool)(w:List Int):F:=if e&&w.isEmpty then .sl 1 []else wF w
def wG_f(w:List Int):wG false w=wF w:=rfl
def zvA(e:Bool)(w:List Int):wG e w=wF w\/wG e w= .sl 1 []/\w=[]:=by
 unfold wG;split
 .rename_i h;simp at h;exact .inr ⟨rfl,h.2⟩
 .exact .inl rfl
def w_d(e:Bool)(w:List Int):(wG e w).d= .f (wG e w):=by
 rcases zvA e w with h|⟨h,_⟩ <;>rw[h]
 .exact zgb _ _
 .rfl
def zeU(e:Bool)(w:List Int):zcE (.f (wG e w))=some w.length:=by
 rcases zvA e w with h|⟨h,rfl⟩ <;>rw[h]
 .simp[wF,zfb]
 .rfl
def zgn(e:Bool)(w:List Int)(n:Nat):iaB 1 (.f (wG e w)) n=(w[n]?).map fun k=>D.fptr [.i .i64 k]:=by
 rcases zvA e w with h|⟨h,rfl⟩ <;>rw[h]
 .simp[wF,zfC,Z67]
 .rfl
end Go.Proofs.YtlinkhjnihjbaaaGreatDoor
end
