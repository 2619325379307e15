/- relation.Validate, relation.Blocks of the program: valid relations. -/
import Derived.Test.YtdlcolcidohbkaaGreatDoorPzl
import Derived.Test.YtdlcolcidohbkaaGreatDoorPs
import Derived.KernelRfl
import Derived.IntWalk
import Derived.Test.YtdlcolcidohbkaaGreatDoorPzh
import Derived.Test.YtdlcolcidohbkaaGreatDoorPzi
set_option linter.all false
set_option maxRecDepth 100000
set_option maxHeartbeats 4000000
noncomputable section
section
namespace Go.Proofs.YtdlcolcidohbkaaGreatDoor
open Go Go.Vse Go.Vse.Sm
def fn55:pr.fn 55=some g55:=by kernel_rfl
def V55(r:Rl)(s:St):Prop:=(s.tm.get 1=some (.ptr 0 4 0 0)/\s.h.get 0=some (.arr 4 0 [[.f (.s r.nm),.f (.b r.ce),.f r.co,.f (zbO r.tu)]]))/\1<=s.c
def J55(r:Rl)(n:Nat)(s:St):Prop:=V55 r s/\(s.tm.get 20=some (.f (zbO r.tu))/\s.tm.get 21=some (.f (.i .i64 r.tu.length))/\s.tm.get 22=some (.f (.i .i64 n)))
def K55(r:Rl)(B:List (List Nat))(n:Nat)(s:St):Prop:=V55 r s/\(s.tm.get 6=some (.f (zcA B))/\s.tm.get 53=some (.f (zcA B))/\s.tm.get 54=some (.f (.i .i64 B.length))/\s.tm.get 55=some (.f (.i .i64 n)))
def M55(r:Rl)(B:List (List Nat))(n:Nat)(s:St):Prop:=V55 r s/\(s.tm.get 63=some (.f (zcA B))/\s.tm.get 64=some (.f (.i .i64 B.length))/\s.tm.get 65=some (.f (.i .i64 n)))
def zQV(s:Nat×Nat):∃z:Int,0<=z/\sgN s= .i .i64 z:=⟨_,by split<;>omega,rfl⟩
def ans55{r:Rl}{B:List (List Nat)}(h:Gx r B):Ans pr 55 [.ag (rlF r)] (.i .i64 0):=by
 refine zcf fn55 ?_;have qv:=fun k=>zad (k:=k) h.vp
 have hco:=h.k.co;have hcc:=h.k.cc;have hn:=h.k.n;have hd:(zbO r.tu).d= .f (zbO r.tu):=zoG _;have hc2:(D.f (zbO r.tu)).cells=some [.f (zbO r.tu)]:=zcF _ _;have h64:¬(64:Int)< (r.tu.length:Nat):=by omega
 simp only[g55,rU];simp[rW,st0,zak,rlE,hco,hd,hcc,hc2,qv,zxM,h64];refine zbD r.tu.length (J55 r) (fun e s=>e= .exit 0/\V55 r s) ?_ ?_ _ ⟨⟨⟨?_,?_⟩,?_⟩,?_,?_,?_⟩ ?_
 .rintro n s hlt ⟨⟨⟨h1,g0⟩,hc⟩,h20,h21,h22⟩;have hw:=zao n (by omega);have hx:r.tu[n]? =some r.tu[n]:=Z0 hlt;have hpT:=h.k.p _ (Z1 hlt);have hcp:=h.cp _ (Z1 hlt);have hlT:=h.k.l;have nc:¬0=s.c:=by omega
  have nd:¬s.c=0:=by omega
  cases n with
  |zero=>
   generalize hTt:r.tu[0]=T at hx hpT hcp;obtain⟨p0,p1,p2,hpe,d0,d1,d2⟩ :=zaS _ hpT;have htu:tuF T=[valsF T.1,p0,p1,p2]:=by unfold tuF;rw[hpe]
   rw[htu]at hcp;have qc:=fun k=>zad (k:=k) hcp
   have hw1:IntKind.i64.wrap 1=1:=rfl;simp[rW,h1,h20,h21,h22,g0,hlt,zkI,hx,hTt,htu,qc,hco,hcc,d0,d1,d2,nc,nd,hw];exact⟨⟨⟨by simp[rW,h1],by simp[rW,g0,nc]⟩,by simp[rW]<;>omega⟩,by simp[rW,h20],by simp[rW,h21],by simp[rW,hw1]⟩
  |succ m=>
   have hml:m<r.tu.length:=by omega
   have hxm:r.tu[m]? =some r.tu[m]:=Z0 hml;have hcmp:=h.s m hlt (by omega);have hac:=zGa (r.tu[m]).1 (r.tu[m+1]).1 (by have:=h.k.l _ (Z1 hml);omega) (by have:=h.k.l _ (Z1 (show m+1<r.tu.length by omega));omega);rw[<-zkj]at hac;have hpM:=h.k.p _ (Z1 hml);generalize hTt:r.tu[m+1]=T at hx hpT hcp hcmp hac;generalize hMt:r.tu[m]=U at hxm hcmp hac hpM;obtain⟨p0,p1,p2,hpe,d0,d1,d2⟩ :=zaS _ hpT;obtain⟨u0,u1,u2,hue,-,-,-⟩ :=zaS _ hpM;have htu:tuF T=[valsF T.1,p0,p1,p2]:=by unfold tuF;rw[hpe]
   have htm:tuF U=[valsF U.1,u0,u1,u2]:=by unfold tuF;rw[hue]
   rw[htu]at hcp;have qc:=fun k=>zad (k:=k) hcp
   have qk:=fun k=>zad (k:=k) hac
   generalize cmpL U.1 T.1=z at hcmp qk;have z0:¬z=0:=by omega
   have z1:¬z=1:=by omega
   have hwm:IntKind.i64.wrap (m:Int)=(m:Int):=wrap_i64 _ (by omega) (by omega);have hw2:IntKind.i64.wrap ((m:Int)+1+1)=((m+2:Nat):Int):=wrap_i64 _ (by omega) (by omega);have hne:¬((m:Int)+1=0):=by omega
   have hp0:(0:Int)<=(m:Int)+1:=by omega
   have hltI:(m:Int)+1<r.tu.length:=by omega
   simp[rW,h1,h20,h21,h22,g0,hlt,hltI,zkI,hx,hTt,htu,qc,hco,hcc,d0,d1,d2,nc,nd,hne,hp0];refine zaw ?_;simp[rW,h1,h20,h21,h22,g0,hlt,hml,zkI,hx,hxm,hTt,hMt,htu,htm,hwm,nc,nd,qk,z0,z1,hw2];exact⟨⟨⟨by simp[rW,h1],by simp[rW,g0,nc]⟩,by simp[rW]<;>omega⟩,by simp[rW,h20],by simp[rW,h21],by simp[rW]<;>omega⟩
 .rintro s ⟨⟨⟨h1,g0⟩,hc⟩,h20,h21,h22⟩;simp[rW,h1,h20,h21,h22];exact⟨⟨by simp[rW,h1],by simp[rW,g0]⟩,by simp[rW,hc]⟩
 .simp[rW]
 .simp[rW]
 .simp[rW]
 .simp[rW]
 .simp[rW]
 .simp[rW]
 .rintro e s ⟨rfl,⟨h1,g0⟩,hc⟩;have qg:=fun k=>zad (k:=k) h.gp
  simp only[rlE]at qg;have hBn:=h.n;simp[rW,h1,g0,hco,hd,hcc,hc2,qg,zGj,zgr];refine zbD B.length (K55 r B) (fun e s=>e= .exit 3/\V55 r s/\s.tm.get 6=some (.f (zcA B))) ?_ ?_ _ ⟨⟨⟨?_,?_⟩,?_⟩,?_,?_,?_,?_⟩ ?_
  .clear h1 g0 hc s;rintro n s hlt ⟨⟨⟨h1,g0⟩,hc⟩,h6,h53,h54,h55⟩;have hw:=zao n (by omega);have hx:B[n]? =some B[n]:=Z0 hlt;have hbl:=(h.b _ (Z1 hlt)).1;generalize hb:B[n]=b at hx hbl;have h16:¬(16:Int)< (b.length:Nat):=by omega
   simp[rW,h1,h6,h53,h54,h55,g0,hlt,zgr,zno,hx,hb,zlT,zpu,h16,hw];exact⟨⟨⟨by simp[rW,h1],by simp[rW,g0]⟩,by simp[rW,hc]⟩,by simp[rW,h6],by simp[rW,h53],by simp[rW,h54],by simp[rW]⟩
  .clear h1 g0 hc s;rintro s ⟨⟨⟨h1,g0⟩,hc⟩,h6,h53,h54,h55⟩;simp[rW,h53,h54,h55];exact⟨⟨⟨by simp[rW,h1],by simp[rW,g0]⟩,by simp[rW,hc]⟩,by simp[rW,h6]⟩
  .simp[rW,h1]
  .simp[rW,g0]
  .simp[rW,hc]
  .simp[rW]
  .simp[rW]
  .simp[rW]
  .simp[rW]
  .clear h1 g0 hc s;rintro e s ⟨rfl,⟨⟨h1,g0⟩,hc⟩,h6⟩;simp[rW,h6,zgr];refine zbD B.length (M55 r B) (fun e s=>e= .exit 5) ?_ ?_ _ ⟨⟨⟨?_,?_⟩,?_⟩,?_,?_,?_⟩ ?_
   .clear h1 g0 hc h6 s;rintro n s hlt ⟨⟨⟨h1,g0⟩,hc⟩,h63,h64,h65⟩;have hw:=zao n (by omega);have hx:B[n]? =some B[n]:=Z0 hlt;obtain⟨hbl,hbi,ns,hB,hle⟩ :=h.b _ (Z1 hlt);generalize hb:B[n]=b at hx hbl hbi hB;have aS:=zHq r h.k.co h.k.cc b ns hbl hB hle;have hI:=allL uC _ (zFC ns (by rw[hB.1];exact hbl) hB.mem) hle;obtain⟨-,-,-,a4,a5⟩ :=hI;generalize sN ns=sm at aS a4 a5;obtain⟨z,hz0,hz⟩ :=zQV (cmN sm);rw[hz]at a5;simp only[frE,rlE]at aS a4 a5;have q1:=fun k=>zad (k:=k) aS
    have q2:=fun k=>zad (k:=k) a4
    have q3:=fun k=>zad (k:=k) a5
    have hzn:¬z<0:=by omega
    simp[rW,h1,h63,h64,h65,g0,hlt,zgr,zno,hx,hb,zlT,zpu,hco,hd,hcc,hc2,q1,q2,q3,zmB,hzn,hw];exact⟨⟨⟨by simp[rW,h1],by simp[rW,g0]⟩,by simp[rW,hc]⟩,by simp[rW,h63],by simp[rW,h64],by simp[rW]⟩
   .rintro s ⟨⟨⟨h1,g0⟩,hc⟩,h63,h64,h65⟩;simp[rW,h63,h64,h65]
   .simp[rW,h1]
   .simp[rW,g0]
   .simp[rW,hc]
   .simp[rW]
   .simp[rW]
   .simp[rW]
   .rintro e s rfl;simp[rW]
def zFM{r:Rl}(h:zmc r r.tu.length):Srt r.tu:=by
 intro a b hab hb;obtain⟨k,rfl⟩ :∃k,b=a+1+k:=⟨b - (a+1),by omega⟩
 have get:∀(m:Nat) (hm:m<r.tu.length),(r.tu[m]?.getD ([],[]))=r.tu[m]:=fun m hm=>by rw[Z0 hm];rfl
 clear hab
 induction k with
 |zero=>
  have h1:=h a (by simpa using hb) (by simpa using hb);rw[zkj]at h1;rw[get a (by omega),get (a+1+0) hb];exact h1
 |succ k ih=>
  have h1:=h (a+1+k) hb hb;rw[zkj]at h1;have h2:=ih (by omega);rw[get (a+1+k) (by omega)]at h2;rw[get (a+1+(k+1)) hb];exact zjX _ _ _ h2 h1
structure ztG(L:List Rl):Prop where
 n:L.length<=8
 g:∀r∈L,∃B,Gx r B
 v:∀r∈L,∀t∈r.tu,Bd t.1
def ztG.lr{L:List Rl}(H:ztG L):LR L:=⟨H.n,fun r hr=>by
 obtain⟨B,h⟩ :=H.g r hr;exact h.k.n,fun r hr=>by
 obtain⟨B,h⟩ :=H.g r hr;exact⟨h.k.co,h.k.cc⟩⟩
def ztG.ro{L:List Rl}(H:ztG L):zla L:=⟨by have:=H.n;omega,H.lr.o,fun r hr=>by
 obtain⟨B,h⟩ :=H.g r hr;exact⟨h.k.n,fun t ht=>by have:=h.k.l t ht;omega,zFM h.s⟩⟩
def L4(a b c d:List (List Int×List F)):List Rl:=[rH a,rS b,rK c,rC d]
def zJJ(x:F)(hx:zcG x)(hxd:x.d= .f x):∃a b c d,ztG (L4 a b c d)/\((∀t∈a,zlg t)/\(∀t∈b,zlh t)/\(∀t∈c,zlc t)/\∀t∈d,zlb t)/\Ans pr 4 [x] (zbt (L4 a b c d)):=by
 obtain⟨a,b,c,d,⟨⟨a1,a2⟩,a3⟩,⟨⟨b1,b2⟩,b3⟩,⟨⟨c1,c2⟩,c3⟩,⟨⟨d1,d2⟩,d3⟩,h⟩ :=ans4 x hx hxd;refine⟨a,b,c,d,⟨by simp[L4],fun r hr=> ?_,fun r hr t ht=> ?_⟩,⟨a2,b2,c2,d2⟩,h⟩
 .simp only[L4,Z5,Z164,or_false]at hr;rcases hr with rfl|rfl|rfl|rfl
  .exact gxR a1 (fun t h=>(a2 t h).1) a3
  .exact gxS b1 (fun t h=>(b2 t h).1) b3
  .exact gxK c1 (fun t h=>(c2 t h).1) c3
  .exact gxC d1 (fun t h=>(d2 t h).1) d3
 .simp only[L4,Z5,Z164,or_false]at hr;rcases hr with rfl|rfl|rfl|rfl
  .exact (a2 t ht).2
  .exact (b2 t ht).2
  .exact (c2 t ht).2
  .exact (d2 t ht).2
def ztJ(A:F):Prop:=A= .nils\/∃X,A= .sl 4 X
def zA9(l:List (List Int×List F)):ztJ (zbO l):=by
 cases l with
 |nil=>exact .inl rfl
 |cons a l=>exact .inr ⟨_,rfl⟩
def zQO(A B C D:F)(hA:ztJ A)(hB:ztJ B)(hC:ztJ C)(hD:ztJ D):Ans pr 57 [.sl 4 [[.s [82],.b false,coR,A],[.s [83],.b false,coS,B],[.s [75],.b false,coK,C],[.s [67],.b true,coC,D]]] zcC:=by
 rcases hA with rfl|⟨A,rfl⟩ <;>rcases hB with rfl|⟨B,rfl⟩ <;>rcases hC with rfl|⟨C,rfl⟩ <;>rcases hD with rfl|⟨D,rfl⟩ <;>exact rA
def zs7{v:List Int}(h:Bd v):∀z∈v,z∈VzL:=fun z hz=>by
 have:=h z hz;simp only[VzL,Z5,Z164,or_false];omega
def zkV{x:F}(hx:zcG x):x.d= .f x:=by
 rcases hx with rfl|⟨zs,rfl⟩
 .rfl
 .rfl
def zPQ{x:F}(hx:zcG x):∃L,zk9 L/\Ans pr 4 [x] (zbt L):=by
 obtain⟨a,b,c,d,H,⟨ha,hb,hc,hd⟩,h⟩ :=zJJ x hx (zkV hx);have hsc:Ans pr 57 [zbt (L4 a b c d)] zcC:=zQO (zbO a) (zbO b) (zbO c) (zbO d) (zA9 _) (zA9 _) (zA9 _) (zA9 _);refine⟨L4 a b c d,⟨⟨rH a,rS b,rK c,rC d,rfl,?_,?_,?_,?_⟩,fun r hr=> ?_,hsc⟩,h⟩
 .have h0:rH a∈L4 a b c d:=by simp[L4]
  exact⟨rfl,⟨rfl,rfl⟩,H.lr.t _ h0,fun t ht=>⟨by obtain⟨⟨_,_,_,e,_⟩,_⟩ :=ha t ht;rw[e];rfl,zs7 (ha t ht).2⟩,(H.ro.r _ h0).s⟩
 .have h0:rS b∈L4 a b c d:=by simp[L4]
  exact⟨rfl,⟨rfl,rfl⟩,H.lr.t _ h0,fun t ht=>⟨by obtain⟨⟨_,_,e⟩,_⟩ :=hb t ht;rw[e];rfl,zs7 (hb t ht).2⟩,(H.ro.r _ h0).s⟩
 .have h0:rK c∈L4 a b c d:=by simp[L4]
  exact⟨rfl,⟨rfl,rfl⟩,H.lr.t _ h0,fun t ht=>⟨by obtain⟨⟨_,_,_,e,_⟩,_⟩ :=hc t ht;rw[e];rfl,zs7 (hc t ht).2⟩,(H.ro.r _ h0).s⟩
 .have h0:rC d∈L4 a b c d:=by simp[L4]
  exact⟨rfl,⟨rfl,rfl⟩,H.lr.t _ h0,fun t ht=>⟨by obtain⟨⟨_,_,_,e,_⟩,_⟩ :=hd t ht;rw[e];rfl,zs7 (hd t ht).2⟩,(H.ro.r _ h0).s⟩
 .obtain⟨B,hB⟩ :=H.g r hr;exact ans55 hB
def fn26:pr.fn 26=some g26:=by kernel_rfl
def fn20:pr.fn 20=some g20:=by kernel_rfl
def Jhs(l:List Str)(v:Str)(n:Nat)(s:St):Prop:=s.tm.get 0=some (.f (zah l))/\s.tm.get 1=some (.f (.s v))/\s.tm.get 5=some (.f (.i .i64 n))
def ans26(l:List Str)(v:Str)(hl:l.length<1000):Ans pr 26 [zah l,.s v] (.b (decide (v∈l))):=by
 refine zcf fn26 ?_;simp only[g26,rU];simp[rW,st0,zak,zaL];refine zmy l (fun x=>x==v) (Jhs l v) (fun x s=>x= .exit 0) (fun n y s=>y= .ret/\s.tm.get 4=some (.f (.b true))) ?_ ?_ _ ⟨by simp[rW],by simp[rW],by simp[rW]⟩ ?_ ?_
 .rintro n s hn ⟨h0,h1,h5⟩;have hw:=zao n (by omega);have hx:l[n]? =some l[n]:=Z0 hn;generalize hA:l[n]=a at hx
  by_cases ha:a=v
  .subst ha;simp[rW,h0,h1,h5,zbz,hn,zdf,hx,hA]
  .simp[rW,h0,h1,h5,zbz,hn,zdf,hx,hA,ha,hw];exact⟨by simp[rW,h0],by simp[rW,h1],by simp[rW]⟩
 .rintro s ⟨h0,h1,h5⟩;simp[rW,h0,h1,h5,zbz]
 .rintro h x s rfl;have e:v∉l:=fun hm=>by have:=h v hm;simp at this
  simp[rW,e]
 .rintro n hn hp hm x s ⟨rfl,h4⟩;have e:v∈l:=by
   have:l[n]=v:=by simpa using hp
   rw[<-this];exact Z1 hn
  simp[rW,h4,e]
structure LgT(t:Tr):Prop where
 a:t.1.as.length<=6
 k:t.1.cs.length<=4
 n:t.2.length<=8
 v:Ans pr 25 [.ag (cqF t.1)] (zah t.2)
def Jlg(hd:List Str)(l:List CQ)(n:Nat)(s:St):Prop:=(s.tm.get 1=some (.ptr 0 2 0 0)/\s.tm.get 3=some (.f (.i .i64 n))/\s.h.get 0=some (.arr 2 0 [[.f (zah hd),.f (qsF l)]]))/\0<s.c
def ans20{hd:List Str}{l:List Tr}(hh:hd.length<=6)(hn:l.length<=5)(H:∀t∈l,LgT t):Ans pr 20 [.ag [zah hd,qsF (l.map (·.1))]] (.b false):=by
 refine zcf fn20 ?_;have a1:¬(5:Int)<l.length:=by omega
 have a1':(l.length:Int)<=5:=by omega
 have a2:¬(6:Int)<hd.length:=by omega
 have a2':(hd.length:Int)<=6:=by omega
 simp only[g20,rU];simp[rW,st0,zak,zaL,ze8,zcH,zbz,Z18,a1,a1',a2,a2'];refine zbD l.length (Jlg hd (l.map (·.1))) (fun e s=>e= .exit 0) ?_ ?_ _ ⟨⟨by simp[rW],by simp[rW],by simp[rW]⟩,by simp only[rG];omega⟩ ?_
 .rintro k s hlt ⟨⟨h1,h3,g0⟩,hc⟩;have hw:=zao k (by omega);have ht:=H _ (Z1 hlt);have hx:(l.map (·.1))[k]? =some l[k].1:=by rw[Z36,Z0 hlt];rfl
  generalize hA:l[k]=q at hx ht;have q1:=fun k=>zad (k:=k) ht.v
  rw[cqE]at q1;have b1:¬(6:Int)<q.1.as.length:=by have:=ht.a;omega
  have b1':(q.1.as.length:Int)<=6:=by have:=ht.a;omega
  have b2:¬(4:Int)<q.1.cs.length:=by have:=ht.k;omega
  have b2':(q.1.cs.length:Int)<=4:=by have:=ht.k;omega
  have b3:¬(8:Int)<q.2.length:=by have:=ht.n;omega
  have b3':(q.2.length:Int)<=8:=by have:=ht.n;omega
  have n0:¬0=s.c:=by omega
  simp[rW,h1,h3,g0,zcH,Z18,hlt,zeA,hx,hA,cqE,zd8,zeb,zhn,zok,b1,b1',b2,b2',b3,b3',q1,zaL,zbz,hw];exact⟨⟨by simp[rW,h1],by simp[rW],by simp[rW,g0,n0]⟩,by simp only[rG];omega⟩
 .rintro s ⟨⟨h1,h3,g0⟩,hc⟩;simp[rW,h1,h3,g0,zcH,Z18]
 .rintro e s rfl;simp[rW]
def fn21:pr.fn 21=some g21:=by kernel_rfl
structure NmT(t:Tr):Prop where
 a:t.1.as.length<=6
 n:t.2.length<=8
 v:Ans pr 25 [.ag (cqF t.1)] (zah t.2)
 m:∀s∈t.2,Ans pr 51 [.s s] (.b true)
 f:∀a∈t.1.as,∃ce cols,Ans pr 50 [zcC,.s a.r] (.tu [.ag [.s a.r,.b ce,slc 3 cols],.b true])
def zjr:C:=g21.body.r.r.l.r.b.o
def zyC:C:=zjr.r.l.b.r.r.l.r.b.o
def zyG:C:=zjr.r.l.b.r.r.r.r.b.o
def Jnd2(hd:List Str)(l:List CQ)(k:Nat)(s:St):Prop:=(s.tm.get 0=some (.f zcC)/\s.tm.get 3=some (.ptr 0 2 0 0)/\s.tm.get 6=some (.f (.i .i64 k))/\s.h.get 0=some (.arr 2 0 [[.f (zah hd),.f (qsF l)]]))/\0<s.c
def zx4(hd:List Str)(l:List CQ)(c:CQ)(ns:List Str)(i:Nat)(k j:Nat)(s:St):Prop:=(s.tm.get 0=some (.f zcC)/\s.tm.get 3=some (.ptr 0 2 0 0)/\s.tm.get 6=some (.f (.i .i64 k))/\s.tm.get 7=some (.ptr i 2 0 0)/\s.tm.get 8=some (.f (zah ns))/\s.tm.get 9=some (.f (.i .i64 j))/\s.h.get 0=some (.arr 2 0 [[.f (zah hd),.f (qsF l)]])/\s.h.get i=some (.arr 2 0 [[.f (zcN c),.f (zc7 c)]]))/\0<i/\i<s.c
def zx7(hd:List Str)(l:List CQ)(c:CQ)(i:Nat)(k j:Nat)(s:St):Prop:=(s.tm.get 0=some (.f zcC)/\s.tm.get 3=some (.ptr 0 2 0 0)/\s.tm.get 6=some (.f (.i .i64 k))/\s.tm.get 7=some (.ptr i 2 0 0)/\s.tm.get 10=some (.f (.i .i64 j))/\s.h.get 0=some (.arr 2 0 [[.f (zah hd),.f (qsF l)]])/\s.h.get i=some (.arr 2 0 [[.f (zcN c),.f (zc7 c)]]))/\0<i/\i<s.c
def nd_l4{hd:List Str}{l:List CQ}{t:Tr}{i k:Nat}(H:NmT t){s:St}{Q:Ex->St->Prop}(hJ:zx4 hd l t.1 t.2 i k 0 s)(kx:∀s,zx4 hd l t.1 t.2 i k t.2.length s->Q (.exit 4) s):WL pr zyC s Q:=by
 have hnl:=H.n;refine zbD t.2.length (zx4 hd l t.1 t.2 i k) (fun x s=>x= .exit 4/\zx4 hd l t.1 t.2 i k t.2.length s) ?_ ?_ _ hJ ?_
 .rintro j s hlt ⟨⟨h0,h3,h6,h7,h8,h9,g0,gi⟩,hi0,hi⟩;have hw:=zao j (by omega);have hx:t.2[j]? =some t.2[j]:=Z0 hlt;have hnm:=H.m _ (Z1 hlt);generalize hA:t.2[j]=v at hx hnm;have q1:=fun k=>zad (k:=k) hnm
  unfold zyC zjr g21;simp only[rU,C.l,C.r,C.b,C.o];simp[rW,h0,h3,h6,h7,h8,h9,zbz,hlt,zdf,hx,hA,q1,hw];exact⟨⟨by simp[rW,h0],by simp[rW,h3],by simp[rW,h6],by simp[rW,h7],by simp[rW,h8],by simp[rW],by simp only[rG];exact g0,by simp only[rG];exact gi⟩,hi0,by simp only[rG];exact hi⟩
 .rintro s ⟨⟨h0,h3,h6,h7,h8,h9,g0,gi⟩,hi0,hi⟩;unfold zyC zjr g21;simp only[rU,C.l,C.r,C.b,C.o];simp[rW,h0,h3,h6,h7,h8,h9,zbz];exact⟨⟨by simp[rW,h0],by simp[rW,h3],by simp[rW,h6],by simp[rW,h7],by simp[rW,h8],by simp[rW,h9],by simp only[rG];exact g0,by simp only[rG];exact gi⟩,hi0,by simp only[rG];exact hi⟩
 .rintro e s ⟨rfl,hJ⟩;exact kx s hJ
def nd_l6{hd:List Str}{l:List CQ}{t:Tr}{i k:Nat}(H:NmT t){s:St}{Q:Ex->St->Prop}(hJ:zx7 hd l t.1 i k 0 s)(kx:∀s,zx7 hd l t.1 i k t.1.as.length s->Q (.exit 6) s):WL pr zyG s Q:=by
 have hal:=H.a;have hsd:zcC.d= .f zcC:=rfl;refine zbD t.1.as.length (zx7 hd l t.1 i k) (fun x s=>x= .exit 6/\zx7 hd l t.1 i k t.1.as.length s) ?_ ?_ _ hJ ?_
 .rintro j s hlt ⟨⟨h0,h3,h6,h7,h10,g0,gi⟩,hi0,hi⟩;have hw:=zao j (by omega);have hx:t.1.as[j]? =some t.1.as[j]:=Z0 hlt;obtain⟨ce,cols,hf⟩ :=H.f _ (Z1 hlt);generalize hA:t.1.as[j]=a at hx hf;have q1:=fun k=>zad (k:=k) hf
  have htd:=zq9 a.ts;have hcd:(slc 3 cols).d= .f (slc 3 cols):=zeh ..;have n0:¬0=s.c:=by omega
  have ni:¬i=s.c:=by omega
  unfold zyG zjr g21;simp only[rU,C.l,C.r,C.b,C.o];simp[rW,h0,h3,h6,h7,h10,g0,gi,zhn,hlt,zlJ,hx,hA,atE,htd,hcd,q1,hsd,hw,n0,ni,zcF];exact⟨⟨by simp[rW,h0],by simp[rW,h3],by simp[rW,h6],by simp[rW,h7],by simp[rW],by simp[rW,g0,n0],by simp[rW,gi,ni]⟩,hi0,by simp only[rG];omega⟩
 .rintro s ⟨⟨h0,h3,h6,h7,h10,g0,gi⟩,hi0,hi⟩;unfold zyG zjr g21;simp only[rU,C.l,C.r,C.b,C.o];simp[rW,h0,h3,h6,h7,h10,g0,gi,zhn];exact⟨⟨by simp[rW,h0],by simp[rW,h3],by simp[rW,h6],by simp[rW,h7],by simp[rW,h10],by simp only[rG];exact g0,by simp only[rG];exact gi⟩,hi0,by simp only[rG];exact hi⟩
 .rintro e s ⟨rfl,hJ⟩;exact kx s hJ
def zAA{hd:List Str}{l:List Tr}(hn:l.length<=5)(H:∀t∈l,NmT t){s:St}{Q:Ex->St->Prop}(hJ:Jnd2 hd (l.map (·.1)) 0 s)(kx:∀s,Q (.exit 2) s):WL pr zjr s Q:=by
 refine zbD l.length (Jnd2 hd (l.map (·.1))) (fun x s=>x= .exit 2) ?_ ?_ _ hJ ?_
 .rintro k s hlt ⟨⟨h0,h3,h6,g0⟩,hc⟩;have hw:=zao k (by omega);have ht:=H _ (Z1 hlt);have hx:(l.map (·.1))[k]? =some l[k].1:=by rw[Z36,Z0 hlt];rfl
  generalize hA:l[k]=q at hx ht;have q1:=fun k=>zad (k:=k) ht.v
  rw[cqE]at q1;have n0:¬0=s.c:=by omega
  unfold zjr g21;simp only[rU,C.l,C.r,C.b,C.o];simp[rW,h0,h3,h6,g0,zcH,Z18,hlt,zeA,hx,hA,cqE,zd8,zeb,q1,zaL];refine nd_l4 (l:=l.map (·.1)) (i:=s.c) (k:=k) (hd:=hd) ht ⟨⟨by simp[rW,h0],by simp[rW,h3],by simp[rW,h6],by simp[rW],by simp[rW],by simp[rW],by simp[rW,g0,n0],by simp[rW]⟩,hc,by simp only[rG];omega⟩ ?_;rintro s1 ⟨⟨j0,j3,j6,j7,j8,j9,f0,fi⟩,hi0,hi⟩;simp[rW];refine nd_l6 (l:=l.map (·.1)) (i:=s.c) (k:=k) (hd:=hd) ht ⟨⟨by simp[rW,j0],by simp[rW,j3],by simp[rW,j6],by simp[rW,j7],by simp[rW],by simp only[rG];exact f0,by simp only[rG];exact fi⟩,hc,by simp only[rG];omega⟩ ?_;rintro s2 ⟨⟨i0,i3,i6,i7,i10,e0,ei⟩,-,hi2⟩;simp[rW,i6,hw];exact⟨⟨by simp[rW,i0],by simp[rW,i3],by simp[rW],by simp only[rG];exact e0⟩,by simp only[rG];omega⟩
 .rintro s ⟨⟨h0,h3,h6,g0⟩,hc⟩;unfold zjr g21;simp only[rU,C.l,C.r,C.b,C.o];simp[rW,h0,h3,h6,g0,zcH,Z18]
 .rintro e s rfl;exact kx s
def hs0:∀s∈([[120],[121]]:List Str),Ans pr 26 [.sl 1 [],.s s] (.b false):=by
 simp only[Z5,Z164,or_false];rintro s (rfl|rfl)<;>exact zgn (n:=400) (ziy pr) (by kernel_rfl)
def hs1:Ans pr 26 [.sl 1 [[.s [121]]],.s [120]] (.b false):=zgn (n:=400) (ziy pr) (by kernel_rfl)
def ans21{b:Nat}{l:List Tr}(hn:l.length<=5)(H:∀t∈l,NmT t):Ans pr 21 [zcC,.ag [zah (hdC b),qsF (l.map (·.1))]] (.b true):=by
 have hsd:zcC.d= .f zcC:=rfl;have q1:=fun k=>zad (k:=k) (n8A [120] (by simp))
 have q2:=fun k=>zad (k:=k) (hs0 [120] (by simp))
 have q1':=fun k=>zad (k:=k) (n8A [121] (by simp))
 have q2':=fun k=>zad (k:=k) (hs0 [121] (by simp))
 have q3:=fun k=>zad (k:=k) hs1
 have hw1:IntKind.i64.wrap 1=1:=rfl;have hw2:IntKind.i64.wrap 2=2:=rfl;refine zcf fn21 ?_;simp only[g21,rU];rcases zAp b with e|e|e<;>rw[e]
 .simp[rW,st0,zak,hsd,zaL,ze8];refine round ?_;simp[rW];refine zAA (hd:=[]) hn H ⟨⟨by simp[rW],by simp[rW],by simp[rW],by simp[rW]⟩,by simp only[rG];omega⟩ fun s1=> ?_
  simp[rW]
 .simp[rW,st0,zak,hsd,zaL,ze8,zah];refine round ?_;simp[rW];refine zaw ?_;simp[rW,q1,q2,zaV];refine round ?_;simp[rW,hw1];refine zAA (hd:=[[120]]) hn H ⟨⟨by simp[rW],by simp[rW],by simp[rW],by simp[rW,zah,zaV]⟩,by simp only[rG];omega⟩ fun s1=> ?_
  simp[rW]
 .simp[rW,st0,zak,hsd,zaL,ze8,zah];refine round ?_;simp[rW];refine zaw ?_;simp[rW,q1',q2',zaV];refine round ?_;simp[rW,hw1];refine zaw ?_;simp[rW,q1,q3,zaV,hw1];refine round ?_;simp[rW,hw2];refine zAA (hd:=[[121],[120]]) hn H ⟨⟨by simp[rW],by simp[rW],by simp[rW],by simp[rW,zah,zaV]⟩,by simp only[rG];omega⟩ fun s1=> ?_
  simp[rW]
def fn6:pr.fn 6=some g6:=by kernel_rfl
structure VdT(t:Tr)(bs:List Str):Prop where
 l:LgT t
 n:NmT t
 B:Bun t bs
 b:bs.length<=8
 i:∀s∈t.2,s∈bs
 o:∀s∈bs,s∈t.2
 ne:t.2≠[]
def VdT.ty{t:Tr}{bs:List Str}(H:VdT t bs){s:Str}(h:s=[120]\/s=[121]):∃z:Nat,z<=1/\Ans pr 23 [zcC,.ag (cqF t.1),.s s] (.i .i64 z):=by
 rcases h with rfl|rfl
 .exact⟨1,Z2 _,H.B.tx⟩
 .exact H.B.t2
def zDz:C:=g6.body.r.r.l.r.b.o
def zry:C:=g6.body.r.r.r.l.r.b.o
def zDB:C:=zry.r.l.b.r.r.b.o
def znk:C:=g6.body.r.r.r.r.l.r.b.o
def zyO:C:=znk.r.l.b.r.r.r.b.o
def Jv(i:Nat)(hd:List Str)(l:List CQ)(k:Nat)(s:St):Prop:=(s.tm.get 0=some (.f zcC)/\s.tm.get 3=some (.ptr 0 2 0 0)/\s.tm.get i=some (.f (.i .i64 k))/\s.h.get 0=some (.arr 2 0 [[.f (zah hd),.f (qsF l)]]))/\0<s.c
def vd_l1{hd:List Str}{l:List Tr}(hn:l.length<=5)(H:∀t∈l,∃bs,VdT t bs){s:St}{Q:Ex->St->Prop}(hJ:Jv 5 hd (l.map (·.1)) 0 s)(kx:∀s,Jv 5 hd (l.map (·.1)) l.length s->Q (.exit 1) s):WL pr zDz s Q:=by
  have hsd:zcC.d= .f zcC:=rfl;refine zbD l.length (Jv 5 hd (l.map (·.1))) (fun x s=>x= .exit 1/\Jv 5 hd (l.map (·.1)) l.length s) ?_ ?_ _ hJ ?_
  . rintro k s hlt ⟨⟨h0,h3,h5,g0⟩,hc⟩;have hw:=zao k (by omega);obtain⟨bs,ht⟩ :=H _ (Z1 hlt);have hx:(l.map (·.1))[k]? =some l[k].1:=by rw[Z36,Z0 hlt];rfl
    generalize hA:l[k]=q at hx ht;have q0:=ht.B.ty;have q1:=fun k=>zad (k:=k) q0
    rw[cqE]at q1;unfold zDz g6;simp only[rU,C.l,C.r,C.b,C.o];simp[rW,h0,h3,h5,g0,zcH,Z18,hlt,zeA,hx,hA,cqE,zd8,zeb,q1,hsd,hw];exact⟨⟨by simp[rW,h0],by simp[rW,h3],by simp[rW],by simp[rW,g0]⟩,by simp only[rG];exact hc⟩
  . rintro s ⟨⟨h0,h3,h5,g0⟩,hc⟩;unfold zDz g6;simp only[rU,C.l,C.r,C.b,C.o];simp[rW,h0,h3,h5,g0,zcH,Z18];exact⟨⟨by simp[rW,h0],by simp[rW,h3],by simp[rW,h5],by simp[rW,g0]⟩,by simp only[rG];exact hc⟩
  . rintro e s ⟨rfl,hJ⟩;exact kx s hJ
def Jv5(hd:List Str)(l:List CQ)(j k:Nat)(s:St):Prop:=(s.tm.get 0=some (.f zcC)/\s.tm.get 3=some (.ptr 0 2 0 0)/\s.tm.get 6=some (.f (.i .i64 j))/\s.tm.get 8=some (.f (.i .i64 k))/\s.h.get 0=some (.arr 2 0 [[.f (zah hd),.f (qsF l)]]))/\0<s.c/\∃z:Nat,z<=1/\s.tm.get 7=some (.f (.i .i64 z))
def vd_l5{hd:List Str}{l:List Tr}(hn:l.length<=5)(H:∀t∈l,∃bs,VdT t bs){j:Nat}(hj:j<hd.length)(hy:hd[j]=[120]\/hd[j]=[121]){s:St}{Q:Ex->St->Prop}(hJ:Jv5 hd (l.map (·.1)) j 0 s)(kx:∀s,Jv5 hd (l.map (·.1)) j l.length s->Q (.exit 5) s):WL pr zDB s Q:=by
  have hsd:zcC.d= .f zcC:=rfl;have hz:hd[j]? =some hd[j]:=Z0 hj;generalize hY:hd[j]=y at hz hy;refine zbD l.length (Jv5 hd (l.map (·.1)) j) (fun x s=>x= .exit 5/\Jv5 hd (l.map (·.1)) j l.length s) ?_ ?_ _ hJ ?_
  . rintro k s hlt ⟨⟨h0,h3,h6,h8,g0⟩,hc,z,hz1,h7⟩;have hw:=zao k (by omega);obtain⟨bs,ht⟩ :=H _ (Z1 hlt);have hx:(l.map (·.1))[k]? =some l[k].1:=by rw[Z36,Z0 hlt];rfl
    generalize hA:l[k]=q at hx ht;obtain⟨z2,hz2,q0⟩ :=ht.ty hy;have q1:=fun k=>zad (k:=k) q0
    rw[cqE]at q1;unfold zDB zry g6;simp only[rU,C.l,C.r,C.b,C.o];simp[rW,h0,h3,h6,h8,g0,zcH,Z18,hlt];refine zaw ?_;obtain⟨rfl,rfl⟩ |⟨rfl,rfl⟩ |⟨rfl,rfl⟩ |⟨rfl,rfl⟩ :(z=0/\z2=0)\/(z=0/\z2=1)\/(z=1/\z2=0)\/(z=1/\z2=1):=by omega
    . simp[rW,h0,h3,h6,h8,g0,h7,zeA,hx,hA,cqE,zd8,zeb,zdf,hz,hY,q1,hsd,hw];exact⟨⟨by simp[rW,h0],by simp[rW,h3],by simp[rW,h6],by simp[rW],by simp[rW,g0]⟩,by simp only[rG];omega,0,by omega,by simp[rW]⟩
    . simp[rW,h0,h3,h6,h8,g0,h7,zeA,hx,hA,cqE,zd8,zeb,zdf,hz,hY,q1,hsd,hw];exact⟨⟨by simp[rW,h0],by simp[rW,h3],by simp[rW,h6],by simp[rW],by simp[rW,g0]⟩,by simp only[rG];omega,1,by omega,by simp[rW]⟩
    . simp[rW,h0,h3,h6,h8,g0,h7,zeA,hx,hA,cqE,zd8,zeb,zdf,hz,hY,q1,hsd,hw];exact⟨⟨by simp[rW,h0],by simp[rW,h3],by simp[rW,h6],by simp[rW],by simp[rW,g0]⟩,by simp only[rG];omega,1,by omega,by simp[rW]⟩
    . simp[rW,h0,h3,h6,h8,g0,h7,zeA,hx,hA,cqE,zd8,zeb,zdf,hz,hY,q1,hsd,hw];exact⟨⟨by simp[rW,h0],by simp[rW,h3],by simp[rW,h6],by simp[rW],by simp[rW,g0]⟩,by simp only[rG];omega,1,by omega,by simp[rW]⟩
  . rintro s ⟨⟨h0,h3,h6,h8,g0⟩,hc,z,hz1,h7⟩;unfold zDB zry g6;simp only[rU,C.l,C.r,C.b,C.o];simp[rW,h0,h3,h6,h8,g0,zcH,Z18];exact⟨⟨by simp[rW,h0],by simp[rW,h3],by simp[rW,h6],by simp[rW,h8],by simp[rW,g0]⟩,by simp only[rG];exact hc,z,hz1,by simp[rW,h7]⟩
  . rintro e s ⟨rfl,hJ⟩;exact kx s hJ
def vd_l3{hd:List Str}{l:List Tr}(hn:l.length<=5)(hh:hd.length<=6)(hy:∀y∈hd,y=[120]\/y=[121])(H:∀t∈l,∃bs,VdT t bs){s:St}{Q:Ex->St->Prop}(hJ:Jv 6 hd (l.map (·.1)) 0 s)(kx:∀s,Jv 6 hd (l.map (·.1)) hd.length s->Q (.exit 3) s):WL pr zry s Q:=by
  refine zbD hd.length (Jv 6 hd (l.map (·.1))) (fun x s=>x= .exit 3/\Jv 6 hd (l.map (·.1)) hd.length s) ?_ ?_ _ hJ ?_
  . rintro j s hlt ⟨⟨h0,h3,h6,g0⟩,hc⟩;have hw:=zao j (by omega);unfold zry g6;simp only[rU,C.l,C.r,C.b,C.o];simp[rW,h0,h3,h6,g0,zbz,hlt];refine vd_l5 (l:=l) hn H hlt (hy _ (Z1 hlt)) ⟨⟨by simp[rW,h0],by simp[rW,h3],by simp[rW,h6],by simp[rW],by simp[rW,g0]⟩,by simp only[rG];exact hc,0,by omega,by simp[rW]⟩ ?_;rintro s1 ⟨⟨j0,j3,j6,j8,f0⟩,hc1,-⟩;simp[rW,j6,hw];exact⟨⟨by simp[rW,j0],by simp[rW,j3],by simp[rW],by simp only[rG];exact f0⟩,by simp only[rG];exact hc1⟩
  . rintro s ⟨⟨h0,h3,h6,g0⟩,hc⟩;unfold zry g6;simp only[rU,C.l,C.r,C.b,C.o];simp[rW,h0,h3,h6,g0,zbz];exact⟨⟨by simp[rW,h0],by simp[rW,h3],by simp[rW,h6],by simp[rW,g0]⟩,by simp only[rG];exact hc⟩
  . rintro e s ⟨rfl,hJ⟩;exact kx s hJ
def Jv9(hd:List Str)(l:List CQ)(bs ms:List Str)(k id j:Nat)(s:St):Prop:=(s.tm.get 0=some (.f zcC)/\s.tm.get 3=some (.ptr 0 2 0 0)/\s.tm.get 10=some (.f (.i .i64 k))/\s.tm.get 11=some (.f (zah bs))/\s.tm.get 12=some (.sl id 0 ms.length 1 ms.length false)/\s.tm.get 13=some (.f (.i .i64 j))/\s.h.get 0=some (.arr 2 0 [[.f (zah hd),.f (qsF l)]]))/\0<id/\id<s.c/\∃ro,s.h.get id=some (.arr 1 ro (za7 ms))
def zHh{hd:List Str}{l:List CQ}{bs ms:List Str}{k id:Nat}(hb:bs.length<1000)(hm:ms.length<1000){s:St}{Q:Ex->St->Prop}(hJ:Jv9 hd l bs ms k id 0 s)(kx:(∀v∈ms,v∈bs)->∀s,Jv 10 hd l k s->Q (.exit 9) s)(kr:(¬∀v∈ms,v∈bs)->∀s,s.tm.get 4=some (.f (.i .i64 14))->Q .ret s):WL pr zyO s Q:=by
 refine zmy ms (fun v=>!decide (v∈bs)) (Jv9 hd l bs ms k id) (fun x s=>x= .exit 9/\Jv 10 hd l k s) (fun _ x s=>x= .ret/\s.tm.get 4=some (.f (.i .i64 14))) ?_ ?_ _ hJ ?_ ?_
 .rintro j s hlt ⟨⟨h0,h3,h10,h11,h12,h13,g0⟩,hi0,hi,ro,gi⟩;have hw:=zao j (by omega);have hx:(za7 ms)[j]? =some [.f (.s ms[j])]:=by simp[za7,hlt]
  have hl:(za7 ms).length=ms.length:=by simp[za7]
  have hxg:∀h:j< (za7 ms).length,(za7 ms)[j]=[.f (.s ms[j])]:=fun h=>by
   rw[Z0 h]at hx;exact Z53 hx
  have q1:=fun k=>zad (k:=k) (ans26 bs ms[j] hb)
  generalize ms[j]=v at hx hxg q1|-
  by_cases hv:v∈bs
  .unfold zyO znk g6;simp only[rU,C.l,C.r,C.b,C.o];simp[rW,h0,h3,h10,h11,h12,h13,g0,gi,hlt,hx,hl,hxg,q1,hv,zaL,hw];exact⟨⟨by simp[rW,h0],by simp[rW,h3],by simp[rW,h10],by simp[rW,h11],by simp[rW,h12],by simp[rW],by simp only[rG];exact g0⟩,hi0,by simp only[rG];exact hi,ro,by simp only[rG];exact gi⟩
  .unfold zyO znk g6;simp only[rU,C.l,C.r,C.b,C.o];simp[rW,h0,h3,h10,h11,h12,h13,g0,gi,hlt,hx,hl,hxg,q1,hv,zaL]
 .rintro s ⟨⟨h0,h3,h10,h11,h12,h13,g0⟩,hi0,hi,ro,gi⟩;unfold zyO znk g6;simp only[rU,C.l,C.r,C.b,C.o];simp[rW,h0,h3,h10,h11,h12,h13,g0,gi];exact⟨⟨by simp[rW,h0],by simp[rW,h3],by simp[rW,h10],by simp only[rG];exact g0⟩,by simp only[rG];omega⟩
 .rintro h x s ⟨rfl,hJ⟩;exact kx (fun v hv=>by simpa using h v hv) s hJ
 .rintro n hn hp - x s ⟨rfl,h4⟩;exact kr (fun h=>by
   have:=h _ (Z1 hn);simp[this]at hp) s h4
def zfx(hd:List Str)(t:Tr):Bool:=hd.all fun v=>decide (v∈t.2)
def zEi{hd:List Str}{t:Tr}{bs:List Str}(H:VdT t bs):zfx hd t=true↔∀v∈hd++t.2,v∈bs:=by
 simp only[zfx,Z50,Z86,Z4];exact⟨fun h v hv=>hv.elim (fun h1=>H.i v (h v h1)) (H.i v),fun h v hv=>H.o v (h v (.inl hv))⟩
def vd_l7{hd:List Str}{l:List Tr}(hn:l.length<=5)(hh:hd.length<=6)(H:∀t∈l,∃bs,VdT t bs){s:St}{Q:Ex->St->Prop}(hJ:Jv 10 hd (l.map (·.1)) 0 s)(kx:(∀t∈l,zfx hd t=true)->∀s,Q (.exit 7) s)(kr:(¬∀t∈l,zfx hd t=true)->∀s,s.tm.get 4=some (.f (.i .i64 14))->Q .ret s):WL pr znk s Q:=by
 refine zmy l (fun t=>!zfx hd t) (Jv 10 hd (l.map (·.1))) (fun x s=>x= .exit 7) (fun _ x s=>x= .ret/\s.tm.get 4=some (.f (.i .i64 14))) ?_ ?_ _ hJ ?_ ?_
 .rintro k s hlt ⟨⟨h0,h3,h10,g0⟩,hc⟩;have hw:=zao k (by omega);obtain⟨bs,ht⟩ :=H _ (Z1 hlt);have hx:(l.map (·.1))[k]? =some l[k].1:=by rw[Z36,Z0 hlt];rfl
  generalize hA:l[k]=q at hx ht;have hii:=zEi (hd:=hd) ht;have hb:=ht.b;have hnl:=ht.l.n;have q1:=fun k=>zad (k:=k) ht.B.bo
  have q2:=fun k=>zad (k:=k) ht.B.rv
  rw[cqE]at q1 q2;have hnl0:=ht.ne;have hbig:∀n,n<=1000->n<=zav:=fun n hn=>by have:=zcL (n:=n) (by omega);simpa using this
  have hs1:∀{m:List Str},m≠[]->m.length<=8->(za7 m).length≠0/\(za7 m).length<=zav/\(za7 m).length*16<=zav:=fun{m} h1 h2=>by
   have e:(za7 m).length=m.length:=by simp[za7]
   rw[e];exact⟨fun h=>h1 (Z17.1 h),hbig _ (by omega),hbig _ (by omega)⟩
  have n0:¬(0=s.c+1+1+1+1+1+1+1):=by omega
  by_cases hd0:hd=[]
  .unfold znk g6;simp only[rU,C.l,C.r,C.b,C.o];simp[rW,h0,h3,h10,g0,zcH,Z18,hlt,zeA,hx,hA,cqE,zd8,zeb,q1,zaL];refine zaw ?_;simp -implicitDefEqProofs [zh8,Z67,Z79,zf0,zfT,zfU,zfS,zfQ,zfR,zfN,zfV,zfX,zfZ,zfW,zf2,zf4,zf1,h0,h3,h10,g0,zcH,Z18,hlt,zeA,hx,hA,cqE,zd8,zeb,q2,zaL,zrE];have e0:za7 hd=[]:=by rw[hd0];rfl
   rw[e0,zDv];obtain⟨z1,z2,z3⟩ :=hs1 hnl0 hnl;simp -implicitDefEqProofs [zh8,Z67,Z79,zf0,zfT,zfU,zfS,zfQ,zfR,zfN,zfV,zfX,zfZ,zfW,zf2,zf4,zf1,zmq];have es:za7 q.2=za7 (hd++q.2):=by rw[hd0];rfl
   rw[ztO (ro:=0) (els:=[]) (by simp[TG]) z1 z2 z3,es,zgp];have m0:¬0=s.c+1+1+1+1+1+1+1+1+1+1+1:=by omega
   simp -implicitDefEqProofs [zh8,Z67,Z79,zf0,zfT,zfU,zfS,zfQ,zfR,zfN,zfV,zfX,zfZ,zfW,zf2,zf4,zf1];refine zHh (hd:=hd) (l:=l.map (·.1)) (bs:=bs) (ms:=hd++q.2) (k:=k) (id:=(s.c+1+1+1+1+1+1+1+1+1+1+1)) (by omega) (by simp;omega) ⟨⟨by simp[rW,h0],by simp[rW,h3],by simp[rW,h10],by simp[rW],by simp[rW,zgp],by simp[rW],by simp[rW,g0,n0,m0]⟩,by omega,by simp only[rG];omega,0,by simp[rW]⟩ ?_ ?_
   .rintro hm s1 ⟨⟨j0,j3,j10,f0⟩,hc1⟩;have hp:zfx hd q=true:=hii.2 hm;simp[rW,j10,hw,hp];exact⟨⟨by simp[rW,j0],by simp[rW,j3],by simp[rW],by simp only[rG];exact f0⟩,by simp only[rG];exact hc1⟩
   .intro hm s1 h4;have hp:zfx hd q=false:=by
     cases h:zfx hd q with
     |true=>exact absurd (hii.1 h) hm
     |false=>rfl
    simp[rW,h4,hp]
  .unfold znk g6;simp only[rU,C.l,C.r,C.b,C.o];simp[rW,h0,h3,h10,g0,zcH,Z18,hlt,zeA,hx,hA,cqE,zd8,zeb,q1,zaL];refine zaw ?_;simp -implicitDefEqProofs [zh8,Z67,Z79,zf0,zfT,zfU,zfS,zfQ,zfR,zfN,zfV,zfX,zfZ,zfW,zf2,zf4,zf1,h0,h3,h10,g0,zcH,Z18,hlt,zeA,hx,hA,cqE,zd8,zeb,q2,zaL,zrE];obtain⟨z1,z2,z3⟩ :=hs1 hd0 (by omega);rw[ztO (ro:=0) (els:=[]) (by simp[TG]) z1 z2 z3];have hne:za7 hd≠[]:=fun e=>z1 (by rw[e];rfl)
   have m1:¬0=s.c+1+1+1+1+1+1+1+1+1:=by omega
   have m2:¬s.c+1+1+1+1+1+1+1+1+1=0:=by omega
   simp -implicitDefEqProofs [zh8,Z67,Z79,zf0,zfT,zfU,zfS,zfQ,zfR,zfN,zfV,zfX,zfZ,zfW,zf2,zf4,zf1,zzq,zns,zmq,m2];refine zfl (lo:=1) (els:=za7 hd) (.inr ⟨s.c+1+1+1+1+1+1+1+1+1,0,rfl,hne,by simp[TG],Z61 _,by omega,by omega⟩) (by omega) (by simp only[zgp];omega) (by omega) ?_;intro r hr1 hr2 hr3 hr4 hr5;have e0:=hr4 0 (by omega) (by simp[D.oid]);rw[show za7 hd++za7 q.2=za7 (hd++q.2) by simp[za7]]at hr2;rcases hr2 with⟨_,e⟩ |⟨id,ro,hd',-,k1,-,k3,k4⟩
   .exact absurd e (by simp[za7,hd0])
   rw[zgp]at hd';simp -implicitDefEqProofs [zh8,Z67,Z79,zf0,zfT,zfU,zfS,zfQ,zfR,zfN,zfV,zfX,zfZ,zfW,zf2,zf4,zf1,hr1,hd'];refine zHh (hd:=hd) (l:=l.map (·.1)) (bs:=bs) (ms:=hd++q.2) (k:=k) (id:=id) (by omega) (by simp;omega) ⟨⟨by simp[rW,h0],by simp[rW,h3],by simp[rW,h10],by simp[rW],by simp[rW],by simp[rW],by simp[rW,e0,g0,n0,m1]⟩,by omega,by simp only[rG];omega,ro,by simp only[rG];exact k1⟩ ?_ ?_
   .rintro hm s1 ⟨⟨j0,j3,j10,f0⟩,hc1⟩;have hp:zfx hd q=true:=hii.2 hm;simp[rW,j10,hw,hp];exact⟨⟨by simp[rW,j0],by simp[rW,j3],by simp[rW],by simp only[rG];exact f0⟩,by simp only[rG];exact hc1⟩
   .intro hm s1 h4;have hp:zfx hd q=false:=by
     cases h:zfx hd q with
     |true=>exact absurd (hii.1 h) hm
     |false=>rfl
    simp[rW,h4,hp]
 .rintro s ⟨⟨h0,h3,h10,g0⟩,hc⟩;unfold znk g6;simp only[rU,C.l,C.r,C.b,C.o];simp[rW,h0,h3,h10,g0,zcH,Z18]
 .rintro h x s rfl;exact kx (fun t ht=>by simpa using h t ht) s
 .rintro n hn hp - x s ⟨rfl,h4⟩;exact kr (fun h=>by
   have:=h _ (Z1 hn);simp[this]at hp) s h4
def ans6{b:Nat}{l:List Tr}(hn:l.length<=5)(H:∀t∈l,∃bs,VdT t bs):Ans pr 6 [zcC,.ag [zah (hdC b),qsF (l.map (·.1))]] (.i .i64 (if l.all (zfx (hdC b))then 0 else 14)):=by
 have hsd:zcC.d= .f zcC:=rfl;have hh:(hdC b).length<=6:=by have:=ztj b;omega
 have q1:=fun k=>zad (k:=k) soA
 have q2:=fun k=>zad (k:=k) (ans20 hh hn fun t ht=>(H t ht).elim fun _ h=>h.l)
 have q3:=fun k=>zad (k:=k) (ans21 (b:=b) hn fun t ht=>(H t ht).elim fun _ h=>h.n)
 refine zcf fn6 ?_;simp only[g6,rU];simp[rW,st0,zak,hsd,zaL,ze8,q1,q2,q3];refine vd_l1 (hd:=hdC b) hn H ⟨⟨by simp[rW],by simp[rW],by simp[rW],by simp[rW]⟩,by simp only[rG];omega⟩ fun s1 ⟨⟨j0,j3,_,f0⟩,hc1⟩ => ?_
 simp[rW];refine vd_l3 (hd:=hdC b) hn hh (fun y hy=>zOV b y hy) H ⟨⟨by simp[rW,j0],by simp[rW,j3],by simp[rW],by simp only[rG];exact f0⟩,by simp only[rG];exact hc1⟩ fun s2 ⟨⟨i0,i3,_,e0⟩,hc2⟩ => ?_
 simp[rW];refine vd_l7 (hd:=hdC b) hn hh H ⟨⟨by simp[rW,i0],by simp[rW,i3],by simp[rW],by simp only[rG];exact e0⟩,by simp only[rG];exact hc2⟩ (fun h s=> ?_) fun h s h4=> ?_
 .have e:l.all (zfx (hdC b))=true:=Z50.2 h;simp[rW,e]
 .have e:l.all (zfx (hdC b))=false:=by
   cases hx:l.all (zfx (hdC b))with
   |true=>exact absurd (Z50.1 hx) h
   |false=>rfl
  simp[rW,e,h4]
def ar_nm{r:Str}{n:Nat}(h:arB r n=true):r∈([[82],[83],[75],[67]]:List Str):=by
 simp only[arB,Z115,Z14,Z86]at h;simp only[Z5,Z164,or_false];rcases h with⟨h,_⟩ |⟨h,_⟩ |⟨h,_⟩ |⟨h,_⟩
 .exact .inl h
 .exact .inr (.inl h)
 .exact .inr (.inr (.inl h))
 .exact .inr (.inr (.inr h))
def zDl{t:Tr}(ht:t∈TB):∃bs,VdT t bs:=by
 obtain⟨bs,B,h1,h2,h3⟩ :=bnA t ht;have H:=tbC ht;have hl:=H.l;have hk:=H.kl;have hn:=H.nl;refine⟨bs,⟨by omega,by omega,by omega,B.rv⟩,⟨by omega,by omega,B.rv,fun s hs=>n8A s ?_,fun a ha=>f12A _ (ar_nm (H.a a ha).1)⟩,B,h1,h2,h3,hn.2.2⟩;rcases H.n with e|e|e<;>rw[e]at hs<;>simp only[Z5,Z164,or_false]at hs|- <;>first|exact .inl hs|exact hs.elim .inl fun h=> .inr (.inl h)|exact hs
theorem ixA:∀a b,a<3->b<3->((ixL b).all fun i=>!zfx (hdC a) (trN i)||decide (i∈ixL a))=true
 |0,0,_,_=>by kernel_rfl
 |0,1,_,_=>by kernel_rfl
 |0,2,_,_=>by kernel_rfl
 |1,0,_,_=>by kernel_rfl
 |1,1,_,_=>by kernel_rfl
 |1,2,_,_=>by kernel_rfl
 |2,0,_,_=>by kernel_rfl
 |2,1,_,_=>by kernel_rfl
 |2,2,_,_=>by kernel_rfl
 |a+3,_,h,_=>absurd h (by omega)
 |_,b+3,_,h=>absurd h (by omega)
theorem exR:∀b,b<3->((ixL b).all fun i=>exI b i i)=true
 |0,_=>by kernel_rfl
 |1,_=>by kernel_rfl
 |2,_=>by kernel_rfl
 |b+3,h=>absurd h (by omega)
theorem zIZ:∀a b,a<3->b<3->hdC a=hdC b->a=b
 |0,0,_,_,_=>rfl
 |1,1,_,_,_=>rfl
 |2,2,_,_,_=>rfl
 |0,1,_,_,h=>by simp[hdC]at h
 |0,2,_,_,h=>by simp[hdC]at h
 |1,0,_,_,h=>by simp[hdC]at h
 |1,2,_,_,h=>by simp[hdC]at h
 |2,0,_,_,h=>by simp[hdC]at h
 |2,1,_,_,h=>by simp[hdC]at h
 |a+3,_,h,_,_=>absurd h (by omega)
 |_,b+3,_,h,_=>absurd h (by omega)
theorem zLO:∀b,∀v∈Bw b,v.length=(hdC b).length
 |0=>by simp[Bw,hdC]
 |1=>by simp[Bw,hdC]
 |_+2=>by simp[Bw,hdC]
def zMa{b:Nat}{l m:List Nat}(hb:b<3)(hl:∀i∈l,i∈ixL b)(h:∀i∈l,i∈m):zrD b l m=true:=
 Z50.2 fun i hi=>Z30.2 ⟨i,h i hi,Z50.1 (exR b hb) i (hl i hi)⟩
def fn10:pr.fn 10=some g10:=by kernel_rfl
def xF(v:List Int):F:= .sl 3 (v.map Sm.vF)
def xF_d(v:List Int):(xF v).d= .f (xF v):=rfl
def xF_v{v:List Int}(h:v≠[]):xF v=valsF v:=by
 cases v with
 |nil=>exact absurd rfl h
 |cons a l=>rfl
def ct_0:Ans pr 37 [.sl 3 [],.sl 3 []] (.i .i64 0):=zgn (n:=400) (ziy pr) (by kernel_rfl)
def ct_x{u v:List Int}(h:u.length=v.length)(hl:u.length<1000):Ans pr 37 [xF u,xF v] (.i .i64 (zaH u v)):=by
 by_cases hu:u=[]
 .subst hu;have hv:v=[]:=Z17.1 h.symm;subst hv;exact ct_0
 .have hv:v≠[]:=fun e=>hu (by rw[e]at h;exact Z17.1 h)
  rw[xF_v hu,xF_v hv,<-zkj];exact zn9 u v hl
def zty(l:List (List Int)):(zdz l).d= .f (zdz l):=zeh ..
def zjY(l:List (List Int)):zci (.f (zdz l))=some l.length:=by simp[zdz,zd0]
def zq0(l:List (List Int))(n:Nat):iaB 1 (.f (zdz l)) n=(l[n]?).map fun v=>D.fptr [xF v]:=by simp[zdz,zeY,Z67,xF]
def zQ3{R:List (List Int)}{v:List Int}(hS:zhK R)(hv:v∈R){n:Nat}(hn:n<=R.length)(hA:∀w∈R.take n,zaH w v<0)(hge:∀h:n<R.length,¬zaH R[n] v<0):∃h:n<R.length,R[n]=v:=by
 obtain⟨k,hk,rfl⟩ :=Z101.1 hv;have h1:¬k<n:=fun h=>zlU _ (hA R[k] (List.mem_take_iff_getElem.2 ⟨k,by omega,rfl⟩))
 have hlt:n<R.length:=by omega
 refine⟨hlt,?_⟩
 by_cases h2:n<k
 .exact absurd (Z126.1 hS n k hlt hk h2) (hge hlt)
 .have:n=k:=by omega
  subst this;rfl
def ans10{l:List (List Int)}{v:List Int}(hS:zhK l)(hv:v∈l)(hl:l.length<1000)(hw:∀w∈l,w.length=v.length)(hvl:v.length<1000):Ans pr 10 [zdz l,xF v] (zdz l):=by
 have q46:∀w,w∈l->∀(k:F->Prop),aB pr 37 [xF w,xF v] k↔k (.i .i64 (zaH w v)):=fun w hm k=>zad (ct_x (hw w hm) (by rw[hw w hm];exact hvl))
 have hd:=xF_d v;generalize hV:xF v=V at q46 hd|-;refine zcf fn10 ?_;simp only[g10,rU];simp[rW,st0,zak,zty,hd];refine zcS (fun k s=>∃n:Nat,n<=l.length/\k=l.length - n/\(s.tm.get 0=some (.f (zdz l))/\s.tm.get 1=some (.f V)/\s.tm.get 5=some (.f (.i .i64 n)))/\∀w∈l.take n,zaH w v<0) (fun x s=>x= .exit 0/\∃n:Nat,n<=l.length/\(s.tm.get 0=some (.f (zdz l))/\s.tm.get 1=some (.f V)/\s.tm.get 5=some (.f (.i .i64 n)))/\(∀w∈l.take n,zaH w v<0)/\∀h:n<l.length,¬zaH l[n] v<0) ?_ l.length _ ⟨0,Z61 _,rfl,?_,by simp⟩ ?_
 .rintro k s ⟨n,hn,rfl,⟨h0,h1,h5⟩,hA⟩;have hw:=zao n (by omega)
  by_cases hlt:n<l.length
  .have hx:l[n]? =some l[n]:=Z0 hlt;have hk2:=Z6 hlt;have qq:=q46 _ (Z1 hlt)
   by_cases hv2:zaH l[n] v<0
   .have hc:=hv2;generalize hW:l[n]=w at hx hk2 hv2 hc qq;simp[rW,h0,h1,h5,zjY,zq0,hlt,hx,hW,qq,hc,hw];rw[zdq];refine⟨l.length - (n+1),by omega,n+1,by omega,rfl,?_,fun y hy=> ?_⟩
    .simp[rW,h0,h1,hw]
    .rw[hk2]at hy;rcases Z4.1 hy with hy|hy
     .exact hA y hy
     .have:y=w:=by simpa using hy
      rw[this];exact hv2
   .have hc:=hv2;have hge:∀h:n<l.length,¬zaH l[n] v<0:=fun _=>hv2
    generalize hW:l[n]=w at hx hv2 hc qq;simp[rW,h0,h1,h5,zjY,zq0,hlt,hx,hW,qq,hc];refine⟨n,hn,?_,hA,fun h=>by have:=hge h;omega⟩;simp[rW,h0,h1,h5]
  .simp[rW,h0,h1,h5,zjY,hlt];refine⟨n,hn,?_,hA,fun h=>absurd h hlt⟩;simp[rW,h0,h1,h5]
 .simp[rW]
 .rintro x s ⟨rfl,n,hn,⟨h0,h1,h5⟩,hA,hge⟩;obtain⟨hlt,hv2⟩ :=zQ3 hS hv hn hA hge;have qq:=q46 _ (Z1 hlt);rw[hv2,hV]at qq;have hx:l[n]? =some v:=by rw[Z0 hlt,hv2]
  have hc:zaH v v=0:=(zhu v v).2 rfl;simp[rW,h0,h1,h5,zjY,zq0,hlt,hx,hv2,hV,qq,hc,zty]
def atZ{x:F}(hx:zcG x):∃z:Nat->Nat,∀i,i<1000->z i<100000/\Ans pr 12 [x,.i .i64 i] (.i .i64 (z i)):=by
 have:∀i:Nat,∃n:Nat,i<1000->n<100000/\Ans pr 12 [x,.i .i64 i] (.i .i64 n):=fun i=>by
  by_cases hi:i<1000
  .obtain⟨n,h⟩ :=zjo hx i hi;exact⟨n,fun _=>h⟩
  .exact⟨0,fun h=>absurd h hi⟩
 exact Z207.1 this
def szB:Nat->Nat
 |0=>24
 |1=>24
 |_=>9
def zG0(b:Nat):0<szB b/\szB b<=24:=by
 match b with
 |0=>decide
 |1=>decide
 |_+2=>simp[szB]
theorem rbD:∀{b:Nat} {j:Nat},b<3->j<szB b->∃x,poL[j]? =some x/\RdX (CQi (ixL b)) x
 |0,j,_,h=>⟨poL[j]'h,Z0 h,rdO _ (Z1 h)⟩
 |1,j,_,h=>⟨poL[j]'h,Z0 h,rdO _ (Z1 h)⟩
 |2,j,_,h=>by
  have h1:j< (poL.take 9).length:=h;refine⟨(poL.take 9)[j],?_,rdY _ (Z1 h1)⟩;rw[<-Z0 h1,List.getElem?_take_of_lt (show j<9 from h)]
 |b+3,_,h,_=>absurd h (by omega)
def pick{b:Nat}(hb:b<3)(n z:Nat):∃c∈CQi (ixL b),∃p,poL[n%szB b]? =some [.s p]/\Ans pr 18 [.s p,.i .i64 z] (.ag (cqF c)):=by
 obtain⟨x,h0,p,e,h1,h2,h3⟩ :=rbD hb (Z124 n (zG0 b).1);obtain⟨c,hc,q⟩ :=h3 (z%3) (Z124 _ (by omega));exact⟨c,hc,p,by rw[h0,e],ans18 p z c h1 h2 q⟩
def zrR{h:T Ob}{lo c id:Nat}{l:List Str}(hl:l≠[])(hg:h.get id=some (.arr 1 0 (za7 l)))(h1:lo<=id)(h2:id<c):Own h lo c (.sl id 0 l.length 1 l.length true) (zah l):=by
 refine⟨.inr ⟨_,_,_,_,_,_,rfl⟩,rfl,fun x hx=> ?_,fun h' hh k=>⟨[id],?_⟩⟩
 .simp only[D.oid,Z45]at hx;omega
 .rw[zfw,hh id rfl,hg,zeu,zjW];simp only[true_and,Z25,zgp,Z2,Z60,Z34,zsP,zv1,zeu];rw[zv2 hl]
def XQ(x:F)(b:Nat)(L:List CQ)(P:Nat)(s:St):Prop:=∃d dh,(s.tm.get 0=some (.f x)/\s.tm.get 2=some (.ptr 0 2 0 0)/\s.tm.get 3=some (.ptr 1 2 0 0)/\s.tm.get 5=some (.f (slc 1 poL))/\s.tm.get 6=some (.f (.i .i64 (szB b)))/\s.h.get 0=some (.arr 2 0 [[.f .nils,.f .nils]])/\s.h.get 1=some (.arr 2 0 [[dh,d]]))/\2<=P/\P<=s.c/\Own s.h 2 P dh (zah (hdC b))/\Gro s.h P s.c 2 d (zeD L)
def b5_1:C:=g5.body.r.r.r.r.r.r.l.r.b.o
def zAR(cf:Nat->CQ)(n:Nat):(List.range (n+1)).map cf=(List.range n).map cf++[cf n]:=by
 rw[Z136,Z20];rfl
def lp5{x:F}(hx:zcG x){b:Nat}{z:Nat->Nat}(hz:∀i,i<1000->z i<100000/\Ans pr 12 [x,.i .i64 i] (.i .i64 (z i))){cf:Nat->CQ}(hcf:∀i,i<10->∃p,poL[z (2+i)%szB b]? =some [.s p]/\Ans pr 18 [.s p,.i .i64 (z (4+i))] (.ag (cqF (cf i)))){P:Nat}{Q:Ex->St->Prop}(s:St)(h:XQ x b [] P s)(h7:s.tm.get 7=some (.f (.i .i64 0)))(hQ:∀s,XQ x b ((List.range (z 1%2+1)).map cf) P s->Q (.exit 1) s):WL pr b5_1 s Q:=by
 have h36:Ans pr 12 [x,.i .i64 1] (.i .i64 (z 1)):=(hz 1 (by omega)).2;have q36:=fun k=>zad (k:=k) h36
 have hrem:=zde (z 1) 2 (by omega);rw[show((2:Nat):Int)=2 from rfl]at hrem;have hm:z 1%2<2:=Z124 _ (by omega);generalize z 1%2=m at hrem hm hQ;refine zcS (fun k s=>∃n:Nat,(k=m+1 - n/\n<=m+1)/\XQ x b ((List.range n).map cf) P s/\s.tm.get 7=some (.f (.i .i64 n))) (fun e s=>e= .exit 1/\XQ x b ((List.range (m+1)).map cf) P s) ?_ (m+1) _ ⟨0,⟨rfl,by omega⟩,h,h7⟩ (by rintro e s ⟨rfl,h⟩;exact hQ s h);clear h h7 hQ s;rintro k s ⟨n,⟨rfl,hn⟩,⟨d,dh,⟨h0,h2,h3,h5,h6,g0,g1⟩,hP,hPc,hO,hg⟩,h7⟩;unfold b5_1 g5;simp only[rU,C.l,C.r,C.b,C.o]
 by_cases hle:n<=m
 .have h36n:=(hz (2+n) (by omega)).2;rw[Int.natCast_add,show((2:Nat):Int)=2 from rfl]at h36n;have q36n:=fun k=>zad (k:=k) h36n
  have h36m:=(hz (4+n) (by omega)).2;rw[Int.natCast_add,show((4:Nat):Int)=4 from rfl]at h36m;have q36m:=fun k=>zad (k:=k) h36m
  obtain⟨p,hp,h18⟩ :=hcf n (by omega);have q39:=fun k=>zad (k:=k) h18
  have hw:=zao n (by omega);have hw2:IntKind.i64.wrap (2+(n:Int))=2+(n:Int):=wrap_i64 _ (by omega) (by omega);have hw4:IntKind.i64.wrap (4+(n:Int))=4+(n:Int):=wrap_i64 _ (by omega) (by omega);have hsz:=zG0 b;have hremS:=zde (z (2+n)) (szB b) (by omega)
  generalize z (2+n)=w at q36n hremS hp;generalize z (4+n)=w4 at q36m q39;generalize w%szB b=j at hremS hp;have hia:iaB 1 (.f (slc 1 poL)) j=some (.fptr [.s p]):=by rw[zeY,hp];rfl
  simp only[cqE]at q39;simp[rW,h0,h2,h3,h5,h6,g0,g1,h7,q36,hrem,hle];refine zaw ?_;simp[rW,h0,h2,h3,h5,h6,g0,g1,h7,hw2,hw4,q36n,q36m,hremS,hia,q39,cqE,zd8,zeb];refine zfl (zaX hg (by omega) fun _ _ _=>rfl) (by omega) (by rw[zda];simp;omega) (by omega) ?_;intro r hr1 hr2 hr3 hr4 hr5;have e0:=hr4 0 (by omega) (zh7 hg (by omega));have e1:=hr4 1 (by omega) (zh7 hg (by omega));rw[g0]at e0;rw[g1]at e1;refine⟨hr1,?_⟩;simp[rW,e1,zbY hr2];rw[zdq];refine⟨m+1 - (n+1),by omega,n+1,⟨rfl,by omega⟩,⟨r.d,dh,?_,hP,?_,?_,?_⟩,?_⟩
  .simp[rW,h0,h2,h3,h5,h6,e0,e1]
  .simp[rW];omega
  .refine hO.up (fun y hy=> ?_) (Z2 _) (Z2 _);have hy2:=hO.2.2.1 y hy;have e:=hr4 y (by omega) (zh7 hg (by omega));have ny:¬(y=1):=by omega
   simp[rW,ny,e]
  .rw[zAR,zBM];refine zaX hr2 (by simp[rW];omega) fun y h1 h2=> ?_
   have ny:¬(y=1):=by omega
   simp[rW,ny]
  .simp[rW,hw]
 .have e:n=m+1:=by omega
  subst e;have hl:¬((m:Int)+1<=m):=by omega
  simp[rW,h0,h2,h3,h5,h6,g0,g1,h7,q36,hrem,hl];refine⟨d,dh,?_,hP,?_,?_,?_⟩
  .simp[rW,h0,h2,h3,h5,h6,g0,g1]
  .simp[rW];exact hPc
  .simp[rW];exact hO
  .simp[rW];exact hg
def zzD{x:F}{b:Nat}{L:List CQ}{P:Nat}{s:St}(h:XQ x b L P s):∃d dh,(s.tm.get 2=some (.ptr 0 2 0 0)/\s.tm.get 3=some (.ptr 1 2 0 0)/\s.h.get 0=some (.arr 2 0 [[.f .nils,.f .nils]])/\s.h.get 1=some (.arr 2 0 [[dh,d]]))/\d.cells=some [d]/\dh.cells=some [dh]/\(∃rd,frz (s.h.set 0 (.arr 2 0 [[dh,d]])).get 11 d=some (qsF L,rd))/\(∃rd,frz (s.h.set 0 (.arr 2 0 [[dh,d]])).get 11 dh=some (zah (hdC b),rd))/\2<=s.c:=by
 obtain⟨d,dh,⟨h0,h2,h3,h5,h6,g0,g1⟩,hP,hPc,hO,hg⟩ :=h;have hh2:∀y,y≠0->(s.h.set 0 (.arr 2 0 [[dh,d]])).get y=s.h.get y:=fun y hy=>by simp[TG,hy]
 exact⟨d,dh,⟨h2,h3,g0,g1⟩,zbY hg,hO.2.1,zIJ (k:=10) (zaX (h':=s.h.set 0 (.arr 2 0 [[dh,d]])) hg (Z2 _) (fun y h1 _=>hh2 y (by omega))) (zg5 _ 9 _) (by simp[zeD]),hO.2.2.2 _ (fun y hy=>hh2 y (by have:=hO.2.2.1 y hy;omega)) 9,by omega⟩
def ans5{x:F}(hx:zcG x):∃b js,b<3/\js≠[]/\js.length<=2/\(∀i∈js,i∈ixL b)/\Ans pr 5 [x] (.ag [zah (hdC b),qsF (js.map cqN)]):=by
 obtain⟨z,hz⟩ :=atZ hx;have h0:Ans pr 12 [x,.i .i64 0] (.i .i64 (z 0)):=(hz 0 (by omega)).2;have q0:=fun k=>zad (k:=k) h0
 have hrem:=zde (z 0) 4 (by omega);rw[show((4:Nat):Int)=4 from rfl]at hrem;have hr2:z 0%4<4:=Z124 _ (by omega);generalize z 0%4=r at hrem hr2;have hm:z 1%2<2:=Z124 _ (by omega);have hc2:(D.f x).cells=some [.f x]:=by rcases hx with rfl|⟨zs,rfl⟩ <;>rfl
 have q17:=fun k=>zad (k:=k) (show Ans pr 17 [] (slc 1 poL)from ans17)
 have hpd:(slc 1 poL).d= .f (slc 1 poL):=zeh ..;have hpl:zci (.f (slc 1 poL))=some 24:=zd0 ..;have main:∀b,b<3->(∀cf:Nat->CQ,(∀i,i<10->∃p,poL[z (2+i)%szB b]? =some [.s p]/\Ans pr 18 [.s p,.i .i64 (z (4+i))] (.ag (cqF (cf i))))->Ans pr 5 [x] (.ag [zah (hdC b),qsF ((List.range (z 1%2+1)).map cf)]))->∃b js,b<3/\js≠[]/\js.length<=2/\(∀i∈js,i∈ixL b)/\Ans pr 5 [x] (.ag [zah (hdC b),qsF (js.map cqN)]):=by
  intro b hb H;have:∀i:Nat,∃k,k∈ixL b/\∃p,poL[z (2+i)%szB b]? =some [.s p]/\Ans pr 18 [.s p,.i .i64 (z (4+i))] (.ag (cqF (cqN k))):=fun i=>by
   obtain⟨c,hc,h⟩ :=pick hb (z (2+i)) (z (4+i));obtain⟨k,hk,rfl⟩ :=Z12.1 hc;exact⟨k,hk,h⟩
  obtain⟨kf,hkf⟩ :=Z207.1 this;refine⟨b,(List.range (z 1%2+1)).map kf,hb,by simp,by simp;omega,fun i hi=> ?_,?_⟩
  .obtain⟨j,_,rfl⟩ :=Z12.1 hi;exact (hkf j).1
  .rw[Z33];exact H (fun i=>cqN (kf i)) fun i _=>(hkf i).2
 obtain h1|h1|h1:r=0\/(r=1\/r=2)\/r=3:=by omega
 .subst h1;refine main 0 (by omega) fun cf hcf=>zcf fn5 ?_
  simp only[g5,rU];simp[rW,st0,zak,zkV hx,q0,hrem,hc2,q17,hpd,hpl];refine lp5 (b:=0) hx hz hcf (P:=2) _ ⟨.f .nils,.f .nils,?_,by omega,?_,zJx (rows:=[]) (.inl ⟨rfl,rfl⟩),.inl ⟨rfl,rfl⟩⟩ ?_ fun s h=> ?_
  .simp[rW,szB]
  .simp[rW]
  .simp[rW]
  .obtain⟨d,dh,⟨h2,h3,g0,g1⟩,c1,c2,⟨rd,z1⟩,⟨rd2,z2⟩,hc⟩ :=zzD h;simp[rW,h2,h3,g0,g1,c1,c2,z1,z2];omega
 .refine main 1 (by omega) fun cf hcf=>zcf fn5 ?_
  simp only[g5,rU];rcases h1 with rfl|rfl
  .simp[rW,st0,zak,zkV hx,q0,hrem,hc2,q17,hpd,hpl];refine lp5 (b:=1) hx hz hcf (P:=3) _ ⟨.f .nils,.sl 2 0 1 1 1 true,?_,by omega,?_,zrR (l:=[[120]]) (by simp) (by simp[rW,za7]) (by omega) (by omega),.inl ⟨rfl,rfl⟩⟩ ?_ fun s h=> ?_
   .simp[rW,szB]
   .simp[rW]
   .simp[rW]
   .obtain⟨d,dh,⟨h2,h3,g0,g1⟩,c1,c2,⟨rd,z1⟩,⟨rd2,z2⟩,hc⟩ :=zzD h;simp[rW,h2,h3,g0,g1,c1,c2,z1,z2];omega
  .simp[rW,st0,zak,zkV hx,q0,hrem,hc2,q17,hpd,hpl];refine lp5 (b:=1) hx hz hcf (P:=3) _ ⟨.f .nils,.sl 2 0 1 1 1 true,?_,by omega,?_,zrR (l:=[[120]]) (by simp) (by simp[rW,za7]) (by omega) (by omega),.inl ⟨rfl,rfl⟩⟩ ?_ fun s h=> ?_
   .simp[rW,szB]
   .simp[rW]
   .simp[rW]
   .obtain⟨d,dh,⟨h2,h3,g0,g1⟩,c1,c2,⟨rd,z1⟩,⟨rd2,z2⟩,hc⟩ :=zzD h;simp[rW,h2,h3,g0,g1,c1,c2,z1,z2];omega
 .subst h1;refine main 2 (by omega) fun cf hcf=>zcf fn5 ?_
  simp only[g5,rU];simp[rW,st0,zak,zkV hx,q0,hrem,hc2,q17,hpd,hpl];refine lp5 (b:=2) hx hz hcf (P:=3) _ ⟨.f .nils,.sl 2 0 2 1 2 true,?_,by omega,?_,zrR (l:=[[121],[120]]) (by simp) (by simp[rW,za7]) (by omega) (by omega),.inl ⟨rfl,rfl⟩⟩ ?_ fun s h=> ?_
  .simp[rW,szB]
  .simp[rW]
  .simp[rW]
  .obtain⟨d,dh,⟨h2,h3,g0,g1⟩,c1,c2,⟨rd,z1⟩,⟨rd2,z2⟩,hc⟩ :=zzD h;simp[rW,h2,h3,g0,g1,c1,c2,z1,z2];omega
def fn3:pr.fn 3=some g3:=by kernel_rfl
theorem zi0{h:Nat->Option Ob}:∀{a b:List Nat},zau h a=[]->zau h b=[]->zau h (a++b)=[]
 |[],_,_,h2=>h2
 |x::a,b,h1,h2=>by
  rw[zFs]at h1;rw[Z29,zFs];cases hx:h x with
  |none=>rw[hx]at h1;exact zi0 (a:=a) h1 h2
  |some o=>
   rw[hx]at h1;cases o with
   |arr es ro els=>
    rw[zCC]at h1|-;split at h1
    .rename_i hc;rw[Z51 hc];exact zi0 (a:=a) h1 h2
    .cases h1
   |map e=>exact zi0 (a:=a) h1 h2
def el_qs(h:Nat->Option Ob)(l:List CQ):elemsOf 2 h (.f (qsF l))=some (zeD l,[]):=by
 cases l with
 |nil=>rfl
 |cons a l=>simp[qsF,slc,elemsOf,zeD,cqE]
structure Zt(L:List Rl)(hd:Nat->List Str)(ds:Nat->List CQ)(con:Nat->Nat->Bool)(R:Nat->List (List Int)):Prop where
 c:∀i k,i<3->k<3->Ans pr 8 [.ag [zah (hd i),qsF (ds i)],.ag [zah (hd k),qsF (ds k)]] (.b (con i k))
 n:∀i k,i<3->k<3->con i k=false->i≠k/\¬(k=2/\i=0)
 r:∀i k,i<3->k<3->con i k=true->Ans pr 9 [zbt L,.ag [zah (hd i),qsF (ds i)]] (zdz (R i))/\Ans pr 9 [zbt L,.ag [zah (hd k),qsF (ds k)]] (zdz (R k))/\(R i).length<=9/\∀v∈R i,Ans pr 10 [zdz (R k),xF v] (zdz (R k))
structure Zh(hd:Nat->List Str)(ds:Nat->List CQ)(d:Nat->D)(rd:Nat->List Nat)(idL:Nat)(h:T Ob)(c:Nat):Prop where
 l:h.get idL=some (.arr 2 0 [[.f (zah (hd 0)),d 0],[.f (zah (hd 1)),d 1],[.f (zah (hd 2)),d 2]])
 b:idL<c
 z:∀i,i<3->frz h.get 11 (d i)=some (qsF (ds i),rd i)/\zau h.get (rd i)=[]/\(d i).cells=some [d i]
def Zh.up{hd:Nat->List Str}{ds:Nat->List CQ}{d:Nat->D}{rd:Nat->List Nat}{idL c c':Nat}{h:T Ob}(H:Zh hd ds d rd idL h c)(hc:c<=c'):Zh hd ds d rd idL h c':=⟨H.l,by have:=H.b;omega,H.z⟩
def zlk:C:=g3.body.r.r.r.r.r.r.l.r.b.o
def zni:C:=zlk.r.l.b.r.b.o
def zDy:C:=zni.r.l.b.r.r.r.b.o
section
variable {L:List Rl}{hd:Nat->List Str}{ds:Nat->List CQ}{con:Nat->Nat->Bool}{R:Nat->List (List Int)}{d:Nat->D}{rd:Nat->List Nat}{idL:Nat}
def Jl(L:List Rl)(hd:Nat->List Str)(ds:Nat->List CQ)(d:Nat->D)(rd:Nat->List Nat)(idL:Nat)(s:St):Prop:=(s.tm.get 7=some (.f (zbt L))/\s.tm.get 11=some (.sl idL 0 3 2 3 true))/\Zh hd ds d rd idL s.h s.c
def l_l4(H:Zt L hd ds con R){i k:Nat}(hi:i<3)(hk:k<3)(hc:con i k=true){s:St}{Q:Ex->St->Prop}(hJ:Jl L hd ds d rd idL s/\(s.tm.get 12=some (.f (.i .i64 i))/\s.tm.get 13=some (.f (.i .i64 k))/\s.tm.get 14=some (.f (zdz (R i)))/\s.tm.get 15=some (.f (zdz (R k)))/\s.tm.get 16=some (.f (.i .i64 (0:Nat)))))(kx:∀s,Jl L hd ds d rd idL s->(s.tm.get 12=some (.f (.i .i64 i))/\s.tm.get 13=some (.f (.i .i64 k)))->Q (.exit 4) s):WL pr zDy s Q:=by
 obtain⟨-,-,hRl,hin⟩ :=H.r i k hi hk hc;refine zbD (R i).length (fun n s=>Jl L hd ds d rd idL s/\(s.tm.get 12=some (.f (.i .i64 i))/\s.tm.get 13=some (.f (.i .i64 k))/\s.tm.get 14=some (.f (zdz (R i)))/\s.tm.get 15=some (.f (zdz (R k)))/\s.tm.get 16=some (.f (.i .i64 n)))) (fun x s=>x= .exit 4/\Jl L hd ds d rd idL s/\(s.tm.get 12=some (.f (.i .i64 i))/\s.tm.get 13=some (.f (.i .i64 k)))) ?_ ?_ _ hJ ?_
 .rintro n s hlt ⟨⟨⟨h7,h11⟩,hZ⟩,⟨h12,h13,h14,h15,h16⟩⟩;have hw:=zao n (by omega);have hx:(R i)[n]? =some (R i)[n]:=Z0 hlt;have q0:=hin _ (Z1 hlt);generalize hA:(R i)[n]=v at hx q0;have q1:=fun k=>zad (k:=k) q0
  unfold zDy zni zlk g3;simp only[rU,C.l,C.r,C.b,C.o];simp[rW,h7,h11,h12,h13,h14,h15,h16,zjY,zq0,xF_d,zty,hlt,hx,hA,q1,hw];exact⟨⟨by simp[rW,h7],by simp[rW,h11]⟩,by simp only[rG];exact hZ⟩
 .rintro s ⟨⟨⟨h7,h11⟩,hZ⟩,⟨h12,h13,h14,h15,h16⟩⟩;unfold zDy zni zlk g3;simp only[rU,C.l,C.r,C.b,C.o];simp[rW,h7,h11,h12,h13,h14,h15,h16,zjY];exact⟨⟨by simp[rW,h7],by simp[rW,h11]⟩,by simp only[rG];exact hZ⟩
 .rintro x s ⟨rfl,hJ,h⟩;exact kx s hJ h
def zHm{i:Nat}(hi:i<3):([[D.f (zah (hd 0)),d 0],[.f (zah (hd 1)),d 1],[.f (zah (hd 2)),d 2]]:List (List D))[i]? =some [.f (zah (hd i)),d i]:=by
 obtain rfl|rfl|rfl:i=0\/i=1\/i=2:=by omega
 all_goals rfl
def l_l2(H:Zt L hd ds con R){i:Nat}(hi:i<3){s:St}{Q:Ex->St->Prop}(hJ:Jl L hd ds d rd idL s/\(s.tm.get 12=some (.f (.i .i64 i))/\s.tm.get 13=some (.f (.i .i64 (0:Nat)))))(kx:∀s,Jl L hd ds d rd idL s->s.tm.get 12=some (.f (.i .i64 i))->Q (.exit 2) s):WL pr zni s Q:=by
 refine zbD 3 (fun n s=>Jl L hd ds d rd idL s/\(s.tm.get 12=some (.f (.i .i64 i))/\s.tm.get 13=some (.f (.i .i64 n)))) (fun x s=>x= .exit 2/\Jl L hd ds d rd idL s/\s.tm.get 12=some (.f (.i .i64 i))) ?_ ?_ _ hJ ?_
 .rintro k s hk ⟨⟨⟨h7,h11⟩,hZ⟩,⟨h12,h13⟩⟩;have hw:=zao k (by omega);have hk3:(k:Int)<3:=by omega
  obtain⟨zi,mi,ci⟩ :=hZ.z i hi;obtain⟨zk,mk,ck⟩ :=hZ.z k hk;have hro:zau s.h.get (rd i++rd k)=[]:=zi0 mi mk;have gi:=zHm (hd:=hd) (d:=d) hi;have gk:=zHm (hd:=hd) (d:=d) hk;have gL:=hZ.l;have hcc:=H.c i k hi hk;have hnn:=H.n i k hi hk;have q8:=fun K=>zad (k:=K) hcc
  generalize hrow:([[D.f (zah (hd 0)),d 0],[.f (zah (hd 1)),d 1],[.f (zah (hd 2)),d 2]]:List (List D))=row at gi gk gL;have hrl:row.length=3:=by rw[<-hrow];rfl
  have gi':∀h:i<row.length,row[i]=[.f (zah (hd i)),d i]:=fun h=>by
   rw[Z0 h]at gi;exact Z53 gi
  have gk':∀h:k<row.length,row[k]=[.f (zah (hd k)),d k]:=fun h=>by
   rw[Z0 h]at gk;exact Z53 gk
  cases hc:con i k with
  |false=>
   rw[hc]at q8;obtain⟨n1,n2⟩ :=hnn hc;have ni:¬((i:Int)=k):=by omega
   by_cases k2:k=2
   .have ni0:¬((i:Int)=0):=by omega
    have hk2:((k:Int)=2)=True:=eq_true (by omega);have hk2n:(k=2)=True:=eq_true k2;have ni0n:¬i=0:=by omega
    unfold zni zlk g3;simp only[rU,C.l,C.r,C.b,C.o];simp[rW,h7,h11,h12,h13,hk3];refine zaw ?_;simp[rW,h7,h11,h12,h13,gL,hrl,hi,hk,gi,gk,gi',gk',zaL,zbU,zaT,zi,zk,ci,ck,hro,mi,mk,q8,Z22,Z28,ni,ni0,ni0n,hk2,hk2n,hw];exact⟨⟨by simp[rW,h7],by simp[rW,h11]⟩,by simp only[rG];exact hZ.up (by omega)⟩
   .have nk2:¬((k:Int)=2):=by omega
    unfold zni zlk g3;simp only[rU,C.l,C.r,C.b,C.o];simp[rW,h7,h11,h12,h13,hk3];refine zaw ?_;simp[rW,h7,h11,h12,h13,gL,hrl,hi,hk,gi,gk,gi',gk',zaL,zbU,zaT,zi,zk,ci,ck,hro,mi,mk,q8,Z22,Z28,ni,nk2,hw];exact⟨⟨by simp[rW,h7],by simp[rW,h11]⟩,by simp only[rG];exact hZ.up (by omega)⟩
  |true=>
   rw[hc]at q8;obtain⟨r1,r2,-,-⟩ :=H.r i k hi hk hc;have q9:=fun K=>zad (k:=K) r1
   have q9':=fun K=>zad (k:=K) r2
   unfold zni zlk g3;simp only[rU,C.l,C.r,C.b,C.o];simp[rW,h7,h11,h12,h13,hk3];refine zaw ?_;simp[rW,h7,h11,h12,h13,gL,hrl,hi,hk,gi,gk,gi',gk',zaL,zbU,zaT,zi,zk,ci,ck,hro,mi,mk,q8,Z22,Z28,ziZ];refine zaw ?_;simp[rW,h7,h11,h12,h13,gL,hrl,hi,hk,gi,gk,gi',gk',zaL,zbU,zaT,zi,zk,ci,ck,hro,mi,mk,q9,q9',Z22,Z28,ziZ,zty];refine l_l4 (d:=d) (rd:=rd) (idL:=idL) H hi hk hc ⟨⟨⟨by simp[rW,h7],by simp[rW,h11]⟩,by simp only[rG];exact hZ.up (by omega)⟩,by simp[rW,h12],by simp[rW,h13],by simp[rW],by simp[rW],by simp[rW]⟩ ?_;rintro s1 ⟨⟨j7,j11⟩,hZ1⟩ ⟨j12,j13⟩;simp[rW,j13,hw];exact⟨⟨⟨by simp[rW,j7],by simp[rW,j11]⟩,by simp only[rG];exact hZ1⟩,by simp[rW,j12]⟩
 .rintro s ⟨⟨⟨h7,h11⟩,hZ⟩,⟨h12,h13⟩⟩;unfold zni zlk g3;simp only[rU,C.l,C.r,C.b,C.o];simp[rW,h7,h11,h12,h13];exact⟨⟨by simp[rW,h7],by simp[rW,h11]⟩,by simp only[rG];exact hZ⟩
 .rintro x s ⟨rfl,hJ,h⟩;exact kx s hJ h
def zAt(H:Zt L hd ds con R){s:St}{Q:Ex->St->Prop}(hJ:Jl L hd ds d rd idL s/\s.tm.get 12=some (.f (.i .i64 (0:Nat))))(kx:∀s,Q (.exit 0) s):WL pr zlk s Q:=by
 refine zbD 3 (fun n s=>Jl L hd ds d rd idL s/\s.tm.get 12=some (.f (.i .i64 n))) (fun x s=>x= .exit 0) ?_ ?_ _ hJ ?_
 .rintro i s hi ⟨⟨⟨h7,h11⟩,hZ⟩,h12⟩;have hw:=zao i (by omega);have hi3:(i:Int)<3:=by omega
  unfold zlk g3;simp only[rU,C.l,C.r,C.b,C.o];simp[rW,h7,h11,h12,hi3];refine l_l2 (d:=d) (rd:=rd) (idL:=idL) H hi ⟨⟨⟨by simp[rW,h7],by simp[rW,h11]⟩,by simp only[rG];exact hZ⟩,by simp[rW,h12],by simp[rW]⟩ ?_;rintro s1 ⟨⟨j7,j11⟩,hZ1⟩ j12;simp[rW,j12,hw];exact⟨⟨by simp[rW,j7],by simp[rW,j11]⟩,by simp only[rG];exact hZ1⟩
 .rintro s ⟨⟨⟨h7,h11⟩,hZ⟩,h12⟩;unfold zlk g3;simp only[rU,C.l,C.r,C.b,C.o];simp[rW,h7,h11,h12]
 .rintro x s rfl;exact kx s
end
def zf5(l:List CQ):(D.f (qsF l)).cells=some [.f (qsF l)]:=zcF _ _
theorem zIT{h:T Ob}{lo c es byt:Nat}{d:D}{els new:List (List D)}{rd:List Nat}{K:Rs->Prop}(hg:Gro h lo c es d els)(hlo:lo<=c)(hlen:els.length+new.length<=1000000)(hb:byt<=1000)
  (hK:∀r:Rs,zas r.c r.wr=true->Gro (wrT h r.wr) lo r.c es r.d (els++new)->c<=r.c->(∀id,id<c->d.oid≠some id->(wrT h r.wr).get id=h.get id)->(∀x,x∈r.wr.map (·.1)->x=c\/d.oid=some x)->(∀x,x∈r.rd->x∈rd\/d.oid=some x)->K r):oB (za3 es byt h.get c d new rd) K:=by
 obtain⟨r,h1,h2,h3,h4,h5,h6,h7,h8⟩ :=zot (byt:=byt) (rd:=rd) hg hlo hlen hb;rw[h1];exact hK r h2 h3 h4 h5 h6 h7
theorem ans3w{x y z:F}(hx:zcG x)(hy:zcG y)(hz:zcG z){L:List Rl}(hr:Ans pr 4 [x] (zbt L)){hp hq:List Str}{dp dq:List CQ}(h5:Ans pr 5 [y] (.ag [zah hp,qsF dp]))(h5':Ans pr 5 [z] (.ag [zah hq,qsF dq])){U:List CQ}(hU:U=dp++dq)(np:dp≠[])(nq:dq≠[])(lp:dp.length<=2)(lq:dq.length<=2){e:Int}(h6:Ans pr 6 [zcC,.ag [zah hp,qsF U]] (.i .i64 e))
  {con:Nat->Nat->Bool}{R:Nat->List (List Int)}(H:Zt L (fun i=>if i=1 then hq else hp) (fun i=>if i=0 then dp else if i=1 then dq else if e=0 then U else dp) con R):Ans pr 3 [x,y,z] (.b true):=by
 have q4:=fun k=>zad (k:=k) hr
 have q5:=fun k=>zad (k:=k) h5
 have q5':=fun k=>zad (k:=k) h5'
 have q6:=fun k=>zad (k:=k) h6
 have q7:=fun k=>zad (k:=k) ans7
 have q11:=fun k=>zad (k:=k) ans11
 have hxd:=zkV hx;have hyd:=zkV hy;have hzd:=zkV hz;have hsd:zcC.d= .f zcC:=rfl;have hbig:∀n,n<=1000->n<=zav:=fun n hn=>by have:=zcL (n:=n) (by omega);simpa using this
 have z1:(zeD dp).length≠0:=by rw[zda];exact fun h=>np (Z17.1 h)
 have z2:(zeD dp).length<=zav:=by rw[zda];exact hbig _ (by omega)
 have z3:(zeD dp).length*48<=zav:=by rw[zda];exact hbig _ (by omega)
 refine zcf fn3 ?_;simp only[g3,rU];simp[rW,st0,zak,hxd,hyd,hzd,q4,q5,q5',ziZ,zaL,ze8];refine zaw ?_;simp -implicitDefEqProofs [zh8,Z67,Z79,zf0,zfT,zfU,zfS,zfQ,zfR,zfN,zfV,zfX,zfZ,zfW,zf2,zf4,zf1,ziZ,zaL,ze8,el_qs];rw[ztO (ro:=0) (els:=[]) (by simp[TG]) z1 z2 z3];have ndp:zeD dp≠[]:=fun e=>z1 (by rw[e];rfl)
 simp -implicitDefEqProofs [zh8,Z67,Z79,zf0,zfT,zfU,zfS,zfQ,zfR,zfN,zfV,zfX,zfZ,zfW,zf2,zf4,zf1,zzq,zns,zmq];refine zIT (lo:=2) (els:=zeD dp) (.inr ⟨10,0,rfl,ndp,by simp[TG],Z61 _,by omega,by omega⟩) (by omega) (by simp only[zda];omega) (by omega) ?_;intro r r1 r2 r3 r4 r5 r6;have f0:=r4 0 (by omega) (by simp[D.oid]);have f1:=r4 1 (by omega) (by simp[D.oid]);have w0:zcJ (r.wr.map fun x=>x.1) [0]:=fun x hx h=>by
  have:=r5 x hx;simp only[D.oid,Z45,Z31]at this h;omega
 have w1:∀x:Option Ob,¬(r.c+1+1,x)∈r.wr:=fun x hx=>by
  have:=r5 (r.c+1+1) (Z12.2 ⟨_,hx,rfl⟩);simp only[D.oid,Z45]at this;omega
 have w2:¬r.c+1+1∈r.rd:=fun hx=>by
  have:=r6 _ hx;simp only[D.oid,Z45,Z164,false_or]at this;omega
 have w3:¬r.c=8:=by omega
 have w4:¬r.c=6:=by omega
 have hde:zeD dp++zeD dq=zeD U:=by rw[hU];simp[zeD]
 have hUn:U≠[]:=by rw[hU];simp[np]
 have hUl:U.length<=4:=by rw[hU];simp;omega
 rw[hde]at r2;rcases r2 with⟨_,e0⟩ |⟨id,ro,hd',ne,k1,k2,k3,k4⟩
 .exact absurd e0 (by simp[zeD,hUn])
 rw[zda]at hd';have f1':(wrT (((((T.e.set 0 (Ob.arr 2 0 [[D.f F.nils,D.f F.nils]])).set 1 (Ob.arr 2 0 [[D.f F.nils,D.f F.nils]])).set 0 (Ob.arr 2 0 [[D.f (zah hp),D.f (qsF dp)]])).set 1 (Ob.arr 2 0 [[D.f (zah hq),D.f (qsF dq)]])).set 8 (Ob.arr 2 0 [])) r.wr).get 1=(wrT (((((T.e.set 0 (Ob.arr 2 0 [[D.f F.nils,D.f F.nils]])).set 1 (Ob.arr 2 0 [[D.f F.nils,D.f F.nils]])).set 0 (Ob.arr 2 0 [[D.f (zah hp),D.f (qsF dp)]])).set 1 (Ob.arr 2 0 [[D.f (zah hq),D.f (qsF dq)]])).set 8 (Ob.arr 2 0 [])) r.wr).get 1:=rfl;clear f1';have m1:¬id=r.c+1+1:=by omega
 have m2:¬r.c+1+1=id:=by omega
 have m3:¬(0:Nat)=r.c+1+1:=by omega
 have m4:¬(1:Nat)=r.c+1+1:=by omega
 have hte:List.take U.length (zeD U)=zeD U:=by rw[<-zda U,Z7]
 have e2:F.sl 2 (U.map cqF)=qsF U:=by
  cases hUU:U with
  |nil=>exact absurd hUU hUn
  |cons a l=>rfl
 have c2:(D.sl id 0 U.length 2 U.length false).cells=some [D.sl id 0 U.length 2 U.length false]:=rfl;clear r5 r6 r3;simp -implicitDefEqProofs [zh8,Z67,Z79,zf0,zfT,zfU,zfS,zfQ,zfR,zfN,zfV,zfX,zfZ,zfW,zf2,zf4,zf1,r1,zzq,w0,w1,w2,w3,w4,hd',zjZ];have m7:¬(0:Nat)=id:=by omega
 have m8:¬(1:Nat)=id:=by omega
 have m9:id<r.c+1+1+1+1+1+1+1:=by omega
 have m5:¬id=r.c+1+1+1+1+1+1+1+1+1:=by omega
 have m6:¬(0:Nat)=r.c+1+1+1+1+1+1+1+1+1:=by omega
 by_cases he:e=0
 .by_cases hro:U.length<=ro
  .skip
   refine zaw ?_;simp[rW,q7,hsd,zaL,hd',m1,m2,m3,m4,m5,m6,m7,m8,m9,k1,zda,hte,zg5,e2,q6,hro,he,f0,f1,zf5,zjZ,c2];refine zAt (d:=fun i=>if i=0 then .f (qsF dp)else if i=1 then .f (qsF dq)else .sl id 0 U.length 2 U.length false) (rd:=fun i=>if i=2 then[id]else[]) (idL:=r.c+1+1+1+1+1+1+1+1+1) H ⟨⟨⟨by simp[rW],by simp[rW]⟩,⟨by simp[rW],by simp only[rG];omega,fun i hi=> ?_⟩⟩,by simp[rW]⟩ fun s1=> ?_
   .obtain rfl|rfl|rfl:i=0\/i=1\/i=2:=by omega
    .exact⟨by simp[rW],by simp[rW],zf5 dp⟩
    .exact⟨by simp[rW],by simp[rW],zf5 dq⟩
    .exact⟨by simp[rW,m1,m2,m5,k1,zda,hte,zg5,e2,he],by simp[rW,m1,m2,m5,k1,zda,hro],by simp[rW,c2]⟩
   .simp[rW,q11]
  .skip
   refine zaw ?_;simp[rW,q7,hsd,zaL,hd',m1,m2,m3,m4,m5,m6,m7,m8,m9,k1,zda,hte,zg5,e2,q6,hro,he,f0,f1,zf5,zjZ,c2];refine zAt (d:=fun i=>if i=0 then .f (qsF dp)else if i=1 then .f (qsF dq)else .sl id 0 U.length 2 U.length false) (rd:=fun i=>if i=2 then[id]else[]) (idL:=r.c+1+1+1+1+1+1+1+1+1) H ⟨⟨⟨by simp[rW],by simp[rW]⟩,⟨by simp[rW],by simp only[rG];omega,fun i hi=> ?_⟩⟩,by simp[rW]⟩ fun s1=> ?_
   .obtain rfl|rfl|rfl:i=0\/i=1\/i=2:=by omega
    .exact⟨by simp[rW],by simp[rW],zf5 dp⟩
    .exact⟨by simp[rW],by simp[rW],zf5 dq⟩
    .exact⟨by simp[rW,m1,m2,m5,k1,zda,hte,zg5,e2,he],by simp[rW,m1,m2,m5,k1,zda,hro],by simp[rW,c2]⟩
   .simp[rW,q11]
 .by_cases hro:U.length<=ro
  .skip
   refine zaw ?_;simp[rW,q7,hsd,zaL,hd',m1,m2,m3,m4,m5,m6,m7,m8,m9,k1,zda,hte,zg5,e2,q6,hro,he,f0,f1,zf5,zjZ,c2];refine zAt (d:=fun i=>if i=0 then .f (qsF dp)else if i=1 then .f (qsF dq)else .f (qsF dp)) (rd:=fun i=>if i=2 then[]else[]) (idL:=r.c+1+1+1+1+1+1+1+1+1) H ⟨⟨⟨by simp[rW],by simp[rW]⟩,⟨by simp[rW],by simp only[rG];omega,fun i hi=> ?_⟩⟩,by simp[rW]⟩ fun s1=> ?_
   .obtain rfl|rfl|rfl:i=0\/i=1\/i=2:=by omega
    .exact⟨by simp[rW],by simp[rW],zf5 dp⟩
    .exact⟨by simp[rW],by simp[rW],zf5 dq⟩
    .exact⟨by simp[rW,he],by simp[rW],zf5 dp⟩
   .simp[rW,q11]
  .skip
   refine zaw ?_;simp[rW,q7,hsd,zaL,hd',m1,m2,m3,m4,m5,m6,m7,m8,m9,k1,zda,hte,zg5,e2,q6,hro,he,f0,f1,zf5,zjZ,c2];refine zAt (d:=fun i=>if i=0 then .f (qsF dp)else if i=1 then .f (qsF dq)else .f (qsF dp)) (rd:=fun i=>if i=2 then[]else[]) (idL:=r.c+1+1+1+1+1+1+1+1+1) H ⟨⟨⟨by simp[rW],by simp[rW]⟩,⟨by simp[rW],by simp only[rG];omega,fun i hi=> ?_⟩⟩,by simp[rW]⟩ fun s1=> ?_
   .obtain rfl|rfl|rfl:i=0\/i=1\/i=2:=by omega
    .exact⟨by simp[rW],by simp[rW],zf5 dp⟩
    .exact⟨by simp[rW],by simp[rW],zf5 dq⟩
    .exact⟨by simp[rW,he],by simp[rW],zf5 dp⟩
   .simp[rW,q11]
def zIj(l m:List Nat):cqs (l++m)=cqs l++cqs m:=by simp[cqs]
def ans3{x y z:F}(hx:zcG x)(hy:zcG y)(hz:zcG z):Ans pr 3 [x,y,z] (.b true):=by
 obtain⟨L,HL,hr⟩ :=zPQ hx;obtain⟨a,ja,ha,na,la,ia,h5⟩ :=ans5 hy;obtain⟨b,jb,hb,nb,lb,ib,h5'⟩ :=ans5 hz;have hT:∀t∈(ja++jb).map trN,∃bs,VdT t bs:=fun t ht=>by
  obtain⟨i,hi,rfl⟩ :=Z12.1 ht;rcases Z4.1 hi with h|h
  .exact zDl (trT ha (ia i h)).1
  .exact zDl (trT hb (ib i h)).1
 have h6:=ans6 (b:=a) (l:=(ja++jb).map trN) (by simp;omega) hT;have eU:((ja++jb).map trN).map (·.1)=cqs (ja++jb):=by rw[Z33];rfl
 rw[eU]at h6;generalize he:(if((ja++jb).map trN).all (zfx (hdC a))then(0:Int)else 14)=e at h6
 let bI:Nat->Nat:=fun i=>if i=1 then b else a
 let jI:Nat->List Nat:=fun i=>if i=0 then ja else if i=1 then jb else if e=0 then ja++jb else ja
 have hQ:∀i,i<3->Q3 (bI i) (jI i):=fun i hi=>by
  obtain rfl|rfl|rfl:i=0\/i=1\/i=2:=by omega
  .exact⟨⟨ha,ia⟩,by show ja.length<=5;omega⟩
  .exact⟨⟨hb,ib⟩,by show jb.length<=5;omega⟩
  .by_cases h0:e=0
   .have e1:jI 2=ja++jb:=Z51 h0;rw[e1];refine⟨⟨ha,fun i hi=> ?_⟩,by simp;omega⟩;rcases Z4.1 hi with h|h
    .exact ia i h
    .have hall:((ja++jb).map trN).all (zfx (hdC a))=true:=by
      cases h2:((ja++jb).map trN).all (zfx (hdC a))with
      |true=>rfl
      |false=>rw[h2,h0]at he;exact absurd he (by decide)
     have h3:=Z50.1 hall _ (List.mem_map_of_mem hi);have h4:=Z50.1 (ixA a b ha hb) i (ib i h);rw[h3,Z89,Bool.false_or]at h4;exact of_decide_eq_true h4
   .have e1:jI 2=ja:=Z49 h0;rw[e1];exact⟨⟨ha,ia⟩,by omega⟩
 have hI3:∀i,i<3->bI i<3:=fun i hi=>(hQ i hi).1.1
 have H:Zt L (fun i=>hdC (bI i)) (fun i=>cqs (jI i)) (fun i k=>decide (bI i=bI k)&&zrD (bI i) (jI i) (jI k)) (fun i=>zjF L (bI i) (jI i)):=by
  refine⟨fun i k hi hk=> ?_,fun i k hi hk hc=> ?_,fun i k hi hk hc=> ?_⟩
  .by_cases hbk:bI i=bI k
   .have hk':=(hQ k hk).k;rw[<-hbk]at hk';have:=ans8 (hQ i hi).k hk';rw[<-hbk,decide_eq_true rfl,Z103];exact this
   .rw[decide_eq_false hbk,Z176];exact ans8d (fun h=>hbk (zIZ _ _ (hI3 i hi) (hI3 k hk) h)) (zCj _)
  .have key:∀{i k},i<3->bI i=bI k->(∀x∈jI i,x∈jI k)->¬(decide (bI i=bI k)&&zrD (bI i) (jI i) (jI k))=false:=fun{i k} hi h1 h2 h=>by
    rw[decide_eq_true h1,zMa (hI3 i hi) (hQ i hi).1.2 h2]at h;cases h
   refine⟨fun h=> ?_,fun⟨h1,h2⟩ => ?_⟩
   .subst h;exact key hi rfl (fun _ h=>h) hc
   .subst h1 h2;refine key (i:=0) (k:=2) (by omega) rfl (fun x hx=> ?_) hc;show x∈if e=0 then ja++jb else ja
    have hx':x∈ja:=hx;split
    .exact Z102 _ hx'
    .exact hx'
  .rw[Z14,Z86]at hc;obtain⟨h1,h2⟩ :=hc;have hk':=hQ k hk;rw[<-h1]at hk';refine⟨ev_m HL (hQ i hi),ev_m HL (hQ k hk),zCI _ _ _,fun v hv=> ?_⟩;have hs:=zFv HL (hQ i hi) hk' h2 hv;rw[h1]at hs;have hlen:∀w∈zjF L (bI k) (jI k),w.length=(hdC (bI k)).length:=fun w hw=>zLO _ w (Z57.1 hw).1
   refine ans10 (zCJ _ _ _) hs (by have:=zCI L (bI k) (jI k);omega) (fun w hw=>(hlen w hw).trans (hlen v hs).symm) ?_;have:=ztj (bI k);rw[hlen v hs];omega
 have e1:(fun i=>hdC (bI i))=fun i=>if i=1 then hdC b else hdC a:=funext fun i=>by
  show hdC (if i=1 then b else a)=_;split<;>rfl
 have e2:(fun i=>cqs (jI i))=fun i=>if i=0 then cqs ja else if i=1 then cqs jb else if e=0 then cqs (ja++jb)else cqs ja:=funext fun i=>by
  show cqs (if i=0 then ja else if i=1 then jb else if e=0 then ja++jb else ja)=_;split
  .rfl
  .split
   .rfl
   .split<;>rfl
 rw[e1,e2]at H;exact ans3w hx hy hz hr h5 h5' (zIj ja jb) (fun h=>na (by simpa [cqs]using h)) (fun h=>nb (by simpa [cqs]using h)) (by simpa using la) (by simpa using lb) h6 H
end Go.Proofs.YtdlcolcidohbkaaGreatDoor
end
