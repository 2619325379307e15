/- Instance of the program: copies, rows of rows. -/
import Derived.Test.YtlinkhjnihjbaaaGreatDoorPx
import Derived.KernelRfl
import Derived.IntWalk
import Derived.Test.YtlinkhjnihjbaaaGreatDoorPq
import Derived.Test.YtlinkhjnihjbaaaGreatDoorQs0
import Derived.Test.YtlinkhjnihjbaaaGreatDoorPo
set_option linter.all false
set_option maxRecDepth 100000
set_option maxHeartbeats 4000000
noncomputable section
section
namespace Go.Proofs.YtlinkhjnihjbaaaGreatDoor
open Go Go.Vse Go.Vse.Sm
def fn19:pr.fn 19=some g19:=by kernel_rfl
def fn20:pr.fn 20=some g20:=by kernel_rfl
def gCl(es byt:Nat)(z:List F):Go.Vse.Fn:=⟨8,[.t 2],oZ [oR 2 (.mv (.k .nils))]
 (.seq (oD [oM 3 0,oR 4 (.eqn 0 false (.t 3) (.k .nils))] 4 (oZ [oR 2 (.mv (.k .nils))] .ret) .skip)
 (oZ [oR 5 (.bsl es z 0 []),oM 6 0,oR 7 (.app es byt (.t 5) (.t 6)),oM 2 7] .ret))⟩
def zr4(es:Nat)(rows:List (List F)):slc es rows= .sl es rows\/slc es rows= .nils/\rows=[]:=by
 cases rows with
 |nil=>exact .inr ⟨rfl,rfl⟩
 |cons a l=>exact .inl rfl
def fD(l:List (List F)):List (List D):=l.map fun a=>a.map D.f
def zuF(d:D):Prop:=∃a b e f g x,d= .sl a b e f g x
theorem zAH{n es byt:Nat}{z:List F}(hf:pr.fn n=some (gCl es byt z))(hb:byt<=1000){rows:List (List F)}(hl:rows.length<=1000000){h:T Ob}{c:Nat}:
  Eff pr n [.f (slc es rows)] h c fun d h' c'=>Frm h h' c/\Own h' c c' d (slc es rows)/\(rows≠[]->zuF d):=by
 refine zjT zfE hf ?_;unfold gCl;simp only[rU];have hm:rows.length*byt<=1000000*1000:=Z144 hl hb;have m1:(rows.length<=zaC)=True:=zaN (by omega);have m2:(rows.length*byt<=zaC)=True:=zaN (by omega)
 by_cases h0:rows=[]
 .subst h0;have e:slc es ([]:List (List F))= .nils:=rfl;rw[e];simp[rW,st0,zax,zMc,zo5];exact⟨fun _ _=>rfl,.inl rfl,rfl,fun x hx=>by simp[D.oid]at hx,fun h2 _ k=>⟨[],rfl⟩⟩
 .have e:slc es rows= .sl es rows:=by
   rcases zr4 es rows with h|⟨-,h⟩
   .exact h
   .exact absurd h h0
  rw[e];simp[rW,st0,zax,zMe,h0,m1,m2,zo5];refine⟨fun x hx=> ?_,?_,_,_,_,_,_,_,rfl⟩
  .have k1:¬x=c:=by omega
   have k2:¬x=c+1:=by omega
   simp[TG,k1,k2]
  .rw[<-e];refine zm1 (.inr ⟨c+1,0,by simp,by simpa using h0,?_,Z61 _,by omega,by omega⟩);simp[TG]
def effC{rows:List (List F)}(hl:rows.length<=1000){h:T Ob}{c:Nat}:Eff pr 19 [.f (slc 3 rows)] h c fun d h' c'=>Frm h h' c/\Own h' c c' d (slc 3 rows)/\(rows≠[]->zuF d):=
 zAH (z:=[.s [],.i .i64 0,.b false]) (byt:=32) fn19 (by omega) (by omega)
def effV(vs:List Int)(hl:vs.length<=1000)(hn:vs≠[]){h:T Ob}{c:Nat}:Eff pr 20 [.f (valsF vs)] h c fun d h' c'=>Frm h h' c/\Own h' c c' d (valsF vs)/\zuF d:=by
 obtain⟨q,h1,⟨h2,h3,h4⟩,h5⟩ :=zAH (h:=h) (c:=c) (es:=3) (z:=[.i .i64 0,.i .i64 0,.s []]) (byt:=32) (rows:=vs.map fun v=>[.i .i64 1,.i .i64 v,.s []]) fn20 (by omega) (by rw[Z18];omega);exact⟨q,h1,⟨h2,h3,h4 (by simpa using hn)⟩,h5⟩
def zg5(h:T Ob)(a b:Nat)(d:D)(X:F):Prop:=d.cells=some [d]/\∀h':T Ob,(∀x,a<=x->x<b->h'.get x=h.get x)->∃rd,frz h'.get 11 d=some (X,rd)
def zg5.up{h h':T Ob}{a b:Nat}{d:D}{X:F}(H:zg5 h a b d X)(hf:∀x,a<=x->x<b->h'.get x=h.get x):zg5 h' a b d X:=
 ⟨H.1,fun h2 hh=>H.2 h2 fun x h1 h3=>(hh x h1 h3).trans (hf x h1 h3)⟩
def Own.n{h:T Ob}{a b:Nat}{d:D}{X:F}(H:Own h a b d X):zg5 h a b d X:=
 ⟨H.2.1,fun h' hh=>H.2.2.2 h' (fun x hx=>by have:=H.2.2.1 x hx;exact hh x this.1 this.2) 9⟩
def rowT(p:D×List Int):List D:=p.1::zeR.map D.f
structure TwI(h:T Ob)(lo c:Nat)(dT:D)(TW:List (D×List Int)):Prop where
 g:Gro h lo c 4 dT (TW.map rowT)
 o:∀p∈TW,Own h lo c p.1 (valsF p.2)
 n:∀p∈TW,NE dT p.1
def twT(TW:List (D×List Int)):List (List Int×List F):=TW.map fun p=>(p.2,zeR)
theorem zxG{h:T Ob}{lo c:Nat}(k:Nat):∀{TW:List (D×List Int)},(∀p∈TW,Own h lo c p.1 (valsF p.2))->∃rd,za3 (frz h.get (k+2)) (TW.map rowT)=some ((twT TW).map tuF,rd)
 |[],_=>⟨[],rfl⟩
 |p::TW,hW=>by
  obtain⟨rd,hr⟩ :=zxG k (TW:=TW) fun q hq=>hW q (by simp[hq])
  obtain⟨rd2,h2⟩ :=(hW p (by simp)).2.2.2 h (fun _ _=>rfl) k;have h3:za0 (frz h.get (k+2)) (rowT p)=some (valsF p.2::zeR,rd2):=by
   have ef:∀x,frz h.get (k+2) (.f x)=some (x,[]):=fun _=>rfl
   simp[rowT,za0,h2,ef,zeR]
  exact⟨rd2++rd,by
   rw[Z10,zg8,h3];simp only[hr];rfl⟩
def TwI.own{h:T Ob}{lo c:Nat}{dT:D}{TW:List (D×List Int)}(H:TwI h lo c dT TW):zg5 h lo c dT (zaW (twT TW)):=by
 refine⟨zcN H.g,fun h' hh=> ?_⟩;have hg:Gro h' lo c 4 dT (TW.map rowT):=zfy H.g (fun Y hY=>by have:=zaU H.g hY;exact hh Y this.1 this.2) (Z2 _);obtain⟨r1,k1⟩ :=zxG (h:=h') (lo:=lo) (c:=c) 8 (TW:=TW) fun p hp=>(H.o p hp).up (fun x hx=>by have:=(H.o p hp).2.2.1 x hx;exact hh x this.1 this.2) (Z2 _) (Z2 _)
 exact zfx (k:=10) hg k1 (by simp[twT])
def TwI.up{h h':T Ob}{lo c c':Nat}{dT:D}{TW:List (D×List Int)}(H:TwI h lo c dT TW)(hf:∀x,lo<=x->x<c->h'.get x=h.get x)(hc:c<=c'):TwI h' lo c' dT TW:=
 ⟨zeI H.g hc hf,fun p hp=>(H.o p hp).up (fun x hx=>by have:=(H.o p hp).2.2.1 x hx;exact hf x this.1 this.2) (Z2 _) hc,H.n⟩
theorem TwI.app{h h':T Ob}{lo c c':Nat}{dT dN d:D}{vs:List Int}{TW:List (D×List Int)}(H:TwI h lo c dT TW)(ho:Own h lo c d (valsF vs))(n1:NE dT d)(hg:Gro h' lo c' 4 dN (TW.map rowT++[rowT (d,vs)]))(hc:c<=c')
  (hf:∀id,id<c->dT.oid≠some id->h'.get id=h.get id)(hN:∀x,dN.oid=some x->x=c\/dT.oid=some x):TwI h' lo c' dN (TW++[(d,vs)]):=by
 have key:∀{d:D} {X:F},NE dT d->Own h lo c d X->Own h' lo c' d X:=fun{d X} hn ho=>ho.up (fun x hx=>by
  have:=ho.2.2.1 x hx;exact hf x this.2 fun e=>hn x e hx) (Z2 _) hc
 have kn:∀{d:D},NE dT d->(∀x,d.oid=some x->x<c)->NE dN d:=fun{d} hn hb x hx e=>by
  rcases hN x hx with rfl|h1
  .have:=hb _ e;omega
  .exact hn x h1 e
 refine⟨by rw[Z20];exact hg,fun p hp=> ?_,fun p hp=> ?_⟩
 .rcases Z4.1 hp with hp|hp
  .exact key (H.n p hp) (H.o p hp)
  .rw[Z31.1 hp];exact key n1 ho
 .rcases Z4.1 hp with hp|hp
  .exact kn (H.n p hp) fun x hx=>((H.o p hp).2.2.1 x hx).2
  .rw[Z31.1 hp];exact kn n1 fun x hx=>(ho.2.2.1 x hx).2
structure RW where
 co:D
 tu:D
 a:Nat
 b:Nat
 r:Rl
def zn3(p:RW):List D:=[.f (.s p.r.nm),.f (.b p.r.ce),p.co,p.tu]
structure RwI(h:T Ob)(lo c:Nat)(dO:D)(WR:List RW):Prop where
 g:Gro h lo c 4 dO (WR.map zn3)
 b:∀p∈WR,lo<=p.a/\p.b<=c
 c:∀p∈WR,zg5 h p.a p.b p.co p.r.co
 t:∀p∈WR,zg5 h p.a p.b p.tu (zaW p.r.tu)
 n:∀p∈WR,∀x,dO.oid=some x->¬(p.a<=x/\x<p.b)
def RwI.up{h h':T Ob}{lo c c':Nat}{dO:D}{WR:List RW}(H:RwI h lo c dO WR)(hf:∀x,lo<=x->x<c->h'.get x=h.get x)(hc:c<=c'):RwI h' lo c' dO WR:=
 ⟨zeI H.g hc hf,fun p hp=>by have:=H.b p hp;omega,fun p hp=>(H.c p hp).up fun x h1 h2=>by have:=H.b p hp;exact hf x (by omega) (by omega),fun p hp=>(H.t p hp).up fun x h1 h2=>by have:=H.b p hp;exact hf x (by omega) (by omega),H.n⟩
theorem RwI.app{h h':T Ob}{lo c c':Nat}{dO dN:D}{p:RW}{WR:List RW}(H:RwI h lo c dO WR)(hb:lo<=p.a/\p.b<=c)(hco:zg5 h p.a p.b p.co p.r.co)(htu:zg5 h p.a p.b p.tu (zaW p.r.tu))(hn:∀x,dO.oid=some x->¬(p.a<=x/\x<p.b))
  (hg:Gro h' lo c' 4 dN (WR.map zn3++[zn3 p]))(hc:c<=c')(hf:∀id,id<c->dO.oid≠some id->h'.get id=h.get id)(hN:∀x,dN.oid=some x->x=c\/dO.oid=some x):RwI h' lo c' dN (WR++[p]):=by
 have key:∀q:RW,q.b<=c->(∀x,dO.oid=some x->¬(q.a<=x/\x<q.b))->∀x,q.a<=x->x<q.b->h'.get x=h.get x:=fun q h1 h2 x h3 h4=>hf x (by omega) fun e=>h2 x e ⟨h3,h4⟩
 have kn:∀q:RW,q.b<=c->(∀x,dO.oid=some x->¬(q.a<=x/\x<q.b))->∀x,dN.oid=some x->¬(q.a<=x/\x<q.b):=fun q h1 h2 x hx=>by
  rcases hN x hx with rfl|h3
  .omega
  .exact h2 x h3
 refine⟨by rw[Z20];exact hg,fun q hq=> ?_,fun q hq=> ?_,fun q hq=> ?_,fun q hq=> ?_⟩ <;>rcases Z4.1 hq with hq|hq
 .have:=H.b q hq;omega
 .rw[Z31.1 hq];omega
 .exact (H.c q hq).up (key q (H.b q hq).2 (H.n q hq))
 .rw[Z31.1 hq];exact hco.up (key p hb.2 hn)
 .exact (H.t q hq).up (key q (H.b q hq).2 (H.n q hq))
 .rw[Z31.1 hq];exact htu.up (key p hb.2 hn)
 .exact kn q (H.b q hq).2 (H.n q hq)
 .rw[Z31.1 hq];exact kn p hb.2 hn
theorem zxi{h:T Ob}:∀{WR:List RW},(∀p∈WR,zg5 h p.a p.b p.co p.r.co)->(∀p∈WR,zg5 h p.a p.b p.tu (zaW p.r.tu))->∃rd,za3 (frz h.get 11) (WR.map zn3)=some (WR.map fun p=>rlF p.r,rd)
 |[],_,_=>⟨[],rfl⟩
 |p::WR,h1,h2=>by
  obtain⟨rd,hr⟩ :=zxi (WR:=WR) (fun q hq=>h1 q (by simp[hq])) fun q hq=>h2 q (by simp[hq])
  obtain⟨r1,k1⟩ :=(h1 p (by simp)).2 h fun _ _ _=>rfl
  obtain⟨r2,k2⟩ :=(h2 p (by simp)).2 h fun _ _ _=>rfl
  have h3:∃r3,za0 (frz h.get 11) (zn3 p)=some (rlF p.r,r3):=by
   have ef:∀x,frz h.get 11 (.f x)=some (x,[]):=fun _=>rfl
   refine⟨r1++r2,?_⟩;simp[zn3,rlE,za0,k1,k2,ef]
  obtain⟨r3,h3⟩ :=h3;exact⟨r3++rd,by
   rw[Z10,zg8,h3];simp only[hr];rfl⟩
def RwI.frz{h:T Ob}{lo c:Nat}{dO:D}{WR:List RW}(H:RwI h lo c dO WR):∃rd,frz h.get 12 dO=some (zc3 (WR.map (·.r)),rd):=by
 obtain⟨r1,h1⟩ :=zxi H.c H.t;obtain⟨s1,k1⟩ :=zfx (k:=11) H.g h1 (by simp);exact⟨s1,by rw[k1,zc3,Z33];rfl⟩
def fn8:pr.fn 8=some g8:=by kernel_rfl
def prodA:Ans pr 21 [.nils] (.ag [.b false,.sl 1 [[.i .u32 1]],.sl 1 [[.i .u32 1]]]):=zab (n:=1000) (zad pr) (by kernel_rfl)
theorem zrJ{ch:List (Nat×Nat)}:∀{L:List RB} {i a:Nat} {p:RB},L[a]? =some p->(zhO ch i L)[a]? =some (p.1.tu.length,(List.range p.1.tu.length).filter fun k=>p.1.ce||decide ((i+a,k)∈ch))
 |[],_,_,_,h=>by simp at h
 |q::L,i,0,p,h=>by cases h;rfl
 |q::L,i,a+1,p,h=>by
  have:=zrJ (L:=L) (ch:=ch) (i:=i+1) (a:=a) (by simpa using h);rw[zhO,List.getElem?_cons_succ,this,show i+1+a=i+(a+1) by omega]
theorem zrL:∀(ch:List (Nat×Nat)) (i:Nat) (L:List RB),(zhO ch i L).length=L.length
 |_,_,[]=>rfl
 |ch,i,p::L=>by rw[zhO,Z23,zrL ch (i+1) L,Z23]
def zDK{l:List Nat}{k j:Nat}(h:l[k]? =some j):(zcp l)[k]? =some [D.f (.i .i64 (j:Nat))]:=by
 unfold zcp;rw[Z36,h];rfl
def Jin(L:List RB)(ch:List (Nat×Nat))(M c0 cM:Nat)(n:Nat)(s:St):Prop:=∃W dO WR,(s.tm.get 2=some (.ptr 0 4 0 0)/\s.tm.get 5=some (.ptr M 10 0 0)/\s.tm.get 7=some (dO)/\s.tm.get 33=some (.f (rbF L))/\s.tm.get 34=some (.f (.i .i64 L.length))/\s.tm.get 35=some (.f (.i .i64 n)))/\MI L M c0 (zhO ch 0 L) s.h cM W/\cM<=s.c/\RwI s.h cM s.c dO WR/\WR.map (·.r)=zc7 ch 0 (L.take n)
def Kin(L:List RB)(M n U:Nat)(r:Rl)(dO dn:D)(els:List Nat)(h0:T Ob)(k:Nat)(s:St):Prop:=∃dco dT TW,(s.tm.get 2=some (.ptr 0 4 0 0)/\s.tm.get 5=some (.ptr M 10 0 0)/\s.tm.get 7=some (dO)/\s.tm.get 33=some (.f (rbF L))/\s.tm.get 34=some (.f (.i .i64 L.length))/\s.tm.get 35=some (.f (.i .i64 n))/\s.tm.get 9=some (.ptr U 4 0 0)/\s.tm.get 10=some (.ptr (U+1) 4 0 0)/\s.tm.get 58=some (dn)/\s.tm.get 59=some (.f (.i .i64 els.length))/\s.tm.get 60=some (.f (.i .i64 k))/\s.h.get U=some (.arr 4 0 [[.f (.s r.nm),.f (.b r.ce),.f r.co,.f (zaW r.tu)]])/\s.h.get (U+1)=some (.arr 4 0 [[.f (.s r.nm),.f (.b r.ce),dco,dT]]))/\
 (∀id,id<U->s.h.get id=h0.get id)/\zuF dco/\Own s.h (U+2) s.c dco r.co/\TwI s.h (U+2) s.c dT TW/\NE dT dco/\TW.map (·.2)=(els.take k).map (fun j=>(r.tu[j]?.getD ([],[])).1)/\U+2<=s.c
def ans8{L:List RB}(hL:LOk L)(hU:∃q,L[0]? =some q/\q.1.ce=false)(eW:Bool)(w:List Int):Ans pr 8 [.ag (pgF L),wG eW w] (if isW w (spL L)=true then zc3 (zc7 (chs (rfL L) w) 0 L)else .nils):=by
 refine zb6 fn8 ?_;have hn8:=hL.n;have a1:=ans17 (spOk hL) (zib hL) eW w;have q1:=fun k=>zaj (k:=k) a1
 have hfr0:∀(h':T Ob) (o:Ob),(∀id,id<1->h'.get id=(T.e.set 0 o).get id)->h'.get 0=some o:=fun h' o hh=>by
  rw[hh 0 (by omega)];simp[TG]
 simp only[g8,rU];simp[rW,st0,zax,pgF,zgj,zgV,w_d];refine zoe (h:=T.e.set 0 (.arr 4 0 [[.f (rbF L),.f .nils,.f .nils,.f .nils]])) (c:=1) (by simp only[rG]) (by simp only[rG]) (eff16 hL) ?_;rintro d h1 c1 lw1 mx1 ⟨M,c0,W,rfl,hM1,H,hf⟩ hc1;have g0:=hfr0 h1 _ hf;have gM:=H.m
 by_cases hw:isW w (spL L)=true
 .rw[Z51 hw];rw[hw]at q1;simp[rW,gM,zfD,zew,w_d,q1];refine zoe (h:=h1) (c:=c1) (by simp only[rG]) (by simp only[rG]) (eff18 hL hU (zEx hL hw) H) ?_;rintro d2 h2 c2 lw2 mx2 ⟨W2,H2,hf2⟩ hc2;have g02:h2.get 0=some (.arr 4 0 [[.f (rbF L),.f .nils,.f .nils,.f .nils]]):=(hf2 0 (by omega)).trans g0;have hMl:=H2.l;have hcl:=H2.c;simp[rW,g02,zdv];generalize hch:chs (rfL L) w=ch at H2|-;refine zcz L.length (Jin L ch M c0 c2) (fun e s=>e= .exit 0/\Jin L ch M c0 c2 L.length s) ?_ ?_ _ ⟨W2,.f .nils,[],⟨?_,?_,?_,?_,?_,?_⟩,?_,?_,⟨.inl ⟨rfl,rfl⟩,by simp,by simp,by simp,by simp⟩,rfl⟩ ?_
  .clear g02 hf2 hf hc1 hc2 H H2 W W2 g0 gM h1 h2 hcl;rintro n s hlt ⟨W,dO,WR,⟨h2,h5,h7,h33,h34,h35⟩,H,hcM,HR,hWR⟩;have hwn:=zaK n (by omega);have hx:L[n]? =some L[n]:=Z0 hlt;have hG:=hL.g _ (Z1 hlt);generalize hA:L[n]=q at hx hG;obtain⟨r,B⟩ :=q;simp only at hG;have eI:=zuB (ch:=ch) hx;have hcc:=hG.k.cc;have hd:(zaW r.tu).d= .f (zaW r.tu):=zd5 _;have hc2:(D.f (zaW r.tu)).cells=some [.f (zaW r.tu)]:=zcc _ _;obtain⟨d,hWn⟩ :=zj6 H.v (zrJ (i:=0) (ch:=ch) hx);simp only[Z25]at hWn;have hkl:((List.range r.tu.length).filter fun k=>r.ce||decide ((n,k)∈ch)).length<=3:=Z3 (Z76 ..) (by rw[Z37];exact hG.k.n);have hkm:∀j∈(List.range r.tu.length).filter fun k=>r.ce||decide ((n,k)∈ch),j<r.tu.length:=fun j hj=>Z174.1 (Z57.1 hj).1
   have hins:zuC n r ch=⟨r.nm,r.ce,r.co,(((List.range r.tu.length).filter fun k=>r.ce||decide ((n,k)∈ch)).map fun j=>((r.tu[j]?.getD ([],[])).1,zeR))⟩ :=rfl;generalize ((List.range r.tu.length).filter fun k=>r.ce||decide ((n,k)∈ch))=els at hWn hkl hkm hins;have hrow:=zka hWn;have hWl:W.length=L.length:=by rw[H.len,zrL]
   have hWd:∀h:n<W.length,W[n]=(d,r.tu.length,els):=fun h=>(Z8.1 hWn).2
   have hg:=H.p.g _ (Z39 hWn);simp only at hg;have gR:=H.p.r;have gS:=H.s;have gM:=H.m;have hl:=H.l;have hcl:=H.c;obtain⟨rows,hco,hrn,hrl⟩ :=hG.cl;have hcs:r.co=slc 3 rows:=by
    rw[hco];rcases zr4 3 rows with h|⟨-,h⟩
    .exact h.symm
    .exact absurd h hrn
   have hlen:=hg.len;obtain⟨U,hUe⟩ :∃U,U=s.c:=⟨_,rfl⟩
   have n1:¬U=U+1:=by omega
   have n2:¬U+1=U:=by omega
   have nM1:¬M=U:=by omega
   have nM2:¬M=U+1:=by omega
   have nc1:¬c0=U:=by omega
   have nc2:¬c0=U+1:=by omega
   have nS1:¬c0+1=U:=by omega
   have nS2:¬c0+1=U+1:=by omega
   simp[rW,h2,h5,h7,h33,h34,h35,hlt,zet,hx,hA,rlE,hcc,hc2,<-hUe,n1,n2];have eC:∀(h:T Ob) (c:Nat),Eff pr 19 [.f r.co] h c fun d h' c'=>Frm h h' c/\Own h' c c' d r.co/\zuF d:=fun h c=>by
    rw[hcs];obtain⟨q,h1,⟨h2,h3,h4⟩,h5⟩ :=effC (rows:=rows) (by omega) (h:=h) (c:=c);exact⟨q,h1,⟨h2,h3,h4 hrn⟩,h5⟩
   refine zoe rfl rfl (eC _ _) ?_;rintro dco h3 c3 lw3 mx3 ⟨hF,hO,hsl0⟩ hc3;simp only[Frm,zbf,zbX,zbO,za8,zbS,zbD,zbd,zbW,zbU,zbh,zbY,zbB,za1,za9,za4,zca,zcb,zb8]at hF hO hc3;have f0:∀id,id<U->h3.get id=s.h.get id:=fun id hid=>by
    rw[hF id (by omega)];have i0:¬id=U:=by omega
    have i1:¬id=U+1:=by omega
    simp[TG,i0,i1]
   have fU:=hF U (by omega);have fV:=hF (U+1) (by omega);simp[TG]at fU fV;have hlU:U+1<c3:=by omega
   have eM:=(f0 M (by omega)).trans gM;have eS:=(f0 (c0+1) (by omega)).trans gS;have eR:=(f0 c0 (by omega)).trans gR;have hoc:=hO.2.1;simp[rW,h2,h5,h7,h33,h34,h35,fU,fV,hoc,hlU,eM,eS,eR,hlt,hWl,hrow,zhh,hWd,hlen,nM1,nM2,nc1,nc2,nS1,nS2];have hbd:∀x,d.oid=some x->c0+2<=x/\x<c2:=fun x hx=>hg.oid hx
   refine zcz els.length (Kin L M n U r dO d els s.h) (fun e S=>e= .exit 2/\Kin L M n U r dO d els s.h els.length S) ?_ ?_ _ ⟨dco,.f .nils,[],⟨?_,?_,?_,?_,?_,?_,?_,?_,?_,?_,?_,?_,?_⟩,?_,hsl0,?_,⟨.inl ⟨rfl,rfl⟩,by simp,by simp⟩,fun x hx=>by simp[D.oid]at hx,by simp,?_⟩ ?_
   .have hUc:c2<=U:=by omega
    clear h2 h5 h7 h33 h34 h35 fU fV hlU eM eS eR hoc f0 hF hO hc3;generalize s.h=H0 at*;clear HR hcM hUe s;rintro k s hk ⟨dco,dT,TW,⟨h2,h5,h7,h33,h34,h35,h9,h10,h58,h59,h60,gU,gV⟩,hfr,hsl0,hO,hT,hne,hTW,hUs⟩;have hwk:=zaK k (by omega);have hxk:els[k]? =some els[k]:=Z0 hk;have hjl:=hkm _ (Z1 hk);have hsT:(els.take (k+1)).map (fun j=>(r.tu[j]?.getD ([],[])).1)=(els.take k).map (fun j=>(r.tu[j]?.getD ([],[])).1)++[(r.tu[els[k]]?.getD ([],[])).1]:=by rw[Z105,hxk,Z20];rfl
    generalize hJ:els[k]=j at hxk hjl hsT;have hxt:r.tu[j]? =some r.tu[j]:=Z0 hjl;have hpT:=hG.k.p _ (Z1 hjl);have hlT:=hG.k.l _ (Z1 hjl);have hnT:=hG.nz _ (Z1 hjl);generalize hTt:r.tu[j]=T at hxt hpT hlT hnT;rw[hxt]at hsT;simp only[Z118]at hsT;obtain⟨p0,p1,p2,hpe,d0,d1,d2⟩ :=zaX _ hpT;have htu:tuF T=[valsF T.1,p0,p1,p2]:=by unfold tuF;rw[hpe]
    have qP:=fun k=>zaj (k:=k) prodA
    rcases hg with⟨hz,rfl,rfl⟩ |⟨id,jk,rfl,g1,g2,g3,g4,g5⟩
    .simp at hk
    have hrk:(zcp (els++jk))[k]? =some [D.f (.i .i64 (j:Nat))]:=zDK (by rw[Z54 hk];exact hxk);have e1:s.h.get id=some (.arr 1 0 (zcp (els++jk))):=(hfr id (by omega)).trans g1;have hkl2:k<els.length+jk.length:=by omega
    simp[rW,h2,h5,h7,h33,h34,h35,h9,h10,h58,h59,h60,gU,gV,hk,e1,hrk];refine zKF ?_;simp[rW,h2,h5,h7,h33,h34,h35,h9,h10,h58,h59,h60,gU,gV,zfZ,hxt,hTt,hjl,htu,n1,n2];refine wg_e rfl rfl (effV T.1 (by omega) hnT) ?_;rintro dv h4 c4 lw4 mx4 ⟨hF4,hO4,hsl⟩ hc4 hm4;simp only[Frm,zbf,zbX,zbO,za8,zbS,zbD,zbd,zbW,zbU,zbh,zbY,zbB,za1,za9,za4,zca,zcb,zb8]at hF4 hO4 hc4;have eV4:=hF4 (U+1) (by omega);have gV4:=eV4.trans gV;have hov:=hO4.2.1;have f4:∀id,id<s.c->h4.get id=s.h.get id:=fun id hid=>hF4 id (by omega)
    have e8:zdd [dv,D.f (.b false),D.f (.sl 1 [[.i .u32 1]]),D.f (.sl 1 [[.i .u32 1]])]=none:=by
     obtain⟨_,_,_,_,_,_,rfl⟩ :=hsl;rfl
    have nm:¬U+1=mx4+1+1:=by omega
    have nm2:¬mx4+1+1=U+1:=by omega
    simp[rW,eV4,gV4,hov,qP,e8,zkT,nm,nm2,O.res,Z47,h10,zeR];have hTWl:TW.length=k:=by
     have:=congrArg List.length hTW;rw[Z18,Z18,Z41]at this;omega
    have hm4':s.c<=mx4:=by omega
    have bT:∀x,dT.oid=some x->U+2<=x/\x<s.c:=fun x hx=>zaU hT.g hx
    have bV:∀x,dv.oid=some x->s.c<=x/\x<c4:=fun x hx=>by have:=hO4.2.2.1 x hx;omega
    obtain⟨hp,hh5⟩ :∃hp,hp=h4.set (mx4+1+1) (.arr 4 0 [[dv,D.f (.b false),D.f (.sl 1 [[.i .u32 1]]),D.f (.sl 1 [[.i .u32 1]])]]):=⟨_,rfl⟩
    rw[<-hh5];have f5:∀id,¬id=mx4+1+1->hp.get id=h4.get id:=fun id h=>by rw[hh5];simp[TG,h]
    have hT5:TwI hp (U+2) (mx4+1+1+1+1) dT TW:=hT.up (fun x _ hx=>(f5 x (by omega)).trans (f4 x hx)) (by omega);have hO5:Own hp (U+2) (mx4+1+1+1+1) dv (valsF T.1):=hO4.up (fun x hx=>f5 x (by have:=bV x hx;omega)) (by omega) (by omega);have nTV:NE dT dv:=fun x hx e=>by have:=bT x hx;have:=bV x e;omega
    refine⟨by omega,?_⟩;refine zde (new:=[rowT (dv,T.1)]) hT5.g (by omega) (by simp;omega) (by omega) ?_;intro r1 hr1 hr2 hr3 hr4 hr5;refine⟨hr1,?_⟩;have e5:=hr4 (U+1) (by omega) (fun e=>by have:=bT _ e;omega);have e5':=(e5.trans (f5 _ (by omega))).trans gV4;have hce5:=zcN hr2;have hlt5:U+1<r1.c+1+1:=by omega
    simp[rW,e5',hce5,hlt5,h60,hwk];have g5:∀id,id<s.c->¬id=U+1->dT.oid≠some id->((wrT hp r1.wr).set (U+1) (.arr 4 0 [[.f (.s r.nm),.f (.b r.ce),dco,r1.d]])).get id=s.h.get id:=fun id h1 h2 h3=>by
     rw[TG,Z49 h2,hr4 id (by omega) h3,f5 id (by omega)];exact f4 id h1
    have hT6:=hT5.app hO5 nTV hr2 (by omega) hr4 hr5;refine⟨dco,r1.d,TW++[(dv,T.1)],⟨by simp[rW,h2],by simp[rW,h5],by simp[rW,h7],by simp[rW,h33],by simp[rW,h34],by simp[rW,h35],by simp[rW,h9],by simp[rW,h10],by simp[rW,h58],by simp[rW,h59],by simp[rW,hwk],?_,?_⟩,?_,hsl0,?_,?_,?_,?_,?_⟩
    .have e6:=g5 U (by omega) (by omega) (fun e=>by have:=bT _ e;omega);rw[gU]at e6;simp only[rG];rw[<-hh5];exact e6
    .simp[rW]
    .intro id hid;have e6:=g5 id (by omega) (by omega) (fun e=>by have:=bT _ e;omega);rw[hfr id hid]at e6;simp only[rG];rw[<-hh5];exact e6
    .simp only[rG];rw[<-hh5];refine hO.up (fun x hx=> ?_) (Z2 _) (by omega);have:=hO.2.2.1 x hx;exact g5 x this.2 (by omega) fun e=>hne x e hx
    .simp only[rG];rw[<-hh5];exact hT6.up (fun x h1 h2=>by rw[TG,Z49 (by omega)]) (by omega)
    .intro x hx e;have hb:=hO.2.2.1 x e;rcases hr5 x hx with h8|h8
     .omega
     .exact hne x h8 e
    .rw[Z20,hTW,hsT];rfl
    .simp[rW]<;>omega
   .have hUc:c2<=U:=by omega
    clear h2 h5 h7 h33 h34 h35 fU fV hlU eM eS eR hoc f0 hF hO hsl0 hc3;generalize s.h=H0 at*;clear HR hcM hUe s;rintro s ⟨dco,dT,TW,⟨h2,h5,h7,h33,h34,h35,h9,h10,h58,h59,h60,gU,gV⟩,hfr,hsl0,hO,hT,hne,hTW,hUs⟩;simp[rW,h59,h60];exact⟨dco,dT,TW,⟨by simp[rW,h2],by simp[rW,h5],by simp[rW,h7],by simp[rW,h33],by simp[rW,h34],by simp[rW,h35],by simp[rW,h9],by simp[rW,h10],by simp[rW,h58],by simp[rW,h59],by simp[rW,h60],by simp[rW,gU],by simp[rW,gV]⟩,hfr,hsl0,hO,hT,hne,hTW,hUs⟩
   .simp[rW,h2]
   .simp[rW,h5]
   .simp[rW,h7]
   .simp[rW,h33]
   .simp[rW,h34]
   .simp[rW,h35]
   .simp[rW]
   .simp[rW]
   .simp[rW]
   .simp[rW]
   .simp[rW]
   .simp[rW,n1,fU]
   .simp[rW]
   .intro id hid;have i0:¬id=U+1:=by omega
    simp[rW,i0];exact f0 id hid
   .simp only[rG];refine hO.up (fun x hx=> ?_) (Z2 _) (Z2 _);have:=hO.2.2.1 x hx;rw[TG,Z49 (by omega)]
   .simp[rW]<;>omega
   .have hUc:c2<=U:=by omega
    clear h2 h5 h7 h33 h34 h35 fU fV hlU eM eS eR hoc f0 hF hO hsl0 hc3;rw[<-hUe]at HR;generalize s.h=H0 at*;clear hcM hUe s;rintro e s ⟨rfl,dco,dT,TW,⟨h2,h5,h7,h33,h34,h35,h9,h10,h58,h59,h60,gU,gV⟩,hfr,hsl0,hO,hT,hne,hTW,hUs⟩;rw[Z7]at hTW;have htw:twT TW=els.map fun j=>((r.tu[j]?.getD ([],[])).1,zeR):=by
     have e1:twT TW=(TW.map (·.2)).map fun v=>(v,zeR):=by rw[Z33];rfl
     rw[e1,hTW,Z33];rfl
    have e8:zdd [D.f (.s r.nm),D.f (.b r.ce),dco,dT]=none:=by
     obtain⟨_,_,_,_,_,_,rfl⟩ :=hsl0;rfl
    have hWRl:WR.length<=8:=by
     have e1:=congrArg List.length hWR;have e2:∀(M:List RB) (k:Nat),(zc7 ch k M).length=M.length:=by
      intro M
      induction M with
      |nil=>intro k;rfl
      |cons p M ih=>intro k;rw[zc7,Z23,ih,Z23]
     rw[Z18,e2,Z41]at e1;omega
    have HR1:RwI s.h c2 s.c dO WR:=HR.up (fun x _ hx=>hfr x hx) (by omega);have bO:∀x,dO.oid=some x->c2<=x/\x<U:=fun x hx=>zaU HR.g hx
    simp[rW,h7,h10,gV,e8,zkT];obtain⟨hp,hhp⟩ :∃hp,hp=s.h.set s.c (.arr 4 0 [[.f (.s r.nm),.f (.b r.ce),dco,dT]]):=⟨_,rfl⟩
    rw[<-hhp];have fp:∀id,id<s.c->hp.get id=s.h.get id:=fun id h=>by
     have i0:¬id=s.c:=by omega
     rw[hhp];simp[TG,i0]
    have HR2:RwI hp c2 (s.c+1) dO WR:=HR1.up (fun x _ hx=>fp x hx) (by omega);have hOp:zg5 hp (U+2) s.c dco r.co:=hO.n.up fun x _ hx=>fp x hx
    have hTp:zg5 hp (U+2) s.c dT (zaW (els.map fun j=>((r.tu[j]?.getD ([],[])).1,zeR))):=by
     rw[<-htw];exact hT.own.up fun x _ hx=>fp x hx
    refine zde (new:=[zn3 ⟨dco,dT,U+2,s.c,⟨r.nm,r.ce,r.co,els.map fun j=>((r.tu[j]?.getD ([],[])).1,zeR)⟩⟩]) HR2.g (by omega) (by simp;omega) (by omega) ?_;intro r1 hr1 hr2 hr3 hr4 hr5;refine⟨hr1,?_⟩;simp[rW,h35,hwn];refine⟨W,r1.d,WR++[⟨dco,dT,U+2,s.c,⟨r.nm,r.ce,r.co,els.map fun j=>((r.tu[j]?.getD ([],[])).1,zeR)⟩⟩],⟨by simp[rW,h2],by simp[rW,h5],by simp[rW],by simp[rW,h33],by simp[rW,h34],by simp[rW,hwn]⟩,?_,?_,?_,?_⟩
    .simp only[rG];rw[<-hhp];refine H.up (fun id hid=> ?_) (Z2 _);rw[hr4 id (by omega) (fun e=>by have:=bO _ e;omega),fp id (by omega)];exact hfr id (by omega)
    .simp[rW]<;>omega
    .simp only[rG];rw[<-hhp];exact HR2.app ⟨by simp;omega,by simp⟩ hOp hTp (fun x hx=>by have:=bO x hx;simp;omega) hr2 hr3 hr4 hr5
    .rw[Z20,hWR,eI,hins];rfl
  .rintro s ⟨W,dO,WR,⟨h2,h5,h7,h33,h34,h35⟩,H,hcM,HR,hWR⟩;simp[rW,h34,h35];exact⟨W,dO,WR,⟨by simp[rW,h2],by simp[rW,h5],by simp[rW,h7],by simp[rW,h33],by simp[rW,h34],by simp[rW,h35]⟩,H,hcM,HR,hWR⟩
  .simp[rW]
  .simp[rW]
  .simp[rW]
  .simp[rW]
  .simp[rW]
  .simp[rW]
  .exact H2
  .simp[rW]
  .clear g02 hf2 hf hc1 hc2 H H2 W W2 g0 gM h1 h2 hcl;rintro x s ⟨rfl,W,dO,WR,⟨h2,h5,h7,h33,h34,h35⟩,H,hcM,HR,hWR⟩;rw[Z7]at hWR;obtain⟨rd,hf⟩ :=HR.frz;rw[hWR]at hf;simp[rW,h7,hf]
 .rw[Z49 hw];have hw2:isW w (spL L)=false:=by simpa using hw
  rw[hw2]at q1;simp[rW,gM,zfD,zew,w_d,q1]
end Go.Proofs.YtlinkhjnihjbaaaGreatDoor
end
section
namespace Go.Proofs.YtlinkhjnihjbaaaGreatDoor
open Go Go.Vse Go.Vse.Sm
def txR:Str:=[114,101,108,97,116,105,111,110,32,82,40,97,32,105,110,116,44,32,98,32,105,110,116,41,10]
def fmR:Ans pr 31 [.ag [.sl 4 [[.s [82],.b false,coR,.nils]],.nils,.nils,.nils]] (.s txR):=Qs278
def txS:Str:=[114,101,108,97,116,105,111,110,32,83,40,97,32,105,110,116,41,10]
def fmS:Ans pr 31 [.ag [.sl 4 [[.s [83],.b false,coS,.nils]],.nils,.nils,.nils]] (.s txS):=Qs292
def txK:Str:=[114,101,108,97,116,105,111,110,32,75,40,107,32,105,110,116,32,107,101,121,44,32,118,32,105,110,116,41,10]
def fmK:Ans pr 31 [.ag [.sl 4 [[.s [75],.b false,coK,.nils]],.nils,.nils,.nils]] (.s txK):=Qs311
def txC:Str:=[99,101,114,116,97,105,110,32,67,40,97,32,105,110,116,44,32,98,32,105,110,116,41,10]
def fmC:Ans pr 31 [.ag [.sl 4 [[.s [67],.b true,coC,.nils]],.nils,.nils,.nils]] (.s txC):=Qs325
def ruL:List (List F):=[[.s [107,101,121,32,82,40,97,41]],[.s [114,117,108,101,32,82,40,120,44,32,121,41,32,105,109,112,108,105,101,115,32,83,40,120,41]],[.s [114,117,108,101,32,83,40,120,41,32,105,109,112,108,105,101,115,32,82,40,120,44,32,121,41,32,111,114,32,75,40,120,44,32,121,41]],[.s [99,111,117,110,116,32,48,32,116,111,32,50,32,111,102,32,82,40,120,44,32,121,41]],[.s [99,111,117,110,116,32,48,32,116,111,32,49,32,111,102,32,83,40,120,41,44,32,120,32,60,32,51]],[.s [102,97,99,116,111,114,32,51,47,50,32,102,111,114,32,82,40,120,44,32,121,41,44,32,83,40,121,41]],[.s [102,97,99,116,111,114,32,49,47,51,32,102,111,114,32,83,40,120,41,44,32,110,111,116,32,75,40,120,44,32,49,41]],[.s [102,97,99,116,111,114,32,50,32,102,111,114,32,75,40,120,44,32,121,41]],[.s [114,117,108,101,32,82,40,120,44,32,120,41,32,105,109,112,108,105,101,115,32,102,97,108,115,101]],[.s [102,97,99,116,111,114,32,48,32,102,111,114,32,82,40,49,44,32,50,41,44,32,83,40,50,41]],[.s [107,101,121,32,75,40,118,41]],[.s [111,98,115,101,114,118,101,32,82,40,120,44,32,121,41]],[.s [100,101,110,121,32,83,40,49,41]],[.s [111,98,115,101,114,118,101,32,83,40,120,41,32,111,114,32,75,40,120,44,32,121,41]],[.s [100,101,110,121,32,82,40,120,44,32,120,41]],[.s [102,97,99,116,111,114,32,53,47,52,32,102,111,114,32,82,40,120,44,32,121,41,44,32,82,40,121,44,32,122,41]],[.s [114,117,108,101,32,75,40,120,44,32,121,41,44,32,67,40,121,44,32,122,41,32,105,109,112,108,105,101,115,32,83,40,122,41]],[.s [99,111,117,110,116,32,49,32,116,111,32,51,32,111,102,32,67,40,120,44,32,121,41,44,32,120,32,60,61,32,121]]]
def zLN:Ans pr 32 [] (.sl 1 ruL):=Qs66
def prsF:List (List F):=[[.s [82],.b false,.sl 3 [[.s [97],.i .i64 1,.b false],[.s [98],.i .i64 1,.b false]],.nils],[.s [83],.b false,.sl 3 [[.s [97],.i .i64 1,.b false]],.nils],[.s [75],.b false,.sl 3 [[.s [107],.i .i64 1,.b true],[.s [118],.i .i64 1,.b false]],.nils],[.s [67],.b true,.sl 3 [[.s [97],.i .i64 1,.b false],[.s [98],.i .i64 1,.b false]],.nils]]
def zLc:Ans pr 25 [.s (txR++(txS++(txK++txC)))] (.tu [.ag [.sl 4 prsF,.nils,.nils,.nils],.i .i64 0,.i .i64 0]):=Qs327
end Go.Proofs.YtlinkhjnihjbaaaGreatDoor
end
section
namespace Go.Proofs.YtlinkhjnihjbaaaGreatDoor
open Go Go.Vse Go.Vse.Sm
def fn11:pr.fn 11=some g11:=by kernel_rfl
def fn4:pr.fn 4=some g4:=by kernel_rfl
def rl4(a b c d:List (List Int×List F)):List Rl:=[rR a,rS b,rK c,rC d]
def at0:Ans pr 14 [.nils,.i .i64 0] (.i .i64 0):=zab (n:=1000) (zad pr) (by kernel_rfl)
def txt:Nat->Str
 |0=>[]
 |1=>txR
 |2=>txR++txS
 |3=>txR++(txS++txK)
 |_=>txR++(txS++(txK++txC))
def P11(l:List Rl)(s:St):Prop:=(s.tm.get 1=some (.f .nils)/\s.tm.get 2=some (.ptr 0 4 0 0)/\s.tm.get 4=some (.ptr 1 4 0 0)/\s.h.get 0=some (.arr 4 0 [[.f (zc3 l),.f .nils,.f .nils,.f .nils]])/\s.h.get 1=some (.arr 4 0 [[.f .nils,.f .nils,.f .nils,.f .nils]]))/\2<=s.c
def J11(l:List Rl)(n:Nat)(s:St):Prop:=P11 l s/\(s.tm.get 5=some (.f (.s (txt n)))/\s.tm.get 6=some (.f (.i .i64 n)))
def ans11(a b c d:List (List Int×List F)):Ans pr 11 [.ag [zc3 (rl4 a b c d),.nils,.nils,.nils],.nils] (.ag [zc3 (rl4 a b c d),.nils,.nils,.nils]):=by
 refine zb6 fn11 ?_;have hlen:(rl4 a b c d).length=4:=rfl;have q1:=fun k=>zaj (k:=k) fmR
 have q2:=fun k=>zaj (k:=k) fmS
 have q3:=fun k=>zaj (k:=k) fmK
 have q4:=fun k=>zaj (k:=k) fmC
 have q5:=fun k=>zaj (k:=k) zLN
 have q6:=fun k=>zaj (k:=k) zLc
 have q7:=fun k=>zaj (k:=k) at0
 simp only[g11,rU];simp[rW,st0,zax,zkW,zBH];refine zcz 4 (J11 (rl4 a b c d)) (fun x s=>x= .exit 0/\J11 (rl4 a b c d) 4 s) ?_ ?_ _ ⟨⟨⟨?_,?_,?_,?_,?_⟩,?_⟩,?_,?_⟩ ?_
 .rintro n s hn ⟨⟨⟨h1,h2,h4,g0,g1⟩,hc⟩,h5,h6⟩;have n0:¬0=s.c:=by omega
  have n1:¬1=s.c:=by omega
  have hn4:n=0\/n=1\/n=2\/n=3:=by omega
  have x0:(rl4 a b c d)[0]? =some (rR a):=rfl;have x1:(rl4 a b c d)[1]? =some (rS b):=rfl;have x2:(rl4 a b c d)[2]? =some (rK c):=rfl;have x3:(rl4 a b c d)[3]? =some (rC d):=rfl;rcases hn4 with rfl|rfl|rfl|rfl
  .have y:∀h,(rl4 a b c d)[0]'h=rR a:=fun _=>rfl
   have f1:(rR a).nm=[82]:=rfl;have f2:(rR a).ce=false:=rfl;have f3:(rR a).co=coR:=rfl;have f4:coR.d= .f coR:=rfl;have f5:(D.f coR).cells=some [.f coR]:=rfl;have hw:IntKind.i64.wrap 1=1:=by decide
   have et:txt 0++txR=txt 1:=by simp[txt]
   simp[rW,h1,h2,h4,h5,h6,g0,g1,zeM,hlen,zj9,x0,y,f1,f2,f3,f4,f5,rlE,q1,hw,et];exact⟨⟨⟨by simp[rW,h1],by simp[rW,h2],by simp[rW,h4],by simp[rW,g0,n0],by simp[rW,g1,n1]⟩,by simp[rW]<;>omega⟩,by simp[rW,et],by simp[rW,hw]⟩
  .have y:∀h,(rl4 a b c d)[1]'h=rS b:=fun _=>rfl
   have f1:(rS b).nm=[83]:=rfl;have f2:(rS b).ce=false:=rfl;have f3:(rS b).co=coS:=rfl;have f4:coS.d= .f coS:=rfl;have f5:(D.f coS).cells=some [.f coS]:=rfl;have hw:IntKind.i64.wrap 2=2:=by decide
   have et:txt 1++txS=txt 2:=by simp[txt]
   simp[rW,h1,h2,h4,h5,h6,g0,g1,zeM,hlen,zj9,x1,y,f1,f2,f3,f4,f5,rlE,q2,hw,et];exact⟨⟨⟨by simp[rW,h1],by simp[rW,h2],by simp[rW,h4],by simp[rW,g0,n0],by simp[rW,g1,n1]⟩,by simp[rW]<;>omega⟩,by simp[rW,et],by simp[rW,hw]⟩
  .have y:∀h,(rl4 a b c d)[2]'h=rK c:=fun _=>rfl
   have f1:(rK c).nm=[75]:=rfl;have f2:(rK c).ce=false:=rfl;have f3:(rK c).co=coK:=rfl;have f4:coK.d= .f coK:=rfl;have f5:(D.f coK).cells=some [.f coK]:=rfl;have hw:IntKind.i64.wrap 3=3:=by decide
   have et:txt 2++txK=txt 3:=by simp[txt]
   simp[rW,h1,h2,h4,h5,h6,g0,g1,zeM,hlen,zj9,x2,y,f1,f2,f3,f4,f5,rlE,q3,hw,et];exact⟨⟨⟨by simp[rW,h1],by simp[rW,h2],by simp[rW,h4],by simp[rW,g0,n0],by simp[rW,g1,n1]⟩,by simp[rW]<;>omega⟩,by simp[rW,et],by simp[rW,hw]⟩
  .have y:∀h,(rl4 a b c d)[3]'h=rC d:=fun _=>rfl
   have f1:(rC d).nm=[67]:=rfl;have f2:(rC d).ce=true:=rfl;have f3:(rC d).co=coC:=rfl;have f4:coC.d= .f coC:=rfl;have f5:(D.f coC).cells=some [.f coC]:=rfl;have hw:IntKind.i64.wrap 4=4:=by decide
   have et:txt 3++txC=txt 4:=by simp[txt]
   simp[rW,h1,h2,h4,h5,h6,g0,g1,zeM,hlen,zj9,x3,y,f1,f2,f3,f4,f5,rlE,q4,hw,et];exact⟨⟨⟨by simp[rW,h1],by simp[rW,h2],by simp[rW,h4],by simp[rW,g0,n0],by simp[rW,g1,n1]⟩,by simp[rW]<;>omega⟩,by simp[rW,et],by simp[rW,hw]⟩
 .rintro s ⟨⟨⟨h1,h2,h4,g0,g1⟩,hc⟩,h5,h6⟩;simp[rW,h2,h6,g0,zeM,hlen];exact⟨⟨⟨by simp[rW,h1],by simp[rW,h2],by simp[rW,h4],by simp[rW,g0],by simp[rW,g1]⟩,by simp[rW,hc]⟩,by simp[rW,h5],by simp[rW,h6]⟩
 .simp[rW]
 .simp[rW]
 .simp[rW]
 .simp[rW]
 .simp[rW]
 .simp[rW]
 .simp[rW,txt]
 .simp[rW]
 .rintro x s ⟨rfl,⟨⟨h1,h2,h4,g0,g1⟩,hc⟩,h5,h6⟩;have hr:zbk .rem (.i .i64 0) (.i .i64 4)=some (.i .i64 0):=by rfl
  simp[rW,h1,h2,h4,h5,g0,g1,q5];refine zeD (fun k s=>P11 (rl4 a b c d) s/\(s.tm.get 5=some (.f (.s (txt 4)))/\s.tm.get 8=some (.f (.i .i64 0)))) (fun x s=>x= .exit 2/\P11 (rl4 a b c d) s/\s.tm.get 5=some (.f (.s (txt 4)))) ?_ 0 _ ⟨⟨⟨?_,?_,?_,?_,?_⟩,?_⟩,?_,?_⟩ ?_
  .clear h1 h2 h4 h5 h6 g0 g1 hc s;rintro k s ⟨⟨⟨h1,h2,h4,g0,g1⟩,hc⟩,h5,h8⟩;simp[rW,h1,h8,q7,hr];exact⟨⟨⟨by simp[rW,h1],by simp[rW,h2],by simp[rW,h4],by simp[rW,g0],by simp[rW,g1]⟩,by simp[rW,hc]⟩,by simp[rW,h5]⟩
  .simp[rW,h1]
  .simp[rW,h2]
  .simp[rW,h4]
  .simp[rW,g0]
  .simp[rW,g1]
  .simp[rW,hc]
  .simp[rW,h5]
  .simp[rW]
  .clear h1 h2 h4 h5 h6 g0 g1 hc s;rintro x s ⟨rfl,⟨⟨h1,h2,h4,g0,g1⟩,hc⟩,h5⟩;have et:txt 4=txR++(txS++(txK++txC)):=rfl;rw[et]at h5;have n0:¬0=s.c:=by omega
   have n1:¬1=s.c:=by omega
   simp[rW,h1,h2,h4,h5,g0,g1,q6,n0,n1];refine zaM ?_;simp[rW,h1,h2,h4,h5,g0,g1,n0,n1]
def ans4(x:F)(hx:zdu x)(hxd:x.d= .f x):∃L:List RB,LOk L/\(∃q,L[0]? =some q/\q.1.ce=false)/\L.length=4/\(∀p∈L,p.1.nm=[82]/\p.1.co=coR/\p.1.ce=false\/p.1.nm=[83]/\p.1.co=coS/\p.1.ce=false\/p.1.nm=[75]/\p.1.co=coK/\p.1.ce=false\/p.1.nm=[67]/\p.1.co=coC/\p.1.ce=true)/\Ans pr 4 [x,.nils] (.ag (pgF L)):=by
 obtain⟨a,b,c,d,⟨ha,ga⟩,⟨hb,gb⟩,⟨hc,gc⟩,⟨hd,gd⟩,ar⟩ :=ans12 x hx hxd;obtain⟨Ba,xa⟩ :=gxR ha.1 ha.2 ga;obtain⟨Bb,xb⟩ :=gxS hb.1 hb.2 gb;obtain⟨Bc,xc⟩ :=gxK hc.1 hc.2 gc;obtain⟨Bd,xd⟩ :=gxC hd.1 hd.2 gd;refine⟨[(rR a,Ba),(rS b,Bb),(rK c,Bc),(rC d,Bd)],⟨by simp,?_,?_⟩,⟨_,rfl,rfl⟩,rfl,?_,zb6 fn4 ?_⟩
 .intro p hp;simp only[Z5,Z164,or_false]at hp;rcases hp with rfl|rfl|rfl|rfl
  .exact xa
  .exact xb
  .exact xc
  .exact xd
 .intro m n p q hm hn hlt;have e0:(rR a).nm=[82]:=rfl;have e1:(rS b).nm=[83]:=rfl;have e2:(rK c).nm=[75]:=rfl;have e3:(rC d).nm=[67]:=rfl;have hn4:n<4:=by
   rcases Z145 n 4 with h|h
   .exact h
   .rw[Z97 (by simpa using h)]at hn;cases hn
  have c4:(m=0/\n=1)\/(m=0/\n=2)\/(m=0/\n=3)\/(m=1/\n=2)\/(m=1/\n=3)\/(m=2/\n=3):=by omega
  rcases c4 with⟨rfl,rfl⟩ |⟨rfl,rfl⟩ |⟨rfl,rfl⟩ |⟨rfl,rfl⟩ |⟨rfl,rfl⟩ |⟨rfl,rfl⟩ <;>cases hm<;>cases hn<;>simp only[e0,e1,e2,e3]<;>decide
 .intro p hp;simp only[Z5,Z164,or_false]at hp;rcases hp with rfl|rfl|rfl|rfl
  .exact .inl ⟨rfl,rfl,rfl⟩
  .exact .inr (.inl ⟨rfl,rfl,rfl⟩)
  .exact .inr (.inr (.inl ⟨rfl,rfl,rfl⟩))
  .exact .inr (.inr (.inr ⟨rfl,rfl,rfl⟩))
 have e:slc 4 ([rR a,rS b,rK c,rC d].map rlF)=zc3 (rl4 a b c d):=rfl;rw[e]at ar;have q1:=fun k=>zaj (k:=k) ar
 have q2:=fun k=>zaj (k:=k) (ans11 a b c d)
 simp only[g4,rU];simp[rW,st0,zax,hxd,q1,zkW,zBH,q2,pgF];rfl
def fn6:pr.fn 6=some g6:=by kernel_rfl
def wE(w:List Int):List (List D):=(w.map fun k=>[F.i .i64 k]).map fun a=>a.map D.f
def zMl(a b:List Int):wE (a++b)=wE a++wE b:=by simp[wE]
def zCI(w:List Int):(wE w).length=w.length:=by simp[wE]
def J6(x:F)(B:List (List (List F)))(n:Nat)(s:St):Prop:=∃d w,(s.tm.get 1=some (.f x)/\s.tm.get 2=some (.ptr 0 1 0 0)/\s.tm.get 5=some (d)/\s.tm.get 6=some (.f (.i .i64 n))/\s.h.get 0=some (.arr 1 0 [[.f (spF B)]]))/\1<=s.c/\Gro s.h 1 s.c 1 d (wE w)/\w.length=n/\okW w B=true
theorem zwT:∀{w:List Int} {B:List (List (List F))} {b:List (List F)} {z:Int},okW w B=true->B[w.length]? =some b->-1<=z->z<b.length->okW (w++[z]) B=true
 |[],b0::B,b,z,_,h,h1,h2=>by
  cases h;simp[okW,h1,h2]
 |[],[],_,_,_,h,_,_=>by simp at h
 |a::w,[],_,_,_,h,_,_=>by simp at h
 |a::w,b0::B,b,z,hO,h,h1,h2=>by
  simp only[okW,Z14,Z29]at hO|-;exact⟨hO.1,zwT hO.2 (by simpa using h) h1 h2⟩
def ans6{x:F}(hx:zdu x)(hxd:x.d= .f x){B:List (List (List F))}(hB:B.length<=24)(hb:∀b∈B,b.length<=3):∃w,isW w B=true/\Ans pr 6 [.ag [spF B],x] (wF w):=by
 have main:∃y,(∃w,y=wF w/\isW w B=true)/\Ans pr 6 [.ag [spF B],x] y:=by
  refine znH fn6 ?_;simp only[g6,rU];simp[rW,st0,zax,zfD,zew,hxd];refine zcz B.length (J6 x B) (fun e s=>e= .exit 0/\J6 x B B.length s) ?_ ?_ _ ⟨.f .nils,[],⟨?_,?_,?_,?_,?_⟩,?_,.inl ⟨rfl,rfl⟩,rfl,rfl⟩ ?_
  .rintro n s hlt ⟨d,w,⟨h1,h2,h5,h6,g0⟩,hc,hg,hwl,hO⟩;have hw:=zaK n (by omega);have hy:B[n]? =some B[n]:=Z0 hlt;have hbl:=hb _ (Z1 hlt);generalize hY:B[n]=b at hy hbl;obtain⟨a,ha,aa⟩ :=zhJ hx n (by omega);have qa:=fun k=>zaj (k:=k) aa
   have hw1:IntKind.i64.wrap ((b.length:Int)+1)=((b.length+1:Nat):Int):=zaK b.length (by omega);have hrem:=zdA a (b.length+1) (by omega);have hm:a%(b.length+1)<b.length+1:=Z124 _ (by omega);generalize a%(b.length+1)=m at hrem hm;have hsub:IntKind.i64.wrap ((m:Int) - 1)=(m:Int) - 1:=IntWalk.i64_in _ (by omega);have hrem2:zbk .rem (.i .i64 a) (.i .i64 ((b.length:Int)+1))=some (.i .i64 (m:Int)):=by
    have e:((b.length+1:Nat):Int)=(b.length:Int)+1:=by omega
    rw[<-e];exact hrem
   simp[rW,h1,h2,h5,h6,g0,hlt,zfX];refine zaM ?_;simp[rW,h1,h2,h5,h6,g0,hlt,qa,zhW,hy,hY,zeL,hw1,hrem,hrem2,hsub];refine zde (new:=wE [(m:Int) - 1]) (zeI hg ?_ fun _ _ _=>rfl) ?_ ?_ (by omega) ?_
   .omega
   .omega
   .rw[zCI,zCI];simp;omega
   intro r1 hr1 hr2 hr3 hr4 hr5;refine⟨hr1,?_⟩;rw[<-zMl]at hr2;simp[rW,h1,h2,h5,h6,g0,hw];exact⟨r1.d,w++[(m:Int) - 1],⟨by simp[rW,h1],by simp[rW,h2],by simp[rW],by simp[rW,hw],by simp[rW];rw[hr4 0 (by omega) (fun h=>by have:=zaU hg h;omega)];exact g0⟩,by simp[rW],by simp[rW];exact zeI hr2 (by omega) fun _ _ _=>rfl,by simp[hwl],zwT hO (by rw[hwl];exact hy) (by omega) (by omega)⟩
  .rintro s ⟨d,w,⟨h1,h2,h5,h6,g0⟩,hc,hg,hwl,hO⟩;simp[rW,h1,h2,h5,h6,g0,zfX];exact⟨d,w,⟨by simp[rW,h1],by simp[rW,h2],by simp[rW,h5],by simp[rW,h6],by simp[rW,g0]⟩,by simp[rW];omega,by simp[rW];simpa using hg,hwl,hO⟩
  .simp[rW]
  .simp[rW]
  .simp[rW]
  .simp[rW]
  .simp[rW]
  .simp[rW]
  .rintro e s ⟨rfl,d,w,⟨h1,h2,h5,h6,g0⟩,hc,hg,hwl,hO⟩;obtain⟨rd,hf⟩ :=zfx (k:=11) hg (zmS s.h.get 10 _) (by simp[wE]);simp[rW,h5,hf];exact⟨w,rfl,by simp[isW,hwl,hO]⟩
 obtain⟨_,⟨w,rfl,h⟩,ha⟩ :=main;exact⟨w,h,ha⟩
def fn7:pr.fn 7=some g7:=by kernel_rfl
def fn15:pr.fn 15=some g15:=by kernel_rfl
def fn42:pr.fn 42=some g42:=by kernel_rfl
def ssA:∀c∈zcH,Ans pr 41 [.ag c,.ag c] (.b true):=by
 intro c hc;simp only[zcH,Z5,Z164,or_false]at hc;rcases hc with rfl|rfl|rfl|rfl<;>exact zab (n:=2000) (zad pr) (by kernel_rfl)
def fsA:Ans pr 43 [.ag [.b false,.sl 1 [[.i .u32 1]],.sl 1 [[.i .u32 1]]],.ag [.b false,.sl 1 [[.i .u32 1]],.sl 1 [[.i .u32 1]]]] (.b true):=zab (n:=1000) (zad pr) (by kernel_rfl)
def vfE(z:Int):Sm.vF z=[.i .i64 1,.i .i64 z,.s []]:=rfl
def vEq(z:Int):za5 [0,0,1] [.f (.i .i64 1),.f (.i .i64 z),.f (.s [])] [.f (.i .i64 1),.f (.i .i64 z),.f (.s [])]=some true:=by
 simp[za5]
def J42(v:List Int)(n:Nat)(s:St):Prop:=s.tm.get 0=some (.f (valsF v))/\s.tm.get 1=some (.f (valsF v))/\s.tm.get 5=some (.f (.i .i64 n))
def ans42(v:List Int)(hv:v.length<1000):Ans pr 42 [valsF v,valsF v] (.b true):=by
 refine zb6 fn42 ?_;simp only[g42,rU];simp[rW,st0,zax,zaH,zcL];refine zcz v.length (J42 v) (fun e s=>e= .exit 0) ?_ ?_ _ ⟨?_,?_,?_⟩ ?_
 .rintro n s hlt ⟨h0,h1,h5⟩;have hw:=zaK n (by omega);have hx:v[n]? =some v[n]:=Z0 hlt;generalize hA:v[n]=z at hx;simp[rW,h0,h1,h5,hlt,zcL];refine zaM ?_;simp[rW,h0,h1,h5,hlt,zcL,zic,hx,hA,vfE,vEq,hw];exact⟨by simp[rW,h0],by simp[rW,h1],by simp[rW,hw]⟩
 .rintro s ⟨h0,h1,h5⟩;simp[rW,h0,h5,zcL]
 .simp[rW]
 .simp[rW]
 .simp[rW]
 .rintro e s rfl;simp[rW]
def tuE(v:List Int)(p:List F):tuF (v,p)=valsF v::p:=rfl
theorem wEc{ops:List (Go.Vse.Op×Nat)}(n:Nat){L:List (List Nat×List Nat)}{s:St}{Q:St->Prop}(h:∀T,T=ops.drop n->wpE pr L (ops.take n++T) s Q):wpE pr L ops s Q:=by
 have:=h _ rfl
 rwa[List.take_append_drop] at this
def J15(nm:Str)(ce:Bool)(co:F)(t:List (List Int×List F))(n:Nat)(s:St):Prop:=s.tm.get 2=some (.ptr 0 4 0 0)/\s.tm.get 3=some (.ptr 1 4 0 0)/\s.tm.get 5=some (.f (.i .i64 n))/\s.h.get 0=some (.arr 4 0 [[.f (.s nm),.f (.b ce),.f co,.f (zaW t)]])/\s.h.get 1=some (.arr 4 0 [[.f (.s nm),.f (.b ce),.f co,.f (zaW t)]])
def ans15(r:Rl)(hs:[.s r.nm,.b r.ce,r.co]∈zcH)(hn:r.tu.length<1000)(ht:∀T∈r.tu,T.1.length<1000/\T.2=zeR)(hcd:r.co.d= .f r.co):Ans pr 15 [.ag (rlF r),.ag (rlF r)] (.b true):=by
 obtain⟨nm,ce,co,t⟩ :=r;refine zb6 fn15 ?_;have q1:=fun k=>zaj (k:=k) (ssA _ hs)
 simp only at hs hn ht q1 hcd;simp only[g15,rU];simp[rW,st0,zax,rlE,hcd,zd5,q1,zfc];have q2:=fun k=>zaj (k:=k) fsA
 refine zcz t.length (J15 nm ce co t) (fun e s=>e= .exit 0) ?_ ?_ _ ⟨?_,?_,?_,?_,?_⟩ ?_
 .rintro n s hlt ⟨h2,h3,h5,g0,g1⟩;have hw:=zaK n (by omega);have hx:t[n]? =some t[n]:=Z0 hlt;have hT:=ht _ (Z1 hlt);generalize hA:t[n]=z at hx hT;obtain⟨v,p⟩ :=z;obtain⟨hv,hp⟩ :=hT;simp only at hv hp;subst hp;have q3:=fun k=>zaj (k:=k) (ans42 v hv)
  simp[rW,h2,h3,h5,g0,g1,rlE,hlt,zfc,zd5];refine zaM (wEc 15 fun T hT=>?_);simp only[List.take,List.drop,List.cons_append,List.nil_append] at hT ⊢;simp[rW,h2,h3,h5,g0,g1,rlE,hlt,zfc,zd5,zfZ,hx,hA,tuE,zaH,q3,zeR];subst hT;simp[rW,h2,h3,h5,g0,g1,rlE,hlt,zfc,zd5,zfZ,hx,hA,tuE,zaH,zeR,q2,hw];exact⟨by simp[rW,h2],by simp[rW,h3],by simp[rW,hw],by simp[rW,g0],by simp[rW,g1]⟩
 .rintro s ⟨h2,h3,h5,g0,g1⟩;simp[rW,h2,h3,h5,g0,g1,rlE,zfc,zd5]
 .simp[rW]
 .simp[rW]
 .simp[rW]
 .simp[rW]
 .simp[rW]
 .rintro e s rfl;simp[rW]
def SmO(r:Rl):Prop:=[.s r.nm,.b r.ce,r.co]∈zcH/\r.tu.length<1000/\(∀T∈r.tu,T.1.length<1000/\T.2=zeR)/\r.co.d= .f r.co
def J7(l:List Rl)(n:Nat)(s:St):Prop:=s.tm.get 0=some (.f (zc3 l))/\s.tm.get 1=some (.f (zc3 l))/\s.tm.get 5=some (.f (.i .i64 n))
def ans7(l:List Rl)(hl:l.length<1000)(h:∀r∈l,SmO r):Ans pr 7 [zc3 l,zc3 l] (.b true):=by
 refine zb6 fn7 ?_;simp only[g7,rU];simp[rW,st0,zax,zkW,zeM];refine zcz l.length (J7 l) (fun e s=>e= .exit 0) ?_ ?_ _ ⟨?_,?_,?_⟩ ?_
 .rintro n s hlt ⟨h0,h1,h5⟩;have hw:=zaK n (by omega);have hx:l[n]? =some l[n]:=Z0 hlt;have hT:=h _ (Z1 hlt);generalize hA:l[n]=r at hx hT;have q:=fun k=>zaj (k:=k) (ans15 r hT.1 hT.2.1 hT.2.2.1 hT.2.2.2)
  have e:rlF r=[.s r.nm,.b r.ce,r.co,zaW r.tu]:=rfl;have hcd:=hT.2.2.2;rw[e]at q;simp[rW,h0,h1,h5,hlt,zeM];refine zaM ?_;simp[rW,h0,h1,h5,hlt,zeM,zj9,hx,hA,e,hcd,zd5,q,hw];exact⟨by simp[rW,h0],by simp[rW,h1],by simp[rW,hw]⟩
 .rintro s ⟨h0,h1,h5⟩;simp[rW,h0,h5,zeM]
 .simp[rW]
 .simp[rW]
 .simp[rW]
 .rintro e s rfl;simp[rW]
def nilSr:Ans pr 7 [.nils,.nils] (.b true):=zab (n:=1000) (zad pr) (by kernel_rfl)
def fn3:pr.fn 3=some g3:=by kernel_rfl
def zKr{r:Rl}{B:List (List Nat)}(h:∀b∈B,b.length<=3):∀b∈B.map (bP r),b.length<=3:=by
 intro b hb;obtain⟨c,hc,rfl⟩ :=Z12.1 hb;simpa [bP]using h c hc
def spL_b{L:List RB}(h:LOk L):∀b∈spL L,b.length<=3:=by
 intro b hb;simp only[spL,Z38]at hb;obtain⟨p,hp,hb⟩ :=hb;exact zKr (fun c hc=>((h.g p hp).b c hc).1) b hb
theorem znT(ch:List (Nat×Nat)):∀(n:Nat) (L:List RB),(zc7 ch n L).length=L.length
 |_,[]=>rfl
 |n,p::L=>by simp[zc7,znT ch (n+1) L]
theorem zwE{ch:List (Nat×Nat)}:∀{n:Nat} {L:List RB},(∀p∈L,Gx p.1 p.2)->(∀p∈L,[.s p.1.nm,.b p.1.ce,p.1.co]∈zcH/\p.1.co.d= .f p.1.co)->∀r∈zc7 ch n L,SmO r
 |_,[],_,_,r,hr=>by simp[zc7]at hr
 |n,p::L,hG,hS,r,hr=>by
  simp only[zc7,Z5]at hr;rcases hr with rfl|hr
  .have g:=hG p (by simp);have h:=hS p (by simp);have hl:=@znU n p.1 ch p.1.tu.length;refine⟨h.1,Z188 hl ?_,?_,h.2⟩
   .have:=g.k.n;omega
   .intro T hT;simp only[zuC,zha,Z12]at hT;obtain⟨j,hj,rfl⟩ :=hT;refine⟨?_,rfl⟩;cases h5:p.1.tu[j]? with
    |none=>simp
    |some T=>exact Nat.lt_trans (g.k.l T (Z39 h5)) (by omega)
  .exact zwE (fun q hq=>hG q (by simp[hq])) (fun q hq=>hS q (by simp[hq])) r hr
def zIi{y:F}(h:zdu y):∃e w,y=wG e w:=by
 rcases h with rfl|⟨zs,rfl⟩
 .exact⟨false,[],rfl⟩
 .cases zs with
  |nil=>exact⟨true,[],rfl⟩
  |cons z zs=>exact⟨false,z::zs,rfl⟩
def ans3{x xr y:F}(hx:zdu x)(hr:zdu xr)(hy:zdu y):Ans pr 3 [x,xr,y] (.b true):=by
 obtain⟨e,w,rfl⟩ :=zIi hy;have hxd:x.d= .f x:=by rcases hx with rfl|⟨_,rfl⟩ <;>rfl
 have hrd:xr.d= .f xr:=by rcases hr with rfl|⟨_,rfl⟩ <;>rfl
 obtain⟨L,hL,hU,h4,hS,aP⟩ :=ans4 x hx hxd;obtain⟨v,hv,aW⟩ :=ans6 hr hrd (zib hL) (spL_b hL);have hS2:∀p∈L,[.s p.1.nm,.b p.1.ce,p.1.co]∈zcH/\p.1.co.d= .f p.1.co:=by
  intro p hp;rcases hS p hp with⟨h1,h2,h3⟩ |⟨h1,h2,h3⟩ |⟨h1,h2,h3⟩ |⟨h1,h2,h3⟩ <;>rw[h1,h2,h3]<;>exact⟨by simp[zcH],rfl⟩
 have refl:∀b:Bool,∀u:List Int,Ans pr 7 [if b=true then zc3 (zc7 (chs (rfL L) u) 0 L)else .nils,if b=true then zc3 (zc7 (chs (rfL L) u) 0 L)else .nils] (.b true):=by
  intro b u;cases b with
  |false=>exact nilSr
  |true=>exact ans7 _ (by rw[znT];omega) (zwE hL.g hS2)
 have i1:=ans8 hL hU false v;have i2:=ans9 hL false v;have i3:=ans8 hL hU e w;have i4:=ans9 hL e w;have r1:=refl (isW v (spL L)) v;have r2:=refl (isW w (spL L)) w;rw[hv]at i1 i2 r1;simp only[Z60,wG_f]at i1 i2 r1;have hlen:zcE (.f (zc3 (zc7 (chs (rfL L) v) 0 L)))=some 4:=by rw[zeM,znT,h4]
 generalize hz:(if isW w (spL L)=true then zc3 (zc7 (chs (rfL L) w) 0 L)else F.nils)=z at i3 i4 r2;have hzd:z.d= .f z:=by
  rw[<-hz];split
  .exact zkW _
  .rfl
 generalize hz1:zc3 (zc7 (chs (rfL L) v) 0 L)=z1 at i1 i2 r1 hlen;have hz1d:z1.d= .f z1:=by rw[<-hz1];exact zkW _
 have q1:=fun k=>zaj (k:=k) aP
 have q2:=fun k=>zaj (k:=k) (ans5 hL)
 have q3:=fun k=>zaj (k:=k) aW
 have q4:=fun k=>zaj (k:=k) i1
 have q5:=fun k=>zaj (k:=k) i2
 have q6:=fun k=>zaj (k:=k) i3
 have q7:=fun k=>zaj (k:=k) i4
 have q8:=fun k=>zaj (k:=k) r1
 have q9:=fun k=>zaj (k:=k) r2
 have q10:=fun k=>zaj (k:=k) ans10
 have wfd:(wF v).d= .f (wF v):=w_d false v;simp only[pgF]at q1 q2 q4 q5 q6 q7;refine zb6 fn3 ?_;simp only[g3,rU]
 by_cases hw:w.length<=12
 .have hw2:decide ((w.length:Int)>12)=false:=by simp;omega
  simp[rW,st0,zax,hxd,hrd,w_d,zeU,hw2,q1,zgj,zgV,q2,zfD,zew,ziF,q3,wfd];refine zaM ?_;simp[rW,wfd,q4,q5,q6,q7,q8,q9,q10,w_d,hzd,hz1d,hlen,zgj,zgV]
 .have hw2:decide ((w.length:Int)>12)=true:=by simp;omega
  simp[rW,st0,zax,hxd,hrd,w_d,zeU,hw2]
end Go.Proofs.YtlinkhjnihjbaaaGreatDoor
end
