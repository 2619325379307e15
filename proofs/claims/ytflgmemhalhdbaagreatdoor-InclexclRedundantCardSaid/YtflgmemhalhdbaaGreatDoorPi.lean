/- The program's search is laid. -/
import Derived.Test.YtflgmemhalhdbaaGreatDoorPh
import Derived.KernelRfl
import Derived.IntWalk
set_option linter.all false
set_option maxRecDepth 100000
set_option maxHeartbeats 4000000
namespace Go.Proofs.YtflgmemhalhdbaaGreatDoor
open Go Go.Vse Go.Vse.Sm
def fn69:pr.fn 69=some g69:=by kernel_rfl
def LL(h:T Ob)(lo c N n:Nat)(f:Nat->List Nat)(av:Option Nat):Prop:=∃els:List D,els.length=n/\h.get N=some (.arr 1 0 (els.map fun e=>[e]))/\(∀r (hr:r<els.length),Gro h lo c 1 els[r] (iE (f r)))/\(∀r r' (hr:r<els.length) (hr':r'<els.length),r≠r'->∀x,els[r].oid=some x->els[r'].oid≠some x)/\∀r (hr:r<els.length) x,els[r].oid=some x->av≠some x
def LL.up{h h':T Ob}{lo c c' N n:Nat}{f:Nat->List Nat}{av av':Option Nat}(H:LL h lo c N n f av)(hN:h'.get N=h.get N)(hf:∀id,lo<=id->id<c->h'.get id=h.get id)(hc:c<=c')(hav:∀x,av'=some x->av=some x\/c<=x\/x<lo):LL h' lo c' N n f av':=by
 obtain⟨els,e1,e2,e3,e4,e5⟩ :=H;refine⟨els,e1,by rw[hN];exact e2,fun r hr=>zbh (e3 r hr) hc hf,e4,fun r hr x hx hxa=> ?_⟩;rcases hav x hxa with h1|h1|h1
 .exact e5 r hr x hx h1
 .rcases e3 r hr with⟨g1,_⟩ |⟨id,ro,g1,_,_,_,g5,g6⟩
  .rw[g1]at hx;simp[D.oid]at hx
  .rw[g1]at hx;simp[D.oid]at hx;omega
 .rcases e3 r hr with⟨g1,_⟩ |⟨id,ro,g1,_,_,_,g5,g6⟩
  .rw[g1]at hx;simp[D.oid]at hx
  .rw[g1]at hx;simp[D.oid]at hx;omega
def LL.rdN{h:T Ob}{lo c c' N n I A:Nat}{f:Nat->List Nat}(H:LL h lo c N n f none)(hc:c<=c')(hN:N<c')(h1:N≠I)(h2:N≠A)(h3:I<lo)(h4:A<lo):RdN h c' I A n (.sl N 0 n 1 n true) f:=by
 obtain⟨els,e1,e2,e3,e4,e5⟩ :=H;refine⟨N,0,_,rfl,e2,hN,h1,h2,fun v hv=> ?_⟩;have hr:v<els.length:=by omega
 refine⟨els[v],zhW hr,?_,zbi (e3 v hr) h3,zbi (e3 v hr) h4⟩;rcases (e3 v hr).held with hh|⟨id,ro,e1,e2,e3,e4,e5⟩
 .exact .inr (.inl hh)
 .exact .inr (.inr ⟨id,ro,e1,e2,e3,Z62 _,by omega⟩)
theorem LL.step{h:T Ob}{lo c N n v i:Nat}{f:Nat->List Nat}{av:Option Nat}(H:LL h lo c N n f av)(hv:v<n)(hN:N<lo)(hlo:lo<=c)(hlen:(f v).length<=1000)(hav:∀x,av=some x->x<c/\x≠N):∃rows e,h.get N=some (.arr 1 0 rows)/\rows[v]? =some [e]/\hd8 rows=false/\
  ∀(c1:Nat) (rd:List Nat) (K:Rs->Prop),c<=c1->(∀r:Rs,zaq r.c r.wr=true->c1<=r.c->r.d.cells=some [r.d]->(∀x∈r.wr.map (·.1),lo<=x)->(wrT h r.wr).get N=some (.arr 1 0 rows)->LL ((wrT h r.wr).set N (.arr 1 0 (rows.set v [r.d]))) lo r.c N n (fun u=>if u=v then f u++[i]else f u) av->
   (∀id,id<c->(id<lo/\id≠N)\/av=some id->((wrT h r.wr).set N (.arr 1 0 (rows.set v [r.d]))).get id=h.get id)->K r)->oB (zbr 1 8 h.get c1 e [[D.f (.i .i64 (i:Int))]] rd) K:=by
 obtain⟨els,e1,e2,e3,e4,e5⟩ :=H;have hre:v<els.length:=by omega
 have hg:=e3 v hre;refine⟨els.map fun e=>[e],els[v],e2,zhW hre,?_,?_⟩
 .cases hE:els with
  |nil=>rfl
  |cons x l=>
   have h0:0<els.length:=by rw[hE];simp
   have:=zdv (e3 0 h0);simp only[hE,List.getElem_cons_zero]at this;exact znz this _
 intro c1 rd K hc1 hK;obtain⟨r,hr0,hr1,hr2,hr3,hr4,hr6,_,hr5⟩ :=zq9 (byt:=8) (rd:=rd) (new:=[[D.f (.i .i64 (i:Int))]]) (zbh (c':=c1) hg hc1 fun _ _ _=>rfl) (by omega) (by rw[zcs];simp;omega) (by omega);rw[hr0];show K r;have hNo:els[v].oid≠some N:=zbi hg (by omega);have hNc:N<c1:=by omega
 have hfr:∀id,id<c->(id<lo/\id≠N)\/av=some id->((wrT h r.wr).set N (.arr 1 0 ((els.map fun e=>[e]).set v [r.d]))).get id=h.get id:=by
  intro id hid hh;have hne:id≠N:=by
   rcases hh with hh|hh
   .exact hh.2
   .exact (hav _ hh).2
  rw[TG,Z50 hne,hr4 id (by omega)];rcases hh with hh|hh
  .exact zbi hg hh.1
  .intro e;exact e5 v hre id e hh
 have hwr:∀x∈r.wr.map (·.1),lo<=x:=by
  intro x hx;rcases hr6 x hx with rfl|hx
  .omega
  .rcases hg with⟨g1,_⟩ |⟨id,ro,g1,_,_,_,g5,g6⟩
   .rw[g1]at hx;simp[D.oid]at hx
   .rw[g1]at hx;simp[D.oid]at hx;omega
 refine hK r hr1 hr3 (zbj hr2) hwr ((hr4 N hNc hNo).trans e2) ?_ hfr;refine⟨els.set v r.d,by simpa using e1,by simp[TG,Z117],fun q hq=> ?_,fun q q' hq hq' hne x hx=> ?_,fun q hq x hx=> ?_⟩
 .have hq:q<els.length:=by simpa using hq
  by_cases hqr:q=v
  .subst hqr;simp only[Z78,Z61];rw[<-zuU];refine zbh hr2 (Z3 _) fun id h1 _=> ?_
   rw[TG,Z50 (by omega)]
  .have hqr':¬v=q:=fun e=>hqr e.symm
   simp only[Z71 hqr',hqr,Z64];rcases e3 q hq with hgq|⟨id,ro,g1,g2,g3,g4,g5,g6⟩
   .exact .inl hgq
   .refine .inr ⟨id,ro,g1,g2,?_,g4,g5,by omega⟩;rw[TG,Z50 (by omega),hr4 id (by omega) ?_]
    .exact g3
    .exact e4 q v hq hre hqr id (by rw[g1];rfl)
 .have hq:q<els.length:=by simpa using hq
  have hq':q'<els.length:=by simpa using hq'
  by_cases hqr:v=q
  .subst hqr;have hqr':¬v=q':=hne;simp only[Z78]at hx;simp only[Z71 hqr'];rcases hr5 x hx with rfl|hx
   .intro e;rcases e3 q' hq' with⟨g1,_⟩ |⟨id,ro,g1,_,_,_,_,g6⟩
    .rw[g1]at e;simp[D.oid]at e
    .rw[g1]at e;simp[D.oid]at e;omega
   .exact e4 v q' hq hq' hqr' x hx
  .simp only[Z71 hqr]at hx
   by_cases hqr':v=q'
   .subst hqr';simp only[Z78];intro e;rcases hr5 x e with rfl|e
    .rcases e3 q hq with⟨g1,_⟩ |⟨id,ro,g1,_,_,_,_,g6⟩
     .rw[g1]at hx;simp[D.oid]at hx
     .rw[g1]at hx;simp[D.oid]at hx;omega
    .exact e4 q v hq hq' hne x hx e
   .simp only[Z71 hqr'];exact e4 q q' hq hq' hne x hx
 .have hq:q<els.length:=by simpa using hq
  by_cases hqr:v=q
  .subst hqr;simp only[Z78]at hx;rcases hr5 x hx with rfl|hx
   .intro e;have:=(hav _ e).1;omega
   .exact e5 v hq x hx
  .simp only[Z71 hqr]at hx;exact e5 q hq x hx
structure NSt(ns:List Str)(h:T Ob)(c S M:Nat)(cells:List D)(ents:List (F×D)):Prop where
 gS:h.get S=some (.arr 11 0 [cells])
 gM:h.get M=some (.map ents)
 bS:S<c
 bM:M<c
 ne:S≠M
def NSt.up{ns:List Str}{h h':T Ob}{c c' S M:Nat}{cells:List D}{ents:List (F×D)}(H:NSt ns h c S M cells ents)(hf:∀id,id<c->h'.get id=h.get id)(hc:c<=c'):NSt ns h' c' S M cells ents:=
 ⟨by rw[hf S H.bS];exact H.gS,by rw[hf M H.bM];exact H.gM,Z16 H.bS hc,Z16 H.bM hc,H.ne⟩
theorem zuY(x:Str):∀(l:List Str) (j:Nat),zj9 j (l++[x])=zj9 j l++[(F.s x,D.f (.i .i64 ((j+l.length:Nat):Int)))]
 |[],j=>by simp[zj9]
 |y::l,j=>by
  simp only[Z30,zj9,zuY x l (j+1),Z24];rw[show j+1+l.length=j+(l.length+1) by omega]
def zE6(l:List Str)(x:Str):ixE (l++[x])=ixE l++[(F.s x,D.f (.i .i64 (l.length:Int)))]:=by
 unfold ixE;rw[zuY];simp
def zex(a b:CQ)(ns:List Str)(M:Nat)(dI dA dNA dNC dT:D):List D:=[.f (zaM ns),.mp M,dI,dA,.f (zaS a),.f (zaQ a),dNA,dNC,.f (zaS b),.f (zaQ b),dT]
def N1(a b:CQ)(ns:List Str)(h:T Ob)(c S M:Nat)(k:Nat)(s:St):Prop:=
 (s.tm.get 2=some (.ptr c 2 0 0)/\s.tm.get 3=some (.ptr (c+1) 2 0 0)/\s.tm.get 5=some (.ptr S 11 0 0)/\s.tm.get 35=some (.f (zaM ns))/\s.tm.get 36=some (.f (.i .i64 ns.length))/\s.tm.get 37=some (.f (.i .i64 k)))/\s.h.get c=some (.arr 2 0 [[.f (zaS a),.f (zaQ a)]])/\s.h.get (c+1)=some (.arr 2 0 [[.f (zaS b),.f (zaQ b)]])/\NSt ns s.h s.c S M (zex a b ns M (.f .nils) (.f .nils) (.f .nils) (.f .nils) (.f .nils)) (ixE (ns.take k))/\Frm h s.h c/\c+2<=S/\c+2<=M/\s.lw<=s.c
def zgW(c:CQ):(vrs c).Nodup/\[]∉vrs c:=by
 have key:∀(l:List Str) (s:Str),(l.Nodup/\[]∉l)->(zcL l s).Nodup/\[]∉zcL l s:=by
  rintro l s ⟨h1,h2⟩;unfold zcL;split
  .exact⟨h1,h2⟩
  .rename_i h;simp only[not_or,Z31,not_exists,not_and]at h;refine⟨Z91.2 ⟨h1,by simp,?_⟩,?_⟩
   .intro a ha b hb;simp at hb;subst hb;intro e;subst e;exact h.2 a ha (by simp)
   .simp only[Z5,Z32,not_or];exact⟨h2,fun e=>h.1 e.symm⟩
 rw[<-zjA];generalize tsC c=ts;have:∀(ts:List Trm) (l:List Str),(l.Nodup/\[]∉l)->(ts.foldl (fun l t=>zcL l (tv t)) l).Nodup/\[]∉ts.foldl (fun l t=>zcL l (tv t)) l:=by
  intro ts
  induction ts with
  |nil=>intro l h;exact h
  |cons t ts ih=>intro l h;exact ih _ (key l (tv t) h)
 exact this ts [] ⟨by simp,by simp⟩
def zkC(l:List Str):(D.f (zaM l)).cells=some [.f (zaM l)]:=zih _ _
def zQo(c:CQ):(D.f (zaS c)).cells=some [.f (zaS c)]:=by
 unfold zaS Sm.asF;split
 .rfl
 .exact zih _ _
def zQs(c:CQ):(D.f (zaQ c)).cells=some [.f (zaQ c)]:=by
 unfold zaQ csF;split
 .rfl
 .exact zih _ _
def RdI.upO{h h':T Ob}{c c':Nat}{d:D}{l:List Nat}(H:RdI h c d l)(hf:∀id,id<c->d.oid=some id->h'.get id=h.get id)(hc:c<=c'):RdI h' c' d l:=by
 rcases H with H|H|⟨id,ro,e1,e2,e3,e4,e5⟩
 .exact .inl H
 .exact .inr (.inl H)
 .exact .inr (.inr ⟨id,ro,e1,e2,by rw[hf id e5 (by rw[e1];rfl)];exact e3,e4,by omega⟩)
structure Lay(a b:CQ)(ns:List Str)(h:T Ob)(c S M I A NA NC:Nat)(dT:D):Prop where
 gS:h.get S=some (.arr 11 0 [zex a b ns M (.sl I 0 ns.length 4 ns.length true) (.sl A 0 ns.length 1 ns.length true) (.sl NA 0 ns.length 1 ns.length true) (.sl NC 0 ns.length 1 ns.length true) dT])
 gM:h.get M=some (.map (ixE ns))
 gI:h.get I=some (.arr 4 0 (zaH (List.replicate ns.length (.var []))))
 gA:h.get A=some (.arr 1 0 (bE (List.replicate ns.length false)))
 o1:M<S
 o2:S<I
 o3:I<A
 o4:A<NA
 o5:NA<NC
 o6:NC<c
def Lay.up{a b:CQ}{ns:List Str}{h h':T Ob}{c c' S M I A NA NC:Nat}{dT:D}(H:Lay a b ns h c S M I A NA NC dT)(hf:∀id,id<NA->h'.get id=h.get id)(hc:c<=c'):Lay a b ns h' c' S M I A NA NC dT:=by
 obtain⟨g1,g2,g3,g4,o1,o2,o3,o4,o5,o6⟩ :=H;exact⟨by rw[hf S (by omega)];exact g1,by rw[hf M (by omega)];exact g2,by rw[hf I (by omega)];exact g3,by rw[hf A (by omega)];exact g4,o1,o2,o3,o4,o5,by omega⟩
def Lay.setT{a b:CQ}{ns:List Str}{h h':T Ob}{c c' S M I A NA NC:Nat}{dT dT':D}(H:Lay a b ns h c S M I A NA NC dT)(hS:h'.get S=some (.arr 11 0 [zex a b ns M (.sl I 0 ns.length 4 ns.length true) (.sl A 0 ns.length 1 ns.length true) (.sl NA 0 ns.length 1 ns.length true) (.sl NC 0 ns.length 1 ns.length true) dT']))(hf:∀id,id<NA->id≠S->h'.get id=h.get id)(hc:c<=c'):Lay a b ns h' c' S M I A NA NC dT':=by
 obtain⟨g1,g2,g3,g4,o1,o2,o3,o4,o5,o6⟩ :=H;exact⟨hS,by rw[hf M (by omega) (by omega)];exact g2,by rw[hf I (by omega) (by omega)];exact g3,by rw[hf A (by omega) (by omega)];exact g4,o1,o2,o3,o4,o5,by omega⟩
def Lay.ix{a b:CQ}{ns:List Str}{h:T Ob}{c S M I A NA NC:Nat}{dT:D}(H:Lay a b ns h c S M I A NA NC dT):SIx ns h c S M:=
 ⟨⟨0,_,H.gS,rfl⟩,H.gM,by have:=H.o2;have:=H.o3;have:=H.o4;have:=H.o5;have:=H.o6;omega,by have:=H.o1;have:=H.o2;have:=H.o3;have:=H.o4;have:=H.o5;have:=H.o6;omega⟩
def Bas(a b:CQ)(ns:List Str)(h:T Ob)(c S M I A NA NC:Nat)(dT:D)(s:St):Prop:=
 (s.tm.get 2=some (.ptr c 2 0 0)/\s.tm.get 3=some (.ptr (c+1) 2 0 0)/\s.tm.get 5=some (.ptr S 11 0 0))/\s.h.get c=some (.arr 2 0 [[.f (zaS a),.f (zaQ a)]])/\s.h.get (c+1)=some (.arr 2 0 [[.f (zaS b),.f (zaQ b)]])/\Lay a b ns s.h s.c S M I A NA NC dT/\Frm h s.h c/\c+2<=M
def zzZ(ns:List Str)(a:CQ)(i v:Nat):Bool:=match a.as[i]? with
 |some x=>(nums ns x.ts).any (v== ·)
 |none=>false
def fA(ns:List Str)(a:CQ)(k v:Nat):List Nat:=(List.range k).filter fun i=>zzZ ns a i v
def zz0(ns:List Str)(a:CQ)(i v:Nat):Bool:=match a.cs[i]? with
 |some x=>(nums ns (ts2 x)).any (v== ·)
 |none=>false
def fC(ns:List Str)(a:CQ)(k v:Nat):List Nat:=(List.range k).filter fun i=>zz0 ns a i v
def fIn(f:Nat->List Nat)(k:Nat)(L:List Nat)(q u:Nat):List Nat:=f u++if u∈L.take q then[k]else[]
def zIa(f:Nat->List Nat)(k:Nat)(L:List Nat):fIn f k L 0=f:=by funext u;simp[fIn]
def zw0(f:Nat->List Nat)(k:Nat)(L:List Nat)(hn:L.Nodup)(q:Nat)(hq:q<L.length):(fun u=>if u=L[q]then fIn f k L q u++[k]else fIn f k L q u)=fIn f k L (q+1):=by
 funext u
 unfold fIn;have hts:L.take (q+1)=L.take q++[L[q]]:=by rw[Z106,Z0 hq];rfl
 have hout:L[q]∉L.take q:=by
  intro hm;have h2:(L.take q++L.drop q).Nodup:=by rw[Z95];exact hn
  rw[Z91,Z56 hq]at h2;exact h2.2.2 _ hm _ (Z155) rfl
 by_cases hu:u=L[q]
 .subst hu;rw[Z52 rfl,Z50 hout,hts,Z52 (Z97 _ (Z32.2 rfl)),Z23]
 .have hiff:(u∈L.take q++[L[q]])↔u∈L.take q:=by
   constructor
   .intro h;rcases Z5.1 h with h|h
    .exact h
    .exact absurd (Z32.1 h) hu
   .exact fun h=>Z103 _ h
  rw[Z50 hu,hts]
  by_cases h:u∈L.take q
  .rw[Z52 h,Z52 (hiff.2 h)]
  .rw[Z50 h,Z50 (fun h2=>h (hiff.1 h2))]
theorem zlw(ns:List Str):∀(ts:List Trm) (l:List Nat),l.Nodup->(ts.foldl (addN ns) l).Nodup
 |[],l,h=>h
 |t::ts,l,h=>by
  refine zlw ns ts (addN ns l t) ?_;unfold addN;split
  .rename_i hc;refine Z91.2 ⟨h,by simp,?_⟩;intro x hx y hy;simp at hy;subst hy;intro e;subst e;have:=hc.2.2;simp only[Z194]at this;exact absurd (by simp) (this _ hx)
  .exact h
def zRx(ns:List Str)(a:CQ)(k:Nat)(hk:k<a.as.length):fIn (fA ns a k) k (nums ns a.as[k].ts) (nums ns a.as[k].ts).length=fA ns a (k+1):=by
 funext u
 unfold fIn fA;rw[Z8,Z137,Z100,Z128,Z138]
 congr 1
 unfold zzZ;rw[Z0 hk]
 by_cases h:u∈nums ns a.as[k].ts<;>simp[h]
def zRz(ns:List Str)(a:CQ)(k:Nat)(hk:k<a.cs.length):fIn (fC ns a k) k (nums ns (ts2 a.cs[k])) (nums ns (ts2 a.cs[k])).length=fC ns a (k+1):=by
 funext u
 unfold fIn fC;rw[Z8,Z137,Z100,Z128,Z138]
 congr 1
 unfold zz0;rw[Z0 hk]
 by_cases h:u∈nums ns (ts2 a.cs[k])<;>simp[h]
def zCe(ns:List Str)(a:CQ)(k v:Nat):(fA ns a k v).length<=k:=by
 have:=Z77 (fun i=>zzZ ns a i v) (List.range k);simpa [fA]using this
def zCf(ns:List Str)(a:CQ)(k v:Nat):(fC ns a k v).length<=k:=by
 have:=Z77 (fun i=>zz0 ns a i v) (List.range k);simpa [fC]using this
def zdA(h:T Ob)(lo c es:Nat)(d:D)(els:List (List D)):Prop:=
 (d= .f .nils/\els=[])\/∃id,d= .sl id 0 els.length es els.length false/\els≠[]/\h.get id=some (.arr es 0 els)/\lo<=id/\id<c
def zfM{h h':T Ob}{lo c c' es:Nat}{d:D}{els:List (List D)}(hg:zdA h lo c es d els)(hc:c<=c')(hh:∀id,lo<=id->id<c->h'.get id=h.get id):zdA h' lo c' es d els:=by
 rcases hg with h|⟨id,h1,h2,h3,h5,h6⟩
 .exact .inl h
 .exact .inr ⟨id,h1,h2,by rw[hh id h5 h6];exact h3,h5,by omega⟩
def zpQ{h:T Ob}{lo c es:Nat}{d:D}{els:List (List D)}(hg:zdA h lo c es d els):d.cells=some [d]:=by
 rcases hg with⟨rfl,_⟩ |⟨id,rfl,_⟩ <;>rfl
def zcI{h:T Ob}{lo c es:Nat}{d:D}{els:List (List D)}(hg:zdA h lo c es d els){x:Nat}(hx:d.oid=some x):lo<=x/\x<c:=by
 rcases hg with⟨rfl,_⟩ |⟨id,rfl,_,_,h3,h4⟩
 .simp[D.oid]at hx
 .simp[D.oid]at hx;omega
theorem zq7{h:T Ob}{lo c es byt:Nat}{d:D}{els new:List (List D)}{rd:List Nat}{K:Rs->Prop}(hg:zdA h lo c es d els)(hlo:lo<=c)(hlen:els.length+new.length<=1000000)(hb:byt<=1000)
  (hK:∀r:Rs,zaq r.c r.wr=true->zdA (wrT h r.wr) lo r.c es r.d (els++new)->c<=r.c->(∀id,id<c->d.oid≠some id->(wrT h r.wr).get id=h.get id)->(∀x,x∈r.wr.map (·.1)->x=c\/d.oid=some x)->K r):oB (zbr es byt h.get c d new rd) K:=by
 have hm:∀n,n<=1000000->n<=zak:=fun n hn=>by have:=za2 (n:=n) (by omega);simpa using this
 have hmb:∀n,n<=1000000->n*byt<=zak:=fun n hn=>by
  have:n*byt<=1000000*1000:=Z145 hn hb;have h2:=za2 (n:=n*byt) (by omega);simpa using h2
 have key:∃r,zbr es byt h.get c d new rd=some r/\zaq r.c r.wr=true/\zdA (wrT h r.wr) lo r.c es r.d (els++new)/\c<=r.c/\(∀id,id<c->d.oid≠some id->(wrT h r.wr).get id=h.get id)/\
   (∀x,x∈r.wr.map (·.1)->x=c\/d.oid=some x):=by
  by_cases h0:new.length=0
  .have hn:new=[]:=Z18.1 h0;subst hn;rcases hg with⟨rfl,rfl⟩ |⟨id,rfl,he,ho,hl,hc⟩
   .exact⟨{d:= .f .nils,rd,c},by rw[ziO];simp,rfl,.inl ⟨rfl,rfl⟩,Z3 _,fun _ _ _=>rfl,by simp⟩
   .exact⟨{d:= .sl id 0 els.length es els.length false,rd,c},by rw[znm];simp,rfl,.inr ⟨id,by simp,by simpa using he,by simpa [wrT]using ho,hl,hc⟩,Z3 _,fun _ _ _=>rfl,by simp⟩
  .rcases hg with⟨rfl,rfl⟩ |⟨id,rfl,he,ho,hl,hc⟩
   .refine⟨{d:= .sl c 0 new.length es new.length false,rd,wr:=[(c,some (.arr es 0 new))],c:=c+1},?_,?_,.inr ⟨c,rfl,?_,?_,hlo,by simp⟩,by simp,?_,by simp⟩
    .rw[ziO,Z50 h0,Z52 ⟨hm _ (by simpa using hlen),hmb _ (by simpa using hlen)⟩]
    .simp[zaq,Z80]
    .simpa using fun e=>h0 (by simp[e])
    .simp[wrT,T.zab]
    .intro i hi _;have:i≠c:=by omega
     simp[wrT,T.zab,this]
   .refine⟨{d:= .sl c 0 (els.length+new.length) es (els.length+new.length) false,rd:=id::rd,wr:=[(id,none),(c,some (.arr es 0 (els++new)))],c:=c+1},?_,?_,.inr ⟨c,by simp,?_,?_,hlo,by simp⟩,by simp,?_,?_⟩
    .rw[znm,Z50 h0,ho];have h1:¬(0+els.length+new.length<=els.length):=by omega
     have h2:=hm (els.length+new.length) hlen;have h3:=hmb (els.length+new.length) hlen;simp[om,apO,h1,h2,h3];omega
    .simp[zaq,Z80];omega
    .simp[he]
    .simp[wrT,T.zab]
    .intro i hi hne;have h1:i≠c:=by omega
     have h2:i≠id:=fun e=>hne (by rw[e];rfl)
     simp[wrT,T.zab,T.zeF,h1,h2]
    .intro x hx;simp only[Z11,Z86,Z6,Z165,or_false]at hx;rcases hx with rfl|rfl
     .exact .inr rfl
     .exact .inl rfl
 obtain⟨r,h1,h2,h3,h4,h5,h6⟩ :=key;rw[h1];exact hK r h2 h3 h4 h5 h6
def JT(a b:CQ)(ns:List Str)(h:T Ob)(c S M I lo6 lo7:Nat)(l:List Trm)(s:St):Prop:=
 ∃d,Bas a b ns h c S M I (I+1) (I+2) (I+3) d s/\(I+3<lo6/\lo6<=lo7/\LL s.h (I+4) lo6 (I+2) ns.length (fA ns a a.as.length) none)/\LL s.h lo6 lo7 (I+3) ns.length (fC ns a a.cs.length) none/\zdA s.h lo7 s.c 4 d (zaH l)/\lo7<=s.c/\s.lw<=s.c
def JT1(a b:CQ)(ns:List Str)(h:T Ob)(c S M I lo6 lo7:Nat)(n:Nat)(l:List Trm)(s:St):Prop:=JT a b ns h c S M I lo6 lo7 l s/\s.tm.get 159=some (.f (zaS b))/\s.tm.get 160=some (.f (.i .i64 b.as.length))/\s.tm.get 161=some (.f (.i .i64 n))
def JT2(a b:CQ)(ns:List Str)(h:T Ob)(c S M I lo6 lo7:Nat)(n:Nat)(l:List Trm)(s:St):Prop:=JT a b ns h c S M I lo6 lo7 l s/\s.tm.get 177=some (.f (zaQ b))/\s.tm.get 178=some (.f (.i .i64 b.cs.length))/\s.tm.get 179=some (.f (.i .i64 n))
def JU(a b:CQ)(ns:List Str)(h:T Ob)(c S M I lo6 lo7:Nat)(l:List Trm)(d:D)(n:Nat)(s:St):Prop:=
 Bas a b ns h c S M I (I+1) (I+2) (I+3) d s/\(I+3<lo6/\lo6<=lo7/\LL s.h (I+4) lo6 (I+2) ns.length (fA ns a a.as.length) none)/\LL s.h lo6 lo7 (I+3) ns.length (fC ns a a.cs.length) none/\zdA s.h lo7 s.c 4 d (zaH l)/\lo7<=s.c/\s.lw<=s.c/\s.tm.get 200=some (d)/\s.tm.get 201=some (.f (.i .i64 l.length))/\s.tm.get 202=some (.f (.i .i64 n))
def zqx{c:CQ}(hc:CqOk c):∀t∈tsC c,zaL t:=by
 intro t ht;unfold tsC tsA at ht;rcases Z5.1 ht with h|h
 .obtain⟨x,h1,h2⟩ :=Z39.1 h;exact (hc.as x h1).1 t h2
 .obtain⟨x,h1,h2⟩ :=Z39.1 h;simp only[ts2,Z6,Z165,or_false]at h2;rcases h2 with rfl|rfl
  .exact (hc.cs x h1).1
  .exact (hc.cs x h1).2
def zsB(l:List Trm):(zfc l).length=l.length:=List.length_mergeSort _
def zvN{l:List Trm}(h:∀t∈l,zaL t):∀t∈zfc l,zaL t:=fun t ht=>h t (by simpa [zfc]using ht)
def zlg{f:Nat}{args:List D}{h:T Ob}{c:Nat}{P Q:D->T Ob->Nat->Prop}(H:Eff pr f args h c P)(hpq:∀d h' c',c<=c'->P d h' c'->Q d h' c'):Eff pr f args h c Q:=by
 obtain⟨q,h1,h2,h3,h4⟩ :=H;exact⟨q,h1,hpq _ _ _ h3 h2,h3,h4⟩
theorem eff85(l:List Trm)(hok:∀t∈l,zaL t)(hl:l.length<50){h:T Ob}{lo c:Nat}{d:D}(hg:zdA h lo c 4 d (zaH l)):
  Eff pr 85 [d,.f (.fn 86)] h c fun _ h' c'=>zdA h' lo c' 4 d (zaH (zfc l))/\∀j,j<c->d.oid≠some j->h'.get j=h.get j:=by
 have hlen:(zaH l).length=l.length:=by simp[zbD]
 have hlen2:(zaH (zfc l)).length=l.length:=by rw[zbD];exact List.length_mergeSort _
 rcases hg with⟨rfl,hn⟩ |⟨id,rfl,hne,hr,hlo,hid⟩
 .have hl0:l=[]:=Z18.1 (by rw[<-hlen,hn];rfl);subst hl0;refine zlg zRm ?_;rintro _ h' c' _ rfl;exact⟨.inl ⟨rfl,by simp[zfc];rfl⟩,fun _ _ _=>rfl⟩
 .rw[hlen];refine zlg (zRd l hok hl hid hr) ?_;rintro _ h' c' hc ⟨h1,h2⟩;refine⟨.inr ⟨id,by rw[hlen2],?_,h1,hlo,by omega⟩,fun j hj hne2=>h2 j hj (fun e=>hne2 (by rw[e];rfl))⟩;intro e;rw[e]at hlen2;rw[<-hlen]at hlen2;exact hne (Z18.1 hlen2.symm)
def zRo{h:T Ob}{c:Nat}:Eff pr 87 [.f .nils,.f (.fn 88)] h c fun d h' _=>d= .f .nils/\∀j,j<c->h'.get j=h.get j:=by
 refine zcG za0 fn87 ?_;simp only[g87,rU];simp[rW,st0,zah,zcp]
theorem zRn(l:List Trm)(hok:∀t∈l,zaL t)(hl:l.length<100000){h:T Ob}{lo c:Nat}{d:D}(hg:zdA h lo c 4 d (zaH l)):
  Eff pr 87 [d,.f (.fn 88)] h c fun d' h' c'=>RdT h' c' d' (cpt l)/\d'.cells=some [d']/\(∀x,d'.oid=some x->lo<=x)/\∀j,j<c->d.oid≠some j->h'.get j=h.get j:=by
 rcases hg with⟨rfl,h0⟩ |⟨id,rfl,h1,gI,b1,b2⟩
 .have h2:l=[]:=Z18.1 (by rw[<-zbD l,h0];rfl);subst h2;refine zlg zRo ?_;rintro d' h' c' hc ⟨rfl,hf⟩;exact⟨.inl ⟨rfl,rfl⟩,rfl,by simp[D.oid],fun j hj _=>hf j hj⟩
 .rw[zbD];refine zlg (eff87 l hok hl gI b2) ?_;rintro d' h' c' hc ⟨els,rfl,g1,g2,hf⟩;refine⟨?_,rfl,fun x hx=>by simp[D.oid]at hx;omega,fun j hj hne=>hf j hj fun e=>hne (by rw[e];rfl)⟩;exact .inr ⟨id,_,_,els,0,rfl,g1,g2,by omega⟩
def zou{h:T Ob}{lo c es:Nat}{d:D}{els:List (List D)}(hg:zdA h lo c es d els):zbv d=some els.length:=by
 rcases hg with⟨rfl,rfl⟩ |⟨id,rfl,_⟩ <;>rfl
def JA(a b:CQ)(ns:List Str)(h:T Ob)(c S M I:Nat)(k:Nat)(s:St):Prop:=
 Bas a b ns h c S M I (I+1) (I+2) (I+3) (.f .nils) s/\(s.tm.get 86=some (.f (zaS a))/\s.tm.get 87=some (.f (.i .i64 a.as.length))/\s.tm.get 88=some (.f (.i .i64 k)))/\s.h.get (I+3)=some (.arr 1 0 (List.replicate ns.length [.f .nils]))/\LL s.h (I+4) s.c (I+2) ns.length (fA ns a k) none/\s.lw<=s.c
def JAI(a b:CQ)(ns:List Str)(h:T Ob)(c S M I:Nat)(L:List Nat)(k:Nat)(dl:D)(q:Nat)(s:St):Prop:=
 Bas a b ns h c S M I (I+1) (I+2) (I+3) (.f .nils) s/\(s.tm.get 86=some (.f (zaS a))/\s.tm.get 87=some (.f (.i .i64 a.as.length))/\s.tm.get 88=some (.f (.i .i64 k))/\s.tm.get 8=some (.f (.i .i64 k))/\s.tm.get 96=some (dl)/\s.tm.get 97=some (.f (.i .i64 L.length))/\s.tm.get 98=some (.f (.i .i64 q)))/\s.h.get (I+3)=some (.arr 1 0 (List.replicate ns.length [.f .nils]))/\LL s.h (I+4) s.c (I+2) ns.length (fIn (fA ns a k) k L q) dl.oid/\RdI s.h s.c dl L/\(∀x,dl.oid=some x->I+3<x/\x<s.c)/\s.lw<=s.c
def JB(a b:CQ)(ns:List Str)(h:T Ob)(c S M I lo6:Nat)(k:Nat)(s:St):Prop:=
 Bas a b ns h c S M I (I+1) (I+2) (I+3) (.f .nils) s/\(s.tm.get 121=some (.f (zaQ a))/\s.tm.get 122=some (.f (.i .i64 a.cs.length))/\s.tm.get 123=some (.f (.i .i64 k)))/\(I+3<lo6/\lo6<=s.c/\LL s.h (I+4) lo6 (I+2) ns.length (fA ns a a.as.length) none)/\LL s.h lo6 s.c (I+3) ns.length (fC ns a k) none/\s.lw<=s.c
def JBI(a b:CQ)(ns:List Str)(h:T Ob)(c S M I lo6:Nat)(L:List Nat)(k:Nat)(dl:D)(q:Nat)(s:St):Prop:=
 Bas a b ns h c S M I (I+1) (I+2) (I+3) (.f .nils) s/\(s.tm.get 121=some (.f (zaQ a))/\s.tm.get 122=some (.f (.i .i64 a.cs.length))/\s.tm.get 123=some (.f (.i .i64 k))/\s.tm.get 12=some (.f (.i .i64 k))/\s.tm.get 134=some (dl)/\s.tm.get 135=some (.f (.i .i64 L.length))/\s.tm.get 136=some (.f (.i .i64 q)))/\(I+3<lo6/\lo6<=s.c/\LL s.h (I+4) lo6 (I+2) ns.length (fA ns a a.as.length) none)/\LL s.h lo6 s.c (I+3) ns.length (fIn (fC ns a k) k L q) dl.oid/\RdI s.h s.c dl L/\(∀x,dl.oid=some x->I+3<x/\x<s.c)/\s.lw<=s.c
def P25(a b:CQ)(ns:List Str)(h:T Ob)(c:Nat)(d:D)(h':T Ob)(c':Nat):Prop:=∃(S M I A:Nat) (dA dC dT:D),d= .ptr S 11 0 0/\SAt a b ns (List.replicate ns.length (.var [])) (List.replicate ns.length false) dA dC dT h' c' S M I A/\znQ a b ns dA dC dT (cpt (zfc (tsC b))) (fA ns a a.as.length) (fC ns a a.cs.length) h' c' I A/\Frm h h' c/\c<M/\M<S/\S<I/\I<A
def eff69(a b:CQ)(ha:CqSm a)(hb:CqSm b){h:T Ob}{c:Nat}:Eff pr 69 [.ag [.f (zaS a),.f (zaQ a)],.ag [.f (zaS b),.f (zaQ b)]] h c (P25 a b (vrs a) h c):=by
 refine zcG za0 fn69 ?_;simp only[g69,rU];have q:=fun k=>zav (k:=k) (zsO a ha)
 simp only[cqE]at q;obtain⟨hnd,hne⟩ :=zgW a;have hnl:=zk1 ha;generalize vrs a=ns at q hnd hne hnl|-;generalize hPP:P25 a b ns h c=PP;have nc1:¬c=c+1:=by omega
 simp[rW,st0,zah];refine zaF ?_;simp[rW,st0,zah,q,zcb,nc1,zbN,zkC,zQo,zQs];refine⟨⟨by omega,by omega⟩,?_⟩;have hS:c+1+1+1+1+1+1+1+1+1+1+1+1=c+12:=rfl;refine zdo ns.length (N1 a b ns h c (c+12) (c+9)) (fun x s=>x= .exit 0/\N1 a b ns h c (c+12) (c+9) ns.length s) ?_ ?_ _ ?_ ?_
 .rintro k s hk ⟨⟨h2,h3,h5,h35,h36,h37⟩,g0,g1,HN,hf,hcS,hcM,hlw⟩;have hw:=zao k (by omega);have gS:=HN.gS;have gM:=HN.gM;have hbM:=HN.bM;have hx:ns[k]? =some ns[k]:=Z0 hk;have hout:ns[k]∉ns.take k:=by
   intro hm;have h2:(ns.take k++ns.drop k).Nodup:=by rw[Z95];exact hnd
   rw[Z91]at h2;rw[Z56 hk]at h2;exact h2.2.2 _ hm _ (Z155) rfl
  have hk2:=zmw hout;have hts:ns.take (k+1)=ns.take k++[ns[k]]:=by rw[Z106,hx];rfl
  have hie:ixE (ns.take (k+1))=ixE (ns.take k)++[(F.s ns[k],D.f (.i .i64 (k:Int)))]:=by rw[hts,zE6,Z42,Z74 (by omega)]
  generalize hxe:ns[k]=x at hx hk2 hie;simp only[zex]at gS;simp[rW,h2,h3,h5,h35,h36,h37,hk,zco,hx,hxe,gS,gM,hk2,hw,N1,hbM];refine⟨g0,g1,⟨?_,?_,HN.bS,HN.bM,HN.ne⟩,fun id hid=> ?_,Z4 (zcu _ _) hlw⟩
  .rw[TG,Z50 (by omega)];exact gS
  .rw[TG,Z52 rfl,hie]
  .rw[TG,Z50 (by omega)];exact hf id hid
 .rintro s ⟨⟨h2,h3,h5,h35,h36,h37⟩,g0,g1,HN,hf,hcS,hcM,hlw⟩;rw[Z8]at HN;simp[rW,h2,h3,h5,h35,h36,h37,N1,g0,g1];exact⟨HN,hf,hlw⟩
 .have z1:¬c=c+1+1+1+1+1+1+1+1+1+1+1+1:=by omega
  have z2:¬c=c+1+1+1+1+1+1+1+1+1:=by omega
  simp[rW,N1,nc1,z1,z2];refine⟨⟨?_,?_,by omega,by omega,by omega⟩,fun id hid=> ?_,?_⟩
  .simp[TG,zex,ixE,zj9]
  .simp[TG,zex,ixE,zj9]
  .simp only[TG];(repeat rw[Z50 (by omega)])
  ·(repeat refine Z4 (zcu _ _) ?_)
   omega
 .rintro x s ⟨rfl,⟨h2,h3,h5,h35,h36,h37⟩,g0,g1,HN,hf,hcS,hcM,hlw⟩;obtain⟨I,hI⟩ :∃I,I=s.c:=⟨_,rfl⟩
  have gS:=HN.gS;have gM:=HN.gM;have hbS:=HN.bS;have hbM:=HN.bM;simp only[zex]at gS;have nSc:¬c+12=s.c:=by omega
  have m1:(ns.length<=zak)=True:=za2 (by omega);have m48:(ns.length*48<=zak)=True:=za2 (by omega);have m24:(ns.length*24<=zak)=True:=za2 (by omega);have nSc1:¬c+12=s.c+1:=by omega
  have nSc2:¬c+12=s.c+1+1:=by omega
  have nSc3:¬c+12=s.c+1+1+1:=by omega
  have ncc:¬c=s.c:=by omega
  have ncc1:¬c=s.c+1:=by omega
  have ncc2:¬c=s.c+1+1:=by omega
  have ncc3:¬c=s.c+1+1+1:=by omega
  simp[rW,h2,h3,h5,h35,h36,h37,gS,zqH,zbN,m1,m48,m24,nSc,nSc1,nSc2,nSc3,ncc,ncc1,ncc2,ncc3,g0,zeu];refine⟨by omega,by omega,by omega,by omega,?_⟩;refine zdo a.as.length (JA a b ns h c (c+12) (c+9) I) (fun x s=>x= .exit 2/\JA a b ns h c (c+12) (c+9) I a.as.length s) ?_ ?_ _ ?_ ?_
  .rintro k s hk ⟨⟨⟨h2,h3,h5⟩,gb0,gb1,HL,hf,hcM⟩,⟨h86,h87,h88⟩,hX,hLL,hlw⟩;have hw:=zao k (by have:=ha.sa;omega);have o1:=HL.o1;have o2:=HL.o2;have o3:=HL.o3;have o4:=HL.o4;have o5:=HL.o5;have o6:=HL.o6;have hsuc:=zRx ns a k hk;have hst:=ha.st _ (Z2 hk);generalize hA:a.as[k]=X at hsuc hst;have hA':a.as[k]? =some X:=by rw[Z0 hk,hA]
   have hnn:=zlw ns (X.ts) [] List.nodup_nil;have hnv:=zgQ (ns:=ns) (X.ts) [] (by simp);have hnlen:=zic ns (X.ts) [];rw[show(X.ts).foldl (addN ns) []=nums ns (X.ts)from rfl]at hnn hnv hnlen;have hnlen:(nums ns (X.ts)).length<=12:=by simpa using Z4 hnlen (by simpa using hst)
   simp[rW,h2,h3,h5,h86,h87,h88,hk,zeK,hA',hA,atE];refine zer rfl rfl (zyZ (HL.up ?_ ?_).ix hne (X.ts) (.inl rfl) (by omega)) ?_
   .intro id hid;simp only[rG];simp only[TG];(repeat rw[Z50 (by omega)])
   .simp only[rG];omega
   .intro dl h' c' lw mx hp hcc;obtain⟨hfr,hg⟩ :=hp;simp only[rG]at hfr hcc hg;generalize nums ns (X.ts)=L at hsuc hnn hnv hnlen hg;have hfr2:∀id,id<s.c->h'.get id=s.h.get id:=by
     intro id hid;rw[hfr id (by omega)];simp only[TG];(repeat rw[Z50 (by omega)])
    have hdlo:∀x,dl.oid=some x->s.c<x/\x<c':=by
     intro x hx;rcases hg with⟨g1,_⟩ |⟨id,ro,g1,_,_,_,g5,g6⟩
     .rw[g1]at hx;simp[D.oid]at hx
     .rw[g1]at hx;simp[D.oid]at hx;omega
    have hrdl:RdI h' c' dl L:=by
     rcases hg.held with hh|⟨id,ro,e1,e2,e3,e4,e5⟩
     .exact .inr (.inl hh)
     .exact .inr (.inr ⟨id,ro,e1,e2,e3,Z62 _,e5⟩)
    have hll1:=hLL.up (h':=h') (c':=c') (av':=dl.oid) (hfr2 _ (by omega)) (fun id _ h2=>hfr2 id h2) (by omega) (fun x hx=> .inr (.inl (by have:=hdlo x hx;omega)));simp[rW,zdv hg,zcs];refine zdo L.length (JAI a b ns h c (c+12) (c+9) I L k dl) (fun x s=>x= .exit 4/\JAI a b ns h c (c+12) (c+9) I L k dl L.length s) ?_ ?_ _ ?_ ?_
    .rintro n s hn ⟨⟨⟨h2,h3,h5⟩,gb0,gb1,HL,hf,hcM⟩,⟨h86,h87,h88,h8,h96,h97,h98⟩,hX,hLL,hrd,hdl,hlw⟩;have hwn:=zao n (by omega);have hwk:=hw;obtain⟨p,rd,hp1,hp2⟩ :=hrd.get hn;have hvn:=hnv _ (Z2 hn);have hfs:=zw0 (fA ns a k) k L hnn n hn;have hflen:(fIn (fA ns a k) k L n L[n]).length<=1000:=by
      have:=zCe ns a k L[n];unfold fIn;rw[Z17];split
      .simp;have:=ha.sa;omega
      .simp;have:=ha.sa;omega
     obtain⟨rows,e,hN1,hN2,hN3,hstep⟩ :=LL.step (i:=k) hLL hvn (by have:=HL.o5;have:=HL.o6;omega) (by have:=HL.o5;have:=HL.o6;omega) hflen (fun x hx=>⟨hdl x hx |>.2,by have:=(hdl x hx).1;have:=HL.o5;have:=HL.o6;omega⟩);rw[hfs]at hstep;generalize L[n]=v at hp2 hvn hN2 hstep;have gS:=HL.gS;simp only[zex]at gS;have o6':=HL.o6;simp[rW,h2,h3,h5,h86,h87,h88,h8,h96,h97,h98,hn,hp1,hp2];refine zaF ?_;simp[rW,h2,h3,h5,h86,h87,h88,h8,h96,h97,h98,gS,hvn,hN1,hN2];refine hstep _ _ _ (by omega) ?_;intro r hr1 hr2 hr3 hr4 hr5 hr6 hr7;have hdj:zcM (r.wr.map fun x=>x.1) [c+12]:=by
      intro x hx;have:=hr4 x hx;simp;omega
     refine⟨hr1,hdj,?_⟩;simp[rW,hr5,hN2,hr3,hN3];refine⟨by omega,?_⟩;simp[rW,JAI,Bas,h2,h3,h5,h86,h87,h88,h8,h96,h97,h98,hwn];have hsame:∀id,id<s.c->(id<I+4/\id≠I+2)->((wrT s.h r.wr).set (I+2) (Ob.arr 1 0 (rows.set v [r.d]))).get id=s.h.get id:=fun id a1 a2=>hr7 id a1 (.inl a2)
     refine⟨⟨?_,?_,HL.up (fun id hid=>hsame id (by omega) ⟨by omega,by omega⟩) (by omega),fun id hid=>(hsame id (by omega) ⟨by omega,by omega⟩).trans (hf id hid)⟩,?_,hr6.up rfl (fun _ _ _=>rfl) (by omega) (fun x hx=> .inl hx),hrd.upO (fun id a1 a2=>hr7 id a1 (.inr a2)) (by omega),fun x hx=>⟨(hdl x hx).1,by have:=(hdl x hx).2;omega⟩,?_⟩
     .have:=hsame c (by omega) ⟨by omega,by omega⟩;simpa [TG,gb0]using this
     .have:=hsame (c+1) (by omega) ⟨by omega,by omega⟩;simpa [TG,gb1]using this
     .have:=hsame (I+3) (by omega) ⟨by omega,by omega⟩;simpa [TG,hX]using this
     .exact Z4 (zcu _ _) (Z4 (zcu _ _) (by omega))
    .rintro s ⟨⟨⟨h2,h3,h5⟩,gb0,gb1,HL,hf,hcM⟩,⟨h86,h87,h88,h8,h96,h97,h98⟩,hX,hLL,hrd,hdl,hlw⟩;simp[rW,h2,h3,h5,h86,h87,h88,h8,h96,h97,h98];refine⟨⟨⟨?_,?_,?_⟩,gb0,gb1,HL,hf,hcM⟩,⟨?_,?_,?_,?_,?_,?_,?_⟩,hX,hLL,hrd,hdl,hlw⟩
     all_goals simp[rW,h2,h3,h5,h86,h87,h88,h8,h96,h97,h98]
    .simp[rW,JAI,Bas,h2,h3,h5,h86,h87,h88];refine⟨⟨by rw[hfr2 c (by omega)];exact gb0,by rw[hfr2 (c+1) (by omega)];exact gb1,HL.up (fun id hid=>hfr2 id (by omega)) (by omega),fun id hid=>(hfr2 id (by omega)).trans (hf id hid)⟩,?_,by rw[zIa];exact hll1,hrdl,fun x hx=>⟨by have:=(hdlo x hx).1;omega,(hdlo x hx).2⟩,?_⟩
     .rw[hfr2 _ (by omega)];exact hX
     .refine Z4 (Z65 _ _) ?_
      (repeat refine Z4 (zcu _ _) ?_)
      omega
    .rintro x s ⟨rfl,⟨⟨h2,h3,h5⟩,gb0,gb1,HL,hf,hcM⟩,⟨h86,h87,h88,h8,h96,h97,h98⟩,hX,hLL,hrd,hdl,hlw⟩;rw[hsuc]at hLL;simp[rW,h2,h3,h5,h86,h87,h88,h8,h96,h97,h98,hw];refine⟨⟨⟨?_,?_,?_⟩,gb0,gb1,HL,hf,hcM⟩,⟨?_,?_,?_⟩,hX,hLL.up rfl (fun _ _ _=>rfl) (Z3 _) (fun x hx=>by cases hx),hlw⟩
     all_goals simp[rW,h2,h3,h5,h86,h87,h88,h8,h96,h97,h98]
  .rintro s ⟨⟨⟨h2,h3,h5⟩,gb0,gb1,HL,hf,hcM⟩,⟨h86,h87,h88⟩,hX,hLL,hlw⟩;simp[rW,h2,h3,h5,h86,h87,h88];refine⟨⟨⟨?_,?_,?_⟩,gb0,gb1,HL,hf,hcM⟩,⟨?_,?_,?_⟩,hX,hLL,hlw⟩
   all_goals simp[rW,h2,h3,h5,h86,h87,h88]
  .rw[hI];simp[rW,JA,Bas,h2,h3,h5,h35,h36,h37,g0,g1,ncc,ncc1,ncc2,ncc3];refine⟨⟨by omega,⟨?_,?_,?_,?_,by omega,by omega,by omega,by omega,by omega,by omega⟩,fun id hid=> ?_⟩,?_,⟨List.replicate ns.length (.f .nils),by simp,?_,fun r hr=> .inl ⟨by simp,by simp[fA,iE]⟩,fun r r' hr hr' _ x hx=>by simp[D.oid]at hx,fun r hr x hx=>by simp[D.oid]at hx⟩,?_⟩
   .simp[TG,zex]
   .simp only[TG];(repeat first|rw[Z50 (by omega)]|rw[Z52 (by omega)]);rw[gM,Z8]
   .simp only[TG];(repeat first|rw[Z50 (by omega)]|rw[Z52 (by omega)]);simp[zaH,tmE,zo6,zo3,zo4]
   .simp only[TG];(repeat first|rw[Z50 (by omega)]|rw[Z52 (by omega)]);simp[bE]
   .simp only[TG];(repeat first|rw[Z50 (by omega)]|rw[Z52 (by omega)]);exact hf id hid
   .omega
   .simp only[TG];(repeat first|rw[Z50 (by omega)]|rw[Z52 (by omega)]);simp
   ·(repeat refine Z4 (zcu _ _) ?_)
    omega
  .rintro x s ⟨rfl,⟨⟨h2,h3,h5⟩,gb0,gb1,HL,hf,hcM⟩,⟨h86,h87,h88⟩,hX,hLL,hlw⟩;obtain⟨lo6,hlo6⟩ :∃lo6,lo6=s.c:=⟨_,rfl⟩
   simp[rW,h2,h3,h5,gb0,zhH];refine zdo a.cs.length (JB a b ns h c (c+12) (c+9) I lo6) (fun x s=>x= .exit 6/\JB a b ns h c (c+12) (c+9) I lo6 a.cs.length s) ?_ ?_ _ ?_ ?_
   .rintro k s hk ⟨⟨⟨h2,h3,h5⟩,gb0,gb1,HL,hf,hcM⟩,⟨h121,h122,h123⟩,hX,hLL,hlw⟩;have hw:=zao k (by have:=ha.sc;omega);have hX1:=hX.1;have hX2:=hX.2.1;have o1:=HL.o1;have o2:=HL.o2;have o3:=HL.o3;have o4:=HL.o4;have o5:=HL.o5;have o6:=HL.o6;have hsuc:=zRz ns a k hk;generalize hA:a.cs[k]=X at hsuc;have hA':a.cs[k]? =some X:=by rw[Z0 hk,hA]
    have hnn:=zlw ns (ts2 X) [] List.nodup_nil;have hnv:=zgQ (ns:=ns) (ts2 X) [] (by simp);have hnlen:=zic ns (ts2 X) [];rw[show(ts2 X).foldl (addN ns) []=nums ns (ts2 X)from rfl]at hnn hnv hnlen;have hnlen:(nums ns (ts2 X)).length<=12:=by exact Z4 hnlen (by simp[ts2])
    simp[rW,h2,h3,h5,h121,h122,h123,hk,zkG,hA',hA,cmF,tmE];refine zer rfl rfl (zyZ (HL.up ?_ ?_).ix hne (ts2 X) (.inr (.inr ⟨s.c+1,2,true,zaH (ts2 X),0,rfl,?_,rfl,?_⟩)) (by simp[ts2])) ?_
    .intro id hid;simp only[rG];simp only[TG];(repeat rw[Z50 (by omega)])
    .simp only[rG];omega
    .simp only[rG];simp[TG,ts2,zaH,tmE]
    .simp only[rG];omega
    .intro dl h' c' lw mx hp hcc;obtain⟨hfr,hg⟩ :=hp;simp only[rG]at hfr hcc hg;generalize nums ns (ts2 X)=L at hsuc hnn hnv hnlen hg;have hfr2:∀id,id<s.c->h'.get id=s.h.get id:=by
      intro id hid;rw[hfr id (by omega)];simp only[TG];(repeat rw[Z50 (by omega)])
     have hdlo:∀x,dl.oid=some x->s.c<x/\x<c':=by
      intro x hx;rcases hg with⟨g1,_⟩ |⟨id,ro,g1,_,_,_,g5,g6⟩
      .rw[g1]at hx;simp[D.oid]at hx
      .rw[g1]at hx;simp[D.oid]at hx;omega
     have hrdl:RdI h' c' dl L:=by
      rcases hg.held with hh|⟨id,ro,e1,e2,e3,e4,e5⟩
      .exact .inr (.inl hh)
      .exact .inr (.inr ⟨id,ro,e1,e2,e3,Z62 _,e5⟩)
     have hll1:=hLL.up (h':=h') (c':=c') (av':=dl.oid) (hfr2 _ (by omega)) (fun id _ h2=>hfr2 id h2) (by omega) (fun x hx=> .inr (.inl (by have:=hdlo x hx;omega)));simp[rW,zdv hg,zcs];refine zdo L.length (JBI a b ns h c (c+12) (c+9) I lo6 L k dl) (fun x s=>x= .exit 8/\JBI a b ns h c (c+12) (c+9) I lo6 L k dl L.length s) ?_ ?_ _ ?_ ?_
     .rintro n s hn ⟨⟨⟨h2,h3,h5⟩,gb0,gb1,HL,hf,hcM⟩,⟨h121,h122,h123,h12,h134,h135,h136⟩,hX,hLL,hrd,hdl,hlw⟩;have hwn:=zao n (by omega);have hX1:=hX.1;have hX2:=hX.2.1;have hwk:=hw;obtain⟨p,rd,hp1,hp2⟩ :=hrd.get hn;have hvn:=hnv _ (Z2 hn);have hfs:=zw0 (fC ns a k) k L hnn n hn;have hflen:(fIn (fC ns a k) k L n L[n]).length<=1000:=by
       have:=zCf ns a k L[n];unfold fIn;rw[Z17];split
       .simp;have:=ha.sc;omega
       .simp;have:=ha.sc;omega
      obtain⟨rows,e,hN1,hN2,hN3,hstep⟩ :=LL.step (i:=k) hLL hvn (by have:=HL.o5;have:=HL.o6;omega) (by have:=HL.o5;have:=HL.o6;omega) hflen (fun x hx=>⟨hdl x hx |>.2,by have:=(hdl x hx).1;have:=HL.o5;have:=HL.o6;omega⟩);rw[hfs]at hstep;generalize L[n]=v at hp2 hvn hN2 hstep;have gS:=HL.gS;simp only[zex]at gS;have o6':=HL.o6;simp[rW,h2,h3,h5,h121,h122,h123,h12,h134,h135,h136,hn,hp1,hp2];refine zaF ?_;simp[rW,h2,h3,h5,h121,h122,h123,h12,h134,h135,h136,gS,hvn,hN1,hN2];refine hstep _ _ _ (by omega) ?_;intro r hr1 hr2 hr3 hr4 hr5 hr6 hr7;have hdj:zcM (r.wr.map fun x=>x.1) [c+12]:=by
       intro x hx;have:=hr4 x hx;simp;omega
      refine⟨hr1,hdj,?_⟩;simp[rW,hr5,hN2,hr3,hN3];refine⟨by omega,?_⟩;simp[rW,JBI,Bas,h2,h3,h5,h121,h122,h123,h12,h134,h135,h136,hwn];have hsame:∀id,id<s.c->(id<lo6/\id≠I+3)->((wrT s.h r.wr).set (I+3) (Ob.arr 1 0 (rows.set v [r.d]))).get id=s.h.get id:=fun id a1 a2=>hr7 id a1 (.inl a2)
      refine⟨⟨?_,?_,HL.up (fun id hid=>hsame id (by omega) ⟨by omega,by omega⟩) (by omega),fun id hid=>(hsame id (by omega) ⟨by omega,by omega⟩).trans (hf id hid)⟩,?_,hr6.up rfl (fun _ _ _=>rfl) (by omega) (fun x hx=> .inl hx),hrd.upO (fun id a1 a2=>hr7 id a1 (.inr a2)) (by omega),fun x hx=>⟨(hdl x hx).1,by have:=(hdl x hx).2;omega⟩,?_⟩
      .have:=hsame c (by omega) ⟨by omega,by omega⟩;simpa [TG,gb0]using this
      .have:=hsame (c+1) (by omega) ⟨by omega,by omega⟩;simpa [TG,gb1]using this
      .exact⟨hX.1,by omega,hX.2.2.up (hsame (I+2) (by omega) ⟨by omega,by omega⟩) (fun id a1 a2=>hsame id (by omega) ⟨a2,by omega⟩) (Z3 _) (fun x hx=>by cases hx)⟩
      .exact Z4 (zcu _ _) (Z4 (zcu _ _) (by omega))
     .rintro s ⟨⟨⟨h2,h3,h5⟩,gb0,gb1,HL,hf,hcM⟩,⟨h121,h122,h123,h12,h134,h135,h136⟩,hX,hLL,hrd,hdl,hlw⟩;simp[rW,h2,h3,h5,h121,h122,h123,h12,h134,h135,h136];refine⟨⟨⟨?_,?_,?_⟩,gb0,gb1,HL,hf,hcM⟩,⟨?_,?_,?_,?_,?_,?_,?_⟩,hX,hLL,hrd,hdl,hlw⟩
      all_goals simp[rW,h2,h3,h5,h121,h122,h123,h12,h134,h135,h136]
     .simp[rW,JBI,Bas,h2,h3,h5,h121,h122,h123];refine⟨⟨by rw[hfr2 c (by omega)];exact gb0,by rw[hfr2 (c+1) (by omega)];exact gb1,HL.up (fun id hid=>hfr2 id (by omega)) (by omega),fun id hid=>(hfr2 id (by omega)).trans (hf id hid)⟩,?_,by rw[zIa];exact hll1,hrdl,fun x hx=>⟨by have:=(hdlo x hx).1;omega,(hdlo x hx).2⟩,?_⟩
      .exact⟨hX.1,by omega,hX.2.2.up (hfr2 _ (by omega)) (fun id a1 a2=>hfr2 id (by omega)) (Z3 _) (fun x hx=>by cases hx)⟩
      .refine Z4 (Z65 _ _) ?_
       (repeat refine Z4 (zcu _ _) ?_)
       omega
     .rintro x s ⟨rfl,⟨⟨h2,h3,h5⟩,gb0,gb1,HL,hf,hcM⟩,⟨h121,h122,h123,h12,h134,h135,h136⟩,hX,hLL,hrd,hdl,hlw⟩;rw[hsuc]at hLL;simp[rW,h2,h3,h5,h121,h122,h123,h12,h134,h135,h136,hw];refine⟨⟨⟨?_,?_,?_⟩,gb0,gb1,HL,hf,hcM⟩,⟨?_,?_,?_⟩,hX,hLL.up rfl (fun _ _ _=>rfl) (Z3 _) (fun x hx=>by cases hx),hlw⟩
      all_goals simp[rW,h2,h3,h5,h121,h122,h123,h12,h134,h135,h136]
   .rintro s ⟨⟨⟨h2,h3,h5⟩,gb0,gb1,HL,hf,hcM⟩,⟨h121,h122,h123⟩,hX,hLL,hlw⟩;simp[rW,h2,h3,h5,h121,h122,h123];refine⟨⟨⟨?_,?_,?_⟩,gb0,gb1,HL,hf,hcM⟩,⟨?_,?_,?_⟩,hX,hLL,hlw⟩
    all_goals simp[rW,h2,h3,h5,h121,h122,h123]
   .rw[hlo6];simp[rW,JB,Bas,h2,h3,h5,gb0,gb1];exact⟨⟨HL,hf⟩,⟨by have:=HL.o6;omega,hLL⟩,⟨List.replicate ns.length (.f .nils),by simp,by simp[hX],fun r hr=> .inl ⟨by simp,by simp[fC,iE]⟩,fun r r' hr hr' _ x hx=>by simp[D.oid]at hx,fun r hr x hx=>by simp[D.oid]at hx⟩,hlw⟩
   .rintro x s ⟨rfl,⟨⟨h2,h3,h5⟩,gb0,gb1,HL,hf,hcM⟩,⟨h121,h122,h123⟩,hX,hLL,hlw⟩;obtain⟨lo7,hlo7⟩ :∃lo7,lo7=s.c:=⟨_,rfl⟩
    simp[rW,h2,h3,h5,gb1,zeu];refine zeO b.as (fun x k=>x++k.ts) [] (fun n l s=>JT1 a b ns h c (c+12) (c+9) I lo6 lo7 n l s) (fun x s=>x= .exit 10/\JT a b ns h c (c+12) (c+9) I lo6 lo7 (tsA b) s) ?_ ?_ _ ?_ ?_
    .rintro n l s hn hl ⟨⟨d,⟨⟨h2,h3,h5⟩,gb0,gb1,HL,hf,hcM⟩,hX,hC,hg,hlo,hlw⟩,⟨h159,h160,h161⟩⟩;have hw:=zao n (by have:=hb.sa;omega);have o1:=HL.o1;have o2:=HL.o2;have o3:=HL.o3;have o4:=HL.o4;have o5:=HL.o5;have o6:=HL.o6;have hX1:=hX.1;have hX2:=hX.2.1;have hal:l.length<=144:=by
      rw[zfz,Z29]at hl;have:=zfD (fun a:Atm=>a.ts) 12 (b.as.take n) fun x hx=>hb.st x (Z14 hx)
      rw[<-hl]at this;have:=hb.sa;simp at*;omega
     have hst:=hb.st _ (Z2 hn);generalize hA:b.as[n]=X at hst|-;have hA':b.as[n]? =some X:=by rw[Z0 hn,hA]
     have gS:=HL.gS;simp only[zex]at gS;have nS:¬c+12=s.c:=by omega
     simp[rW,h2,h3,h5,h159,h160,h161,hn,zeK,hA',hA,atE,zib,zmt];refine zaF ?_;simp[rW,h2,h3,h5,h159,h160,h161,gS,nS,atE,zib,zmt];refine zq7 (zfM hg ?_ fun id _ h2=> ?_) ?_ ?_ (by omega) ?_
     .omega
     .simp only[TG];(repeat rw[Z50 (by omega)])
     .omega
     .simp only[zbD];omega
     .intro r hr1 hr2 hr3 hr4 hr5;have hid:∀id,id<lo7->d.oid≠some id:=fun id h1 e=>by have:=(zcI hg e).1;omega
      have hsame:∀id,id<lo7->_=s.h.get id:=fun id h1=>by
       refine (hr4 id (by omega) (hid id h1)).trans ?_;simp only[TG];(repeat rw[Z50 (by omega)])
      have e12:=(hsame (c+12) (by omega)).trans gS;refine⟨hr1,?_⟩;simp[rW,e12,zpQ hr2];refine⟨by omega,?_⟩;simp[rW,JT1,JT,Bas,h2,h3,h5,h159,h160,h161,hw];refine⟨_,⟨?_,?_,HL.setT (by rw[TG,Z52 rfl];rfl) (fun id hid hne=>by rw[TG,Z50 hne];exact hsame id (by omega)) (by omega),fun id hid=> ?_⟩,⟨hX.1,hX.2.1,?_⟩,?_,?_,by omega,?_⟩
      .exact (hsame c (by omega)).trans gb0
      .exact (hsame (c+1) (by omega)).trans gb1
      .rw[TG,Z50 (by omega)];exact (hsame id (by omega)).trans (hf id hid)
      .exact hX.2.2.up (by rw[TG,Z50 (by omega)];exact hsame _ (by omega)) (fun id a1 a2=>by rw[TG,Z50 (by omega)];exact hsame id (by omega)) (Z3 _) (fun x hx=>by cases hx)
      .exact hC.up (by rw[TG,Z50 (by omega)];exact hsame _ (by omega)) (fun id a1 a2=>by rw[TG,Z50 (by omega)];exact hsame id (by omega)) (Z3 _) (fun x hx=>by cases hx)
      .rw[<-zk0];exact zfM hr2 (by omega) fun id h1 _=>by rw[TG,Z50 (by omega)]
      ·(repeat refine Z4 (zcu _ _) ?_)
       omega
    .rintro s ⟨⟨d,⟨⟨h2,h3,h5⟩,gb0,gb1,HL,hf,hcM⟩,hX,hC,hg,hlo,hlw⟩,⟨h159,h160,h161⟩⟩;rw[zfz,Z29]at hg;simp[rW,h2,h3,h5,h159,h160,h161,JT];exact⟨d,⟨⟨⟨by simp[rW,h2,h3,h5,h159,h160,h161],by simp[rW,h2,h3,h5,h159,h160,h161],by simp[rW,h2,h3,h5,h159,h160,h161]⟩,gb0,gb1,HL,hf,hcM⟩,hX,hC,hg,hlo,hlw⟩⟩
    .rw[hlo7];simp[rW,JT1,JT,Bas,h2,h3,h5,gb0,gb1];exact⟨_,⟨HL,hf⟩,hX,hLL,.inl ⟨rfl,rfl⟩,hlw⟩
    .rintro x s ⟨rfl,⟨d,⟨⟨h2,h3,h5⟩,gb0,gb1,HL,hf,hcM⟩,hX,hC,hg,hlo,hlw⟩⟩;simp[rW,h2,h3,h5,gb1,zhH];refine zeO b.cs (fun x k=>x++ts2 k) (tsA b) (fun n l s=>JT2 a b ns h c (c+12) (c+9) I lo6 lo7 n l s) (fun x s=>x= .exit 12/\JT a b ns h c (c+12) (c+9) I lo6 lo7 (tsC b) s) ?_ ?_ _ ?_ ?_
     .rintro n l s hn hl ⟨⟨d,⟨⟨h2,h3,h5⟩,gb0,gb1,HL,hf,hcM⟩,hX,hC,hg,hlo,hlw⟩,⟨h177,h178,h179⟩⟩;have hw:=zao n (by have:=hb.sc;omega);have o1:=HL.o1;have o2:=HL.o2;have o3:=HL.o3;have o4:=HL.o4;have o5:=HL.o5;have o6:=HL.o6;have hX1:=hX.1;have hX2:=hX.2.1;have hal:l.length<=168:=by
       rw[zfz]at hl;have h1:=zfD (fun a:Atm=>a.ts) 12 b.as hb.st;have h2:=zfD ts2 2 (b.cs.take n) (by simp[ts2]);rw[hl,Z17];have:=hb.sa;have:=hb.sc;unfold tsA;simp at*;omega
      have hst:True:=trivial;generalize hA:b.cs[n]=X at hst|-;have hA':b.cs[n]? =some X:=by rw[Z0 hn,hA]
      have gS:=HL.gS;simp only[zex]at gS;have nS:¬c+12=s.c:=by omega
      simp[rW,h2,h3,h5,h177,h178,h179,hn,zkG,hA',hA,cmF,tmE];refine zaF ?_;simp[rW,h2,h3,h5,h177,h178,h179,gS,nS,cmF,tmE];refine zq7 (zfM hg ?_ fun id _ h2=> ?_) ?_ ?_ (by omega) ?_
      .omega
      .simp only[TG];(repeat rw[Z50 (by omega)])
      .omega
      .simp only[zbD];simp[ts2];omega
      .intro r hr1 hr2 hr3 hr4 hr5;have hid:∀id,id<lo7->d.oid≠some id:=fun id h1 e=>by have:=(zcI hg e).1;omega
       have hsame:∀id,id<lo7->_=s.h.get id:=fun id h1=>by
        refine (hr4 id (by omega) (hid id h1)).trans ?_;simp only[TG];(repeat rw[Z50 (by omega)])
       have e12:=(hsame (c+12) (by omega)).trans gS;refine⟨hr1,?_⟩;simp[rW,e12,zpQ hr2];refine⟨by omega,?_⟩;simp[rW,JT2,JT,Bas,h2,h3,h5,h177,h178,h179,hw];refine⟨_,⟨?_,?_,HL.setT (by rw[TG,Z52 rfl];rfl) (fun id hid hne=>by rw[TG,Z50 hne];exact hsame id (by omega)) (by omega),fun id hid=> ?_⟩,⟨hX.1,hX.2.1,?_⟩,?_,?_,by omega,?_⟩
       .exact (hsame c (by omega)).trans gb0
       .exact (hsame (c+1) (by omega)).trans gb1
       .rw[TG,Z50 (by omega)];exact (hsame id (by omega)).trans (hf id hid)
       .exact hX.2.2.up (by rw[TG,Z50 (by omega)];exact hsame _ (by omega)) (fun id a1 a2=>by rw[TG,Z50 (by omega)];exact hsame id (by omega)) (Z3 _) (fun x hx=>by cases hx)
       .exact hC.up (by rw[TG,Z50 (by omega)];exact hsame _ (by omega)) (fun id a1 a2=>by rw[TG,Z50 (by omega)];exact hsame id (by omega)) (Z3 _) (fun x hx=>by cases hx)
       .rw[<-zk0];simp only[ts2,zaH,Z11,Z86,tmE]at hr2|-;exact zfM hr2 (by omega) fun id h1 _=>by rw[TG,Z50 (by omega)]
       ·(repeat refine Z4 (zcu _ _) ?_)
        omega
     .rintro s ⟨⟨d,⟨⟨h2,h3,h5⟩,gb0,gb1,HL,hf,hcM⟩,hX,hC,hg,hlo,hlw⟩,⟨h177,h178,h179⟩⟩;rw[zfz]at hg;simp[rW,h2,h3,h5,h177,h178,h179,JT];exact⟨d,⟨⟨⟨by simp[rW,h2,h3,h5,h177,h178,h179],by simp[rW,h2,h3,h5,h177,h178,h179],by simp[rW,h2,h3,h5,h177,h178,h179]⟩,gb0,gb1,HL,hf,hcM⟩,hX,hC,hg,hlo,hlw⟩⟩
     .simp[rW,JT2,JT,Bas,h2,h3,h5,gb0,gb1];exact⟨_,⟨HL,hf⟩,hX,hC,hg,hlo,hlw⟩
     .rintro x s ⟨rfl,⟨d,⟨⟨h2,h3,h5⟩,gb0,gb1,HL,hf,hcM⟩,hX,hC,hg,hlo,hlw⟩⟩;have gS:=HL.gS;simp only[zex]at gS;have htl:=zrP hb;have hto:=zqx hb.toCqOk;simp[rW,h2,h3,h5,gS,zou hg,zbD];generalize hlB:tsC b=l at hg htl hto;refine zdo l.length (JU a b ns h c (c+12) (c+9) I lo6 lo7 l d) (fun x s=>x= .exit 14/\JU a b ns h c (c+12) (c+9) I lo6 lo7 l d l.length s) ?_ ?_ _ ?_ ?_
      .rintro n s hn ⟨⟨⟨h2,h3,h5⟩,gb0,gb1,HL,hf,hcM⟩,hX,hC,hg,hlo,hlw,⟨h200,h201,h202⟩⟩;have hw:=zao n (by omega);have o1:=HL.o1;have o2:=HL.o2;have o3:=HL.o3;have o4:=HL.o4;have o5:=HL.o5;have o6:=HL.o6;have hX1:=hX.1;have hX2:=hX.2.1;have hx:=zfX l n hn;have hset:(zaH l).set n (tmD l[n])=zaH l:=by
        have h1:n< (zaH l).length:=by rw[zbD];exact hn
        have h2:(zaH l)[n]=tmD l[n]:=by rw[Z0 h1]at hx;simpa using hx
        rw[<-h2];exact Z96 h1
       have hXo:=hto _ (Z2 hn);have q:=fun k=>zav (k:=k) (ans84 l[n] hXo)
       generalize l[n]=X at hx hset hXo q;rcases hg with⟨rfl,h0⟩ |⟨id,rfl,h1,gI,b1,b2⟩
       .have:l.length=0:=by rw[<-zbD l,h0];rfl
        omega
       have gS:=HL.gS;simp only[zex]at gS;have nS:¬c+12=s.c:=by omega
       have nI:¬id=s.c:=by omega
       rw[zbD]at h200 gS HL|-;simp only[tmE]at q;simp only[tmD]at hx hset;simp[rW,h2,h3,h5,h200,h201,h202,hn,gI,hx];refine zaF ?_;simp[rW,h2,h3,h5,h200,h201,h202,gS,nS,nI,q,hn,gI,hx,zcF,hset];refine⟨by omega,?_⟩;simp[rW,JU,Bas,h2,h3,h5,h201,hw];have hsame:∀(u w:Ob) j,j<lo7->(((s.h.set s.c u).set s.c w).set id (Ob.arr 4 0 (zaH l))).get j=s.h.get j:=fun u w j hj=>by
        simp only[TG];(repeat rw[Z50 (by omega)])
       refine⟨⟨?_,?_,HL.up (fun j (hj:j<I+2)=>hsame _ _ j (by omega)) (by omega),fun j (hj:j<c)=>(hsame _ _ j (by omega)).trans (hf j hj)⟩,⟨hX.1,hX.2.1,hX.2.2.up (hsame _ _ _ (by omega)) (fun j a1 a2=>hsame _ _ j (by omega)) (Z3 _) (fun x hx=>by cases hx)⟩,hC.up (hsame _ _ _ (by omega)) (fun j a1 a2=>hsame _ _ j (by omega)) (Z3 _) (fun x hx=>by cases hx),?_,by omega,?_⟩
       ·(repeat rw[Z50 (by omega)]);exact gb0
       ·(repeat rw[Z50 (by omega)]);exact gb1
       .exact .inr ⟨id,by rw[zbD],h1,by rw[TG,Z52 rfl],b1,by omega⟩
       .refine⟨?_,h200⟩
        (repeat refine Z4 (zcu _ _) ?_)
        omega
      .rintro s ⟨⟨⟨h2,h3,h5⟩,gb0,gb1,HL,hf,hcM⟩,hX,hC,hg,hlo,hlw,⟨h200,h201,h202⟩⟩;simp[rW,h2,h3,h5,h200,h201,h202,JU];exact⟨⟨⟨by simp[rW,h2,h3,h5],by simp[rW,h2,h3,h5],by simp[rW,h2,h3,h5]⟩,gb0,gb1,HL,hf,hcM⟩,hX,hC,hg,hlo,hlw⟩
      .simp[rW,JU,Bas,h2,h3,h5,gb0,gb1];exact⟨⟨HL,hf⟩,hX,hC,hg,hlo,hlw⟩
      .rintro x s ⟨rfl,⟨⟨h2,h3,h5⟩,gb0,gb1,HL,hf,hcM⟩,hX,hC,hg,hlo,hlw,⟨h200,h201,h202⟩⟩;have gS:=HL.gS;simp only[zex]at gS;simp[rW,h2,h3,h5,gS];have o1:=HL.o1;have o2:=HL.o2;have o3:=HL.o3;have o4:=HL.o4;have o5:=HL.o5;have o6:=HL.o6;have hX1:=hX.1;have hX2:=hX.2.1;refine zer rfl rfl (eff85 l hto (by omega) hg) ?_;intro d1 h' c' lw mx hp hcc;obtain⟨hg2,hf2⟩ :=hp;simp only[rG]at hf2 hcc;have hs1:∀j,j<lo7->h'.get j=s.h.get j:=fun j hj=>hf2 j (by omega) (fun e=>by have:=(zcI hg e).1;omega)
       have gS1:=(hs1 (c+12) (by omega)).trans gS;simp[rW,h2,h3,h5,gS1];refine zer rfl rfl (zRn (zfc l) (zvN hto) (by rw[zsB];omega) hg2) ?_;intro d2 h2' c2 lw2 mx2 hp hcc2;obtain⟨hr,hcl,hod,hf3⟩ :=hp;simp only[rG]at hf3 hcc2;have hs2:∀j,j<lo7->h2'.get j=s.h.get j:=fun j hj=>(hf3 j (by omega) (fun e=>by have:=(zcI hg e).1;omega)).trans (hs1 j hj)
       have gS2:=(hs2 (c+12) (by omega)).trans gS;simp[rW,h2,h3,h5,gS2,hcl];refine⟨by omega,?_⟩;simp[rW,zcp,h5];rw[<-hPP];refine⟨c+12,c+9,I,I+1,.sl (I+2) 0 ns.length 1 ns.length true,.sl (I+3) 0 ns.length 1 ns.length true,d2,rfl,⟨?_,?_,?_,?_,by simp,by simp,by omega,by omega,by omega,by omega⟩,⟨?_,?_,?_,?_,?_⟩,fun j hj=> ?_,by omega,by omega,by omega,by omega⟩
       .rw[TG,Z52 rfl]
       .rw[TG,Z50 (by omega),hs2 _ (by omega)];exact HL.gM
       .rw[TG,Z50 (by omega),hs2 _ (by omega)];exact HL.gI
       .rw[TG,Z50 (by omega),hs2 _ (by omega)];exact HL.gA
       .refine (hX.2.2.up (c':=c2) ?_ ?_ (by omega) fun x hx=>by cases hx).rdN (Z3 _) (by omega) (by omega) (by omega) (by omega) (by omega)
        .rw[TG,Z50 (by omega),hs2 _ (by omega)]
        .intro j a1 a2;rw[TG,Z50 (by omega),hs2 _ (by omega)]
       .refine (hC.up (c':=c2) ?_ ?_ (by omega) fun x hx=>by cases hx).rdN (Z3 _) (by omega) (by omega) (by omega) (by omega) (by omega)
        .rw[TG,Z50 (by omega),hs2 _ (by omega)]
        .intro j a1 a2;rw[TG,Z50 (by omega),hs2 _ (by omega)]
       .rw[hlB];refine hr.up (fun j hj hj2=> ?_) (Z3 _);have:=hod _ hj2;rw[TG,Z50 (by omega)]
       .intro e;have:=hod _ e;omega
       .intro e;have:=hod _ e;omega
       .rw[TG,Z50 (by omega),hs2 _ (by omega)];exact hf j hj
end Go.Proofs.YtflgmemhalhdbaaGreatDoor
