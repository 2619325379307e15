/- The table: plain facts. -/
import Derived.Test.YthcehnaehljnfaaGreatDoorPo
import Derived.KernelRfl
import Derived.IntWalk
import Derived.Test.YthcehnaehljnfaaGreatDoorPj
set_option linter.all false
set_option maxRecDepth 100000
set_option maxHeartbeats 4000000
noncomputable section
section
namespace Go.Proofs.YthcehnaehljnfaaGreatDoor
open Go Go.Vse Go.Vse.Sm
def tmB(ns:List Str):Trm->Bool
 | .var s=>!decide (s=[])&&decide (s∈ns)
 | .cst n=>decide (n∈([1,2,3]:List Int))
def arB(r:Str)(n:Nat):Bool:=(decide (r=[82])&&decide (n=2))||((decide (r=[83])&&decide (n=1))||((decide (r=[75])&&decide (n=2))||(decide (r=[67])&&decide (n=2))))
def hdB:List Trm->Bool
 | .var s::_=>decide (s=[120])
 |_=>false
def cqB1(t:Tr):Bool:=t.1.cs.isEmpty&&(!t.1.as.isEmpty&&(decide (t.1.as.length<=3)&&((t.1.as.all fun a=>!a.neg&&(arB a.r a.ts.length&&a.ts.all (tmB t.2.1)))&&((decide (t.2.1=[[120]])||(decide (t.2.1=[[120],[121]])||decide (t.2.1=[[120],[121],[122]])))&&((t.2.1.all fun s=>t.1.as.any fun a=>decide (Trm.var s∈a.ts))&&t.1.as.any fun a=>hdB a.ts)))))
def fsB:List Int->Bool
 |z::_=>decide (z∈([100,101,102]:List Int))
 |[]=>false
def coB:F->Bool
 | .sl _ _=>true
 |_=>false
def zsl(nm:Str)(n:Nat)(r:Rl):Bool:=decide (r.nm=nm)&&(coB r.co&&(decide (r.tu.length<=3)&&((r.tu.all fun t=>decide (t.1.length=n)&&(fsB t.1&&t.1.all fun z=>decide (z∈VzL)))&&(List.range r.tu.length).all fun b=>(List.range b).all fun a=>decide (zaO (r.tu[a]?.getD ([],[])).1 (r.tu[b]?.getD ([],[])).1<0))))
def lsB:List Rl->Bool
 |[a,b,c,d]=>zsl [82] 2 a&&(zsl [83] 1 b&&(zsl [75] 2 c&&zsl [67] 2 d))
 |_=>false
def tbB:(TB.all fun t=>cqB1 t&&lsB t.2.2)=true:=by kernel_rfl
structure RlT(nm:Str)(n:Nat)(r:Rl):Prop where
 nm:r.nm=nm
 co:r.co.d= .f r.co/\(D.f r.co).cells=some [.f r.co]
 l:r.tu.length<=3
 t:∀t∈r.tu,t.1.length=n/\(∃z ts,t.1=z::ts/\z∈([100,101,102]:List Int))/\∀z∈t.1,z∈VzL
 s:Srt r.tu
def zEl{nm:Str}{n:Nat}{r:Rl}(h:zsl nm n r=true):RlT nm n r:=by
 simp only[zsl,Z14,Z86,Z50,Z174]at h;obtain⟨h1,h2,h3,h4,h5⟩ :=h;refine⟨h1,?_,h3,fun t ht=> ?_,fun a b hab hb=>h5 b hb a hab⟩
 .cases hc:r.co<;>rw[hc]at h2<;>first|(cases h2;done)|exact⟨rfl,rfl⟩
 .obtain⟨k1,k2,k3⟩ :=h4 t ht;refine⟨k1,?_,k3⟩;cases he:t.1 with
  |nil=>rw[he]at k2;cases k2
  |cons z ts=>rw[he]at k2;exact⟨z,ts,rfl,by simpa [fsB]using k2⟩
structure LsT(L:List Rl):Prop where
 x:∃a b c d,L=[a,b,c,d]/\RlT [82] 2 a/\RlT [83] 1 b/\RlT [75] 2 c/\RlT [67] 2 d
def lsT{L:List Rl}(h:lsB L=true):LsT L:=by
 unfold lsB at h;split at h
 .rename_i a b c d;simp only[Z14]at h;exact⟨a,b,c,d,rfl,zEl h.1,zEl h.2.1,zEl h.2.2.1,zEl h.2.2.2⟩
 .cases h
structure CqT(t:Tr):Prop where
 k:t.1.cs=[]
 ne:t.1.as≠[]
 l:t.1.as.length<=3
 a:∀a∈t.1.as,a.neg=false/\arB a.r a.ts.length=true/\∀u∈a.ts,tmB t.2.1 u=true
 n:t.2.1=[[120]]\/t.2.1=[[120],[121]]\/t.2.1=[[120],[121],[122]]
 b:∀s∈t.2.1,∃a∈t.1.as,Trm.var s∈a.ts
 h:∃a∈t.1.as,∃ts,a.ts= .var [120]::ts
def tbC{t:Tr}(ht:t∈TB):CqT t/\LsT t.2.2:=by
 have h:=Z50.1 tbB t ht;simp only[Z14]at h;obtain⟨h,hl⟩ :=h;simp only[cqB1,Z14,Z86,Z50,Z115,Z30,Z80,List.isEmpty_iff,List.isEmpty_eq_false_iff]at h;obtain⟨h1,h2,h3,h4,h5,h6,a,ha,h7⟩ :=h;refine⟨⟨h1,h2,h3,h4,h5,h6,a,ha,?_⟩,lsT hl⟩;unfold hdB at h7;split at h7
 .rename_i s ts e;simp only[Z86]at h7;rw[e,h7];exact⟨ts,rfl⟩
 .cases h7
def LsT.all{L:List Rl}(H:LsT L):∀r∈L,∃nm n,RlT nm n r:=by
 obtain⟨a,b,c,d,rfl,h1,h2,h3,h4⟩ :=H;intro r hr;simp only[Z5,Z164,or_false]at hr;rcases hr with rfl|rfl|rfl|rfl
 .exact⟨_,_,h1⟩
 .exact⟨_,_,h2⟩
 .exact⟨_,_,h3⟩
 .exact⟨_,_,h4⟩
def LsT.len{L:List Rl}(H:LsT L):L.length=4:=by
 obtain⟨a,b,c,d,rfl,-⟩ :=H;rfl
def LsT.lr{L:List Rl}(H:LsT L):LR L:=⟨by rw[H.len];decide,fun r hr=>(H.all r hr).elim fun _ ⟨_,h⟩ =>h.l,fun r hr=>(H.all r hr).elim fun _ ⟨_,h⟩ =>h.co⟩
def LsT.ro{L:List Rl}(H:LsT L):zlo L:=⟨by rw[H.len];decide,H.lr.o,fun r hr=>by
 obtain⟨_,_,h⟩ :=H.all r hr;exact⟨h.l,fun t ht=>by
  have:=(h.t t ht).2.2;have e:=(h.t t ht).1;have:t.1.length<=999:=by
   obtain⟨a,b,c,d,rfl,h1,h2,h3,h4⟩ :=H;simp only[Z5,Z164,or_false]at hr;rcases hr with rfl|rfl|rfl|rfl
   .have:=(h1.t t ht).1;omega
   .have:=(h2.t t ht).1;omega
   .have:=(h3.t t ht).1;omega
   .have:=(h4.t t ht).1;omega
  omega,h.s⟩⟩
def LsT.at{L:List Rl}(H:LsT L){r:Str}{n:Nat}(h:arB r n=true):∃q,L[riN L r]? =some q/\RlT r n q/\q∈L:=by
 obtain⟨a,b,c,d,rfl,h1,h2,h3,h4⟩ :=H;have e1:=h1.nm;have e2:=h2.nm;have e3:=h3.nm;have e4:=h4.nm;simp only[arB,Z115,Z14,Z86]at h;rcases h with⟨rfl,rfl⟩ |⟨rfl,rfl⟩ |⟨rfl,rfl⟩ |⟨rfl,rfl⟩
 .exact⟨a,by simp[riN,List.findIdx_cons,e1],h1,by simp⟩
 .exact⟨b,by simp[riN,List.findIdx_cons,e1,e2],h2,by simp⟩
 .exact⟨c,by simp[riN,List.findIdx_cons,e1,e2,e3],h3,by simp⟩
 .exact⟨d,by simp[riN,List.findIdx_cons,e1,e2,e3,e4],h4,by simp⟩
def tm_in{ns:List Str}{u:Trm}(h:tmB ns u=true):ziw ns u:=by
 cases u with
 |cst n=>trivial
 |var s=>simpa [tmB,ziw]using h
def zxT{r:Str}{n:Nat}(h:arB r n=true):n=1\/n=2:=by
 simp only[arB,Z115,Z14,Z86]at h;omega
def CqT.nl{t:Tr}(H:CqT t):t.2.1.length<=3/\t.2.1.Nodup/\t.2.1≠[]/\[120]∈t.2.1:=by
 rcases H.n with e|e|e<;>rw[e]<;>decide
def CqT.inn{t:Tr}(H:CqT t){L:List Rl}(HL:LsT L):zmq L t.2.1 t.1:=by
 refine⟨fun a ha=> ?_,fun a ha u hu=>tm_in ((H.a a ha).2.2 u hu),fun a ha e=> ?_,fun a ha=> ?_,by have:=H.l;omega,(fun k hk=>by rw[H.k]at hk;cases hk),by rw[H.k];decide⟩
 .obtain⟨q,_,h2,h3⟩ :=HL.at (H.a a ha).2.1;exact⟨q,h3,h2.nm⟩
 .have:=zxT (H.a a ha).2.1;rw[e]at this;simp at this
 .have:=zxT (H.a a ha).2.1;omega
def CqT.ok{t:Tr}(H:CqT t){L:List Rl}(HL:LsT L):zlc L t.2.1 t.1:=by
 refine⟨H.inn HL,by have:=H.nl.1;omega,fun a ha r hr tu htu=> ?_,?_,fun k hk=>by rw[H.k]at hk;cases hk⟩
 .obtain⟨q,h1,h2,_⟩ :=HL.at (H.a a ha).2.1;rw[h1]at hr;cases hr;exact (h2.t tu htu).1
 .have:=Z76 (fun a:Atm=>!a.neg) t.1.as;have:=H.l;omega
def CqT.bb{t:Tr}(H:CqT t):CqB t.2.1 t.1:=⟨H.nl.2.1,fun s hs=>by
 obtain⟨a,ha,h⟩ :=H.b s hs;exact⟨a,ha,(H.a a ha).1,h⟩⟩
def CqT.pos{t:Tr}(H:CqT t):zuN t.1:=⟨H.k,fun a ha=>(H.a a ha).1⟩
def sc_of{r:Str}{n:Nat}(h:arB r n=true):ScR r n:=by
 simp only[arB,Z115,Z14,Z86]at h;rcases h with⟨rfl,rfl⟩ |⟨rfl,rfl⟩ |⟨rfl,rfl⟩ |⟨rfl,rfl⟩
 .exact scR
 .exact scS
 .exact scK
 .exact scC
def CqT.vv{t:Tr}(H:CqT t)(B:Bun t){hd:List Str}(hh:HdO hd):CqV zzI hd t.2.1 t.1:=by
 have hx:=H.nl.2.2.2;refine⟨H.k,by have:=H.l;omega,by have:=H.nl.1;omega,B.vr,fun s hs=>nmA s ?_,fun a ha=> ?_,fun a ha=>(H.a a ha).1,fun a ha n hn=> ?_,fun a ha=>by have:=zxT (H.a a ha).2.1;omega,fun a ha=>B.bd a ha,fun s hs=> ?_,?_,fun a ha s hs=> ?_⟩
 .rcases H.n with e|e|e<;>rw[e]at hs<;>simp only[Z5,Z164,or_false]at hs|- <;>first|exact .inl hs|exact hs.elim .inl fun h=> .inr (.inl h)|exact hs
 .obtain⟨ce,cols,h1,h2,h3⟩ :=(sc_of (H.a a ha).2.1).q;exact⟨ce,cols,h1,h2,h3⟩
 .have:=(H.a a ha).2.2 _ hn;exact csA n (by simpa [tmB]using this)
 .rcases Z4.1 hs with hs|hs
  .rcases hh with rfl|rfl
   .cases hs
   .simp only[Z31]at hs;subst hs;exact H.b _ hx
  .exact H.b s hs
 .rcases hh with rfl|rfl
  .exact B.c0
  .exact B.c1
 .have:=(H.a a ha).2.2 _ hs;simp only[tmB,Z14,Z80,Z65]at this;exact this.1
theorem z2i{n:Nat}(hn:n<=1):ziZ (Vr (· ∈VzL) n) keyR where
  a v hv:=by
    obtain⟨hl,hz⟩ :=hv
    match v,hl,hz with
    |[],_,_=>exact⟨_,keN,fun h c=>rfl⟩
    | [z],_,hz=>
      refine⟨_,keA z (hz z (by simp)),fun h c=> ?_⟩;have h1:=hz z (by simp);simp only[VzL,Z5,Z164,or_false]at h1;rcases h1 with rfl|rfl|rfl|rfl|rfl|rfl<;>rfl
    |_::_::_,h,_=>exact absurd h (by simp only[Z23];omega)
  i u v hu hv e:=by
    obtain⟨hl,hz⟩ :=hu;obtain⟨hl',hz'⟩ :=hv
    match u,v,hl,hl',hz,hz' with
    |[],[],_,_,_,_=>rfl
    | [a],[b],_,_,hz,hz'=>
      have h1:=hz a (by simp);have h2:=hz' b (by simp);simp only[VzL,Z5,Z164,or_false]at h1 h2;rcases h1 with rfl|rfl|rfl|rfl|rfl|rfl<;>rcases h2 with rfl|rfl|rfl|rfl|rfl|rfl<;>first|rfl|exact absurd e (by decide)
    |[],_::_,h,h',_,_=>simp at h h';omega
    |_::_,[],h,h',_,_=>simp at h h';omega
    |_::_::_,_,h,_,_,_=>simp only[Z23]at h;omega
    |_,_::_::_,_,h,_,_=>simp only[Z23]at h;omega
def qsT(us:List Tr):List (List Str×CQ):=us.map fun u=>(u.2.1,u.1)
def zQE(us:List Tr):(qsT us).map (·.2)=us.map (·.1):=by simp[qsT]
def ziJ{us:List Tr}(h:∀u∈us,u∈TB){q:List Str×CQ}(hq:q∈qsT us):∃u∈us,u∈TB/\q=(u.2.1,u.1):=by
 obtain⟨u,hu,rfl⟩ :=Z12.1 hq;exact⟨u,hu,h u hu,rfl⟩
def val_ok{t:Tr}(ht:t∈TB){us:List Tr}(hus:∀u∈us,u∈TB)(hn:us.length<=5){hd:List Str}(hh:HdO hd):Ans pr 25 [zbS t.2.2,.ag (qyF hd (qsT us))] (.b true):=by
 have B:=bnA t ht;obtain⟨-,HL⟩ :=tbC ht;have HQ:QyV zzI hd (qsT us):=⟨by simpa [qsT]using hn,hh,rfl,fun q hq=>by
  obtain⟨u,_,hu,rfl⟩ :=ziJ hus hq;exact (tbC hu).1.vv (bnA u hu) hh,nmA _ (by simp)⟩
 have hq:=ans54 HQ (fun q hq=>by
  obtain⟨u,_,hu,rfl⟩ :=ziJ hus hq;exact (tbC hu).1.nl.2.2.1) vsA
 exact ans25 (e:=0) HL.lr.n HL.lr.o B.va B.sc rfl (zbl _) (zeH _) hq
def aq_ok{t:Tr}(ht:t∈TB){us:List Tr}(hus:∀u∈us,u∈TB)(hn:us.length<=5){hd:List Str}(hh:HdO hd):zoW t.2.2 (· ∈VzL) hd (qsT us):=by
  obtain⟨-,HL⟩ :=tbC ht;refine⟨⟨⟨by rcases hh with rfl|rfl<;>decide,by simp only[qsT,Z18];omega,fun q hq=> ?_⟩,fun q hq=> ?_⟩,fun q hq s hs=> ?_,fun r hr tu htu z hz=> ?_⟩
  . obtain⟨u,_,hu,rfl⟩ :=ziJ hus hq;exact⟨(tbC hu).1.ok HL,(bnA u hu).vr⟩
  . obtain⟨u,_,hu,rfl⟩ :=ziJ hus hq;exact (tbC hu).1.bb
  . obtain⟨u,_,hu,rfl⟩ :=ziJ hus hq;rcases hh with rfl|rfl
    . cases hs
    . simp only[Z31]at hs;subst hs;exact (tbC hu).1.nl.2.2.2
  . obtain⟨_,_,h⟩ :=HL.all r hr;exact (h.t tu htu).2.2 z hz
def z1M{L:List Rl}(HL:LsT L){r:Str}{n:Nat}(h:arB r n=true){w:List Int}(hw:hasB L (riN L r) w=true):∃z ts,w=z::ts/\z∈([100,101,102]:List Int):=by
 obtain⟨q,h1,h2,_⟩ :=HL.at h;simp only[hasB,h1,Z30]at hw;obtain⟨tu,htu,e⟩ :=hw;have e:tu.1=w:=by simpa using e
 rw[<-e];exact (h2.t tu htu).2.1
def zGR{t:Tr}(ht:t∈TB){us:List Tr}(hus:∀u∈us,u∈TB){hd:List Str}(hh:HdO hd)(v:List Int)(hv:zhy t.2.2 hd (qsT us) v):v∈(if hd=[]then[[]]else[[100],[101],[102]]:List (List Int)):=by
 obtain⟨-,HL⟩ :=tbC ht;obtain⟨q,hq,w,hw,rfl⟩ :=hv;obtain⟨u,_,hu,rfl⟩ :=ziJ hus hq;rcases hh with rfl|rfl
 .simp[hvl]
 .have HC:=(tbC hu).1;obtain⟨a,ha,ts,e⟩ :=HC.h;have h1:=hw.a a ha;rw[(HC.a a ha).1,Bool.not_false,e]at h1;have h2:=(HC.a a ha).2.1;obtain⟨z,tz,e2,hz⟩ :=z1M HL h2 h1;simp only[Z10,List.cons.injEq]at e2;rw[Z49 (by simp)];simp only[hvl,Z10,Z85,e2.1];simp only[Z5,Z164,or_false]at hz|-;rcases hz with rfl|rfl|rfl<;>simp
def zf0(L:List Rl)(hd:List Str)(qs:List (List Str×CQ)):List (List Int):=(if hd=[]then[[]]else[[100],[101],[102]]).filter fun v=>@decide (zhy L hd qs v) (Classical.propDecidable _)
def zBk{t:Tr}(ht:t∈TB){us:List Tr}(hus:∀u∈us,u∈TB){hd:List Str}(hh:HdO hd)(v:List Int):v∈zf0 t.2.2 hd (qsT us)↔zhy t.2.2 hd (qsT us) v:=by
 simp only[zf0,Z57,Z86];exact⟨fun h=>h.2,fun h=>⟨zGR ht hus hh v h,h⟩⟩
def z0z{t:Tr}(ht:t∈TB){us:List Tr}(hus:∀u∈us,u∈TB)(hn:us.length<=5){hd:List Str}(hh:HdO hd):Ans pr 8 [zbS t.2.2,.ag [zak hd,qsF (us.map (·.1))]] (zeY (zf0 t.2.2 hd (qsT us))):=by
 obtain⟨-,HL⟩ :=tbC ht;have e:[zak hd,qsF (us.map (·.1))]=qyF hd (qsT us):=by rw[qyF,zQE]
 rw[e];have hl:hd.length<=1:=by rcases hh with rfl|rfl<;>decide
 refine ans8 (B:=if hd=[]then[[]]else[[100],[101],[102]]) HL.lr HL.ro (z2i hl) (aq_ok ht hus hn hh) (fun q hq=> ?_) (val_ok ht hus hn hh) ?_ (zBk ht hus hh) (fun v hv=>zGR ht hus hh v hv) (by split<;>decide)
 .obtain⟨u,_,hu,rfl⟩ :=ziJ hus hq;have HC:=(tbC hu).1;exact⟨HC.inn HL,HC.nl.2.1,HC.pos⟩
 .unfold zf0 zmS;refine Z172 _ ?_;split
  .simp
  .simp[zaO,zbq]
def frV(hd:List Str):List Int:=hd.map fun _=>100
def z1t{t:Tr}(ht:t∈TB){us:List Tr}(hus:∀u∈us,u∈TB){hd:List Str}(hh:HdO hd):zhy t.2.2 hd (qsT us) (frV hd)↔(us.any fun u=>exR hd u.1 t.1)=true:=by
 obtain⟨-,HL⟩ :=tbC ht;have hC:∀q∈qsT us,zmq t.2.2 q.1 q.2/\q.1.Nodup/\zuN q.2:=fun q hq=>by
  obtain⟨u,_,hu,rfl⟩ :=ziJ hus hq;have HC:=(tbC hu).1;exact⟨HC.inn HL,HC.nl.2.1,HC.pos⟩
 have hin:∀q∈qsT us,∀s∈hd,s∈q.1:=fun q hq s hs=>by
  obtain⟨u,_,hu,rfl⟩ :=ziJ hus hq;rcases hh with rfl|rfl
  .cases hs
  .simp only[Z31]at hs;subst hs;exact (tbC hu).1.nl.2.2.2
 rw[zAt hC hin,zQE,Z30];have key:∀u∈us,(∃σ,zsp t.2.2 u.1 σ/\frV hd=hd.map σ)↔exR hd u.1 t.1=true:=fun u hu=>by
  have hc:u.1∈CQp:=by rw[<-zz0];exact List.mem_map_of_mem (hus u hu)
  rw[zHp hh hc ht,zyV];refine exists_congr fun σ=> ?_
  rw[and_comm];refine and_congr ?_ Iff.rfl;rcases hh with rfl|rfl
  .simp[frV,e0H,AgE,lk]
  .simp only[frV,e0H,Z10,Z85,AgE,lk,List.cons.injEq,and_true];constructor
   .intro h s v hs;split at hs
    .rename_i e;subst e;cases hs;exact h.symm
    .cases hs
   .intro h;exact (h [120] 100 (by simp)).symm
 constructor
 .rintro⟨c,hc,h⟩;obtain⟨u,hu,rfl⟩ :=Z12.1 hc;exact⟨u,hu,(key u hu).1 h⟩
 .rintro⟨u,hu,h⟩;exact⟨u.1,List.mem_map_of_mem hu,(key u hu).2 h⟩
def zTh(a b:Nat)(hb:b≠0)(ha:a<1000000):zaS .quo (.i .i64 a) (.i .i64 b)=some (.i .i64 ((a/b:Nat):Int)):=by
 have:=Nat.div_le_self a b;rw[zRH _ _ (by omega),show(a:Int).tdiv b=((a/b:Nat):Int)from rfl];generalize a/b=q at*;rw[wrap_i64 _ (by omega) (by omega)]
def zQ8(a b:Nat)(ha:a<1000000)(hb:b<1000000):IntKind.i64.wrap ((a:Int)+b)=((a+b:Nat):Int):=by
 rw[wrap_i64 _ (by omega) (by omega)];omega
def ans10{x:F}(hx:ziq x)(i:Nat)(hi:i<1000):∃n:Nat,n<100000/\Ans pr 10 [x,.i .i64 i] (.i .i64 n):=by
 obtain⟨r0,hr0,he0⟩ :=zlw i 65535 (by omega);have he0':zaS .and (.i .i64 i) (.i .i64 65535)=some (.i .i64 r0):=he0;have nil:zco (.f .nils)=some 0:=rfl
 by_cases hz:x= .nils\/x= .sl 1 []
 .refine⟨r0,by omega,zdr fn10 ?_⟩;simp only[g10,rU];rcases hz with rfl|rfl
  .simp[rW,st0,zay,he0']
  .simp[rW,st0,zay,he0',F.d]
 .rcases hx with rfl|⟨zs,rfl⟩
  .exact absurd (.inl rfl) hz
  .have hz:zs≠[]:=fun e=>hz (.inr (by rw[e];rfl))
   have hlen:0<zs.length:=Z129.2 hz;have hn0:¬zs.length=0:=by omega
   have hni:¬((zs.length:Int)=0):=by omega
   have hmod:i%zs.length<zs.length:=Z124 _ hlen;have hrem:=zk9 i zs.length hn0;have hquo:=zTh i zs.length hn0 (by omega);have hdl:i/zs.length<=i:=Nat.div_le_self _ _;generalize i%zs.length=m at hmod hrem;generalize i/zs.length=d at hquo hdl;obtain⟨r,hr,he⟩ :=zlw zs[m] 65535 (by omega);have he':zaS .and (.i .i64 zs[m]) (.i .i64 65535)=some (.i .i64 r):=he;have hx:zs[m]? =some zs[m]:=Z0 hmod;have hw:=zQ8 r d (by omega) (by omega);refine⟨r+d,by omega,zdr fn10 ?_⟩;simp only[g10,rU];simp[rW,st0,zay,hni,hn0,F.d];refine zbf ?_;simp[rW,st0,zay,hrem,hquo,hmod,he',hx,hw,F.d]
def bin8(a b:Int):zaS .eql (.i .u8 a) (.i .u8 b)=some (.b (a==b)):=rfl
def zHD{R:Str}(h:R≠[]):hd8 (byE R)=true:=by
 cases R with
 |nil=>exact absurd rfl h
 |cons a l=>rfl
def JR(r z:Nat)(p:Str)(n:Nat)(s:St):Prop:=(s.tm.get 1=some (.f (.i .i64 z))/\s.tm.get 4=some (.ptr 0 2 0 0)/\s.tm.get 5=some (.sl 1 0 p.length 1 p.length false)/\s.tm.get 6=some (.f (.i .i64 n))/\s.h.get 0=some (.arr 2 0 [[.f .nils,.f .nils]])/\s.h.get 1=some (.arr 1 0 (byE ((p.take n).map (rb r)++p.drop n))))/\2<=s.c
def ans33(p:Str)(z:Nat)(c:CQ)(hp:p≠[])(hl:p.length<1000)(h:Ans pr 35 [.s (p.map (rb (z%3)))] (.tu [.ag [.nils,.sl 2 [cqF c]],.i .i64 0])):Ans pr 33 [.s p,.i .i64 z] (.ag (cqF c)):=by
 refine zdr fn33 ?_;simp only[g33,rU];have hs2b:=fun h c=>v_s2b (h:=h) (c:=c) hp
 have hrem:=zk9 z 3 (by omega);rw[show((3:Nat):Int)=3 from rfl]at hrem;have hr3:z%3<3:=Z124 _ (by omega);generalize z%3=r at h hrem hr3;have q76:=fun k=>zaC (k:=k) h
 have hbl:∀n,((p.take n).map (rb r)++p.drop n).length=p.length:=fun n=>by simp;omega
 simp[rW,st0,zay,o_s2b,z3K,hs2b];refine foldW p (fun(x:Unit) _=>x) () (fun n _ s=>JR r z p n s) (fun x s=>x= .exit 0/\JR r z p p.length s) ?_ ?_ _ ?_ ?_
 .rintro n a s hn - ⟨⟨h1,h4,h5,h6,g0,g1⟩,hc⟩;have hw:=zaH n (by omega);have hL:=hbl n;have hx:((p.take n).map (rb r)++p.drop n)[n]? =some p[n]:=by
   rw[Z62 (by simp;omega)];simp[hn,Z73 (Z110 hn)]
  have hnx:(p.take (n+1)).map (rb r)++p.drop (n+1)=((p.take n).map (rb r)++p.drop n).set n (rb r p[n]):=by
   have e:n - (List.map (rb r) (List.take n p)).length=0:=by simp;omega
   rw[Z112 _ _ (by simp;omega),e,Z6 hn,Z55 hn,Z20,Z32];rfl
  generalize hR:(p.take n).map (rb r)++p.drop n=R at*;have hbe:(byE R)[n]? =some [D.f (.i .u8 p[n].toNat)]:=by simp[byE,hx]
  have hbn:(byE R).length=p.length:=by simp[byE,hL]
  have hbg:∀h:n< (byE R).length,(byE R)[n]=[D.f (.i .u8 p[n].toNat)]:=fun h=>by
   rw[Z0 h]at hbe;exact Z53 hbe
  have hst:(byE R).set n [D.f (.i .u8 (rb r p[n]).toNat)]=byE (R.set n (rb r p[n])):=by
   unfold byE;rw[Z116]
  have hR0:R≠[]:=fun e=>by rw[e]at hL;simp at hL;omega
  have h81:=zHD hR0
  by_cases h64:p[n]=64
  .have hcv:IntKind.u8.wrap (49+(r:Int))=((rb r 64).toNat:Int):=by
    obtain rfl|rfl|rfl:r=0\/r=1\/r=2:=by omega
    all_goals rfl
   have hv:IntKind.i64.wrap (49+(r:Int))=49+(r:Int):=wrap_i64 _ (by omega) (by omega);rw[h64]at hbg hst hnx;have h82:=zHD (R:=R.set n (rb r 64)) (by simpa using hR0);simp[rW,h1,h4,h5,h6,g0,g1,hn,hbg,hbn,hrem,hv,hcv,bin8,hst,h81,h82];refine⟨by omega,⟨?_,?_⟩⟩
   .simp[rW,h1,h4,h5,h6,g0,g1,hw,hnx];rw[<-hnx,Z149]
   .simp[rW,hc]
  .have hne:¬((p[n].toNat:Int)=64):=fun e=>h64 (UInt8.toNat_inj.1 (by have:UInt8.toNat 64=64:=rfl;omega))
   have hrb:rb r p[n]=p[n]:=by unfold rb;rw[Z49 h64]
   rw[hrb,<-Z53 ((Z0 (by omega)).symm.trans hx),Z95]at hnx;simp[rW,h1,h4,h5,h6,g0,g1,hn,hbg,hbn,h64,bin8,hne];refine⟨?_,?_⟩
   .simp[rW,h1,h4,h5,h6,g0,g1,hw,hnx];rw[<-hnx,Z149]
   .simp[rW,hc]
 .rintro s ⟨⟨h1,h4,h5,h6,g0,g1⟩,hc⟩;simp[rW,h1,h4,h5,h6,g0,g1];refine⟨?_,?_⟩
  .simp[rW,h1,h4,h5,h6,g0,g1]
  .simp[rW,hc]
 .refine⟨?_,?_⟩
  .simp[rW]
  .simp[rW]
 .rintro x s ⟨rfl,⟨h1,h4,h5,h6,g0,g1⟩,hc⟩;rw[Z7,Z206,Z22]at g1;have hb2s:=fun(h:Nat->Option Ob) c (hg:h 1=some (.arr 1 0 (byE (p.map (rb r)))))=>v_b2s (c:=c) (lim:=p.length) (ex:=false) hg (len:=p.length) (by simp)
  have n0:¬(0=s.c):=by omega
  have n0':¬(s.c=0):=by omega
  simp only[cqE]at q76|-;simp[rW,h1,h4,h5,h6,g0,g1,zD3,zzm,hb2s,q76,n0,n0',zgo,zgp]
def fn11:pr.fn 11=some g11:=by kernel_rfl
def pick{C:List CQ}{L:List (List F)}(h:∀x∈L,RdX C x){j:Nat}(hj:j<L.length)(z:Nat):∃c∈C,∃p,L[j]? =some [.s p]/\Ans pr 33 [.s p,.i .i64 z] (.ag (cqF c)):=by
 obtain⟨p,e,h1,h2,h3⟩ :=h L[j] (Z1 hj);obtain⟨c,hc,q⟩ :=h3 (z%3) (Z124 _ (by omega));exact⟨c,hc,p,by rw[Z0 hj,e],ans33 p z c h1 h2 q⟩
def ans11(n:Nat):∃c∈CQp,Ans pr 11 [.i .i64 n] (.ag (cqF c)):=by
 obtain⟨r,hr,he⟩ :=zlw n 65535 (by omega);obtain⟨z,hz⟩ :∃z:Int,zaS .shr (.i .i64 n) (.i .u64 6)=some (.i .i64 z):=⟨_,rfl⟩
 obtain⟨k,hk,hke⟩ :=zlw z 7 (by omega);have he':zaS .and (.i .i64 n) (.i .i64 65535)=some (.i .i64 r):=he;have hke':zaS .and (.i .i64 z) (.i .i64 7)=some (.i .i64 k):=hke;have hrem:=zk9 r 18 (by omega);rw[show((18:Nat):Int)=18 from rfl]at hrem;have hpl:poL.length=18:=rfl;have hj:r%18<poL.length:=by rw[hpl];exact Z124 _ (by omega)
 generalize r%18=j at hrem hj;obtain⟨c,hc,p,hp,h38⟩ :=pick rdO hj k;have hp2:∀h:j<poL.length,poL[j]=[.s p]:=fun h=>by
  rw[Z0 h]at hp;exact Z53 hp
 simp only[cqE]at h38;rw[hpl]at hj;have q77:=fun k=>zaC (k:=k) ans32
 have q38:=fun k=>zaC (k:=k) h38
 refine⟨c,hc,zdr fn11 ?_⟩;simp only[g11,rU];simp -implicitDefEqProofs [rR,st0,zay,q77,he',hz,hke',hrem,hp,hpl,hp2,hj,q38,cqE,zgo,zgp]
def atZ{x:F}(hx:ziq x):∃z:Nat->Nat,∀i,i<1000->z i<100000/\Ans pr 10 [x,.i .i64 i] (.i .i64 (z i)):=by
 have:∀i:Nat,∃n:Nat,i<1000->n<100000/\Ans pr 10 [x,.i .i64 i] (.i .i64 n):=fun i=>by
  by_cases hi:i<1000
  .obtain⟨n,h⟩ :=ans10 hx i hi;exact⟨n,fun _=>h⟩
  .exact⟨0,fun h=>absurd h hi⟩
 exact Z207.1 this
def zut{x:F}(hx:ziq x):x.d= .f x:=by
 rcases hx with rfl|⟨zs,rfl⟩
 .rfl
 .rfl
def zS3{h:T Ob}{lo c id:Nat}{l:List Str}(hl:l≠[])(hg:h.get id=some (.arr 1 0 (zdQ l)))(h1:lo<=id)(h2:id<c):Own h lo c (.sl id 0 l.length 1 l.length true) (zak l):=by
 refine⟨.inr ⟨_,_,_,_,_,_,rfl⟩,rfl,fun x hx=> ?_,fun h' hh k=>⟨[id],?_⟩⟩
 .simp only[D.oid,Z45]at hx;omega
 .rw[zfw,hh id rfl,hg,zeW,zkX];simp only[true_and,Z25,zl1,Z2,Z60,Z34,ztv,zzT,zeW];rw[zzV hl]
def XQ(x:F)(hd:List Str)(L:List CQ)(P:Nat)(s:St):Prop:=∃d dh,(s.tm.get 0=some (.f x)/\s.tm.get 2=some (.ptr 0 2 0 0)/\s.tm.get 3=some (.ptr 1 2 0 0)/\s.h.get 0=some (.arr 2 0 [[.f .nils,.f .nils]])/\s.h.get 1=some (.arr 2 0 [[dh,d]]))/\2<=P/\P<=s.c/\Own s.h 2 P dh (zak hd)/\Gro s.h P s.c 2 d (zna L)
def b13:C:= .seq (oD [oM 12 4,oM 13 0,oR 14 (.callp 10 [(.t 13),(.k (.i .i64 1))]),oR 15 (.bin .rem (.t 14) (.k (.i .i64 3))),oR 16 (.bin .leq (.t 12) (.t 15))] 16 .skip (.exit 0))
 (.seq (.blk 1 (.dreg [(oF 19 1 3,0),(oK 20 1 19,0),(oM 21 0,3),(oM 22 4,7),(oR 23 (.bin .add (.k (.i .i64 2)) (.t 22)),7),(oR 24 (.callp 10 [(.t 21),(.t 23)]),3),(oR 25 (.callp 11 [(.t 24)]),3),(oR 26 (.bsf 2 [.nils,.nils] 1 [(0,(.t 25))]),3),(oR 27 (.app 2 48 (.t 20) (.t 26)),0),(oF 28 1 3,0),(oS 1 28 27,0)]))
 (.reg [oM 17 4,oR 18 (.bin .add (.t 17) (.k (.i .i64 1))),oM 4 18]))
def zEj(cf:Nat->CQ)(n:Nat):(List.range (n+1)).map cf=(List.range n).map cf++[cf n]:=by
 rw[Z136,Z20];rfl
def lp13{x:F}(hx:ziq x){z:Nat->Nat}(hz:∀i,i<1000->z i<100000/\Ans pr 10 [x,.i .i64 i] (.i .i64 (z i))){cf:Nat->CQ}(hcf:∀i,i<10->Ans pr 11 [.i .i64 (z (2+i))] (.ag (cqF (cf i)))){hd:List Str}{P:Nat}{Q:Ex->St->Prop}(s:St)(h:XQ x hd [] P s)(h4:s.tm.get 4=some (.f (.i .i64 0)))(hQ:∀s,XQ x hd ((List.range (z 1%3+1)).map cf) P s->Q (.exit 0) s):WL pr b13 s Q:=by
 have h36:Ans pr 10 [x,.i .i64 1] (.i .i64 (z 1)):=(hz 1 (by omega)).2;have q36:=fun k=>zaC (k:=k) h36
 have hrem:=zk9 (z 1) 3 (by omega);rw[show((3:Nat):Int)=3 from rfl]at hrem;have hm:z 1%3<3:=Z124 _ (by omega);generalize z 1%3=m at hrem hm hQ;refine zfa (fun k s=>∃n:Nat,(k=m+1 - n/\n<=m+1)/\XQ x hd ((List.range n).map cf) P s/\s.tm.get 4=some (.f (.i .i64 n))) (fun e s=>e= .exit 0/\XQ x hd ((List.range (m+1)).map cf) P s) ?_ (m+1) _ ⟨0,⟨rfl,by omega⟩,h,h4⟩ (by rintro e s ⟨rfl,h⟩;exact hQ s h);clear h h4 hQ s;rintro k s ⟨n,⟨rfl,hn⟩,⟨d,dh,⟨h0,h2,h3,g0,g1⟩,hP,hPc,hO,hg⟩,h4⟩;unfold b13;simp only[rU]
 by_cases hle:n<=m
 .have h36n:=(hz (2+n) (by omega)).2;rw[Int.natCast_add,show((2:Nat):Int)=2 from rfl]at h36n;have q36n:=fun k=>zaC (k:=k) h36n
  have q39:=fun k=>zaC (k:=k) (hcf n (by omega))
  have hw:=zaH n (by omega);have hw2:IntKind.i64.wrap (2+(n:Int))=2+(n:Int):=wrap_i64 _ (by omega) (by omega);simp only[cqE]at q39;simp[rW,h0,h2,h3,g0,g1,h4,q36,hrem,hle];refine zbf ?_;simp[rW,h0,h2,h3,g0,g1,h4,hw2,q36n,q39,cqE,zgo,zgp];refine zfj (zaV hg (by omega) fun _ _ _=>rfl) (by omega) (by rw[zJp];simp;omega) (by omega) ?_;intro r hr1 hr2 hr3 hr4 hr5;have e0:=hr4 0 (by omega) (zht hg (by omega));have e1:=hr4 1 (by omega) (zht hg (by omega));rw[g0]at e0;rw[g1]at e1;refine⟨hr1,?_⟩;simp[rW,e1,zbU hr2];rw[zHO];refine⟨m+1 - (n+1),by omega,n+1,⟨rfl,by omega⟩,⟨r.d,dh,?_,hP,?_,?_,?_⟩,?_⟩
  .simp[rW,h0,h2,h3,e0,e1]
  .simp[rW];omega
  .refine hO.up (fun y hy=> ?_) (Z2 _) (Z2 _);have hy2:=hO.2.2.1 y hy;have e:=hr4 y (by omega) (zht hg (by omega));have ny:¬(y=1):=by omega
   simp[rW,ny,e]
  .rw[zEj,zG4];refine zaV hr2 (by simp[rW];omega) fun y h1 h2=> ?_
   have ny:¬(y=1):=by omega
   simp[rW,ny]
  .simp[rW,hw]
 .have e:n=m+1:=by omega
  subst e;have hl:¬((m:Int)+1<=m):=by omega
  simp[rW,h0,h2,h3,g0,g1,h4,q36,hrem,hl];refine⟨d,dh,?_,hP,?_,?_,?_⟩
  .simp[rW,h0,h2,h3,g0,g1]
  .simp[rW];exact hPc
  .simp[rW];exact hO
  .simp[rW];exact hg
def finQ{x:F}{hd:List Str}{L:List CQ}{P:Nat}{s:St}(h:XQ x hd L P s):∃d dh,(s.tm.get 2=some (.ptr 0 2 0 0)/\s.tm.get 3=some (.ptr 1 2 0 0)/\s.h.get 0=some (.arr 2 0 [[.f .nils,.f .nils]])/\s.h.get 1=some (.arr 2 0 [[dh,d]]))/\d.cells=some [d]/\dh.cells=some [dh]/\(∃rd,frz (s.h.set 0 (.arr 2 0 [[dh,d]])).get 11 d=some (qsF L,rd))/\(∃rd,frz (s.h.set 0 (.arr 2 0 [[dh,d]])).get 11 dh=some (zak hd,rd))/\2<=s.c:=by
 obtain⟨d,dh,⟨h0,h2,h3,g0,g1⟩,hP,hPc,hO,hg⟩ :=h;have hh2:∀y,y≠0->(s.h.set 0 (.arr 2 0 [[dh,d]])).get y=s.h.get y:=fun y hy=>by simp[TG,hy]
 exact⟨d,dh,⟨h2,h3,g0,g1⟩,zbU hg,hO.2.1,zSw (k:=10) (zaV (h':=s.h.set 0 (.arr 2 0 [[dh,d]])) hg (Z2 _) (fun y h1 _=>hh2 y (by omega))) (zJm _ 9 _) (by simp[zna]),hO.2.2.2 _ (fun y hy=>hh2 y (by have:=hO.2.2.1 y hy;omega)) 9,by omega⟩
def clM{L:List CQ}{cf:Nat->CQ}(h:∀i,cf i∈L)(n:Nat):∀c∈(List.range n).map cf,c∈L:=by
 intro c hc;obtain⟨i,_,rfl⟩ :=Z12.1 hc;exact h i
def QP(l:List CQ):Prop:=l≠[]/\l.length<=3/\∀c∈l,c∈CQp
def ans4{x:F}(hx:ziq x):∃hd l,(hd=[]\/hd=[[120]])/\QP l/\Ans pr 4 [x] (.ag [zak hd,qsF l]):=by
 obtain⟨z,hz⟩ :=atZ hx;obtain⟨cf,hcf⟩ :=Z207.1 fun i=>ans11 (z (2+i))
 have h0:Ans pr 10 [x,.i .i64 0] (.i .i64 (z 0)):=(hz 0 (by omega)).2;have q0:=fun k=>zaC (k:=k) h0
 have hrem:=zk9 (z 0) 2 (by omega);rw[show((2:Nat):Int)=2 from rfl]at hrem;have hr2:z 0%2<2:=Z124 _ (by omega);generalize z 0%2=r at hrem hr2;have hm:z 1%3<3:=Z124 _ (by omega);have hc2:(D.f x).cells=some [.f x]:=by rcases hx with rfl|⟨zs,rfl⟩ <;>rfl
 refine⟨if r=1 then[[120]]else[],(List.range (z 1%3+1)).map cf,by split<;>simp,⟨by simp,by simp;omega,clM (fun i=>(hcf i).1) _⟩,zdr fn4 ?_⟩;simp only[g4,rU]
 by_cases h1:r=1
 .have h1':((r:Int)=1):=by omega
  rw[Z51 h1];simp[rW,st0,zay,zut hx,q0,hrem,h1',hc2];refine lp13 hx hz (fun i _=>(hcf i).2) (P:=3) (hd:=[[120]]) _ ⟨.f .nils,.sl 2 0 1 1 1 true,?_,by omega,?_,zS3 (l:=[[120]]) (by simp) (by simp[rW,zdQ]) (by omega) (by omega),.inl ⟨rfl,rfl⟩⟩ ?_ fun s h=> ?_
  .simp[rW]
  .simp[rW]
  .simp[rW]
  .obtain⟨d,dh,⟨h2,h3,g0,g1⟩,c1,c2,⟨rd,z1⟩,⟨rd2,z2⟩,hc⟩ :=finQ h;simp[rW,h2,h3,g0,g1,c1,c2,z1,z2];omega
 .have h1':¬((r:Int)=1):=by omega
  rw[Z49 h1];simp[rW,st0,zay,zut hx,q0,hrem,h1',hc2];refine lp13 hx hz (fun i _=>(hcf i).2) (P:=2) (hd:=[]) _ ⟨.f .nils,.f .nils,?_,by omega,?_,zS2 (rows:=[]) (.inl ⟨rfl,rfl⟩),.inl ⟨rfl,rfl⟩⟩ ?_ fun s h=> ?_
  .simp[rW]
  .simp[rW]
  .simp[rW]
  .obtain⟨d,dh,⟨h2,h3,g0,g1⟩,c1,c2,⟨rd,z1⟩,⟨rd2,z2⟩,hc⟩ :=finQ h;simp[rW,h2,h3,g0,g1,c1,c2,z1,z2];omega
def fn3:pr.fn 3=some g3:=by kernel_rfl
theorem zz7:∀{l:List CQ},(∀c∈l,c∈CQp)->∃us:List Tr,(∀u∈us,u∈TB)/\us.map (·.1)=l
 |[],_=>⟨[],by simp,rfl⟩
 |c::l,h=>by
  obtain⟨us,h1,h2⟩ :=zz7 (l:=l) fun d hd=>h d (by simp[hd])
  obtain⟨t,ht,e⟩ :=zQK (h c (by simp));exact⟨t::us,fun u hu=>by
   rcases Z5.1 hu with rfl|hu
   .exact ht
   .exact h1 u hu,by simp[h2,e]⟩
def wFr(hd:List Str):F:=if hd=[]then .nils else .sl 3 [Sm.vF 100]
def zEy(hd:List Str):(wFr hd).d= .f (wFr hd):=by unfold wFr;split<;>rfl
def z1u{t:Tr}(ht:t∈TB){hd:List Str}(hh:HdO hd):Ans pr 7 [.ag (cqF t.1),zak hd] (.tu [zbS t.2.2,wFr hd]):=by
 have B:=bnA t ht;rcases hh with rfl|rfl
 .exact B.f0
 .exact B.f1
def z3N{L:List Rl}{hd:List Str}(hh:HdO hd)(qs:List (List Str×CQ)):zf0 L hd qs=[]\/(zf0 L hd qs≠[]/\InA (zf0 L hd qs) (wFr hd) (frV hd)):=by
 rcases hh with rfl|rfl
 .by_cases h:zhy L [] qs []
  .have e:zf0 L [] qs=[[]]:=by simp[zf0,h]
   rw[e];exact .inr ⟨by simp,inE⟩
  .exact .inl (by simp[zf0,h])
 .have key:∀P:List Int->Bool,([[100],[101],[102]]:List (List Int)).filter P=[]\/([[100],[101],[102]]:List (List Int)).filter P∈([[[100]],[[101]],[[102]],[[100],[101]],[[100],[102]],[[101],[102]],[[100],[101],[102]]]:List (List (List Int))):=fun P=>by
   simp only[List.filter];cases P [100]<;>cases P [101]<;>cases P [102]<;>simp
  rcases key (fun v=>@decide (zhy L [[120]] qs v) (Classical.propDecidable _))with h|h
  .exact .inl h
  .refine .inr ⟨fun e=> ?_,inA _ h⟩;have e2:([[100],[101],[102]]:List (List Int)).filter (fun v=>@decide (zhy L [[120]] qs v) (Classical.propDecidable _))=[]:=e;rw[e2]at h;simp at h
def zhL(hd:List Str)(m:List Tr)(t:Tr):Bool:=m.any fun u=>exR hd u.1 t.1
def zR9{hd:List Str}(m:List Tr)(t:Tr):zm9 hd hd [t.1] (m.map (·.1))=zhL hd m t:=by
 simp[zm9,zhL,List.any_map,Z67]
def zR7{hd:List Str}(l m:List Tr):zm9 hd hd (l.map (·.1)) (m.map (·.1))=l.all (zhL hd m):=by
  simp only[zm9,decide_true,Z103,List.any_map,List.all_map];rfl
def zrD{us:List Tr}(h:∀u∈us,u∈TB)(hn:us.length<=3):QOk (us.map (·.1)):=⟨fun c hc=>by
 obtain⟨u,hu,rfl⟩ :=Z12.1 hc;show u.1∈CQp;rw[<-zz0];exact List.mem_map_of_mem (h u hu),by simp;omega⟩
def zyg:C:=g3.body.r.r.r.r.l.r.b.o
def Jla(hd:List Str)(l m:List Tr)(k:Nat)(s:St):Prop:=(s.tm.get 5=some (.ptr 0 2 0 0)/\s.tm.get 6=some (.ptr 1 2 0 0)/\s.tm.get 7=some (.f (.b ((l.take k).all (zhL hd m))))/\s.tm.get 8=some (.f (.i .i64 k))/\s.h.get 0=some (.arr 2 0 [[.f (zak hd),.f (qsF (l.map (·.1)))]])/\s.h.get 1=some (.arr 2 0 [[.f (zak hd),.f (qsF (m.map (·.1)))]]))/\2<=s.c
def zEc(l:List CQ):(D.f (qsF l)).cells=some [.f (qsF l)]:=zfE _ _
def z2B(h:Nat->Option Ob)(l:List CQ)(k:Nat)(c:CQ)(hk:l[k]? =some c):sliceB 2 h (.f (qsF l)) (some (.f (.i .i64 k))) (some (.f (.i .i64 ((k:Int)+1)))) none=some (.f (qsF [c]),[]):=by
 have hlt:k<l.length:=(Z8.1 hk).1;have e:qsF l= .sl 2 (l.map cqF):=by
  cases l with
  |nil=>simp at hlt
  |cons a l=>rfl
 have e2:((l.map cqF).drop k).take (k+1 - k)=[cqF c]:=by
  rw[show k+1 - k=1 by omega];have:(l.map cqF).drop k=cqF c::(l.map cqF).drop (k+1):=by
   rw[Z55 (by simpa using hlt)];have:=(Z8.1 hk).2;simp[this]
  rw[this];rfl
 rw[e,zIb];have h1:zbk 0 (some (D.f (.i .i64 (k:Int))))=some k:=by simp[zbk,zbu]
 have h2:zbk (l.map cqF).length (some (D.f (.i .i64 ((k:Int)+1))))=some (k+1):=by
  rw[show(k:Int)+1=((k+1:Nat):Int) by omega];simp[zbk,zbu];omega
 rw[h1,h2];simp only[om];simp only[Z46];rw[Z51 (by refine⟨by trivial,by omega,by simp;omega⟩),e2];rfl
def la_l0{hd:List Str}{l m:List Tr}(hh:HdO hd)(hl:∀u∈l,u∈TB)(hm:∀u∈m,u∈TB)(hln:l.length<=3)(hmn:m.length<=3){s:St}{Q:Ex->St->Prop}(hJ:Jla hd l m 0 s)(kx:∀s,Jla hd l m l.length s->Q (.exit 0) s):WL pr zyg s Q:=by
 refine zc0 l.length (Jla hd l m) (fun x s=>x= .exit 0/\Jla hd l m l.length s) ?_ ?_ _ hJ ?_
 .rintro k s hlt ⟨⟨h5,h6,h7,h8,g0,g1⟩,hc⟩;have hw:=zaH k (by omega);have ht:=hl _ (Z1 hlt);have hx:(l.map (·.1))[k]? =some l[k].1:=by rw[Z36,Z0 hlt];rfl
  have htk:(l.take (k+1)).all (zhL hd m)=((l.take k).all (zhL hd m)&&zhL hd m l[k]):=by
   rw[Z105,Z0 hlt,List.all_append];simp
  generalize hA:l[k]=t at ht hx htk;have q7:=fun k=>zaC (k:=k) (z1u ht hh)
  rw[cqE]at q7;have q8:=fun k=>zaC (k:=k) (z0z ht hm (by omega) hh)
  have hco:=ans5 hd hd [t.1] (m.map (·.1)) hh (zrD (us:=[t]) (by simpa using ht) (by simp)) (zrD hm hmn);rw[zR9]at hco;have q5:=fun k=>zaC (k:=k) hco
  have hin:=(zBk ht hm hh (frV hd)).trans (z1t ht hm hh);have hsl:=z2B s.h.get (l.map (·.1)) k t.1 hx;have hqd1:(qsF [t.1]).d= .f (qsF [t.1]):=zeH _;obtain⟨al,hal⟩ :∃al,al=(l.take k).all (zhL hd m):=⟨_,rfl⟩
  rw[<-hal]at h7 htk;clear hal;cases al
  all_goals
   rcases z3N (L:=t.2.2) hh (qsT m)with hR|⟨hRn,R2,hi1,hi2⟩
   .have ho:zhL hd m t=false:=by
     cases hb:zhL hd m t with
     |false=>rfl
     |true=>
      have:=hin.2 hb;rw[hR]at this;cases this
    rw[hR]at q8;rw[ho]at q5 htk;have e0:zeY []= .nils:=rfl;rw[e0]at q8;unfold zyg g3;simp only[rU,C.l,C.r,C.b,C.o];simp[rW,h5,h6,h7,h8,g0,g1,zfg,Z18,hlt];refine zbf ?_;simp[rW,h5,h6,h7,h8,g0,g1,zic,hx,hA,cqE,zgo,zgp,q7,zEy,ziK];simp[rW,q8];refine zbf ?_;simp[rW,h5,h6,h7,h8,g0,g1,hsl,hqd1,q5,htk,hw,zbl,zeH,zEc,zoA];exact⟨⟨by simp[rW,h5],by simp[rW,h6],by simp[rW,htk],by simp[rW],by simp[rW,g0],by simp[rW,g1]⟩,by simp only[rG];omega⟩
   .have q9:=fun k=>zaC (k:=k) hi1
    have hposN:0< (zf0 t.2.2 hd (qsT m)).length:=Z129.2 hRn;have hpos:(0:Int)< (zf0 t.2.2 hd (qsT m)).length:=by omega
    generalize zf0 t.2.2 hd (qsT m)=R at*;have hRd:(zeY R).d= .f (zeY R):=zeM ..;have hR2d:(zeY R2).d= .f (zeY R2):=zeM ..;have hRl:zco (.f (zeY R))=some R.length:=by simp[zeY,zeo]
    have hR2l:zco (.f (zeY R2))=some R2.length:=by simp[zeY,zeo]
    cases hob:zhL hd m t with
    |true=>
     have he:R2.length=R.length:=hi2.2 (hin.2 hob);have he':(R2.length:Int)=R.length:=by omega
     rw[hob]at q5 htk;unfold zyg g3;simp only[rU,C.l,C.r,C.b,C.o];simp[rW,h5,h6,h7,h8,g0,g1,zfg,Z18,hlt];refine zbf ?_;simp[rW,h5,h6,h7,h8,g0,g1,zic,hx,hA,cqE,zgo,zgp,q7,zEy,ziK];simp[rW,q8,hRd,hRl,hpos,hposN,q9,hR2d,hR2l,he,he'];refine zbf ?_;simp[rW,h5,h6,h7,h8,g0,g1,hsl,hqd1,q5,htk,hw,zbl,zeH,zEc,zoA];exact⟨⟨by simp[rW,h5],by simp[rW,h6],by simp[rW,htk],by simp[rW],by simp[rW,g0],by simp[rW,g1]⟩,by simp only[rG];omega⟩
    |false=>
     have he:¬R2.length=R.length:=fun e=>by
      have:=hin.1 (hi2.1 e);rw[show(m.any fun u=>exR hd u.1 t.1)=zhL hd m t from rfl,hob]at this;cases this
     have he':¬(R2.length:Int)=R.length:=by omega
     have hbe:((R2.length:Int)==(R.length:Int))=false:=by simpa using he'
     rw[hob]at q5 htk;unfold zyg g3;simp only[rU,C.l,C.r,C.b,C.o];simp[rW,h5,h6,h7,h8,g0,g1,zfg,Z18,hlt];refine zbf ?_;simp[rW,h5,h6,h7,h8,g0,g1,zic,hx,hA,cqE,zgo,zgp,q7,zEy,ziK];simp[rW,q8,hRd,hRl,hpos,hposN,q9,hR2d,hR2l,he,he',hbe];refine zbf ?_;simp[rW,h5,h6,h7,h8,g0,g1,hsl,hqd1,q5,htk,hw,zbl,zeH,zEc,zoA,he,he',hbe];exact⟨⟨by simp[rW,h5],by simp[rW,h6],by simp[rW,htk],by simp[rW],by simp[rW,g0],by simp[rW,g1]⟩,by simp only[rG];omega⟩
 .rintro s ⟨⟨h5,h6,h7,h8,g0,g1⟩,hc⟩;unfold zyg g3;simp only[rU,C.l,C.r,C.b,C.o];simp[rW,h5,h6,h7,h8,g0,g1,zfg,Z18];exact⟨⟨by simp[rW,h5],by simp[rW,h6],by simp[rW,h7],by simp[rW,h8],by simp only[rG];exact g0,by simp only[rG];exact g1⟩,by simp only[rG];exact hc⟩
 .rintro e s ⟨rfl,hJ⟩;exact kx s hJ
def ans3{x y:F}(hx:ziq x)(hy:ziq y):Ans pr 3 [x,y] (.b true):=by
  obtain⟨hd,l,hh,⟨-,hln,hl⟩,hp⟩ :=ans4 hx;obtain⟨hd2,m,hh2,⟨-,hmn,hm⟩,hq⟩ :=ans4 hy;obtain⟨us,hus,rfl⟩ :=zz7 hl;obtain⟨vs,hvs,rfl⟩ :=zz7 hm;rw[Z18]at hln hmn;have q4:=fun k=>zaC (k:=k) hp
  have q4':=fun k=>zaC (k:=k) hq
  have q6:=fun k=>zaC (k:=k) ans6
  have hxd:=zut hx;have hyd:=zut hy;have hco:=ans5 hd hd2 (us.map (·.1)) (vs.map (·.1)) hh (zrD hus hln) (zrD hvs hmn);have q5:=fun k=>zaC (k:=k) hco
  refine zdr fn3 ?_;simp only[g3,rU]
  by_cases he:hd=hd2
  . subst he;rw[zR7]at q5;simp[rW,st0,zay,hxd,hyd,q4,q4',zbl,zeH,zcM];refine la_l0 hh hus hvs hln hmn ⟨⟨by simp[rW],by simp[rW],by simp[rW],by simp[rW],by simp[rW],by simp[rW]⟩,by simp only[rG];omega⟩ ?_;rintro s ⟨⟨h5,h6,h7,h8,g0,g1⟩,hc⟩;rw[Z7]at h7;cases hb:us.all (zhL hd vs)with
    | true=>
      rw[hb]at h7 q5;simp[rW,h5,h6,h7,g0,g1,zbl,zeH,q5,q6]
    | false=>
      rw[hb]at h7 q5;simp[rW,h5,h6,h7,g0,g1,zbl,zeH,q5,q6]
  . have hl:¬hd.length=hd2.length:=fun e=>he (by
      rcases hh with rfl|rfl<;>rcases hh2 with rfl|rfl<;>first|rfl|simp at e)
    have hl':¬(hd.length:Int)=hd2.length:=by omega
    have e0:zm9 hd hd2 (us.map (·.1)) (vs.map (·.1))=false:=by
      unfold zm9;rw[decide_eq_false he];rfl
    rw[e0]at q5;simp[rW,st0,zay,hxd,hyd,q4,q4',zbl,zeH,zcM,hl,hl',q5,q6]
end Go.Proofs.YthcehnaehljnfaaGreatDoor
end
