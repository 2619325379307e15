/- Rows that grow and shrink. -/
import Derived.Test.YtmnkdfjljkhneaaGreatPa
import Derived.KernelRfl
import Derived.IntWalk
import Derived.Test.YtmnkdfjljkhneaaGreatProg
import Derived.Test.YtmnkdfjljkhneaaGreatHb
import Derived.WalkKit
import Derived.ProofKit
import Derived.Deep.RegionLaw
import Derived.Lib.Overlaps
set_option linter.all false
section
namespace Go.Proofs.YtmnkdfjljkhneaaGreat
open Go Go.Vse Go.Vse.Sm
set_option maxRecDepth 100000
set_option maxHeartbeats 1000000
set_option linter.all false
def tmD(u:Trm):List D:=[.f (.s (tv u)),.f (.i .i64 (tk u)),.f (.i .i64 (tn u)),.f (.s [])]
theorem tmD_E(l:List Trm)(n:Nat)(h:n<l.length):(zcQ l)[n]? =some (tmD l[n]):=by
 simp[zcQ,tmD,tmE,List.getElem?_eq_getElem h]
theorem zcu(v:Str):tv (.var v)=v:=rfl
theorem zcs(v:Str):tk (.var v)=0:=rfl
theorem zct(v:Str):tn (.var v)=0:=rfl
theorem zdQ(n:Int):tv (.cst n)=[]:=rfl
theorem zdL(n:Int):tk (.cst n)=1:=rfl
theorem zdN(n:Int):tn (.cst n)=n:=rfl
def bE(l:List Bool):List (List D):=l.map fun b=>[D.f (.b b)]
def ixE'(j:Nat)(ns:List Str):List (F×D):=match ns with
 |[]=>[]
 |x::l=>(F.s x,D.f (.i .i64 (j:Int)))::ixE' (j+1) l
def ixE(ns:List Str):List (F×D):=ixE' 0 ns
structure SAt(a b:CQ)(ns:List Str)(im:List Trm)(asg:List Bool)(dA dC dT:D)(h:T Ob)(c S M I A:Nat):Prop where
 gS:h.get S=some (.arr 11 0 [[.f (zav ns),.mp M,.sl I 0 ns.length 4 ns.length true,.sl A 0 ns.length 1 ns.length true,.f (zaK a),.f (zaN a),dA,dC,.f (zaK b),.f (zaN b),dT]])
 gM:h.get M=some (.map (ixE ns))
 gI:h.get I=some (.arr 4 0 (zcQ im))
 gA:h.get A=some (.arr 1 0 (bE asg))
 lI:im.length=ns.length
 lA:asg.length=ns.length
 bS:S<c
 bM:M<c
 bI:I<c
 bA:A<c
theorem SAt.up{a b:CQ}{ns:List Str}{im:List Trm}{asg:List Bool}{dA dC dT:D}{h h':T Ob}{c c' S M I A:Nat}(H:SAt a b ns im asg dA dC dT h c S M I A)(hf:∀id,id<c->h'.get id=h.get id)(hc:c≤c'):SAt a b ns im asg dA dC dT h' c' S M I A:=
 ⟨by rw[hf S H.bS];exact H.gS,by rw[hf M H.bM];exact H.gM,by rw[hf I H.bI];exact H.gI,by rw[hf A H.bA];exact H.gA,H.lI,H.lA,Nat.lt_of_lt_of_le H.bS hc,Nat.lt_of_lt_of_le H.bM hc,Nat.lt_of_lt_of_le H.bI hc,Nat.lt_of_lt_of_le H.bA hc⟩
def cmD(k:Cm):List D:= .f (.i .i64 k.op)::(tmD k.l++tmD k.r)
def RdI(h:T Ob)(c:Nat)(d:D)(l:List Nat):Prop:=d= .f (zm1 l)\/Held h 0 c 1 d (iE l)
theorem RdI.up{h h':T Ob}{c c':Nat}{d:D}{l:List Nat}(H:RdI h c d l)(hf:∀id,id<c->h'.get id=h.get id)(hc:c≤c'):RdI h' c' d l:=by
 rcases H with H|H|⟨id,ro,h1,h2,h3,h4,h5⟩
 ·exact .inl H
 ·exact .inr (.inl H)
 ·exact .inr (.inr ⟨id,ro,h1,h2,by rw[hf id h5];exact h3,h4,by omega⟩)
theorem RdI.len{h:T Ob}{c:Nat}{d:D}{l:List Nat}(H:RdI h c d l):zcn d=some l.length:=by
 rcases H with rfl|⟨rfl,hl⟩ |⟨id,ro,rfl,h2,h3,h4,h5⟩
 ·exact zA0 l
 ·have:l=[]:=by simpa [iE]using hl
  subst this;rfl
 ·simp[zcn,zyt]
theorem RdI.get{h:T Ob}{c:Nat}{d:D}{l:List Nat}(H:RdI h c d l){n:Nat}(hn:n<l.length):∃p rd,iaB 1 d n=some p/\zbq false 1 h.get p=some (.f (.i .i64 (l[n]:Int)),rd):=by
 rcases H with rfl|⟨rfl,hl⟩ |⟨id,ro,rfl,h2,h3,h4,h5⟩
 ·exact⟨.fptr [.i .i64 (l[n]:Int)],[],by simp[zHh,hn],by simp[zbq,zgJ]⟩
 ·have:l=[]:=by simpa [iE]using hl
  subst this;simp at hn
 ·refine⟨.ptr id 1 n 0,[id],by simp[iaB,zyt,hn],?_⟩;simp[zbq,h3,zcf,iE,List.getElem?_eq_getElem hn]
def RdT(h:T Ob)(c:Nat)(d:D)(l:List Trm):Prop:=(d= .f .nils/\l=[])\/∃id lim ex els ro,d= .sl id 0 l.length 4 lim ex/\h.get id=some (.arr 4 ro els)/\els.take l.length=zcQ l/\id<c
theorem RdT.up{h h':T Ob}{c c':Nat}{d:D}{l:List Trm}(H:RdT h c d l)(hf:∀id,id<c->d.oid=some id->h'.get id=h.get id)(hc:c≤c'):RdT h' c' d l:=by
 rcases H with H|⟨id,lim,ex,els,ro,h1,h2,h3,h4⟩
 ·exact .inl H
 ·exact .inr ⟨id,lim,ex,els,ro,h1,by rw[hf id h4 (by rw[h1];rfl)];exact h2,h3,by omega⟩
theorem RdT.len{h:T Ob}{c:Nat}{d:D}{l:List Trm}(H:RdT h c d l):zcn d=some l.length:=by
 rcases H with⟨rfl,rfl⟩ |⟨id,lim,ex,els,ro,rfl,h2,h3,h4⟩ <;>rfl
theorem RdT.cells{h:T Ob}{c:Nat}{d:D}{l:List Trm}(H:RdT h c d l):d.cells=some [d]:=by
 rcases H with⟨rfl,rfl⟩ |⟨id,lim,ex,els,ro,rfl,h2,h3,h4⟩ <;>rfl
theorem RdT.get{h:T Ob}{c:Nat}{d:D}{l:List Trm}(H:RdT h c d l){n:Nat}(hn:n<l.length):∃p rd,iaB 4 d n=some p/\zbq true 4 h.get p=some (.ag (tmD l[n]),rd):=by
 rcases H with⟨rfl,rfl⟩ |⟨id,lim,ex,els,ro,rfl,h2,h3,h4⟩
 ·simp at hn
 ·refine⟨.ptr id 4 n 0,[id],by simp[iaB,hn],?_⟩;have e:els[n]? =some (tmD l[n]):=by
   rw[<-tmD_E l n hn,<-h3,List.getElem?_take,if_pos hn]
  simp[zbq,h2,e,zcf,tmD]
theorem SAt.ne{a b:CQ}{ns:List Str}{im:List Trm}{asg:List Bool}{dA dC dT:D}{h:T Ob}{c S M I A:Nat}(H:SAt a b ns im asg dA dC dT h c S M I A):S≠I/\S≠A/\M≠I/\M≠A/\I≠A:=by
 obtain⟨g1,g2,g3,g4,_⟩ :=H;refine⟨?_,?_,?_,?_,?_⟩ <;>rintro rfl
 ·rw[g1]at g3;simp at g3
 ·rw[g1]at g4;simp at g4
 ·rw[g2]at g3;simp at g3
 ·rw[g2]at g4;simp at g4
 ·rw[g3]at g4;simp at g4
def FrI(h h':T Ob)(c I A:Nat):Prop:=∀id,id<c->id≠I->id≠A->h'.get id=h.get id
def RdS(h:T Ob)(c:Nat)(d:D)(l:List Nat):Prop:=(d= .f .nils/\l=[])\/∃id off lim ex ro els,d= .sl id off l.length 1 lim ex/\h.get id=some (.arr 1 ro els)/\(els.drop off).take l.length=iE l/\id<c
theorem RdS.len{h:T Ob}{c:Nat}{d:D}{l:List Nat}(H:RdS h c d l):zcn d=some l.length:=by
 rcases H with⟨rfl,rfl⟩ |⟨id,off,lim,ex,ro,els,rfl,_⟩ <;>rfl
theorem zKz(l:List Nat)(n:Nat)(h:n<l.length):(iE l)[n]? =some [D.f (.i .i64 (l[n]:Int))]:=by simp[iE,List.getElem?_eq_getElem h]
theorem RdS.hd{h:T Ob}{c v:Nat}{d:D}{l:List Nat}(H:RdS h c d (v::l)):∃p rd,iaB 1 d 0=some p/\zbq false 1 h.get p=some (.f (.i .i64 (v:Int)),rd):=by
 rcases H with⟨_,h⟩ |⟨id,off,lim,ex,ro,els,rfl,e2,e3,e4⟩
 ·cases h
 ·refine⟨.ptr id 1 (off+0) 0,[id],by simp[iaB],?_⟩;have e:els[off]? =some [D.f (.i .i64 (v:Int))]:=by
   have h0:=zKz (v::l) 0 (by simp);rw[<-e3,List.getElem?_take,if_pos (by simp),List.getElem?_drop]at h0;simpa using h0
  simp[zbq,e2,e,zcf]
def RdN(h:T Ob)(c I A n:Nat)(d:D)(f:Nat->List Nat):Prop:=∃N ro rows,d= .sl N 0 n 1 n true/\h.get N=some (.arr 1 ro rows)/\N<c/\N≠I/\N≠A/\∀v,v<n->∃e,rows[v]? =some [e]/\RdI h c e (f v)/\e.oid≠some I/\e.oid≠some A
theorem RdN.get{h:T Ob}{c I A n:Nat}{d:D}{f:Nat->List Nat}(H:RdN h c I A n d f){v:Nat}(hv:v<n):∃p rd e,iaB 1 d v=some p/\zbq false 1 h.get p=some (e,rd)/\RdI h c e (f v)/\e.oid≠some I/\e.oid≠some A:=by
 obtain⟨N,ro,rows,rfl,e2,e3,e4,e5,e6⟩ :=H;obtain⟨e,g1,g2,g3,g4⟩ :=e6 v hv;exact⟨.ptr N 1 v 0,[N],e,by simp[iaB,hv],by simp[zbq,e2,g1,zcf],g2,g3,g4⟩
theorem FrI.trans{h h' h'':T Ob}{c c' I A:Nat}(h1:FrI h h' c I A)(h2:FrI h' h'' c' I A)(hc:c≤c'):FrI h h'' c I A:=
 fun id a b d=>by rw[h2 id (by omega) b d,h1 id a b d]
def RdU(h:T Ob)(c:Nat)(d:D)(l:List Trm):Prop:=d= .f (zb7 l)\/RdT h c d l
theorem RdU.up{h h':T Ob}{c c':Nat}{d:D}{l:List Trm}(H:RdU h c d l)(hf:∀id,id<c->h'.get id=h.get id)(hc:c≤c'):RdU h' c' d l:=by
 rcases H with H|H
 ·exact .inl H
 ·exact .inr (H.up (fun id a _=>hf id a) hc)
theorem RdU.len{h:T Ob}{c:Nat}{d:D}{l:List Trm}(H:RdU h c d l):zcn d=some l.length:=by
 rcases H with rfl|H
 ·exact zbW l
 ·exact H.len
theorem RdU.get{h:T Ob}{c:Nat}{d:D}{l:List Trm}(H:RdU h c d l){n:Nat}(hn:n<l.length):∃p rd,iaB 4 d n=some p/\zbq true 4 h.get p=some (.ag (tmD l[n]),rd):=by
 rcases H with rfl|H
 ·exact⟨.fptr (tmF l[n]),[],by simp[zcM,hn],by simp[zbq,zgJ,tmE,tmD]⟩
 ·exact H.get hn
structure SIx(ns:List Str)(h:T Ob)(c S M:Nat):Prop where
 gS:∃ro cells,h.get S=some (.arr 11 ro [cells])/\cells[1]? =some (.mp M)
 gM:h.get M=some (.map (ixE ns))
 bS:S<c
 bM:M<c
theorem SIx.up{ns:List Str}{h h':T Ob}{c c' S M:Nat}(H:SIx ns h c S M)(hf:∀id,id<c->h'.get id=h.get id)(hc:c≤c'):SIx ns h' c' S M:=
 ⟨by rw[hf S H.bS];exact H.gS,by rw[hf M H.bM];exact H.gM,Nat.lt_of_lt_of_le H.bS hc,Nat.lt_of_lt_of_le H.bM hc⟩
theorem SAt.ix{a b:CQ}{ns:List Str}{im:List Trm}{asg:List Bool}{dA dC dT:D}{h:T Ob}{c S M I A:Nat}(H:SAt a b ns im asg dA dC dT h c S M I A):SIx ns h c S M:=
 ⟨⟨0,_,H.gS,rfl⟩,H.gM,H.bS,H.bM⟩
structure GAt(g:List Nat)(n:Nat)(h:T Ob)(c G G0:Nat):Prop where
 g0:h.get G0=some (.arr 1 0 [[.sl G 0 n 1 n true]])
 gg:h.get G=some (.arr 1 0 (iE g))
 b0:G0<c
 bg:G<c
theorem GAt.up{g:List Nat}{n:Nat}{h h':T Ob}{c c' G G0:Nat}(H:GAt g n h c G G0)(hf:∀id,id<c->h'.get id=h.get id)(hc:c≤c'):GAt g n h' c' G G0:=
 ⟨by rw[hf _ H.b0];exact H.g0,by rw[hf _ H.bg];exact H.gg,Nat.lt_of_lt_of_le H.b0 hc,Nat.lt_of_lt_of_le H.bg hc⟩
structure CAt(asg:List Bool)(ns:List Str)(g:List Nat)(h:T Ob)(c S M A G G0 B FB:Nat):Prop where
 ix:SIx ns h c S M
 ga:GAt g ns.length h c G G0
 sA:∃ro cells,h.get S=some (.arr 11 ro [cells])/\cells[3]? =some (.sl A 0 ns.length 1 ns.length true)
 gA:h.get A=some (.arr 1 0 (bE asg))
 lA:asg.length=ns.length
 bA:A<c
 gB:h.get B=some (.arr 1 0 [[.ptr S 11 0 0]])
 bB:B<c
 gF:h.get FB=some (.arr 1 0 [[.fn 90068 [] [.ptr G0 1 0 0]]])
 bF:FB<c
 nA:A≠G
def clrO(es id off m es' c:Nat)(z:List F):Ob->Option Rs
 | .arr es'' ro old=>if es=es'/\es'=es''/\off+m≤old.length/\ro≤off/\zcj old (old.take off++List.replicate m (z.map D.f)++old.drop (off+m))=true then
     some {d:= .f .un,rd:=[id],wr:=[(id,some (.arr es ro (old.take off++List.replicate m (z.map D.f)++old.drop (off+m))))],c}
    else none
 |_=>none
theorem zs4{es id off m es' c es'' ro:Nat}{z:List F}{old:List (List D)}:clrO es id off m es' c z (.arr es'' ro old)=if es=es'/\es'=es''/\off+m≤old.length/\ro≤off/\zcj old (old.take off++List.replicate m (z.map D.f)++old.drop (off+m))=true then
     some {d:= .f .un,rd:=[id],wr:=[(id,some (.arr es ro (old.take off++List.replicate m (z.map D.f)++old.drop (off+m))))],c}
    else none:=rfl
theorem zFy(h:Nat->Option Ob)(c es:Nat)(z:List F)(id off m es' lim:Nat)(ex:Bool):opv h c (.clr es z (.sl id off m es' lim ex))=om (h id) (clrO es id off m es' c z):=by
 simp only[opv,om];cases h id with
 |none=>rfl
 |some o=>cases o<;>rfl
def slO(es id off len es' lim:Nat)(ex:Bool)(l r:Nat):Ob->Option (D×List Nat)
 | .arr es'' _ _=>if es=es'/\es'=es''/\l≤r/\(off+r≤lim\/r≤len)then some (.sl id (off+l) (r - l) es lim ex,[id])else none
 |_=>none
theorem zfW{es id off len es' lim:Nat}{ex:Bool}{l r es'' ro:Nat}{els:List (List D)}:slO es id off len es' lim ex l r (.arr es'' ro els)=if es=es'/\es'=es''/\l≤r/\(off+r≤lim\/r≤len)then some (.sl id (off+l) (r - l) es lim ex,[id])else none:=rfl
theorem zhZ{es:Nat}{h:Nat->Option Ob}{id off len es' lim:Nat}{ex:Bool}{lo hi:Option D}:sliceB es h (.sl id off len es' lim ex) lo hi none=om (h id) fun o=>om (zaX 0 lo) fun l=>om (zaX len hi) fun r=>slO es id off len es' lim ex l r o:=by
 simp only[sliceB,om];cases h id with
 |none=>rfl
 |some o=>
  cases o with
  |map _=>
   simp only[Option.bind_some];cases zaX 0 lo with
   |none=>rfl
   |some l=>simp only[Option.bind_some];cases zaX len hi<;>rfl
  |arr es'' ro els=>
   simp only[Option.bind_some];cases zaX 0 lo with
   |none=>rfl
   |some l=>simp only[Option.bind_some];cases zaX len hi<;>rfl
theorem CAt.up{asg:List Bool}{ns:List Str}{g:List Nat}{h h':T Ob}{c c' S M A G G0 B FB:Nat}(H:CAt asg ns g h c S M A G G0 B FB)(hf:∀id,id<c->h'.get id=h.get id)(hc:c≤c'):CAt asg ns g h' c' S M A G G0 B FB:=by
 obtain⟨x1,y1,z1,z2,z3,z4,z5,z6,z7,z8,z9⟩ :=H;exact⟨x1.up hf hc,y1.up hf hc,by rw[hf _ x1.bS];exact z1,by rw[hf _ z4];exact z2,z3,by omega,by rw[hf _ z6];exact z5,by omega,by rw[hf _ z8];exact z7,by omega,z9⟩
theorem CAt.lo{asg:List Bool}{ns:List Str}{g:List Nat}{h:T Ob}{c c' S M A G G0 B FB:Nat}(H:CAt asg ns g h c S M A G G0 B FB)(b1:S<c')(b2:M<c')(b3:A<c')(b4:G<c')(b5:G0<c')(b6:B<c')(b7:FB<c'):CAt asg ns g h c' S M A G G0 B FB:=by
 obtain⟨⟨x1,x2,x3,x4⟩,⟨y1,y2,y3,y4⟩,z1,z2,z3,z4,z5,z6,z7,z8,z9⟩ :=H;exact⟨⟨x1,x2,b1,b2⟩,⟨y1,y2,b5,b4⟩,z1,z2,z3,b3,z5,b6,z7,b7,z9⟩
theorem zgr{h:T Ob}{lo c es byt:Nat}{d:D}{els new:List (List D)}{rd:List Nat}{K:Rs->Prop}(hg:Gro h lo c es d els)(hlo:lo≤c)(hlen:els.length+new.length≤1000000)(hb:byt≤1000)
  (hK:∀r:Rs,zau r.c r.wr=true->Gro (wrT h r.wr) lo r.c es r.d (els++new)->c≤r.c->(∀id,id<c->d.oid≠some id->(wrT h r.wr).get id=h.get id)->(∀x,r.d.oid=some x->x=c\/d.oid=some x)->K r):oB (zbk es byt h.get c d new rd) K:=by
 obtain⟨r,h1,h2,h3,h4,h5,h6,h7,h8⟩ :=znY (byt:=byt) (rd:=rd) hg hlo hlen hb;rw[h1];exact hK r h2 h3 h4 h5 h8
theorem zcI{h:T Ob}{lo c es:Nat}{d:D}{els:List (List D)}(hg:Gro h lo c es d els){x:Nat}(hx:d.oid=some x):lo≤x/\x<c:=by
 rcases hg with⟨rfl,_⟩ |⟨id,ro,rfl,h2,h3,h4,h5,h6⟩
 ·simp[D.oid]at hx
 ·simp[D.oid]at hx;omega
def zeW(l:List CQ):List (List D):=l.map fun c=>[D.f (zaK c),D.f (zaN c)]
theorem zhu(l:List CQ):(zeW l).length=l.length:=by simp[zeW]
theorem zoU(l:List CQ)(c:CQ):zeW (l++[c])=zeW l++[[D.f (zaK c),D.f (zaN c)]]:=by simp[zeW]
theorem fn26:pr.fn 26=some g26:=by kernel_rfl
theorem fn59:pr.fn 59=some g59:=by kernel_rfl
theorem fn60:pr.fn 60=some g60:=by kernel_rfl
theorem fn51:pr.fn 51=some g51:=by kernel_rfl
theorem zz3(h:Nat->Option Ob)(c:Nat):opv h c (.eqn 0 false (.f .nils) (.f .nils))=some {d:= .f (.b true),c}:=rfl
theorem znD(h:Nat->Option Ob)(c es:Nat)(l:List (List F)):opv h c (.eqn 0 false (.f (.sl es l)) (.f .nils))=some {d:= .f (.b false),c}:=rfl
def Own(h:T Ob)(lo c:Nat)(d:D)(X:F):Prop:=(d= .f X\/∃a b e f g x,d= .sl a b e f g x)/\d.cells=some [d]/\(∀x,d.oid=some x->lo≤x/\x<c)/\∀h':T Ob,(∀x,d.oid=some x->h'.get x=h.get x)->∀k,∃rd,frz h'.get (k+2) d=some (X,rd)
theorem Own.up{h h':T Ob}{lo lo' c c':Nat}{d:D}{X:F}(H:Own h lo c d X)(hf:∀x,d.oid=some x->h'.get x=h.get x)(hl:lo'≤lo)(hc:c≤c'):Own h' lo' c' d X:=
 ⟨H.1,H.2.1,fun x hx=>by have:=H.2.2.1 x hx;omega,fun h2 hh=>H.2.2.2 h2 fun x hx=>(hh x hx).trans (hf x hx)⟩
theorem zla{h:T Ob}{lo c es:Nat}{d:D}{rows:List (List F)}(hg:Gro h lo c es d (rows.map fun a=>a.map D.f)):Own h lo c d (slc es rows):=by
 refine⟨?_,zbi hg,fun x hx=>zcI hg hx,fun h' hh k=> ?_⟩
 ·rcases hg with⟨rfl,hr⟩ |⟨id,ro,rfl,hn,hg,hr,hl,hc⟩
  ·have:rows=[]:=by simpa using hr
   subst this;exact .inl rfl
  ·exact .inr ⟨_,_,_,_,_,_,rfl⟩
 rcases hg with⟨rfl,hr⟩ |⟨id,ro,rfl,hn,hg,hr,hl,hc⟩
 ·have:rows=[]:=by simpa using hr
  subst this;exact⟨[],rfl⟩
 ·refine⟨[id],?_⟩;have h1:=hh id rfl;rw[zdf,h1,hg,zaT,zcH];simp only[true_and,Nat.zero_add,Nat.le_refl,if_true,List.drop_zero,List.take_length,zgW h'.get k rows,zaT];rw[zcz (fun e=>hn (by rw[e];rfl))]
def gCl(es byt:Nat)(z:List F):Go.Vse.Fn:=⟨8,[.t 2],oZ [oR 2 (.mv (.k .nils))]
 (.seq (oD [oM 3 0,oR 4 (.eqn 0 false (.t 3) (.k .nils))] 4 (oZ [oR 2 (.mv (.k .nils))] .ret) .skip)
 (oZ [oR 5 (.bsl es z 0 []),oM 6 0,oR 7 (.app es byt (.t 5) (.t 6)),oM 2 7] .ret))⟩
theorem zvu{n es byt:Nat}{z:List F}(hf:pr.fn n=some (gCl es byt z))(hb:byt≤1000){X:F}{rows:List (List F)}(hX:X= .sl es rows\/X= .nils/\rows=[])(hl:rows.length≤1000000){h:T Ob}{c:Nat}:
  Eff pr n [.f X] h c fun d h' c'=>Frm h h' c/\Own h' c c' d X:=by
 refine zcG za8 hf ?_;unfold gCl;simp only[rU];rcases hX with rfl|⟨rfl,rfl⟩
 ·have hm:rows.length*byt≤1000000*1000:=Nat.mul_le_mul hl hb;have m1:(rows.length≤zat)=True:=zcJ (by omega);have m2:(rows.length*byt≤zat)=True:=zcJ (by omega)
  by_cases h0:rows=[]
  ·subst h0;simp -implicitDefEqProofs [rW,st0,zaj,znD,zbR];refine⟨fun x hx=> ?_,.inr ⟨_,_,_,_,_,_,rfl⟩,rfl,fun x hx=> ?_,fun h' hh k=>⟨[c],?_⟩⟩
   ·have:¬x=c:=by omega
    simp[Vse.T.zad,this]
   ·simp[D.oid]at hx;omega
   ·have:=hh c rfl;simp[Vse.T.zad]at this;rw[zdf,this];simp[om,zcH,zaH]
  ·simp -implicitDefEqProofs [rW,st0,zaj,znD,h0,m1,m2,zbR];refine⟨fun x hx=> ?_,?_⟩
   ·have h1:¬x=c:=by omega
    have h2:¬x=c+1:=by omega
    simp[Vse.T.zad,h1,h2]
   ·have:=zla (h:=(h.set c (.arr es 0 [])).set (c+1) (.arr es 0 (rows.map fun a=>a.map D.f))) (lo:=c) (c:=c+1+1) (es:=es) (d:= .sl (c+1) 0 rows.length es rows.length false) (rows:=rows) (.inr ⟨c+1,0,by simp,by simpa using h0,by simp[Vse.T.zad],Nat.zero_le _,by omega,by omega⟩);rw[<-zcz h0]at this;exact this
 ·simp -implicitDefEqProofs [rW,st0,zaj,zz3,zbR];refine⟨fun _ _=>rfl,.inl rfl,rfl,by simp[D.oid],fun h' _ k=>⟨[],rfl⟩⟩
theorem zgN(es:Nat)(rows:List (List F)):slc es rows= .sl es rows\/slc es rows= .nils/\rows=[]:=by
 cases rows with
 |nil=>exact .inr ⟨rfl,rfl⟩
 |cons a l=>exact .inl rfl
theorem eff60(l:List Trm)(hl:l.length≤1000000){h:T Ob}{c:Nat}:Eff pr 60 [.f (zb7 l)] h c fun d h' c'=>Frm h h' c/\Own h' c c' d (zb7 l):=
 zvu (z:=[.s [],.i .i64 0,.i .i64 0,.s []]) (byt:=48) fn60 (by omega) (zgN 4 _) (by simpa using hl)
theorem eff51(l:List Str)(hl:l.length≤1000000){h:T Ob}{c:Nat}:Eff pr 51 [.f (zav l)] h c fun d h' c'=>Frm h h' c/\Own h' c c' d (zav l):=
 zvu (z:=[.s []]) (byt:=16) fn51 (by omega) (zgN 1 _) (by simpa using hl)
theorem eff59(q:CQ)(hl:q.cs.length≤1000000){h:T Ob}{c:Nat}:Eff pr 59 [.f (zaN q)] h c fun d h' c'=>Frm h h' c/\Own h' c c' d (zaN q):=by
 refine zvu (rows:=q.cs.map cmF) (z:=[.i .i64 0,.s [],.i .i64 0,.i .i64 0,.s [],.s [],.i .i64 0,.i .i64 0,.s []]) (byt:=104) fn59 (by omega) ?_ (by simpa using hl);unfold zaN csF;split
 ·rename_i hh;rw[hh.2];exact .inl rfl
 ·exact zgN 9 _
def zeo(W:List (Atm×D)):List (List D):=W.map fun p=>[.f (.s p.1.r),.f (.b p.1.neg),p.2]
theorem zjw{h:T Ob}{lo c:Nat}(k:Nat):∀{W:List (Atm×D)},(∀p∈W,Own h lo c p.2 (zb7 p.1.ts))->∃rd,zaH (frz h.get (k+2)) (zeo W)=some (W.map fun p=>atF p.1,rd)
 |[],_=>⟨[],rfl⟩
 |p::W,hW=>by
  obtain⟨rd,hr⟩ :=zjw k (W:=W) fun q hq=>hW q (by simp[hq])
  obtain⟨rd2,h2⟩ :=(hW p (by simp)).2.2.2 h (fun _ _=>rfl) k;have h3:zaQ (frz h.get (k+2)) [.f (.s p.1.r),.f (.b p.1.neg),p.2]=some (atF p.1,rd2):=by
   have a1:frz h.get (k+2) (.f (.s p.1.r))=some (.s p.1.r,[]):=rfl;have a2:frz h.get (k+2) (.f (.b p.1.neg))=some (.b p.1.neg,[]):=rfl;simp only[zaQ,a1,a2,h2,atE];simp
  exact⟨rd2++rd,by
   have e:zeo (p::W)=[.f (.s p.1.r),.f (.b p.1.neg),p.2]::zeo W:=rfl;rw[e,zgp,h3];simp only[hr];rfl⟩
theorem zqU{h:T Ob}{lo c es k:Nat}{d:D}{els:List (List D)}{L:List (List F)}{rd:List Nat}(hg:Gro h lo c es d els)(hf:zaH (frz h.get k) els=some (L,rd))(hL:L=[]↔els=[]):∃rd,frz h.get (k+1) d=some (slc es L,rd):=by
 rcases hg with⟨rfl,rfl⟩ |⟨id,ro,rfl,he,ho,hr,hl,hc⟩
 ·rw[hL.2 rfl];exact⟨[],rfl⟩
 ·refine⟨id::rd,?_⟩;rw[zdf,ho,zaT,zcH];simp only[true_and,Nat.zero_add,Nat.le_refl,if_true,List.drop_zero,List.take_length,hf,zaT];rw[zcz (fun e=>he (hL.1 e))]
theorem znd{α β:Type}{f:α->Option β}:om (none:Option α) f=none:=rfl
def XY1(c:CQ)(n:Nat)(s:St):Prop:=∃(P:Nat) (B dC:D) (W:List (Atm×D)),W.map (·.1)=c.as.take n/\(s.tm.get 1=some (.ptr 0 2 0 0)/\s.tm.get 2=some (.ptr 1 2 0 0)/\s.tm.get 3=some (.ptr P 2 0 0)/\s.tm.get 11=some (.f (zaK c))/\s.tm.get 12=some (.f (.i .i64 c.as.length))/\s.tm.get 13=some (.f (.i .i64 n))/\s.h.get 1=some (.arr 2 0 [[.f .nils,.f .nils]])/\s.h.get P=some (.arr 2 0 [[B,dC]]))/\Own s.h 2 P dC (zaN c)/\Gro s.h (P+1) s.c 3 B (zeo W)/\(∀p∈W,Own s.h (P+1) s.c p.2 (zb7 p.1.ts)/\∀x,p.2.oid=some x->B.oid≠some x)/\P<s.c/\2≤P
theorem zCJ(c:CQ)(hc:CqSm c):Ans pr 26 [.ag (cqF c)] (.ag (cqF ⟨c.as,c.cs,c.ne,false⟩)):=by
 refine zcm fn26 ?_;simp only[g26,rU];simp -implicitDefEqProofs [rW,st0,zaj,cqE,za7,za4];refine zcS rfl rfl (eff59 c (by have:=hc.sc;omega)) ?_;rintro dC h' c' lw mx ⟨hf,hO⟩ hcc;simp only[rG]at hf hO hcc;have e0:=hf 0 (by omega);have e1:=hf 1 (by omega);simp[Vse.T.zad]at e0 e1;have hcd:=hO.2.1;have n0:¬(0=c'):=by omega
 have n1:¬(1=c'):=by omega
 simp -implicitDefEqProofs [rW,e0,e1,hcd,n0,n1,zdG];refine ze2 c.as.length (XY1 c) (fun x s=>x= .exit 0/\XY1 c c.as.length s) ?_ ?_ _ ?_ ?_
 ·rintro n s hn ⟨P,B,dC,W,hW,⟨h1,h2,h3,h11,h12,h13,g1,gP⟩,hC,hg,hall,hPc,hP2⟩;have hw:=zaC n (by have:=hc.sa;omega);have hx:c.as[n]? =some c.as[n]:=List.getElem?_eq_getElem hn;have hst:=hc.st _ (List.getElem_mem hn);have htk:=List.take_succ_eq_append_getElem hn;generalize hA:c.as[n]=A at hx hst htk;simp -implicitDefEqProofs [rW,h1,h2,h3,h11,h12,h13,g1,gP,hn,zeK,hx,hA,atE,zbO];refine zcS rfl rfl (eff60 A.ts (by omega)) ?_;rintro d H2 c2 lw2 mx2 ⟨hf2,hO2⟩ hcc2;simp only[rG]at hf2 hO2 hcc2;have eP:=hf2 P (by omega);have eQ:=hf2 s.c (by omega);have e1:=hf2 1 (by omega);have nP:¬(P=s.c):=by omega
  have nP':¬(s.c=P):=by omega
  have n1:¬(1=s.c):=by omega
  have np1:¬(1=P):=by omega
  simp[Vse.T.zad,nP,n1,gP,g1]at eP eQ e1;have hlow:∀j,j<s.c->H2.get j=s.h.get j:=fun j hj=>by
   have:=hf2 j (by omega);have nj:¬j=s.c:=by omega
   simpa [Vse.T.zad,nj]using this
  have hdc:=hO2.2.1;have hWl:(zeo W).length≤12:=by
   have h1:W.length=(c.as.take n).length:=by rw[<-hW];simp
   have:=hc.sa;simp[zeo,h1];omega
  have nP2:¬(P=c2):=by omega
  have n1c:¬(1=c2):=by omega
  rcases hO2.1 with rfl|⟨a1,a2,a3,a4,a5,a6,rfl⟩
  ·simp -implicitDefEqProofs [rW,h1,h2,h3,h11,h12,h13,eP,eQ,e1,hdc,nP,nP',nP2,n1c,zbO,znd];refine⟨by omega,?_⟩;refine zgr (zbf (c':=c2) hg (by omega) fun x h1 h2=> ?_) (by omega) (by simp;omega) (by omega) ?_
   ·have nx:¬(x=s.c):=by omega
    have nx2:¬(x=c2):=by omega
    simp[Vse.T.zad,nx,nx2];exact hlow x h2
   intro r hr1 hr2 hr3 hr4 hr5;have hPr:=hr4 P (by omega) (zbz hg (by omega));have h1r:=hr4 1 (by omega) (zbz hg (by omega));simp[Vse.T.zad,nP,n1,nP2,n1c,eP,e1]at hPr h1r;have hr6:∀x,x<c2->x≠s.c->B.oid≠some x->(wrT _ r.wr).get x=H2.get x:=fun x h1 h2 h3=>by
    have nx2:¬(x=c2):=by omega
    rw[hr4 x (by omega) h3];simp[Vse.T.zad,h2,nx2]
   refine⟨hr1,?_⟩;simp -implicitDefEqProofs [rW,hPr,zbi hr2,nP2,n1c];refine⟨by omega,?_⟩;refine⟨P,r.d,dC,W++[(A,.f (zb7 A.ts))],by simp[hW,htk],?_,?_,?_,?_,?_,hP2⟩
   ·simp -implicitDefEqProofs [rW,h1,h2,h3,h11,h12,h13,hw,h1r,hPr,np1]
   ·refine hC.up (fun x hx=> ?_) (Nat.le_refl _) (Nat.le_refl _);have hx2:=hC.2.2.1 x hx;have nx:¬(x=P):=by omega
    simp -implicitDefEqProofs [rW,nx];rw[hr6 x (by omega) (by omega) (zbz hg (by omega)),hlow x (by omega)]
   ·have e:zeo (W++[(A,.f (zb7 A.ts))])=zeo W++[[.f (.s A.r),.f (.b A.neg),.f (zb7 A.ts)]]:=by simp[zeo]
    rw[e];refine zbf hr2 (by simp -implicitDefEqProofs [rW,]) fun x h1 h2=> ?_
    have nx:¬(x=P):=by omega
    simp -implicitDefEqProofs [rW,nx]
   ·intro p hp;rcases List.mem_append.1 hp with hp|hp
    ·obtain⟨o1,o2⟩ :=hall p hp;refine⟨o1.up (fun x hx=> ?_) (Nat.le_refl _) (by simp -implicitDefEqProofs [rW,];omega),fun x hx hy=> ?_⟩
     ·have hx2:=o1.2.2.1 x hx;have nx:¬(x=P):=by omega
      simp -implicitDefEqProofs [rW,nx];rw[hr6 x (by omega) (by omega) (o2 x hx),hlow x (by omega)]
     ·have hx2:=o1.2.2.1 x hx;rcases hr5 x hy with e|e
      ·omega
      ·exact o2 x hx e
    ·obtain rfl:p=(A,.f (zb7 A.ts)):=by simpa using hp
     refine⟨hO2.up (fun x hx=> ?_) (by omega) (by simp -implicitDefEqProofs [rW,];omega),fun x hx hy=> ?_⟩
     ·have hx2:=hO2.2.2.1 x hx;have nx:¬(x=P):=by omega
      simp -implicitDefEqProofs [rW,nx];rw[hr6 x (by omega) (by omega) (fun e=>by have:=zcI hg e;omega)]
     ·have hx2:=hO2.2.2.1 x hx;rcases hr5 x hy with e|e
      ·omega
      ·have:=zcI hg e;omega
   ·simp -implicitDefEqProofs [rW,];omega
  ·simp -implicitDefEqProofs [rW,h1,h2,h3,h11,h12,h13,eP,eQ,e1,hdc,nP,nP',nP2,n1c,zbO,znd];refine⟨by omega,?_⟩;refine zgr (zbf (c':=c2+1) hg (by omega) fun x h1 h2=> ?_) (by omega) (by simp;omega) (by omega) ?_
   ·have nx:¬(x=s.c):=by omega
    have nx2:¬(x=c2):=by omega
    simp[Vse.T.zad,nx,nx2];exact hlow x h2
   intro r hr1 hr2 hr3 hr4 hr5;have hPr:=hr4 P (by omega) (zbz hg (by omega));have h1r:=hr4 1 (by omega) (zbz hg (by omega));simp[Vse.T.zad,nP,n1,nP2,n1c,eP,e1]at hPr h1r;have hr6:∀x,x<c2->x≠s.c->B.oid≠some x->(wrT _ r.wr).get x=H2.get x:=fun x h1 h2 h3=>by
    have nx2:¬(x=c2):=by omega
    rw[hr4 x (by omega) h3];simp[Vse.T.zad,h2,nx2]
   refine⟨hr1,?_⟩;simp -implicitDefEqProofs [rW,hPr,zbi hr2,nP2,n1c];refine⟨by omega,?_⟩;refine⟨P,r.d,dC,W++[(A,.sl a1 a2 a3 a4 a5 a6)],by simp[hW,htk],?_,?_,?_,?_,?_,hP2⟩
   ·simp -implicitDefEqProofs [rW,h1,h2,h3,h11,h12,h13,hw,h1r,hPr,np1]
   ·refine hC.up (fun x hx=> ?_) (Nat.le_refl _) (Nat.le_refl _);have hx2:=hC.2.2.1 x hx;have nx:¬(x=P):=by omega
    simp -implicitDefEqProofs [rW,nx];rw[hr6 x (by omega) (by omega) (zbz hg (by omega)),hlow x (by omega)]
   ·have e:zeo (W++[(A,.sl a1 a2 a3 a4 a5 a6)])=zeo W++[[.f (.s A.r),.f (.b A.neg),.sl a1 a2 a3 a4 a5 a6]]:=by simp[zeo]
    rw[e];refine zbf hr2 (by simp -implicitDefEqProofs [rW,]) fun x h1 h2=> ?_
    have nx:¬(x=P):=by omega
    simp -implicitDefEqProofs [rW,nx]
   ·intro p hp;rcases List.mem_append.1 hp with hp|hp
    ·obtain⟨o1,o2⟩ :=hall p hp;refine⟨o1.up (fun x hx=> ?_) (Nat.le_refl _) (by simp -implicitDefEqProofs [rW,];omega),fun x hx hy=> ?_⟩
     ·have hx2:=o1.2.2.1 x hx;have nx:¬(x=P):=by omega
      simp -implicitDefEqProofs [rW,nx];rw[hr6 x (by omega) (by omega) (o2 x hx),hlow x (by omega)]
     ·have hx2:=o1.2.2.1 x hx;rcases hr5 x hy with e|e
      ·omega
      ·exact o2 x hx e
    ·obtain rfl:p=(A,.sl a1 a2 a3 a4 a5 a6):=by simpa using hp
     refine⟨hO2.up (fun x hx=> ?_) (by omega) (by simp -implicitDefEqProofs [rW,];omega),fun x hx hy=> ?_⟩
     ·have hx2:=hO2.2.2.1 x hx;have nx:¬(x=P):=by omega
      simp -implicitDefEqProofs [rW,nx];rw[hr6 x (by omega) (by omega) (fun e=>by have:=zcI hg e;omega)]
     ·have hx2:=hO2.2.2.1 x hx;rcases hr5 x hy with e|e
      ·omega
      ·have:=zcI hg e;omega
   ·simp -implicitDefEqProofs [rW,];omega
 ·rintro s ⟨P,B,dC,W,hW,⟨h1,h2,h3,h11,h12,h13,g1,gP⟩,hC,hg,hall,hPc,hP2⟩;simp -implicitDefEqProofs [rW,h1,h2,h3,h11,h12,h13,g1,gP];refine⟨P,B,dC,W,hW,?_,hC,hg,hall,hPc,hP2⟩;simp -implicitDefEqProofs [rW,h1,h2,h3,h11,h12,h13,g1,gP]
 ·refine⟨c',.f .nils,dC,[],by simp,?_,?_,.inl ⟨rfl,rfl⟩,by simp,?_,by omega⟩
  ·simp -implicitDefEqProofs [rW,e1,n1]
  ·refine hO.up (fun x hx=> ?_) (Nat.le_refl _) (Nat.le_refl _);have:=hO.2.2.1 x hx;have nx:¬(x=c'):=by omega
   simp -implicitDefEqProofs [rW,nx]
  ·simp -implicitDefEqProofs [rW,]
 ·rintro x s ⟨rfl,P,B,dC,W,hW,⟨h1,h2,h3,h11,h12,h13,g1,gP⟩,hC,hg,hall,hPc,hP2⟩;rw[List.take_length]at hW;obtain⟨rd,hz⟩ :=zjw 8 fun p hp=>(hall p hp).1
  have nP1:¬(P=1):=by omega
  have hh:∀y,y≠1->(s.h.set 1 (.arr 2 0 [[B,dC]])).get y=s.h.get y:=fun y hy=>by simp[Vse.T.zad,hy]
  obtain⟨rd,hz⟩ :=zjw (h:=s.h.set 1 (.arr 2 0 [[B,dC]])) 8 fun p hp=>((hall p hp).1.up (fun x hx=>hh x (by have:=(hall p hp).1.2.2.1 x hx;omega)) (Nat.le_refl _) (Nat.le_refl _))
  obtain⟨rd1,h1⟩ :=zqU (zbf (h':=s.h.set 1 (.arr 2 0 [[B,dC]])) hg (Nat.le_refl _) fun x h1 _=>hh x (by omega)) hz (by simp[zeo]);obtain⟨rd2,h2'⟩ :=hC.2.2.2 (s.h.set 1 (.arr 2 0 [[B,dC]])) (fun x hx=>hh x (by have:=hC.2.2.1 x hx;omega)) 9;have eW:(W.map fun p=>atF p.1)=c.as.map atF:=by rw[<-hW,List.map_map];rfl
  have eA:slc 3 (c.as.map atF)=zaK ⟨c.as,c.cs,c.ne,false⟩ :=by unfold zaK Sm.asF;rw[if_neg (by simp)]
  have eC:zaN c=zaN ⟨c.as,c.cs,c.ne,false⟩ :=rfl;rw[eW,eA]at h1;rw[eC]at h2';have hdc:=hC.2.1;simp -implicitDefEqProofs [rW,h1,h2,h3,h11,h12,h13,g1,gP,nP1,zbi hg,hdc,h1,h2'];omega
theorem zrA(f:Go.Vse.A->Option D)(x:Go.Vse.A):O.res f (.cap x)=(f x).bind fun x=>some (.cap x):=rfl
theorem zwD{pr:Pr}{s:St}{Q:St->Prop}{dst:Option Nat}{l:List Go.Vse.Op}{x:Go.Vse.A}:wpO pr (⟨dst,none,.cap x⟩ ::l) s Q↔oB (((O.cap x).res (zab s.tm)).bind (opv s.h.get s.c)) fun r=>zau r.c r.wr=true/\wpO pr l (s.aft dst r.d r.wr r.c) Q:=zcX rfl
theorem zrz(f:Go.Vse.A->Option D)(es byt:Nat)(z:List F)(x n:Go.Vse.A):O.res f (.apz es byt z x n)=(f x).bind fun x=>(f n).bind fun n=>some (.apz es byt z x n):=rfl
theorem zwC{pr:Pr}{s:St}{Q:St->Prop}{dst:Option Nat}{l:List Go.Vse.Op}{es byt:Nat}{z:List F}{x n:Go.Vse.A}:wpO pr (⟨dst,none,.apz es byt z x n⟩ ::l) s Q↔oB (((O.apz es byt z x n).res (zab s.tm)).bind (opv s.h.get s.c)) fun r=>zau r.c r.wr=true/\wpO pr l (s.aft dst r.d r.wr r.c) Q:=zcX rfl
theorem fn132:pr.fn 132=some zvQ:=by kernel_rfl
theorem fn89:pr.fn 89=some g89:=by kernel_rfl
theorem fn91:pr.fn 91=some g91:=by kernel_rfl
theorem zwX(t:Trm):(tmF t).map D.f=tmD t:=by cases t<;>rfl
theorem zkY(k:Cm):(cmF k).map D.f=cmD k:=by
 cases k with
 |mk op l r=>cases l<;>cases r<;>rfl
theorem zxt(op a b:Int):Ans pr 132 [.ag (cmF ⟨op,.cst a,.cst b⟩)] (.b (zvq op a b)):=by
 have q:=fun k=>zay (k:=k) (zvb a b)
 refine zcm fn132 ?_;simp only[zvQ,rU];unfold zvq;simp only[vF]at q
 by_cases h1:op=1
 ·subst h1;simp -implicitDefEqProofs [rR,st0,zaj,cmF,tmF,q,zjZ]
 ·by_cases h2:op=2
  ·subst h2;simp -implicitDefEqProofs [rR,st0,zaj,cmF,tmF,q,zGA]
  ·by_cases h3:op=3
   ·subst h3;simp -implicitDefEqProofs [rR,st0,zaj,cmF,tmF,q,zk0]
   ·by_cases h4:op=4
    ·subst h4;simp -implicitDefEqProofs [rR,st0,zaj,cmF,tmF,q,zGy]
    ·simp -implicitDefEqProofs [rR,st0,zaj,cmF,tmF,q,h1,h2,h3,h4]
theorem ro91(k:Cm)(hk:zbn k){h:T Ob}{c:Nat}:RO pr 91 [.ag (cmD k)] h c (.f (.b (alT k))):=by
 refine zdU za8 fn91 rfl ?_;obtain⟨op,l,r⟩ :=k;simp only[g91,rU];have q:=fun k=>zay (k:=k) (zik l r hk.1 hk.2)
 simp only[tmE]at q;unfold alT;cases l with
 |cst a=>
  cases r with
  |cst b=>
   have q2:=fun k=>zay (k:=k) (zxt op a b)
   simp only[cmF,tmF,List.cons_append,List.nil_append]at q2;simp -implicitDefEqProofs [rW,st0,zaj,cmD,tmD,zdQ,zdL,zdN,q2,zaU];simp (disch:=omega) only[zbu,zb8]
  |var b=>
   have hb:b≠[]:=hk.2;simp only[zdQ,zdL,zdN,zcu,zcs,zct]at q;simp -implicitDefEqProofs [rW,st0,zaj,cmD,tmD,zdQ,zdL,zdN,zcu,zcs,zct,hb,q,zaU];simp (disch:=omega) only[zbu,zb8]
 |var a=>
  have ha:a≠[]:=hk.1;simp only[zcu,zcs,zct]at q;generalize hz:decide (Trm.var a=r)=z at q
  by_cases h1:op=1
  ·cases z<;>(simp -implicitDefEqProofs [rW,st0,zaj,cmD,tmD,zcu,zcs,zct,ha,q,hz,h1,zaU]<;>simp (disch:=omega) only[zbu,zb8])
  ·by_cases h4:op=4
   ·cases z<;>(simp -implicitDefEqProofs [rW,st0,zaj,cmD,tmD,zcu,zcs,zct,ha,q,hz,h1,h4,zaU]<;>simp (disch:=omega) only[zbu,zb8])
   ·cases z<;>(simp -implicitDefEqProofs [rW,st0,zaj,cmD,tmD,zcu,zcs,zct,ha,q,hz,h1,h4,zaU]<;>simp (disch:=omega) only[zbu,zb8])
theorem ro89(k:Cm)(hk:zbn k){h:T Ob}{c:Nat}:RO pr 89 [.ag (cmD k)] h c (.f (.b (alF k))):=by
 refine zdU za8 fn89 rfl ?_;obtain⟨op,l,r⟩ :=k;simp only[g89,rU];have q:=fun k=>zay (k:=k) (zik l r hk.1 hk.2)
 simp only[tmE]at q;unfold alF;cases l with
 |cst a=>
  cases r with
  |cst b=>
   have q2:=fun k=>zay (k:=k) (zxt op a b)
   simp only[cmF,tmF,List.cons_append,List.nil_append]at q2;simp -implicitDefEqProofs [rW,st0,zaj,cmD,tmD,zdQ,zdL,zdN,q2,zaU];simp (disch:=omega) only[zbu,zb8]
  |var b=>
   have hb:b≠[]:=hk.2;simp only[zdQ,zdL,zdN,zcu,zcs,zct]at q;simp -implicitDefEqProofs [rW,st0,zaj,cmD,tmD,zdQ,zdL,zdN,zcu,zcs,zct,hb,q,zaU];simp (disch:=omega) only[zbu,zb8]
 |var a=>
  have ha:a≠[]:=hk.1;simp only[zcu,zcs,zct]at q;generalize hz:decide (Trm.var a=r)=z at q
  by_cases h1:op=2
  ·cases z<;>(simp -implicitDefEqProofs [rW,st0,zaj,cmD,tmD,zcu,zcs,zct,ha,q,hz,h1,zaU]<;>simp (disch:=omega) only[zbu,zb8])
  ·by_cases h4:op=3
   ·cases z<;>(simp -implicitDefEqProofs [rW,st0,zaj,cmD,tmD,zcu,zcs,zct,ha,q,hz,h1,h4,zaU]<;>simp (disch:=omega) only[zbu,zb8])
   ·cases z<;>(simp -implicitDefEqProofs [rW,st0,zaj,cmD,tmD,zcu,zcs,zct,ha,q,hz,h1,h4,zaU]<;>simp (disch:=omega) only[zbu,zb8])
theorem fn90:pr.fn 90=some g90:=by kernel_rfl
theorem fn88:pr.fn 88=some g88:=by kernel_rfl
theorem fn93:pr.fn 93=some g93:=by kernel_rfl
theorem fn94:pr.fn 94=some g94:=by kernel_rfl
def CsD(h:T Ob)(lo c:Nat)(d:D)(q:CQ):Prop:=(d= .f .nils/\q.cs=[]/\q.ne=false)\/∃Y tail ex,d= .sl Y 0 q.cs.length 9 (q.cs.length+tail.length) ex/\h.get Y=some (.arr 9 0 (q.cs.map cmD++tail))/\(q.cs=[]->q.ne=true)/\(q.cs≠[]->ex=false)/\lo≤Y/\Y<c/\(∀x∈tail,x.length=9)/\q.cs.length+tail.length≤10000
theorem ztd{h:T Ob}{lo c:Nat}{d:D}{q:CQ}(H:CsD h lo c d q):zcn d=some q.cs.length:=by
 rcases H with⟨rfl,e,-⟩ |⟨Y,tail,ex,rfl,-⟩
 ·rw[e];rfl
 ·rfl
theorem zJ4{h:T Ob}{lo c:Nat}{d:D}{q:CQ}(H:CsD h lo c d q){n:Nat}(hn:n<q.cs.length):∃Y rows,iaB 9 d n=some (.ptr Y 9 n 0)/\h.get Y=some (.arr 9 0 rows)/\rows[n]? =some (cmD q.cs[n])/\lo≤Y/\Y<c:=by
 rcases H with⟨rfl,e,-⟩ |⟨Y,tail,ex,rfl,hY,-,-,h1,h2,-⟩
 ·rw[e]at hn;simp at hn
 ·refine⟨Y,_,?_,hY,?_,h1,h2⟩
  ·simp[zhT,hn]
  ·rw[List.getElem?_append_left (by simpa using hn)];simp[hn]
theorem zhv{h h':T Ob}{lo lo' c c':Nat}{d:D}{q:CQ}(H:CsD h lo c d q)(hh:∀x,lo≤x->x<c->h'.get x=h.get x)(hl:lo'≤lo)(hc:c≤c'):CsD h' lo' c' d q:=by
 rcases H with H|⟨Y,tail,ex,rfl,hY,h3,h4,h1,h2,h5⟩
 ·exact .inl H
 ·exact .inr ⟨Y,tail,ex,rfl,by rw[hh Y h1 h2];exact hY,h3,h4,by omega,by omega,h5⟩
theorem zBL(q:CQ)(p:Cm->Bool)(hl:q.cs.length<100000){h:T Ob}{lo c0 c g:Nat}{d fv:D}{cap:List D}(hfv:zc1 fv=some (g,[],cap))(hd:CsD h lo c0 d q)(hcl:∀n (hn:n<q.cs.length),RO pr g (.ag (cmD q.cs[n])::cap) h c (.f (.b (p q.cs[n])))):
  RO pr 90 [d,fv] h c (.f (.i .i64 (ixP q.cs p))):=by
 refine zdU za8 fn90 rfl ?_;simp only[g90,rU];have hlen:=ztd hd;simp -implicitDefEqProofs [rW,st0,zaj,hlen];refine zfj q.cs p (fun n s=>s.tm.get 0=some (d)/\s.tm.get 1=some (fv)/\s.tm.get 7=some (.f (.i .i64 q.cs.length))/\s.tm.get 8=some (.f (.i .i64 n))/\s.h=h/\s.c=c/\s.lw=c) (fun x s=>x= .exit 0/\s.lw=c) (fun n y s=>y= .ret/\s.tm.get 4=some (.f (.i .i64 n))/\s.lw=c) ?_ ?_ _ ?_ ?_ ?_
 ·rintro n s hn ⟨h0,h1,h7,h8,eh,ec,el⟩;have hw:=zaC n (by omega);have hp:=hcl n hn;obtain⟨Y,rows,hi,hY,hr,-,-⟩ :=zJ4 hd hn;rw[<-eh]at hY;generalize hA:q.cs[n]=A at hp hr⊢;simp -implicitDefEqProofs [rW,h0,h1,h7,h8,hn,hi,hY,hr,cmD,tmD,hfv];refine zdg (d:= .f (.b (p A))) ?_ ?_ ?_
  ·simp only[rG];rw[eh,ec];exact hp
  ·simp only[rG];omega
  ·intro mx;cases hb:p A with
   |true=>simp -implicitDefEqProofs [rW,h0,h1,h7,h8,el]
   |false=>simp -implicitDefEqProofs [rW,h0,h1,h7,h8,hw,eh,ec,el]
 ·rintro s ⟨h0,h1,h7,h8,eh,ec,el⟩;simp -implicitDefEqProofs [rW,h0,h1,h7,h8,el]
 ·simp -implicitDefEqProofs [rW,st0,zaj]
 ·rintro h z s ⟨rfl,el⟩;rw[zk6 h];simp -implicitDefEqProofs [rW,zaU,el]
 ·rintro n hn hp hm z s ⟨rfl,h4,el⟩;rw[zkk hn hp hm];simp -implicitDefEqProofs [rW,h4,zaU,el]
theorem ro88(q:CQ)(p:Cm->Bool)(hl:q.cs.length<100000){h:T Ob}{lo c0 c g:Nat}{d fv:D}{cap:List D}(hfv:zc1 fv=some (g,[],cap))(hd:CsD h lo c0 d q)(hcl:∀n (hn:n<q.cs.length),RO pr g (.ag (cmD q.cs[n])::cap) h c (.f (.b (p q.cs[n])))):
  RO pr 88 [d,fv] h c (.f (.b (q.cs.any p))):=by
 refine zdU za8 fn88 rfl ?_;simp only[g88,rU];rw[<-zm3 q.cs p];simp -implicitDefEqProofs [rW,st0,zaj];refine zdg (d:= .f (.i .i64 (ixP q.cs p))) ?_ ?_ ?_
 ·simp only[rG];exact zBL q p hl hfv hd hcl
 ·simp only[rG];omega
 ·intro mx;simp -implicitDefEqProofs [rW,zaU]
theorem zBM(t:Trm)(hd:List Str)(hh:hd.length<1000)(ht:zax t){h:T Ob}{c H:Nat}(gH:h.get H=some (.arr 1 0 [[.f (zav hd)]]))(hH:H<c):RO pr 93 [.ag (tmD t),.ptr H 1 0 0] h c (.f (.b (frT hd t))):=by
  refine zdU za8 fn93 rfl ?_;simp only[g93,rU];have nH:¬H=c:=by omega
  cases t with
  | cst a=>
    unfold frT;simp -implicitDefEqProofs [rW,st0,zaj,tmD,zdQ,zdL,zdN,gH,nH,zaU];simp (disch:=omega) only[zbu,zb8]
  | var s=>
    have hs:s≠[]:=ht;unfold frT;have q:=fun k=>zay (k:=k) (zva hd s (by omega))
    obtain⟨b,hb⟩ :∃b,b=hd.any (· ==s):=⟨_,rfl⟩
    rw[<-hb]at q;simp -implicitDefEqProofs [rW,st0,zaj,tmD,zcu,zcs,zct,gH,nH,hs,zaS,q,zaU];simp (disch:=omega) only[zbu,zb8];exact⟨hb,trivial⟩
theorem ro94(k:Cm)(hd:List Str)(hh:hd.length<1000)(hk:zbn k){h:T Ob}{c H X:Nat}(gH:h.get H=some (.arr 1 0 [[.f (zav hd)]]))(hH:H<c)(gX:h.get X=some (.arr 1 0 [[.fn 93 [] [.ptr H 1 0 0]]]))(hX:X<c):RO pr 94 [.ag (cmD k),.ptr X 1 0 0] h c (.f (.b (eqV hd k))):=by
 refine zdU za8 fn94 rfl ?_;obtain⟨op,l,r⟩ :=k;simp only[g94,rU];have nH:¬H=c:=by omega
 have nX:¬X=c:=by omega
 unfold eqV
 by_cases h1:op=1
 ·subst h1;simp -implicitDefEqProofs [rW,st0,zaj,cmD,tmD,gX,nX];refine zdg (d:= .f (.b (frT hd l))) ?_ ?_ ?_
  ·simp only[rG];exact zBM l hd hh hk.1 (by rw[Vse.T.zad,if_neg nH];exact gH) (by omega)
  ·simp only[rG];simp (disch:=omega) only[zbu,zb8];omega
  ·intro mx;cases hb:frT hd l with
   |true=>
    simp -implicitDefEqProofs [rW,st0,zaj,cmD,tmD,zaU];simp (disch:=omega) only[zbu,zb8]
   |false=>
    simp -implicitDefEqProofs [rW,st0,zaj,cmD,tmD,gX,nX];refine zdg (d:= .f (.b (frT hd r))) ?_ ?_ ?_
    ·simp only[rG];exact zBM r hd hh hk.2 (by rw[Vse.T.zad,if_neg nH];exact gH) (by omega)
    ·simp only[rG];simp (disch:=omega) only[zbu,zb8];omega
    ·intro mx;simp -implicitDefEqProofs [rW,zaU];simp (disch:=omega) only[zbu,zb8]
 ·simp -implicitDefEqProofs [rW,st0,zaj,cmD,tmD,h1,zaU];simp (disch:=omega) only[zbu,zb8]
end Go.Proofs.YtmnkdfjljkhneaaGreat
end
section
namespace Go.Proofs.YtmnkdfjljkhneaaGreat
open Go Go.RowKit
set_option maxRecDepth 100000
set_option maxHeartbeats 4000000
theorem zIs{P:Program}{ops:Array Oper}{o:Oper}{a:Act}{w w':World}{v:Value}{K:Act->World->Prop}{Q:Exit->Act->World->Prop}{E:Prop}
  (hg:o.guard=none)(d s:Operand)(dT sT:TypeId)(hop:o.op=Op.call {callee:=Callee.builtin Builtin.copy,args:= #[d,s],argTypes:= #[dT,sT]})
  (dv sv:Value)(hd:a.eval d=dv)(hs:a.eval s=sv)(hrun:(Builtin.copy_ #[dT,sT] o.type #[dv,sv]).run P w= .ok v w')(hK:K (a.put o.dst v) w'):
  if Region.wanted o (yielded ops a.tmps)=true then Oper.wp P o a w K Q else E:=by
 have hw:Region.wanted o (yielded ops a.tmps)=true:=by simp[Region.wanted,hg]
 rw[if_pos hw];unfold Oper.wp;simp[execOp,hop,resolve,invoke,builtin,hd,hs,hrun,Result.andThen];exact hK
theorem repB(w w1 w2:World)(b bv m k i C Cv:Nat)(hi:i+1<m)(hk:2≤k)(hm:m≤1000)(hk2:k≤1000)(hC:m+k - 1≤C)
  (hov:(callFunc 108 #[.slice (some ⟨b,(i+k)*2,none⟩) (m - (i+1)) (C - (i+k)),.slice (some ⟨bv,0,none⟩) k Cv]).run Tryz.prog w.drew= .ok (.value (.bool false)) w.drew)
  (hcp1:(Builtin.copy_ #[24,24] 3 #[.slice (some ⟨b,(i+k)*2,none⟩) (m - (i+1)) (C - (i+k)),.slice (some ⟨b,(i+1)*2,none⟩) (m - (i+1)) (C - (i+1))]).run Tryz.prog w.drew.drew= .ok (.int .i64 ((m - (i+1):Nat):Int)) w1)
  (hcp2:(Builtin.copy_ #[24,24] 3 #[.slice (some ⟨b,i*2,none⟩) (i+k+(m - (i+1)) - i) (C - i),.slice (some ⟨bv,0,none⟩) k Cv]).run Tryz.prog w1= .ok (.int .i64 ((k:Nat):Int)) w2):
  Calls Tryz.prog 64 #[.slice (some ⟨b,0,none⟩) m C,.int .i64 ((i:Nat):Int),.int .i64 ((i+1:Nat):Int),.slice (some ⟨bv,0,none⟩) k Cv] w fun e w'=>e= .returned (.slice (some ⟨b,0,none⟩) (i+k+(m - (i+1))) C)/\w'=w2:=by
 have hw:IntKind.i64.wrap ((i:Int)+(k:Int))=(i:Int)+k:=IntWalk.i64_in _ (by omega);have hto:((i:Int)+(k:Int)).toNat=i+k:=by omega
 have hne:¬C=i+k:=by omega
 have hne2:¬C=i+1:=by omega
 have h0:(0:Int)≤(i:Int)+k:=by omega
 have h01:(0:Int)≤(i:Int)+1:=by omega
 have hle1:(i:Int)+1≤m:=by omega
 have hto1:((i:Int)+1).toNat=i+1:=by omega
 have hle:(i:Int)+k≤i+k+((m - (i+1):Nat):Int):=by omega
 go_enter Tryz.func64,Tryz.ntmps64
 go_wp2
 go_region
 go_wp2
 go_region_law (refine zIs rfl (.tmp 126) (.tmp 129) 24 24 rfl _ _ (by simp[Act.eval,Act.put]) (by simp[Act.eval,Act.put]) hcp1 ?_)
 go_wp2
 go_ret
 exact⟨rfl,rfl⟩
theorem zFs:Tryz.prog.underlying 24=some (.slice 32):=by kernel_rfl
theorem szo32:((Tryz.prog.info? 32).map (·.size)).isSome=true:=by kernel_rfl
theorem zIi:Go.Vse.zaO Tryz.prog 32=some 2:=by kernel_rfl
theorem zHr:Go.Vse.zAj Tryz.prog 64 2 24:=by
  intro w w1 w2 b bv m k i C Cv hi hk hm hk2 hC hap h1 h2;obtain⟨hne,tA,kA,tB,kB,hsa,hsb,hkB,hfa,hfe⟩ :=hap;have e1:m+k - 1 - (i+k)=m - (i+1):=by omega
  have e2:m+k - 1=i+k+(m - (i+1)):=by omega
  rw[e1]at h1;rw[e2]at h2⊢;refine repB w w1 w2 b bv m k i C Cv hi hk hm hk2 hC ?_ h1 h2;rw[run_callFunc_extern Tryz.func108 (by kernel_rfl) (by kernel_rfl) (by kernel_rfl) (e:=Extern.SlicesOverlaps.overlaps Tryz.f108.params Tryz.f108.resultTypes) rfl];obtain⟨i',hi'⟩ :=Option.isSome_iff_exists.1 szo32;obtain⟨inf,hinf,_⟩ :=Option.map_eq_some_iff.1 hi';have:=Go.Lib.run_overlaps_apart (P:=Tryz.prog) w.drew 24 4 32 zFs inf.size (by intro w;simp[sizeOf,typeInfo,hinf]) ⟨b,(i+k)*2,none⟩ ⟨bv,0,none⟩ (m - (i+1)) (C - (i+k)) k Cv hne tA tB kA kB hsa hsb hkB hfa hfe;exact (congrArg (Result.andThen · _) this).trans rfl
end Go.Proofs.YtmnkdfjljkhneaaGreat
end
