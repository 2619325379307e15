/- Rows that grow and shrink. -/
import Derived.Test.YtmnkdfjljkhneaaGreatPa
import Derived.KernelRfl
import Derived.IntWalk
import Derived.Test.YtmnkdfjljkhneaaGreatFct
set_option linter.all false
set_option maxRecDepth 100000
set_option maxHeartbeats 4000000
noncomputable section
section
namespace Go.Proofs.YtmnkdfjljkhneaaGreat
open Go Go.Vse Go.Vse.Sm
def tmD(u:Trm):List D:=[.f (.s (tv u)),.f (.i .i64 (tk u)),.f (.i .i64 (tn u)),.f (.s [])]
def tmD_E(l:List Trm)(n:Nat)(h:n<l.length):(zbv l)[n]? =some (tmD l[n]):=by
 simp[zbv,tmD,tmE,Z0 h]
def zcm(v:Str):tv (.var v)=v:=rfl
def zcr(v:Str):tk (.var v)=0:=rfl
def zcs(v:Str):tn (.var v)=0:=rfl
def zdm(n:Int):tv (.cst n)=[]:=rfl
def zcS(n:Int):tk (.cst n)=1:=rfl
def zcN(n:Int):tn (.cst n)=n:=rfl
def bE(l:List Bool):List (List D):=l.map fun b=>[D.f (.b b)]
def ixE'(j:Nat)(ns:List Str):List (F×D):=match ns with
 |[]=>[]
 |x::l=>(F.s x,D.f (.i .i64 (j:Int)))::ixE' (j+1) l
def ixE(ns:List Str):List (F×D):=ixE' 0 ns
structure SAt(a b:CQ)(ns:List Str)(im:List Trm)(asg:List Bool)(dA dC dT:D)(h:T Ob)(c S M I A:Nat):Prop where
 gS:h.get S=some (.arr 11 0 [[.f (zaq ns),.mp M,.sl I 0 ns.length 4 ns.length true,.sl A 0 ns.length 1 ns.length true,.f (zaB a),.f (zaC a),dA,dC,.f (zaB b),.f (zaC b),dT]])
 gM:h.get M=some (.map (ixE ns))
 gI:h.get I=some (.arr 4 0 (zbv im))
 gA:h.get A=some (.arr 1 0 (bE asg))
 lI:im.length=ns.length
 lA:asg.length=ns.length
 bS:S<c
 bM:M<c
 bI:I<c
 bA:A<c
def SAt.up{a b:CQ}{ns:List Str}{im:List Trm}{asg:List Bool}{dA dC dT:D}{h h':T Ob}{c c' S M I A:Nat}(H:SAt a b ns im asg dA dC dT h c S M I A)(hf:∀id,id<c->h'.get id=h.get id)(hc:c<=c'):SAt a b ns im asg dA dC dT h' c' S M I A:=
 ⟨by rw[hf S H.bS];exact H.gS,by rw[hf M H.bM];exact H.gM,by rw[hf I H.bI];exact H.gI,by rw[hf A H.bA];exact H.gA,H.lI,H.lA,Z15 H.bS hc,Z15 H.bM hc,Z15 H.bI hc,Z15 H.bA hc⟩
def cmD(k:Cm):List D:= .f (.i .i64 k.op)::(tmD k.l++tmD k.r)
def RdI(h:T Ob)(c:Nat)(d:D)(l:List Nat):Prop:=d= .f (zoG l)\/Held h 0 c 1 d (iE l)
def RdI.up{h h':T Ob}{c c':Nat}{d:D}{l:List Nat}(H:RdI h c d l)(hf:∀id,id<c->h'.get id=h.get id)(hc:c<=c'):RdI h' c' d l:=by
 rcases H with H|H|⟨id,ro,h1,h2,h3,h4,h5⟩
 .exact .inl H
 .exact .inr (.inl H)
 .exact .inr (.inr ⟨id,ro,h1,h2,by rw[hf id h5];exact h3,h4,by omega⟩)
def RdI.len{h:T Ob}{c:Nat}{d:D}{l:List Nat}(H:RdI h c d l):zcx d=some l.length:=by
 rcases H with rfl|⟨rfl,hl⟩ |⟨id,ro,rfl,h2,h3,h4,h5⟩
 .exact zEl l
 .have:l=[]:=by simpa [iE]using hl
  subst this;rfl
 .simp[zcx,zBl]
def RdI.get{h:T Ob}{c:Nat}{d:D}{l:List Nat}(H:RdI h c d l){n:Nat}(hn:n<l.length):∃p rd,iaB 1 d n=some p/\zca false 1 h.get p=some (.f (.i .i64 (l[n]:Int)),rd):=by
 rcases H with rfl|⟨rfl,hl⟩ |⟨id,ro,rfl,h2,h3,h4,h5⟩
 .exact⟨.fptr [.i .i64 (l[n]:Int)],[],by simp[zLO,hn],by simp[zca,zhD]⟩
 .have:l=[]:=by simpa [iE]using hl
  subst this;simp at hn
 .refine⟨.ptr id 1 n 0,[id],by simp[iaB,zBl,hn],?_⟩;simp[zca,h3,zcJ,iE,Z0 hn]
def RdT(h:T Ob)(c:Nat)(d:D)(l:List Trm):Prop:=(d= .f .nils/\l=[])\/∃id lim ex els ro,d= .sl id 0 l.length 4 lim ex/\h.get id=some (.arr 4 ro els)/\els.take l.length=zbv l/\id<c
def RdT.up{h h':T Ob}{c c':Nat}{d:D}{l:List Trm}(H:RdT h c d l)(hf:∀id,id<c->d.oid=some id->h'.get id=h.get id)(hc:c<=c'):RdT h' c' d l:=by
 rcases H with H|⟨id,lim,ex,els,ro,h1,h2,h3,h4⟩
 .exact .inl H
 .exact .inr ⟨id,lim,ex,els,ro,h1,by rw[hf id h4 (by rw[h1];rfl)];exact h2,h3,by omega⟩
def RdT.len{h:T Ob}{c:Nat}{d:D}{l:List Trm}(H:RdT h c d l):zcx d=some l.length:=by
 rcases H with⟨rfl,rfl⟩ |⟨id,lim,ex,els,ro,rfl,h2,h3,h4⟩ <;>rfl
def RdT.cells{h:T Ob}{c:Nat}{d:D}{l:List Trm}(H:RdT h c d l):d.cells=some [d]:=by
 rcases H with⟨rfl,rfl⟩ |⟨id,lim,ex,els,ro,rfl,h2,h3,h4⟩ <;>rfl
def RdT.get{h:T Ob}{c:Nat}{d:D}{l:List Trm}(H:RdT h c d l){n:Nat}(hn:n<l.length):∃p rd,iaB 4 d n=some p/\zca true 4 h.get p=some (.ag (tmD l[n]),rd):=by
 rcases H with⟨rfl,rfl⟩ |⟨id,lim,ex,els,ro,rfl,h2,h3,h4⟩
 .simp at hn
 .refine⟨.ptr id 4 n 0,[id],by simp[iaB,hn],?_⟩;have e:els[n]? =some (tmD l[n]):=by
   rw[<-tmD_E l n hn,<-h3,List.getElem?_take,if_pos hn]
  simp[zca,h2,e,zcJ,tmD]
def SAt.ne{a b:CQ}{ns:List Str}{im:List Trm}{asg:List Bool}{dA dC dT:D}{h:T Ob}{c S M I A:Nat}(H:SAt a b ns im asg dA dC dT h c S M I A):S≠I/\S≠A/\M≠I/\M≠A/\I≠A:=by
 obtain⟨g1,g2,g3,g4,_⟩ :=H;refine⟨?_,?_,?_,?_,?_⟩ <;>rintro rfl
 .rw[g1]at g3;simp at g3
 .rw[g1]at g4;simp at g4
 .rw[g2]at g3;simp at g3
 .rw[g2]at g4;simp at g4
 .rw[g3]at g4;simp at g4
def FrI(h h':T Ob)(c I A:Nat):Prop:=∀id,id<c->id≠I->id≠A->h'.get id=h.get id
def RdS(h:T Ob)(c:Nat)(d:D)(l:List Nat):Prop:=(d= .f .nils/\l=[])\/∃id off lim ex ro els,d= .sl id off l.length 1 lim ex/\h.get id=some (.arr 1 ro els)/\(els.drop off).take l.length=iE l/\id<c
def RdS.len{h:T Ob}{c:Nat}{d:D}{l:List Nat}(H:RdS h c d l):zcx d=some l.length:=by
 rcases H with⟨rfl,rfl⟩ |⟨id,off,lim,ex,ro,els,rfl,_⟩ <;>rfl
def zPs(l:List Nat)(n:Nat)(h:n<l.length):(iE l)[n]? =some [D.f (.i .i64 (l[n]:Int))]:=by simp[iE,Z0 h]
def RdS.hd{h:T Ob}{c v:Nat}{d:D}{l:List Nat}(H:RdS h c d (v::l)):∃p rd,iaB 1 d 0=some p/\zca false 1 h.get p=some (.f (.i .i64 (v:Int)),rd):=by
 rcases H with⟨_,h⟩ |⟨id,off,lim,ex,ro,els,rfl,e2,e3,e4⟩
 .cases h
 .refine⟨.ptr id 1 (off+0) 0,[id],by simp[iaB],?_⟩;have e:els[off]? =some [D.f (.i .i64 (v:Int))]:=by
   have h0:=zPs (v::l) 0 (by simp);rw[<-e3,List.getElem?_take,if_pos (by simp),List.getElem?_drop]at h0;simpa using h0
  simp[zca,e2,e,zcJ]
def RdN(h:T Ob)(c I A n:Nat)(d:D)(f:Nat->List Nat):Prop:=∃N ro rows,d= .sl N 0 n 1 n true/\h.get N=some (.arr 1 ro rows)/\N<c/\N≠I/\N≠A/\∀v,v<n->∃e,rows[v]? =some [e]/\RdI h c e (f v)/\e.oid≠some I/\e.oid≠some A
def RdN.get{h:T Ob}{c I A n:Nat}{d:D}{f:Nat->List Nat}(H:RdN h c I A n d f){v:Nat}(hv:v<n):∃p rd e,iaB 1 d v=some p/\zca false 1 h.get p=some (e,rd)/\RdI h c e (f v)/\e.oid≠some I/\e.oid≠some A:=by
 obtain⟨N,ro,rows,rfl,e2,e3,e4,e5,e6⟩ :=H;obtain⟨e,g1,g2,g3,g4⟩ :=e6 v hv;exact⟨.ptr N 1 v 0,[N],e,by simp[iaB,hv],by simp[zca,e2,g1,zcJ],g2,g3,g4⟩
def FrI.trans{h h' h'':T Ob}{c c' I A:Nat}(h1:FrI h h' c I A)(h2:FrI h' h'' c' I A)(hc:c<=c'):FrI h h'' c I A:=
 fun id a b d=>by rw[h2 id (by omega) b d,h1 id a b d]
def RdU(h:T Ob)(c:Nat)(d:D)(l:List Trm):Prop:=d= .f (zaW l)\/RdT h c d l
def RdU.up{h h':T Ob}{c c':Nat}{d:D}{l:List Trm}(H:RdU h c d l)(hf:∀id,id<c->h'.get id=h.get id)(hc:c<=c'):RdU h' c' d l:=by
 rcases H with H|H
 .exact .inl H
 .exact .inr (H.up (fun id a _=>hf id a) hc)
def RdU.len{h:T Ob}{c:Nat}{d:D}{l:List Trm}(H:RdU h c d l):zcx d=some l.length:=by
 rcases H with rfl|H
 .exact zaO l
 .exact H.len
def RdU.get{h:T Ob}{c:Nat}{d:D}{l:List Trm}(H:RdU h c d l){n:Nat}(hn:n<l.length):∃p rd,iaB 4 d n=some p/\zca true 4 h.get p=some (.ag (tmD l[n]),rd):=by
 rcases H with rfl|H
 .exact⟨.fptr (tmF l[n]),[],by simp[zbk,hn],by simp[zca,zhD,tmE,tmD]⟩
 .exact H.get hn
structure SIx(ns:List Str)(h:T Ob)(c S M:Nat):Prop where
 gS:∃ro cells,h.get S=some (.arr 11 ro [cells])/\cells[1]? =some (.mp M)
 gM:h.get M=some (.map (ixE ns))
 bS:S<c
 bM:M<c
def SIx.up{ns:List Str}{h h':T Ob}{c c' S M:Nat}(H:SIx ns h c S M)(hf:∀id,id<c->h'.get id=h.get id)(hc:c<=c'):SIx ns h' c' S M:=
 ⟨by rw[hf S H.bS];exact H.gS,by rw[hf M H.bM];exact H.gM,Z15 H.bS hc,Z15 H.bM hc⟩
def SAt.ix{a b:CQ}{ns:List Str}{im:List Trm}{asg:List Bool}{dA dC dT:D}{h:T Ob}{c S M I A:Nat}(H:SAt a b ns im asg dA dC dT h c S M I A):SIx ns h c S M:=
 ⟨⟨0,_,H.gS,rfl⟩,H.gM,H.bS,H.bM⟩
structure GAt(g:List Nat)(n:Nat)(h:T Ob)(c G G0:Nat):Prop where
 g0:h.get G0=some (.arr 1 0 [[.sl G 0 n 1 n true]])
 gg:h.get G=some (.arr 1 0 (iE g))
 b0:G0<c
 bg:G<c
def GAt.up{g:List Nat}{n:Nat}{h h':T Ob}{c c' G G0:Nat}(H:GAt g n h c G G0)(hf:∀id,id<c->h'.get id=h.get id)(hc:c<=c'):GAt g n h' c' G G0:=
 ⟨by rw[hf _ H.b0];exact H.g0,by rw[hf _ H.bg];exact H.gg,Z15 H.b0 hc,Z15 H.bg hc⟩
structure CAt(asg:List Bool)(ns:List Str)(g:List Nat)(h:T Ob)(c S M A G G0 B FB:Nat):Prop where
 ix:SIx ns h c S M
 ga:GAt g ns.length h c G G0
 sA:∃ro cells,h.get S=some (.arr 11 ro [cells])/\cells[3]? =some (.sl A 0 ns.length 1 ns.length true)
 gA:h.get A=some (.arr 1 0 (bE asg))
 lA:asg.length=ns.length
 bA:A<c
 gB:h.get B=some (.arr 1 0 [[.ptr S 11 0 0]])
 bB:B<c
 gF:h.get FB=some (.arr 1 0 [[.fn 90068 [] [.ptr G0 1 0 0]]])
 bF:FB<c
 nA:A≠G
def clrO(es id off m es' c:Nat)(z:List F):Ob->Option Rs
 | .arr es'' ro old=>if es=es'/\es'=es''/\off+m<=old.length/\ro<=off/\zcM old (old.take off++List.replicate m (z.map D.f)++old.drop (off+m))=true then
     some {d:= .f .un,rd:=[id],wr:=[(id,some (.arr es ro (old.take off++List.replicate m (z.map D.f)++old.drop (off+m))))],c}
    else none
 |_=>none
theorem zpM{es id off m es' c es'' ro:Nat}{z:List F}{old:List (List D)}:clrO es id off m es' c z (.arr es'' ro old)=if es=es'/\es'=es''/\off+m<=old.length/\ro<=off/\zcM old (old.take off++List.replicate m (z.map D.f)++old.drop (off+m))=true then
     some {d:= .f .un,rd:=[id],wr:=[(id,some (.arr es ro (old.take off++List.replicate m (z.map D.f)++old.drop (off+m))))],c}
    else none:=rfl
def zzM(h:Nat->Option Ob)(c es:Nat)(z:List F)(id off m es' lim:Nat)(ex:Bool):opv h c (.clr es z (.sl id off m es' lim ex))=om (h id) (clrO es id off m es' c z):=by
 simp only[opv,om];cases h id with
 |none=>rfl
 |some o=>cases o<;>rfl
def slO(es id off len es' lim:Nat)(ex:Bool)(l r:Nat):Ob->Option (D×List Nat)
 | .arr es'' _ _=>if es=es'/\es'=es''/\l<=r/\(off+r<=lim\/r<=len)then some (.sl id (off+l) (r - l) es lim ex,[id])else none
 |_=>none
def zfz{es id off len es' lim:Nat}{ex:Bool}{l r es'' ro:Nat}{els:List (List D)}:slO es id off len es' lim ex l r (.arr es'' ro els)=if es=es'/\es'=es''/\l<=r/\(off+r<=lim\/r<=len)then some (.sl id (off+l) (r - l) es lim ex,[id])else none:=rfl
def zhH{es:Nat}{h:Nat->Option Ob}{id off len es' lim:Nat}{ex:Bool}{lo hi:Option D}:sliceB es h (.sl id off len es' lim ex) lo hi none=om (h id) fun o=>om (zbn 0 lo) fun l=>om (zbn len hi) fun r=>slO es id off len es' lim ex l r o:=by
 simp only[sliceB,om];cases h id with
 |none=>rfl
 |some o=>
  cases o with
  |map _=>
   simp only[Z46];cases zbn 0 lo with
   |none=>rfl
   |some l=>simp only[Z46];cases zbn len hi<;>rfl
  |arr es'' ro els=>
   simp only[Z46];cases zbn 0 lo with
   |none=>rfl
   |some l=>simp only[Z46];cases zbn len hi<;>rfl
def CAt.up{asg:List Bool}{ns:List Str}{g:List Nat}{h h':T Ob}{c c' S M A G G0 B FB:Nat}(H:CAt asg ns g h c S M A G G0 B FB)(hf:∀id,id<c->h'.get id=h.get id)(hc:c<=c'):CAt asg ns g h' c' S M A G G0 B FB:=by
 obtain⟨x1,y1,z1,z2,z3,z4,z5,z6,z7,z8,z9⟩ :=H;exact⟨x1.up hf hc,y1.up hf hc,by rw[hf _ x1.bS];exact z1,by rw[hf _ z4];exact z2,z3,by omega,by rw[hf _ z6];exact z5,by omega,by rw[hf _ z8];exact z7,by omega,z9⟩
def CAt.lo{asg:List Bool}{ns:List Str}{g:List Nat}{h:T Ob}{c c' S M A G G0 B FB:Nat}(H:CAt asg ns g h c S M A G G0 B FB)(b1:S<c')(b2:M<c')(b3:A<c')(b4:G<c')(b5:G0<c')(b6:B<c')(b7:FB<c'):CAt asg ns g h c' S M A G G0 B FB:=by
 obtain⟨⟨x1,x2,x3,x4⟩,⟨y1,y2,y3,y4⟩,z1,z2,z3,z4,z5,z6,z7,z8,z9⟩ :=H;exact⟨⟨x1,x2,b1,b2⟩,⟨y1,y2,b5,b4⟩,z1,z2,z3,b3,z5,b6,z7,b7,z9⟩
theorem zey{h:T Ob}{lo c es byt:Nat}{d:D}{els new:List (List D)}{rd:List Nat}{K:Rs->Prop}(hg:Gro h lo c es d els)(hlo:lo<=c)(hlen:els.length+new.length<=1000000)(hb:byt<=1000)
  (hK:∀r:Rs,zay r.c r.wr=true->Gro (wrT h r.wr) lo r.c es r.d (els++new)->c<=r.c->(∀id,id<c->d.oid≠some id->(wrT h r.wr).get id=h.get id)->(∀x,r.d.oid=some x->x=c\/d.oid=some x)->K r):oB (zb6 es byt h.get c d new rd) K:=by
 obtain⟨r,h1,h2,h3,h4,h5,h6,h7,h8⟩ :=zpU (byt:=byt) (rd:=rd) hg hlo hlen hb;rw[h1];exact hK r h2 h3 h4 h5 h8
def zbW{h:T Ob}{lo c es:Nat}{d:D}{els:List (List D)}(hg:Gro h lo c es d els){x:Nat}(hx:d.oid=some x):lo<=x/\x<c:=by
 rcases hg with⟨rfl,_⟩ |⟨id,ro,rfl,h2,h3,h4,h5,h6⟩
 .simp[D.oid]at hx
 .simp[D.oid]at hx;omega
def zdQ(l:List CQ):List (List D):=l.map fun c=>[D.f (zaB c),D.f (zaC c)]
def zhb(l:List CQ):(zdQ l).length=l.length:=by simp[zdQ]
def zqL(l:List CQ)(c:CQ):zdQ (l++[c])=zdQ l++[[D.f (zaB c),D.f (zaC c)]]:=by simp[zdQ]
def zDW(h:Nat->Option Ob)(k:Nat)(l:List CQ):zaQ (frz h (k+1)) (zdQ l)=some (l.map cqF,[]):=by
 have:=zfm h k (l.map cqF);rw[Z33]at this;exact this
def fn26:pr.fn 26=some g26:=by kernel_rfl
def fn59:pr.fn 59=some g59:=by kernel_rfl
def fn60:pr.fn 60=some g60:=by kernel_rfl
def fn51:pr.fn 51=some g51:=by kernel_rfl
def zDh(h:Nat->Option Ob)(c:Nat):opv h c (.eqn 0 false (.f .nils) (.f .nils))=some {d:= .f (.b true),c}:=rfl
def zpp(h:Nat->Option Ob)(c es:Nat)(l:List (List F)):opv h c (.eqn 0 false (.f (.sl es l)) (.f .nils))=some {d:= .f (.b false),c}:=rfl
def Own(h:T Ob)(lo c:Nat)(d:D)(X:F):Prop:=(d= .f X\/∃a b e f g x,d= .sl a b e f g x)/\d.cells=some [d]/\(∀x,d.oid=some x->lo<=x/\x<c)/\∀h':T Ob,(∀x,d.oid=some x->h'.get x=h.get x)->∀k,∃rd,frz h'.get (k+2) d=some (X,rd)
def Own.up{h h':T Ob}{lo lo' c c':Nat}{d:D}{X:F}(H:Own h lo c d X)(hf:∀x,d.oid=some x->h'.get x=h.get x)(hl:lo'<=lo)(hc:c<=c'):Own h' lo' c' d X:=
 ⟨H.1,H.2.1,fun x hx=>by have:=H.2.2.1 x hx;omega,fun h2 hh=>H.2.2.2 h2 fun x hx=>(hh x hx).trans (hf x hx)⟩
def zij{h:T Ob}{lo c es:Nat}{d:D}{rows:List (List F)}(hg:Gro h lo c es d (rows.map fun a=>a.map D.f)):Own h lo c d (slc es rows):=by
 refine⟨?_,za3 hg,fun x hx=>zbW hg hx,fun h' hh k=> ?_⟩
 .rcases hg with⟨rfl,hr⟩ |⟨id,ro,rfl,hn,hg,hr,hl,hc⟩
  .have:rows=[]:=by simpa using hr
   subst this;exact .inl rfl
  .exact .inr ⟨_,_,_,_,_,_,rfl⟩
 rcases hg with⟨rfl,hr⟩ |⟨id,ro,rfl,hn,hg,hr,hl,hc⟩
 .have:rows=[]:=by simpa using hr
  subst this;exact⟨[],rfl⟩
 .refine⟨[id],?_⟩;have h1:=hh id rfl;rw[zdx,h1,hg,za9,zdf];simp only[true_and,Z25,Z2,if_true,Z34,Z7,zfm h'.get k rows,za9];rw[zbR (fun e=>hn (by rw[e];rfl))]
def gCl(es byt:Nat)(z:List F):Go.Vse.Fn:=⟨8,[.t 2],oZ [oR 2 (.mv (.k .nils))]
 (.seq (oD [oM 3 0,oR 4 (.eqn 0 false (.t 3) (.k .nils))] 4 (oZ [oR 2 (.mv (.k .nils))] .ret) .skip)
 (oZ [oR 5 (.bsl es z 0 []),oM 6 0,oR 7 (.app es byt (.t 5) (.t 6)),oM 2 7] .ret))⟩
theorem zx8{n es byt:Nat}{z:List F}(hf:pr.fn n=some (gCl es byt z))(hb:byt<=1000){X:F}{rows:List (List F)}(hX:X= .sl es rows\/X= .nils/\rows=[])(hl:rows.length<=1000000){h:T Ob}{c:Nat}:
  Eff pr n [.f X] h c fun d h' c'=>Frm h h' c/\Own h' c c' d X:=by
 refine zci zbi hf ?_;unfold gCl;simp only[rU];rcases hX with rfl|⟨rfl,rfl⟩
 .have hm:rows.length*byt<=1000000*1000:=Nat.mul_le_mul hl hb;have m1:(rows.length<=zak)=True:=zaV (by omega);have m2:(rows.length*byt<=zak)=True:=zaV (by omega)
  by_cases h0:rows=[]
  .subst h0;simp[rW,st0,zae,zpp,zbl];refine⟨fun x hx=> ?_,.inr ⟨_,_,_,_,_,_,rfl⟩,rfl,fun x hx=> ?_,fun h' hh k=>⟨[c],?_⟩⟩
   .have:¬x=c:=by omega
    simp[Vse.T.zad,this]
   .simp[D.oid]at hx;omega
   .have:=hh c rfl;simp[Vse.T.zad]at this;rw[zdx,this];simp[om,zdf,zaQ]
  .simp[rW,st0,zae,zpp,h0,m1,m2,zbl];refine⟨fun x hx=> ?_,?_⟩
   .have h1:¬x=c:=by omega
    have h2:¬x=c+1:=by omega
    simp[Vse.T.zad,h1,h2]
   .have:=zij (h:=(h.set c (.arr es 0 [])).set (c+1) (.arr es 0 (rows.map fun a=>a.map D.f))) (lo:=c) (c:=c+1+1) (es:=es) (d:= .sl (c+1) 0 rows.length es rows.length false) (rows:=rows) (.inr ⟨c+1,0,by simp,by simpa using h0,by simp[Vse.T.zad],Nat.zero_le _,by omega,by omega⟩);rw[<-zbR h0]at this;exact this
 .simp[rW,st0,zae,zDh,zbl];refine⟨fun _ _=>rfl,.inl rfl,rfl,by simp[D.oid],fun h' _ k=>⟨[],rfl⟩⟩
def zhL(es:Nat)(rows:List (List F)):slc es rows= .sl es rows\/slc es rows= .nils/\rows=[]:=by
 cases rows with
 |nil=>exact .inr ⟨rfl,rfl⟩
 |cons a l=>exact .inl rfl
def eff60(l:List Trm)(hl:l.length<=1000000){h:T Ob}{c:Nat}:Eff pr 60 [.f (zaW l)] h c fun d h' c'=>Frm h h' c/\Own h' c c' d (zaW l):=
 zx8 (z:=[.s [],.i .i64 0,.i .i64 0,.s []]) (byt:=48) fn60 (by omega) (zhL 4 _) (by simpa using hl)
def eff51(l:List Str)(hl:l.length<=1000000){h:T Ob}{c:Nat}:Eff pr 51 [.f (zaq l)] h c fun d h' c'=>Frm h h' c/\Own h' c c' d (zaq l):=
 zx8 (z:=[.s []]) (byt:=16) fn51 (by omega) (zhL 1 _) (by simpa using hl)
def eff59(q:CQ)(hl:q.cs.length<=1000000){h:T Ob}{c:Nat}:Eff pr 59 [.f (zaC q)] h c fun d h' c'=>Frm h h' c/\Own h' c c' d (zaC q):=by
 refine zx8 (rows:=q.cs.map cmF) (z:=[.i .i64 0,.s [],.i .i64 0,.i .i64 0,.s [],.s [],.i .i64 0,.i .i64 0,.s []]) (byt:=104) fn59 (by omega) ?_ (by simpa using hl);unfold zaC csF;split
 .rename_i hh;rw[hh.2];exact .inl rfl
 .exact zhL 9 _
def zdv(W:List (Atm×D)):List (List D):=W.map fun p=>[.f (.s p.1.r),.f (.b p.1.neg),p.2]
theorem ziJ{h:T Ob}{lo c:Nat}(k:Nat):∀{W:List (Atm×D)},(∀p∈W,Own h lo c p.2 (zaW p.1.ts))->∃rd,zaQ (frz h.get (k+2)) (zdv W)=some (W.map fun p=>atF p.1,rd)
 |[],_=>⟨[],rfl⟩
 |p::W,hW=>by
  obtain⟨rd,hr⟩ :=ziJ k (W:=W) fun q hq=>hW q (by simp[hq])
  obtain⟨rd2,h2⟩ :=(hW p (by simp)).2.2.2 h (fun _ _=>rfl) k;have h3:za7 (frz h.get (k+2)) [.f (.s p.1.r),.f (.b p.1.neg),p.2]=some (atF p.1,rd2):=by
   have a1:frz h.get (k+2) (.f (.s p.1.r))=some (.s p.1.r,[]):=rfl;have a2:frz h.get (k+2) (.f (.b p.1.neg))=some (.b p.1.neg,[]):=rfl;simp only[za7,a1,a2,h2,atE];simp
  exact⟨rd2++rd,by
   have e:zdv (p::W)=[.f (.s p.1.r),.f (.b p.1.neg),p.2]::zdv W:=rfl;rw[e,zhk,h3];simp only[hr];rfl⟩
def zno{h:T Ob}{lo c es k:Nat}{d:D}{els:List (List D)}{L:List (List F)}{rd:List Nat}(hg:Gro h lo c es d els)(hf:zaQ (frz h.get k) els=some (L,rd))(hL:L=[]↔els=[]):∃rd,frz h.get (k+1) d=some (slc es L,rd):=by
 rcases hg with⟨rfl,rfl⟩ |⟨id,ro,rfl,he,ho,hr,hl,hc⟩
 .rw[hL.2 rfl];exact⟨[],rfl⟩
 .refine⟨id::rd,?_⟩;rw[zdx,ho,za9,zdf];simp only[true_and,Z25,Z2,if_true,Z34,Z7,hf,za9];rw[zbR (fun e=>he (hL.1 e))]
def zmB{α β:Type}{f:α->Option β}:om (none:Option α) f=none:=rfl
def XY1(c:CQ)(n:Nat)(s:St):Prop:=∃(P:Nat) (B dC:D) (W:List (Atm×D)),W.map (·.1)=c.as.take n/\(s.tm.get 1=some (.ptr 0 2 0 0)/\s.tm.get 2=some (.ptr 1 2 0 0)/\s.tm.get 3=some (.ptr P 2 0 0)/\s.tm.get 11=some (.f (zaB c))/\s.tm.get 12=some (.f (.i .i64 c.as.length))/\s.tm.get 13=some (.f (.i .i64 n))/\s.h.get 1=some (.arr 2 0 [[.f .nils,.f .nils]])/\s.h.get P=some (.arr 2 0 [[B,dC]]))/\Own s.h 2 P dC (zaC c)/\Gro s.h (P+1) s.c 3 B (zdv W)/\(∀p∈W,Own s.h (P+1) s.c p.2 (zaW p.1.ts)/\∀x,p.2.oid=some x->B.oid≠some x)/\P<s.c/\2<=P
def zxM(c:CQ)(hc:CqSm c):Ans pr 26 [.ag (cqF c)] (.ag (cqF ⟨c.as,c.cs,c.ne,false⟩)):=by
 refine zbd fn26 ?_;simp only[g26,rU];simp[rW,st0,zae,cqE,zaF,zaH];refine zcz rfl rfl (eff59 c (by have:=hc.sc;omega)) ?_;rintro dC h' c' lw mx ⟨hf,hO⟩ hcc;simp only[rG]at hf hO hcc;have e0:=hf 0 (by omega);have e1:=hf 1 (by omega);simp[Vse.T.zad]at e0 e1;have hcd:=hO.2.1;have n0:¬(0=c'):=by omega
 have n1:¬(1=c'):=by omega
 simp[rW,e0,e1,hcd,n0,n1,za1];refine zdi c.as.length (XY1 c) (fun x s=>x= .exit 0/\XY1 c c.as.length s) ?_ ?_ _ ?_ ?_
 .rintro n s hn ⟨P,B,dC,W,hW,⟨h1,h2,h3,h11,h12,h13,g1,gP⟩,hC,hg,hall,hPc,hP2⟩;have hw:=zao n (by have:=hc.sa;omega);have hx:c.as[n]? =some c.as[n]:=Z0 hn;have hst:=hc.st _ (Z1 hn);have htk:=Z6 hn;generalize hA:c.as[n]=A at hx hst htk;simp[rW,h1,h2,h3,h11,h12,h13,g1,gP,hn,zbh,hx,hA,atE,zaR];refine zcz rfl rfl (eff60 A.ts (by omega)) ?_;rintro d H2 c2 lw2 mx2 ⟨hf2,hO2⟩ hcc2;simp only[rG]at hf2 hO2 hcc2;have eP:=hf2 P (by omega);have eQ:=hf2 s.c (by omega);have e1:=hf2 1 (by omega);have nP:¬(P=s.c):=by omega
  have nP':¬(s.c=P):=by omega
  have n1:¬(1=s.c):=by omega
  have np1:¬(1=P):=by omega
  simp[Vse.T.zad,nP,n1,gP,g1]at eP eQ e1;have hlow:∀j,j<s.c->H2.get j=s.h.get j:=fun j hj=>by
   have:=hf2 j (by omega);have nj:¬j=s.c:=by omega
   simpa [Vse.T.zad,nj]using this
  have hdc:=hO2.2.1;have hWl:(zdv W).length<=12:=by
   have h1:W.length=(c.as.take n).length:=by rw[<-hW];simp
   have:=hc.sa;simp[zdv,h1];omega
  have nP2:¬(P=c2):=by omega
  have n1c:¬(1=c2):=by omega
  rcases hO2.1 with rfl|⟨a1,a2,a3,a4,a5,a6,rfl⟩
  .simp[rW,h1,h2,h3,h11,h12,h13,eP,eQ,e1,hdc,nP,nP',nP2,n1c,zaR,zmB];refine⟨by omega,?_⟩;refine zey (zaS (c':=c2) hg (by omega) fun x h1 h2=> ?_) (by omega) (by simp;omega) (by omega) ?_
   .have nx:¬(x=s.c):=by omega
    have nx2:¬(x=c2):=by omega
    simp[Vse.T.zad,nx,nx2];exact hlow x h2
   intro r hr1 hr2 hr3 hr4 hr5;have hPr:=hr4 P (by omega) (za5 hg (by omega));have h1r:=hr4 1 (by omega) (za5 hg (by omega));simp[Vse.T.zad,nP,n1,nP2,n1c,eP,e1]at hPr h1r;have hr6:∀x,x<c2->x≠s.c->B.oid≠some x->(wrT _ r.wr).get x=H2.get x:=fun x h1 h2 h3=>by
    have nx2:¬(x=c2):=by omega
    rw[hr4 x (by omega) h3];simp[Vse.T.zad,h2,nx2]
   refine⟨hr1,?_⟩;simp[rW,hPr,za3 hr2,nP2,n1c];refine⟨by omega,?_⟩;refine⟨P,r.d,dC,W++[(A,.f (zaW A.ts))],by simp[hW,htk],?_,?_,?_,?_,?_,hP2⟩
   .simp[rW,h1,h2,h3,h11,h12,h13,hw,h1r,hPr,np1]
   .refine hC.up (fun x hx=> ?_) (Z2 _) (Z2 _);have hx2:=hC.2.2.1 x hx;have nx:¬(x=P):=by omega
    simp[rW,nx];rw[hr6 x (by omega) (by omega) (za5 hg (by omega)),hlow x (by omega)]
   .have e:zdv (W++[(A,.f (zaW A.ts))])=zdv W++[[.f (.s A.r),.f (.b A.neg),.f (zaW A.ts)]]:=by simp[zdv]
    rw[e];refine zaS hr2 (by simp[rW,]) fun x h1 h2=> ?_
    have nx:¬(x=P):=by omega
    simp[rW,nx]
   .intro p hp;rcases Z4.1 hp with hp|hp
    .obtain⟨o1,o2⟩ :=hall p hp;refine⟨o1.up (fun x hx=> ?_) (Z2 _) (by simp[rW,];omega),fun x hx hy=> ?_⟩
     .have hx2:=o1.2.2.1 x hx;have nx:¬(x=P):=by omega
      simp[rW,nx];rw[hr6 x (by omega) (by omega) (o2 x hx),hlow x (by omega)]
     .have hx2:=o1.2.2.1 x hx;rcases hr5 x hy with e|e
      .omega
      .exact o2 x hx e
    .obtain rfl:p=(A,.f (zaW A.ts)):=by simpa using hp
     refine⟨hO2.up (fun x hx=> ?_) (by omega) (by simp[rW,];omega),fun x hx hy=> ?_⟩
     .have hx2:=hO2.2.2.1 x hx;have nx:¬(x=P):=by omega
      simp[rW,nx];rw[hr6 x (by omega) (by omega) (fun e=>by have:=zbW hg e;omega)]
     .have hx2:=hO2.2.2.1 x hx;rcases hr5 x hy with e|e
      .omega
      .have:=zbW hg e;omega
   .simp[rW,];omega
  .simp[rW,h1,h2,h3,h11,h12,h13,eP,eQ,e1,hdc,nP,nP',nP2,n1c,zaR,zmB];refine⟨by omega,?_⟩;refine zey (zaS (c':=c2+1) hg (by omega) fun x h1 h2=> ?_) (by omega) (by simp;omega) (by omega) ?_
   .have nx:¬(x=s.c):=by omega
    have nx2:¬(x=c2):=by omega
    simp[Vse.T.zad,nx,nx2];exact hlow x h2
   intro r hr1 hr2 hr3 hr4 hr5;have hPr:=hr4 P (by omega) (za5 hg (by omega));have h1r:=hr4 1 (by omega) (za5 hg (by omega));simp[Vse.T.zad,nP,n1,nP2,n1c,eP,e1]at hPr h1r;have hr6:∀x,x<c2->x≠s.c->B.oid≠some x->(wrT _ r.wr).get x=H2.get x:=fun x h1 h2 h3=>by
    have nx2:¬(x=c2):=by omega
    rw[hr4 x (by omega) h3];simp[Vse.T.zad,h2,nx2]
   refine⟨hr1,?_⟩;simp[rW,hPr,za3 hr2,nP2,n1c];refine⟨by omega,?_⟩;refine⟨P,r.d,dC,W++[(A,.sl a1 a2 a3 a4 a5 a6)],by simp[hW,htk],?_,?_,?_,?_,?_,hP2⟩
   .simp[rW,h1,h2,h3,h11,h12,h13,hw,h1r,hPr,np1]
   .refine hC.up (fun x hx=> ?_) (Z2 _) (Z2 _);have hx2:=hC.2.2.1 x hx;have nx:¬(x=P):=by omega
    simp[rW,nx];rw[hr6 x (by omega) (by omega) (za5 hg (by omega)),hlow x (by omega)]
   .have e:zdv (W++[(A,.sl a1 a2 a3 a4 a5 a6)])=zdv W++[[.f (.s A.r),.f (.b A.neg),.sl a1 a2 a3 a4 a5 a6]]:=by simp[zdv]
    rw[e];refine zaS hr2 (by simp[rW,]) fun x h1 h2=> ?_
    have nx:¬(x=P):=by omega
    simp[rW,nx]
   .intro p hp;rcases Z4.1 hp with hp|hp
    .obtain⟨o1,o2⟩ :=hall p hp;refine⟨o1.up (fun x hx=> ?_) (Z2 _) (by simp[rW,];omega),fun x hx hy=> ?_⟩
     .have hx2:=o1.2.2.1 x hx;have nx:¬(x=P):=by omega
      simp[rW,nx];rw[hr6 x (by omega) (by omega) (o2 x hx),hlow x (by omega)]
     .have hx2:=o1.2.2.1 x hx;rcases hr5 x hy with e|e
      .omega
      .exact o2 x hx e
    .obtain rfl:p=(A,.sl a1 a2 a3 a4 a5 a6):=by simpa using hp
     refine⟨hO2.up (fun x hx=> ?_) (by omega) (by simp[rW,];omega),fun x hx hy=> ?_⟩
     .have hx2:=hO2.2.2.1 x hx;have nx:¬(x=P):=by omega
      simp[rW,nx];rw[hr6 x (by omega) (by omega) (fun e=>by have:=zbW hg e;omega)]
     .have hx2:=hO2.2.2.1 x hx;rcases hr5 x hy with e|e
      .omega
      .have:=zbW hg e;omega
   .simp[rW,];omega
 .rintro s ⟨P,B,dC,W,hW,⟨h1,h2,h3,h11,h12,h13,g1,gP⟩,hC,hg,hall,hPc,hP2⟩;simp[rW,h1,h2,h3,h11,h12,h13,g1,gP];refine⟨P,B,dC,W,hW,?_,hC,hg,hall,hPc,hP2⟩;simp[rW,h1,h2,h3,h11,h12,h13,g1,gP]
 .refine⟨c',.f .nils,dC,[],by simp,?_,?_,.inl ⟨rfl,rfl⟩,by simp,?_,by omega⟩
  .simp[rW,e1,n1]
  .refine hO.up (fun x hx=> ?_) (Z2 _) (Z2 _);have:=hO.2.2.1 x hx;have nx:¬(x=c'):=by omega
   simp[rW,nx]
  .simp[rW,]
 .rintro x s ⟨rfl,P,B,dC,W,hW,⟨h1,h2,h3,h11,h12,h13,g1,gP⟩,hC,hg,hall,hPc,hP2⟩;rw[Z7]at hW;obtain⟨rd,hz⟩ :=ziJ 8 fun p hp=>(hall p hp).1
  have nP1:¬(P=1):=by omega
  have hh:∀y,y≠1->(s.h.set 1 (.arr 2 0 [[B,dC]])).get y=s.h.get y:=fun y hy=>by simp[Vse.T.zad,hy]
  obtain⟨rd,hz⟩ :=ziJ (h:=s.h.set 1 (.arr 2 0 [[B,dC]])) 8 fun p hp=>((hall p hp).1.up (fun x hx=>hh x (by have:=(hall p hp).1.2.2.1 x hx;omega)) (Z2 _) (Z2 _))
  obtain⟨rd1,h1⟩ :=zno (zaS (h':=s.h.set 1 (.arr 2 0 [[B,dC]])) hg (Z2 _) fun x h1 _=>hh x (by omega)) hz (by simp[zdv]);obtain⟨rd2,h2'⟩ :=hC.2.2.2 (s.h.set 1 (.arr 2 0 [[B,dC]])) (fun x hx=>hh x (by have:=hC.2.2.1 x hx;omega)) 9;have eW:(W.map fun p=>atF p.1)=c.as.map atF:=by rw[<-hW,Z33];rfl
  have eA:slc 3 (c.as.map atF)=zaB ⟨c.as,c.cs,c.ne,false⟩ :=by unfold zaB Sm.asF;rw[if_neg (by simp)]
  have eC:zaC c=zaC ⟨c.as,c.cs,c.ne,false⟩ :=rfl;rw[eW,eA]at h1;rw[eC]at h2';have hdc:=hC.2.1;simp[rW,h1,h2,h3,h11,h12,h13,g1,gP,nP1,za3 hg,hdc,h1,h2'];omega
def ztU(f:Go.Vse.A->Option D)(x:Go.Vse.A):O.res f (.cap x)=(f x).bind fun x=>some (.cap x):=rfl
def zzd{pr:Pr}{s:St}{Q:St->Prop}{dst:Option Nat}{l:List Go.Vse.Op}{x:Go.Vse.A}:wpO pr (⟨dst,none,.cap x⟩ ::l) s Q↔oB (((O.cap x).res (zab s.tm)).bind (opv s.h.get s.c)) fun r=>zay r.c r.wr=true/\wpO pr l (s.aft dst r.d r.wr r.c) Q:=zdq rfl
def ztT(f:Go.Vse.A->Option D)(es byt:Nat)(z:List F)(x n:Go.Vse.A):O.res f (.apz es byt z x n)=(f x).bind fun x=>(f n).bind fun n=>some (.apz es byt z x n):=rfl
def zzc{pr:Pr}{s:St}{Q:St->Prop}{dst:Option Nat}{l:List Go.Vse.Op}{es byt:Nat}{z:List F}{x n:Go.Vse.A}:wpO pr (⟨dst,none,.apz es byt z x n⟩ ::l) s Q↔oB (((O.apz es byt z x n).res (zab s.tm)).bind (opv s.h.get s.c)) fun r=>zay r.c r.wr=true/\wpO pr l (s.aft dst r.d r.wr r.c) Q:=zdq rfl
def fn24:pr.fn 24=some g24:=by kernel_rfl
def fn55:pr.fn 55=some g55:=by kernel_rfl
def fn57:pr.fn 57=some g57:=by kernel_rfl
def zyg:pr.fn 23=some g23:=by kernel_rfl
def zfl(a:Int)(m:Nat)(hm:m<2147483648):∃r:Nat,r<=m/\zbB .and (.i .i64 a) (.i .i64 m)=some (.i .i64 r):=by
 refine⟨(BitVec.ofInt 64 a&&& BitVec.ofInt 64 m).toNat,?_,?_⟩
 .rw[BitVec.toNat_and];refine Z3 Nat.and_le_right ?_;rw[BitVec.toNat_ofInt];omega
 .have hle:(BitVec.ofInt 64 a&&& BitVec.ofInt 64 m).toNat<=m:=by
   rw[BitVec.toNat_and];refine Z3 Nat.and_le_right ?_;rw[BitVec.toNat_ofInt];omega
  have e:zbB .and (.i .i64 a) (.i .i64 m)=some (.i .i64 (IntKind.i64.wrap ((BitVec.ofInt 64 a&&& BitVec.ofInt 64 m).toNat:Int))):=rfl;rw[e,wrap_i64 _ (by omega) (by omega)]
def zg4(x:F):Prop:=x= .nils\/∃zs:List Int,x= .sl 1 (zs.map fun z=>[.i .i64 z])
def zhq(a b:Nat)(hb:b≠0):zbB .rem (.i .i64 a) (.i .i64 b)=some (.i .i64 ((a%b:Nat):Int)):=by
 rw[zKC _ _ (by omega)];rfl
def zQw(f:A->Option D)(x:A):(O.s2b x).res f=(f x).bind fun y=>some (.s2b y):=rfl
def zQa(f:A->Option D)(x:A):(O.b2s x).res f=(f x).bind fun y=>some (.b2s y):=rfl
def o_s2b{pr:Pr}{s:St}{Q:St->Prop}{dst:Option Nat}{l:List Go.Vse.Op}{x:A}:wpO pr (⟨dst,none,.s2b x⟩ ::l) s Q↔oB (((O.s2b x).res (zab s.tm)).bind (opv s.h.get s.c)) fun r=>zay r.c r.wr=true/\wpO pr l (s.aft dst r.d r.wr r.c) Q:=zdq rfl
def o_b2s{pr:Pr}{s:St}{Q:St->Prop}{dst:Option Nat}{l:List Go.Vse.Op}{x:A}:wpO pr (⟨dst,none,.b2s x⟩ ::l) s Q↔oB (((O.b2s x).res (zab s.tm)).bind (opv s.h.get s.c)) fun r=>zay r.c r.wr=true/\wpO pr l (s.aft dst r.d r.wr r.c) Q:=zdq rfl
def byE(l:Str):List (List D):=l.map fun x=>[D.f (.i .u8 x.toNat)]
def v_s2b{h:Nat->Option Ob}{c:Nat}{l:Str}(hl:l≠[]):opv h c (.s2b (.f (.s l)))=some {d:= .sl c 0 l.length 1 l.length false,wr:=[(c,some (.arr 1 0 (byE l)))],c:=c+1}:=by
 simp[opv,hl,byE]
theorem zG4:∀l:Str,zdR (byE l)=some l
 |[]=>rfl
 |x::l=>by
  have:=zG4 l;simp only[byE,Z10,zdR]at this|-;rw[this];simp
def v_b2s{h:Nat->Option Ob}{c id len lim:Nat}{ex:Bool}{l:Str}(hg:h id=some (.arr 1 0 (byE l)))(hl:l.length=len):opv h c (.b2s (.sl id 0 len 1 lim ex))=some {d:= .f (.s l),rd:=[id],c:=c}:=by
 have h1:(byE l).length=l.length:=by simp[byE]
 have h2:elemsOf 1 h (.sl id 0 len 1 lim ex)=some (byE l,[id]):=by
  rw[zx9,hg,za9,zpR,if_pos ⟨rfl,rfl,by omega⟩,Z34,<-hl,<-h1,Z7]
 simp only[opv,h2,zG4]
def zMe(a b:Nat)(hb:b≠0)(ha:a<1000000):zbB .quo (.i .i64 a) (.i .i64 b)=some (.i .i64 ((a/b:Nat):Int)):=by
 have:=Nat.div_le_self a b;rw[zKA _ _ (by omega),show(a:Int).tdiv b=((a/b:Nat):Int)from rfl];generalize a/b=q at*;rw[wrap_i64 _ (by omega) (by omega)]
def zKs(a b:Nat)(ha:a<1000000)(hb:b<1000000):IntKind.i64.wrap ((a:Int)+b)=((a+b:Nat):Int):=by
 rw[wrap_i64 _ (by omega) (by omega)];omega
def ans55{x:F}(hx:zg4 x)(i:Nat)(hi:i<1000):∃n:Nat,n<100000/\Ans pr 55 [x,.i .i64 i] (.i .i64 n):=by
 obtain⟨r0,hr0,he0⟩ :=zfl i 65535 (by omega);have he0':zbB .and (.i .i64 i) (.i .i64 65535)=some (.i .i64 r0):=he0;have nil:zcx (.f .nils)=some 0:=rfl
 by_cases hz:x= .nils\/x= .sl 1 []
 .refine⟨r0,by omega,zbd fn55 ?_⟩;simp only[g55,rU];rcases hz with rfl|rfl
  .simp[rW,st0,zae,he0']
  .simp[rW,st0,zae,he0',F.d]
 .rcases hx with rfl|⟨zs,rfl⟩
  .exact absurd (.inl rfl) hz
  .have hz:zs≠[]:=fun e=>hz (.inr (by rw[e];rfl))
   have hlen:0<zs.length:=List.length_pos_iff.2 hz;have hn0:¬zs.length=0:=by omega
   have hni:¬((zs.length:Int)=0):=by omega
   have hmod:i%zs.length<zs.length:=Nat.mod_lt _ hlen;have hrem:=zhq i zs.length hn0;have hquo:=zMe i zs.length hn0 (by omega);have hdl:i/zs.length<=i:=Nat.div_le_self _ _;generalize i%zs.length=m at hmod hrem;generalize i/zs.length=d at hquo hdl;obtain⟨r,hr,he⟩ :=zfl zs[m] 65535 (by omega);have he':zbB .and (.i .i64 zs[m]) (.i .i64 65535)=some (.i .i64 r):=he;have hx:zs[m]? =some zs[m]:=Z0 hmod;have hw:=zKs r d (by omega) (by omega);refine⟨r+d,by omega,zbd fn55 ?_⟩;simp only[g55,rU];simp[rW,st0,zae,hni,hn0,F.d];refine zaL ?_;simp[rW,st0,zae,hrem,hquo,hmod,he',hx,hw,F.d]
def bin8(a b:Int):zbB .eql (.i .u8 a) (.i .u8 b)=some (.b (a==b)):=rfl
def zBd{R:Str}(h:R≠[]):hd8 (byE R)=true:=by
 cases R with
 |nil=>exact absurd rfl h
 |cons a l=>rfl
def JR(r z:Nat)(p:Str)(n:Nat)(s:St):Prop:=(s.tm.get 1=some (.f (.i .i64 z))/\s.tm.get 4=some (.ptr 0 2 0 0)/\s.tm.get 5=some (.sl 1 0 p.length 1 p.length false)/\s.tm.get 6=some (.f (.i .i64 n))/\s.h.get 0=some (.arr 2 0 [[.f .nils,.f .nils]])/\s.h.get 1=some (.arr 1 0 (byE ((p.take n).map (rb r)++p.drop n))))/\2<=s.c
def ans57(p:Str)(z:Nat)(c:CQ)(hp:p≠[])(hl:p.length<1000)(h:Ans pr 54 [.s (p.map (rb (z%3)))] (.tu [.ag [.nils,.sl 2 [cqF c]],.i .i64 0])):Ans pr 57 [.s p,.i .i64 z] (.ag (cqF c)):=by
 refine zbd fn57 ?_;simp only[g57,rU];have hs2b:=fun h c=>v_s2b (h:=h) (c:=c) hp
 have hrem:=zhq z 3 (by omega);rw[show((3:Nat):Int)=3 from rfl]at hrem;have hr3:z%3<3:=Nat.mod_lt _ (by omega);generalize z%3=r at h hrem hr3;have q76:=fun k=>zaj (k:=k) h
 have hbl:∀n,((p.take n).map (rb r)++p.drop n).length=p.length:=fun n=>by simp;omega
 simp[rW,st0,zae,o_s2b,zQw,hs2b];refine zgo p (fun(x:Unit) _=>x) () (fun n _ s=>JR r z p n s) (fun x s=>x= .exit 0/\JR r z p p.length s) ?_ ?_ _ ?_ ?_
 .rintro n a s hn - ⟨⟨h1,h4,h5,h6,g0,g1⟩,hc⟩;have hw:=zao n (by omega);have hL:=hbl n;have hx:((p.take n).map (rb r)++p.drop n)[n]? =some p[n]:=by
   rw[List.getElem?_append_right (by simp;omega)];simp[hn,Nat.min_eq_left (Nat.le_of_lt hn)]
  have hnx:(p.take (n+1)).map (rb r)++p.drop (n+1)=((p.take n).map (rb r)++p.drop n).set n (rb r p[n]):=by
   have e:n - (List.map (rb r) (List.take n p)).length=0:=by simp;omega
   rw[List.set_append_right _ _ (by simp;omega),e,Z6 hn,List.drop_eq_getElem_cons hn,Z20,Z32];rfl
  generalize hR:(p.take n).map (rb r)++p.drop n=R at*;have hbe:(byE R)[n]? =some [D.f (.i .u8 p[n].toNat)]:=by simp[byE,hx]
  have hbn:(byE R).length=p.length:=by simp[byE,hL]
  have hbg:∀h:n< (byE R).length,(byE R)[n]=[D.f (.i .u8 p[n].toNat)]:=fun h=>by
   rw[Z0 h]at hbe;exact Option.some.inj hbe
  have hst:(byE R).set n [D.f (.i .u8 (rb r p[n]).toNat)]=byE (R.set n (rb r p[n])):=by
   unfold byE;rw[List.map_set]
  have hR0:R≠[]:=fun e=>by rw[e]at hL;simp at hL;omega
  have h81:=zBd hR0
  by_cases h64:p[n]=64
  .have hcv:IntKind.u8.wrap (49+(r:Int))=((rb r 64).toNat:Int):=by
    obtain rfl|rfl|rfl:r=0\/r=1\/r=2:=by omega
    all_goals rfl
   have hv:IntKind.i64.wrap (49+(r:Int))=49+(r:Int):=wrap_i64 _ (by omega) (by omega);rw[h64]at hbg hst hnx;have h82:=zBd (R:=R.set n (rb r 64)) (by simpa using hR0);simp[rW,h1,h4,h5,h6,g0,g1,hn,hbg,hbn,hrem,hv,hcv,bin8,hst,h81,h82];refine⟨by omega,⟨?_,?_⟩⟩
   .simp[rW,h1,h4,h5,h6,g0,g1,hw,hnx];rw[<-hnx,List.map_take]
   .simp[rW,hc]
  .have hne:¬((p[n].toNat:Int)=64):=fun e=>h64 (UInt8.toNat_inj.1 (by have:UInt8.toNat 64=64:=rfl;omega))
   have hrb:rb r p[n]=p[n]:=by unfold rb;rw[if_neg h64]
   rw[hrb,<-Option.some.inj ((Z0 (by omega)).symm.trans hx),List.set_getElem_self]at hnx;simp[rW,h1,h4,h5,h6,g0,g1,hn,hbg,hbn,h64,bin8,hne];refine⟨?_,?_⟩
   .simp[rW,h1,h4,h5,h6,g0,g1,hw,hnx];rw[<-hnx,List.map_take]
   .simp[rW,hc]
 .rintro s ⟨⟨h1,h4,h5,h6,g0,g1⟩,hc⟩;simp[rW,h1,h4,h5,h6,g0,g1];refine⟨?_,?_⟩
  .simp[rW,h1,h4,h5,h6,g0,g1]
  .simp[rW,hc]
 .refine⟨?_,?_⟩
  .simp[rW,]
  .simp[rW,]
 .rintro x s ⟨rfl,⟨h1,h4,h5,h6,g0,g1⟩,hc⟩;rw[Z7,List.drop_length,Z22]at g1;have hb2s:=fun(h:Nat->Option Ob) c (hg:h 1=some (.arr 1 0 (byE (p.map (rb r)))))=>v_b2s (c:=c) (lim:=p.length) (ex:=false) hg (len:=p.length) (by simp)
  have n0:¬(0=s.c):=by omega
  have n0':¬(s.c=0):=by omega
  simp only[cqE]at q76|-;simp[rW,h1,h4,h5,h6,g0,g1,o_b2s,zQa,hb2s,q76,n0,n0',zaF,zaH]
def pick{L:List (List F)}(h:∀x∈L,RdX x){j:Nat}(hj:j<L.length)(z:Nat):∃c∈CQl,∃p,L[j]? =some [.s p]/\Ans pr 57 [.s p,.i .i64 z] (.ag (cqF c)):=by
 obtain⟨p,e,h1,h2,h3⟩ :=h L[j] (Z1 hj);obtain⟨c,hc,q⟩ :=h3 (z%3) (Nat.mod_lt _ (by omega));exact⟨c,hc,p,by rw[Z0 hj,e],ans57 p z c h1 h2 q⟩
def ans24(n:Int):∃c∈CQl,Ans pr 24 [.i .i64 n] (.ag (cqF c)):=by
 obtain⟨r,hr,he⟩ :=zfl n 65535 (by omega);obtain⟨z,hz⟩ :∃z:Int,zbB .shr (.i .i64 n) (.i .u64 6)=some (.i .i64 z):=⟨_,rfl⟩
 obtain⟨k,hk,hke⟩ :=zfl z 7 (by omega);have he':zbB .and (.i .i64 n) (.i .i64 65535)=some (.i .i64 r):=he;have hke':zbB .and (.i .i64 z) (.i .i64 7)=some (.i .i64 k):=hke;have hrem:=zhq r 24 (by omega);rw[show((24:Nat):Int)=24 from rfl]at hrem;have hpl:paL.length=24:=rfl;have hj:r%24<paL.length:=by rw[hpl];exact Nat.mod_lt _ (by omega)
 generalize r%24=j at hrem hj;obtain⟨c,hc,p,hp,h38⟩ :=pick rdA hj k;have hp2:∀h:j<paL.length,paL[j]=[.s p]:=fun h=>by
  rw[Z0 h]at hp;exact Option.some.inj hp
 simp only[cqE]at h38;rw[hpl]at hj;have q37:=fun k=>zaj (k:=k) zGK
 have q38:=fun k=>zaj (k:=k) h38
 refine⟨c,hc,zbd fn24 ?_⟩;simp only[g24,rU];simp -implicitDefEqProofs [rR,st0,zae,q37,he',hz,hke',hrem,hp,hpl,hp2,hj,q38,cqE,zaF,zaH]
def atZ{x:F}(hx:zg4 x):∃z:Nat->Nat,∀i,i<1000->z i<100000/\Ans pr 55 [x,.i .i64 i] (.i .i64 (z i)):=by
 have:∀i:Nat,∃n:Nat,i<1000->n<100000/\Ans pr 55 [x,.i .i64 i] (.i .i64 n):=fun i=>by
  by_cases hi:i<1000
  .obtain⟨n,h⟩ :=ans55 hx i hi;exact⟨n,fun _=>h⟩
  .exact⟨0,fun h=>absurd h hi⟩
 exact Classical.skolem.1 this
def zmw{x:F}(hx:zg4 x):x.d= .f x:=by
 rcases hx with rfl|⟨zs,rfl⟩
 .rfl
 .rfl
def zqb{h:T Ob}{lo c id:Nat}{l:List Str}(hl:l≠[])(hg:h.get id=some (.arr 1 0 (zaT l)))(h1:lo<=id)(h2:id<c):Own h lo c (.sl id 0 l.length 1 l.length true) (zaq l):=by
 refine⟨.inr ⟨_,_,_,_,_,_,rfl⟩,rfl,fun x hx=> ?_,fun h' hh k=>⟨[id],?_⟩⟩
 .simp only[D.oid,Z45]at hx;omega
 .rw[zdx,hh id rfl,hg,za9,zdf];simp only[true_and,Z25,zbO,Z2,if_true,Z34,zCZ,zhr,za9];rw[znP hl]
def zzh(cf:Nat->CQ)(n:Nat):(List.range (n+1)).map cf=(List.range n).map cf++[cf n]:=by
 rw[List.range_succ,Z20];rfl
def clF{cf:Nat->CQ}(h:∀i,cf i∈CQl)(n:Nat):∀c∈(List.range n).map cf,CqN 1 c:=by
 intro c hc;obtain⟨i,_,rfl⟩ :=Z12.1 hc;exact zx3 _ (h i)
def QN(l:List CQ):Prop:=l≠[]/\l.length<=3/\∀c∈l,CqN 1 c
def b12:C:= .seq (oD [oM 25 7,oM 26 0,oR 27 (.callp 55 [(.t 26),(.k (.i .i64 1))]),oR 28 (.bin .rem (.t 27) (.k (.i .i64 2))),oR 29 (.bin .leq (.t 25) (.t 28))] 29 .skip (.exit 1))
 (.seq (.blk 2 (.dreg [(oF 32 1 3,0),(oK 33 1 32,0),(oM 34 5,3),(oM 35 0,7),(oM 36 7,15),(oR 37 (.bin .add (.k (.i .i64 2)) (.t 36)),15),(oR 38 (.callp 55 [(.t 35),(.t 37)]),7),(oM 39 6,127),(oR 40 (.bin .rem (.t 38) (.t 39)),7),(oI 41 1 34 40,3),(oK 42 1 41,3),(oM 43 0,2047),(oM 44 7,4095),(oR 45 (.bin .add (.k (.i .i64 4)) (.t 44)),4095),(oR 46 (.callp 55 [(.t 43),(.t 45)]),1927),(oR 47 (.callp 57 [(.t 42),(.t 46)]),3),(oR 48 (.bsf 2 [.nils,.nils] 1 [(0,(.t 47))]),3),(oR 49 (.app 2 48 (.t 33) (.t 48)),0),(oF 50 1 3,0),(oS 1 50 49,0)]))
 (.reg [oM 30 7,oR 31 (.bin .add (.t 30) (.k (.i .i64 1))),oM 7 31]))
def fn132:pr.fn 132=some zyC:=by kernel_rfl
def fn89:pr.fn 89=some g89:=by kernel_rfl
def fn91:pr.fn 91=some g91:=by kernel_rfl
def zsa(t:Trm):(tmF t).map D.f=tmD t:=by cases t<;>rfl
def ziN(k:Cm):(cmF k).map D.f=cmD k:=by
 cases k with
 |mk op l r=>cases l<;>cases r<;>rfl
def zAb(op a b:Int):Ans pr 132 [.ag (cmF ⟨op,.cst a,.cst b⟩)] (.b (ziZ op a b)):=by
 have q:=fun k=>zaj (k:=k) (zrM a b)
 refine zbd fn132 ?_;simp only[zyC,rU];unfold ziZ;simp only[vF]at q
 by_cases h1:op=1
 .subst h1;simp -implicitDefEqProofs [rR,st0,zae,cmF,tmF,q,zfN]
 .by_cases h2:op=2
  .subst h2;simp -implicitDefEqProofs [rR,st0,zae,cmF,tmF,q,zvK]
  .by_cases h3:op=3
   .subst h3;simp -implicitDefEqProofs [rR,st0,zae,cmF,tmF,q,zgz]
   .by_cases h4:op=4
    .subst h4;simp -implicitDefEqProofs [rR,st0,zae,cmF,tmF,q,zvJ]
    .simp -implicitDefEqProofs [rR,st0,zae,cmF,tmF,q,h1,h2,h3,h4]
def ro91(k:Cm)(hk:zbt k){h:T Ob}{c:Nat}:RO pr 91 [.ag (cmD k)] h c (.f (.b (alT k))):=by
 refine zdz zbi fn91 rfl ?_;obtain⟨op,l,r⟩ :=k;simp only[g91,rU];have q:=fun k=>zaj (k:=k) (zjo l r hk.1 hk.2)
 simp only[tmE]at q;unfold alT;cases l with
 |cst a=>
  cases r with
  |cst b=>
   have q2:=fun k=>zaj (k:=k) (zAb op a b)
   simp only[cmF,tmF,Z29,Z28]at q2;simp[rW,st0,zae,cmD,tmD,zdm,zcS,zcN,q2,za4];simp (disch:=omega) only[zb7,zcw]
  |var b=>
   have hb:b≠[]:=hk.2;simp only[zdm,zcS,zcN,zcm,zcr,zcs]at q;simp[rW,st0,zae,cmD,tmD,zdm,zcS,zcN,zcm,zcr,zcs,hb,q,za4];simp (disch:=omega) only[zb7,zcw]
 |var a=>
  have ha:a≠[]:=hk.1;simp only[zcm,zcr,zcs]at q;generalize hz:decide (Trm.var a=r)=z at q
  by_cases h1:op=1
  .cases z<;>(simp[rW,st0,zae,cmD,tmD,zcm,zcr,zcs,ha,q,hz,h1,za4]<;>simp (disch:=omega) only[zb7,zcw])
  .by_cases h4:op=4
   .cases z<;>(simp[rW,st0,zae,cmD,tmD,zcm,zcr,zcs,ha,q,hz,h1,h4,za4]<;>simp (disch:=omega) only[zb7,zcw])
   .cases z<;>(simp[rW,st0,zae,cmD,tmD,zcm,zcr,zcs,ha,q,hz,h1,h4,za4]<;>simp (disch:=omega) only[zb7,zcw])
def ro89(k:Cm)(hk:zbt k){h:T Ob}{c:Nat}:RO pr 89 [.ag (cmD k)] h c (.f (.b (alF k))):=by
 refine zdz zbi fn89 rfl ?_;obtain⟨op,l,r⟩ :=k;simp only[g89,rU];have q:=fun k=>zaj (k:=k) (zjo l r hk.1 hk.2)
 simp only[tmE]at q;unfold alF;cases l with
 |cst a=>
  cases r with
  |cst b=>
   have q2:=fun k=>zaj (k:=k) (zAb op a b)
   simp only[cmF,tmF,Z29,Z28]at q2;simp[rW,st0,zae,cmD,tmD,zdm,zcS,zcN,q2,za4];simp (disch:=omega) only[zb7,zcw]
  |var b=>
   have hb:b≠[]:=hk.2;simp only[zdm,zcS,zcN,zcm,zcr,zcs]at q;simp[rW,st0,zae,cmD,tmD,zdm,zcS,zcN,zcm,zcr,zcs,hb,q,za4];simp (disch:=omega) only[zb7,zcw]
 |var a=>
  have ha:a≠[]:=hk.1;simp only[zcm,zcr,zcs]at q;generalize hz:decide (Trm.var a=r)=z at q
  by_cases h1:op=2
  .cases z<;>(simp[rW,st0,zae,cmD,tmD,zcm,zcr,zcs,ha,q,hz,h1,za4]<;>simp (disch:=omega) only[zb7,zcw])
  .by_cases h4:op=3
   .cases z<;>(simp[rW,st0,zae,cmD,tmD,zcm,zcr,zcs,ha,q,hz,h1,h4,za4]<;>simp (disch:=omega) only[zb7,zcw])
   .cases z<;>(simp[rW,st0,zae,cmD,tmD,zcm,zcr,zcs,ha,q,hz,h1,h4,za4]<;>simp (disch:=omega) only[zb7,zcw])
def fn90:pr.fn 90=some g90:=by kernel_rfl
def fn88:pr.fn 88=some g88:=by kernel_rfl
def fn93:pr.fn 93=some g93:=by kernel_rfl
def fn94:pr.fn 94=some g94:=by kernel_rfl
def CsD(h:T Ob)(lo c:Nat)(d:D)(q:CQ):Prop:=(d= .f .nils/\q.cs=[]/\q.ne=false)\/∃Y tail ex,d= .sl Y 0 q.cs.length 9 (q.cs.length+tail.length) ex/\h.get Y=some (.arr 9 0 (q.cs.map cmD++tail))/\(q.cs=[]->q.ne=true)/\(q.cs≠[]->ex=false)/\lo<=Y/\Y<c/\(∀x∈tail,x.length=9)/\q.cs.length+tail.length<=10000
def zvQ{h:T Ob}{lo c:Nat}{d:D}{q:CQ}(H:CsD h lo c d q):zcx d=some q.cs.length:=by
 rcases H with⟨rfl,e,-⟩ |⟨Y,tail,ex,rfl,-⟩
 .rw[e];rfl
 .rfl
def zOR{h:T Ob}{lo c:Nat}{d:D}{q:CQ}(H:CsD h lo c d q){n:Nat}(hn:n<q.cs.length):∃Y rows,iaB 9 d n=some (.ptr Y 9 n 0)/\h.get Y=some (.arr 9 0 rows)/\rows[n]? =some (cmD q.cs[n])/\lo<=Y/\Y<c:=by
 rcases H with⟨rfl,e,-⟩ |⟨Y,tail,ex,rfl,hY,-,-,h1,h2,-⟩
 .rw[e]at hn;simp at hn
 .refine⟨Y,_,?_,hY,?_,h1,h2⟩
  .simp[ziQ,hn]
  .rw[List.getElem?_append_left (by simpa using hn)];simp[hn]
def ziu{h h':T Ob}{lo lo' c c':Nat}{d:D}{q:CQ}(H:CsD h lo c d q)(hh:∀x,lo<=x->x<c->h'.get x=h.get x)(hl:lo'<=lo)(hc:c<=c'):CsD h' lo' c' d q:=by
 rcases H with H|⟨Y,tail,ex,rfl,hY,h3,h4,h1,h2,h5⟩
 .exact .inl H
 .exact .inr ⟨Y,tail,ex,rfl,by rw[hh Y h1 h2];exact hY,h3,h4,by omega,by omega,h5⟩
theorem zFf(q:CQ)(p:Cm->Bool)(hl:q.cs.length<100000){h:T Ob}{lo c0 c g:Nat}{d fv:D}{cap:List D}(hfv:zdH fv=some (g,[],cap))(hd:CsD h lo c0 d q)(hcl:∀n (hn:n<q.cs.length),RO pr g (.ag (cmD q.cs[n])::cap) h c (.f (.b (p q.cs[n])))):
  RO pr 90 [d,fv] h c (.f (.i .i64 (ixP q.cs p))):=by
 refine zdz zbi fn90 rfl ?_;simp only[g90,rU];have hlen:=zvQ hd;simp[rW,st0,zae,hlen];refine zcf q.cs p (fun n s=>s.tm.get 0=some (d)/\s.tm.get 1=some (fv)/\s.tm.get 7=some (.f (.i .i64 q.cs.length))/\s.tm.get 8=some (.f (.i .i64 n))/\s.h=h/\s.c=c/\s.lw=c) (fun x s=>x= .exit 0/\s.lw=c) (fun n y s=>y= .ret/\s.tm.get 4=some (.f (.i .i64 n))/\s.lw=c) ?_ ?_ _ ?_ ?_ ?_
 .rintro n s hn ⟨h0,h1,h7,h8,eh,ec,el⟩;have hw:=zao n (by omega);have hp:=hcl n hn;obtain⟨Y,rows,hi,hY,hr,-,-⟩ :=zOR hd hn;rw[<-eh]at hY;generalize hA:q.cs[n]=A at hp hr|-;simp[rW,h0,h1,h7,h8,hn,hi,hY,hr,cmD,tmD,hfv];refine zdo (d:= .f (.b (p A))) ?_ ?_ ?_
  .simp only[rG];rw[eh,ec];exact hp
  .simp only[rG];omega
  .intro mx;cases hb:p A with
   |true=>simp[rW,h0,h1,h7,h8,el]
   |false=>simp[rW,h0,h1,h7,h8,hw,eh,ec,el]
 .rintro s ⟨h0,h1,h7,h8,eh,ec,el⟩;simp[rW,h0,h1,h7,h8,el]
 .simp[rW,st0,zae]
 .rintro h z s ⟨rfl,el⟩;rw[zmx h];simp[rW,za4,el]
 .rintro n hn hp hm z s ⟨rfl,h4,el⟩;rw[zlD hn hp hm];simp[rW,h4,za4,el]
theorem ro88(q:CQ)(p:Cm->Bool)(hl:q.cs.length<100000){h:T Ob}{lo c0 c g:Nat}{d fv:D}{cap:List D}(hfv:zdH fv=some (g,[],cap))(hd:CsD h lo c0 d q)(hcl:∀n (hn:n<q.cs.length),RO pr g (.ag (cmD q.cs[n])::cap) h c (.f (.b (p q.cs[n])))):
  RO pr 88 [d,fv] h c (.f (.b (q.cs.any p))):=by
 refine zdz zbi fn88 rfl ?_;simp only[g88,rU];rw[<-zoL q.cs p];simp[rW,st0,zae];refine zdo (d:= .f (.i .i64 (ixP q.cs p))) ?_ ?_ ?_
 .simp only[rG];exact zFf q p hl hfv hd hcl
 .simp only[rG];omega
 .intro mx;simp[rW,za4]
def zFi(t:Trm)(hd:List Str)(hh:hd.length<1000)(ht:zau t){h:T Ob}{c H:Nat}(gH:h.get H=some (.arr 1 0 [[.f (zaq hd)]]))(hH:H<c):RO pr 93 [.ag (tmD t),.ptr H 1 0 0] h c (.f (.b (frT hd t))):=by
  refine zdz zbi fn93 rfl ?_;simp only[g93,rU];have nH:¬H=c:=by omega
  cases t with
  | cst a=>
    unfold frT;simp[rW,st0,zae,tmD,zdm,zcS,zcN,gH,nH,za4];simp (disch:=omega) only[zb7,zcw]
  | var s=>
    have hs:s≠[]:=ht;unfold frT;have q:=fun k=>zaj (k:=k) (zxN hd s (by omega))
    obtain⟨b,hb⟩ :∃b,b=hd.any (· ==s):=⟨_,rfl⟩
    rw[<-hb]at q;simp[rW,st0,zae,tmD,zcm,zcr,zcs,gH,nH,hs,zaN,q,za4];simp (disch:=omega) only[zb7,zcw];exact⟨hb,trivial⟩
def ro94(k:Cm)(hd:List Str)(hh:hd.length<1000)(hk:zbt k){h:T Ob}{c H X:Nat}(gH:h.get H=some (.arr 1 0 [[.f (zaq hd)]]))(hH:H<c)(gX:h.get X=some (.arr 1 0 [[.fn 93 [] [.ptr H 1 0 0]]]))(hX:X<c):RO pr 94 [.ag (cmD k),.ptr X 1 0 0] h c (.f (.b (eqV hd k))):=by
 refine zdz zbi fn94 rfl ?_;obtain⟨op,l,r⟩ :=k;simp only[g94,rU];have nH:¬H=c:=by omega
 have nX:¬X=c:=by omega
 unfold eqV
 by_cases h1:op=1
 .subst h1;simp[rW,st0,zae,cmD,tmD,gX,nX];refine zdo (d:= .f (.b (frT hd l))) ?_ ?_ ?_
  .simp only[rG];exact zFi l hd hh hk.1 (by rw[Vse.T.zad,if_neg nH];exact gH) (by omega)
  .simp only[rG];simp (disch:=omega) only[zb7,zcw];omega
  .intro mx;cases hb:frT hd l with
   |true=>
    simp[rW,st0,zae,cmD,tmD,za4];simp (disch:=omega) only[zb7,zcw]
   |false=>
    simp[rW,st0,zae,cmD,tmD,gX,nX];refine zdo (d:= .f (.b (frT hd r))) ?_ ?_ ?_
    .simp only[rG];exact zFi r hd hh hk.2 (by rw[Vse.T.zad,if_neg nH];exact gH) (by omega)
    .simp only[rG];simp (disch:=omega) only[zb7,zcw];omega
    .intro mx;simp[rW,za4];simp (disch:=omega) only[zb7,zcw]
 .simp[rW,st0,zae,cmD,tmD,h1,za4];simp (disch:=omega) only[zb7,zcw]
end Go.Proofs.YtmnkdfjljkhneaaGreat
end
