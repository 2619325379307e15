/- slices.BinarySearchFunc over the present tuples (at most three). -/
import Derived.Test.YthcehnaehljnfaaGreatDoorPa
import Derived.KernelRfl
import Derived.IntWalk
import Derived.Sort.AssemblyPlain
import Derived.Sort.Row
import Derived.Laws.Bits64
import Derived.Laws.Bits64b
import Derived.Sort.LotD5
set_option linter.all false
set_option maxRecDepth 100000
set_option maxHeartbeats 4000000
noncomputable section
section
namespace Go.Proofs.YthcehnaehljnfaaGreatDoor
open Go Go.Vse Go.Vse.Sm
def fn255:pr.fn 255=some zDJ:=by kernel_rfl
theorem z4h:((List.range 8).all fun n=>match zaS .shr (.i .u64 (n:Nat)) (.i .u64 1)with
 |some (.i .u64 z)=>z==(n/2:Nat)
 |_=>false)=true:=by kernel_rfl
def zZn{n:Nat}(hn:n<8):zaS .shr (.i .u64 (n:Nat)) (.i .u64 1)=some (.i .u64 ((n/2:Nat):Int)):=by
 have h1:=Z50.1 z4h n (by simpa using hn);split at h1
 .rename_i z e;rw[e,eq_of_beq h1]
 .cases h1
def wrap_u64(n:Nat)(h:n<1000000):IntKind.u64.wrap (n:Int)=(n:Int):=IntWalk.u64_in _ (by omega)
def J255(dp:D)(v:List Int)(C id n:Nat)(h:T Ob)(c i j:Nat)(cm:Nat->Int)(s:St):Prop:=(∃ro',(s.tm.get 0=some (dp)/\s.tm.get 1=some (.sl id 0 v.length 3 v.length true)/\s.tm.get 2=some (.fn 256 [] [.ptr C 1 0 0])/\s.tm.get 8=some (.f (.i .i64 n))/\s.tm.get 9=some (.f (.i .i64 i))/\s.tm.get 10=some (.f (.i .i64 j))/\s.h.get id=some (.arr 3 ro' (vRw v))))/\c<=s.c/\(∀x,x<c->x≠id->s.h.get x=h.get x)/\i<=j/\j<=n/\(∀k,k<i->cm k<0)/\(∀k,j<=k->k<n->0<=cm k)
def R255(dp:D)(v:List Int)(C id n:Nat)(h:T Ob)(c:Nat)(cm:Nat->Int)(e:Ex)(s:St):Prop:=e= .exit 0/\∃i,J255 dp v C id n h c i i cm s
def BsP(v:List Int)(id n:Nat)(h:T Ob)(c:Nat)(cm:Nat->Int)(d:D)(h':T Ob)(_:Nat):Prop:=∃pos,d= .tu [.f (.i .i64 (pos:Nat)),.f (.b (decide (pos<n)&&decide (cm pos=0)))]/\pos<=n/\(∀k,k<pos->cm k<0)/\(∀k,pos<=k->k<n->0<=cm k)/\(∃ro',h'.get id=some (.arr 3 ro' (vRw v)))/\∀x,x<c->x≠id->h'.get x=h.get x
theorem z0i{h:T Ob}{c C id ip ro n:Nat}{dp:D}{rows:List (List D)}{ts:List (List Int×List F)}{v:List Int}(hC:h.get C=some (.arr 1 0 [[.f (zdf ts)]]))(hg:h.get id=some (.arr 3 ro (vRw v)))(hv:v≠[])(hvl:v.length<1000)
  (hn:ts.length=n)(hn3:n<=3)(htl:∀t∈ts,t.1.length<1000)(hid:id<c)(hCi:C≠id)(hCc:C<c)(hl:zco dp=some n)(hia:∀k,k<n->iaB 1 dp k=some (.ptr ip 1 k 0))(hp:0<n->h.get ip=some (.arr 1 0 rows)/\ip<c/\ip≠id)(hr:∀k,k<n->rows[k]? =some [.f (.i .i64 (k:Nat))])
  (hs:∀a b:Nat,a<=b->b<n->zaO (ts[b]?.getD ([],[])).1 v<0->zaO (ts[a]?.getD ([],[])).1 v<0):Eff pr 255 [dp,.sl id 0 v.length 3 v.length true,.fn 256 [] [.ptr C 1 0 0]] h c (BsP v id n h c fun k=>zaO (ts[k]?.getD ([],[])).1 v):=by
 refine zb2 kps fn255 (fun d h' c' ⟨pos,a1,a2,a3,a4,a5,a6⟩ _ hf=>⟨pos,a1,a2,a3,a4,by rw[<-hf id hid];exact a5,fun _ _ _=>rfl⟩) ?_;obtain⟨cm,hcm⟩ :∃cm:Nat->Int,cm=fun k=>zaO (ts[k]?.getD ([],[])).1 v:=⟨_,rfl⟩
 rw[<-hcm];simp only[zDJ,rU];simp[rW,st0,zay,hl];refine zfa (fun k s=>∃i j,k=j - i/\J255 dp v C id n h c i j cm s) (R255 dp v C id n h c cm) ?_ n _ ⟨0,n,rfl,⟨ro,?_,?_,?_,?_,?_,?_,?_⟩,?_,?_,?_,?_,?_,?_⟩ ?_
 .rintro k s ⟨i,j,rfl,⟨ro',h0,h1,h2,h8,h9,h10,gid⟩,hc,hf,hij,hjn,hlo,hhi⟩
  by_cases hlt:i<j
  .have ec:((i+j:Nat):Int)=(i:Int)+j:=by omega
   have w1:IntKind.i64.wrap ((i:Int)+j)=(i:Int)+j:=IntWalk.i64_in _ (by omega);have w2:IntKind.u64.wrap ((i:Int)+j)=(i:Int)+j:=IntWalk.u64_in _ (by omega);have w3:=zZn (n:=i+j) (by omega);rw[ec]at w3;obtain⟨m,hm⟩ :∃m,m=(i+j)/2:=⟨_,rfl⟩
   rw[<-hm]at w3;have w4:IntKind.i64.wrap (m:Int)=(m:Int):=wrap_i64 _ (by omega) (by omega);have hmj:m<j:=by omega
   have him:i<=m:=by omega
   obtain⟨p1,p2,p3⟩ :=hp (by omega);have p1':s.h.get ip=some (.arr 1 0 rows):=(hf ip p2 p3).trans p1;have hrm:=hr m (by omega);simp[rW,h0,h1,h2,h8,h9,h10,hlt,w1,w2,w3,w4,hia m (by omega),p1',hrm];have hC':s.h.get C=_:=(hf C hCc hCi).trans hC;have htm:ts[m]? =some ts[m]:=Z0 (by omega);have e1:=zHf (h:=s.h) (c:=s.c) (k:=m) (tv:=ts[m].1) (p:=ts[m].2) hC' gid hv hvl (htl _ (Z1 (by omega))) htm (by omega) hCi;have hcv:cm m=zaO ts[m].1 v:=by
    rw[hcm];show zaO (ts[m]?.getD ([],[])).1 v=_;rw[htm];rfl
   rw[<-hcv]at e1;refine zbQ [(0,dp),(1,.sl id 0 v.length 3 v.length true),(2,.fn 256 [] [.ptr C 1 0 0]),(8,.f (.i .i64 n)),(9,.f (.i .i64 i)),(10,.f (.i .i64 j)),(11,.f (.i .i64 m))] e1 (by simp only[rG]) (by simp only[rG]) (by simp only[Rg];simp[rW,h0,h1,h2,h8,h9,h10]) rfl ?_;rintro s1 d1 ⟨rfl,⟨ro1,r1⟩,f1⟩ hc1 h30 ⟨h0',h1',h2',h8',h9',h10',h11',-⟩;have fr:∀x,x<c->x≠id->s1.h.get x=h.get x:=fun x hx hn=>(f1 x (by omega) hn).trans (hf x hx hn)
   have hw:=zaH m (by omega);refine⟨?_⟩
   by_cases hv:cm m<0
   .simp[rW,h0',h1',h2',h8',h9',h10',h11',h30,hv,hw];refine⟨j - (m+1),by omega,m+1,j,rfl,⟨ro1,?_,?_,?_,?_,?_,?_,r1⟩,by simp only[rG];omega,fr,by omega,hjn,?_,hhi⟩
    .simp[rW,h0']
    .simp[rW,h1']
    .simp[rW,h2']
    .simp[rW,h8']
    .simp[rW,hw]
    .simp[rW,h10']
    .intro k hk;have h3:=hs k m (by omega) (by omega);rw[hcm]at hv|-;exact h3 hv
   .simp[rW,h0',h1',h2',h8',h9',h10',h11',h30,hv,hw];refine⟨m - i,by omega,i,m,rfl,⟨ro1,?_,?_,?_,?_,?_,?_,r1⟩,by simp only[rG];omega,fr,by omega,by omega,hlo,?_⟩
    .simp[rW,h0']
    .simp[rW,h1']
    .simp[rW,h2']
    .simp[rW,h8']
    .simp[rW,h9']
    .simp[rW,h11']
    .intro k hk1 hk2;have h3:=hs m k hk1 hk2;rw[hcm]at hv|-;exact Int.not_lt.1 fun h4=>hv (h3 h4)
  .have e:i=j:=by omega
   subst e;simp[rW,h0,h1,h2,h8,h9,h10];exact⟨rfl,i,⟨ro',by simp[rW,h0],by simp[rW,h1],by simp[rW,h2],by simp[rW,h8],by simp[rW,h9],by simp[rW,h10],gid⟩,hc,hf,hij,hjn,hlo,hhi⟩
 .simp[rW]
 .simp[rW]
 .simp[rW]
 .simp[rW]
 .simp[rW]
 .simp[rW]
 .exact hg
 .simp[rW]<;>omega
 .intro x _ _;rfl
 .omega
 .exact Z2 _
 .intro k hk;omega
 .intro k h1 h2;omega
 .rintro e s ⟨rfl,i,⟨ro',h0,h1,h2,h8,h9,h10,gid⟩,hc,hf,hij,hjn,hlo,hhi⟩
  by_cases hlt:i<n
  .obtain⟨p1,p2,p3⟩ :=hp (by omega);have p1':s.h.get ip=some (.arr 1 0 rows):=(hf ip p2 p3).trans p1;have hrm:=hr i (by omega);have hC':s.h.get C=_:=(hf C hCc hCi).trans hC;have htm:ts[i]? =some ts[i]:=Z0 (by omega);have e1:=zHf (h:=s.h) (c:=s.c) (k:=i) (tv:=ts[i].1) (p:=ts[i].2) hC' gid hv hvl (htl _ (Z1 (by omega))) htm (by omega) hCi;have hcv:cm i=zaO ts[i].1 v:=by
    rw[hcm];show zaO (ts[i]?.getD ([],[])).1 v=_;rw[htm];rfl
   rw[<-hcv]at e1;simp[rW,h0,h1,h2,h8,h9,h10,hlt,hia i hlt,p1',hrm];refine zbQ [(35,.f (.i .i64 i)),(39,.f (.b true))] e1 (by simp only[rG]) (by simp only[rG]) (by simp only[Rg];simp[rW,h9,hlt]) rfl ?_;rintro s1 d1 ⟨rfl,⟨ro1,r1⟩,f1⟩ hc1 h46 ⟨h35,h39,-⟩;have fr:∀x,x<c->x≠id->s1.h.get x=h.get x:=fun x hx hn=>(f1 x (by omega) hn).trans (hf x hx hn)
   refine⟨?_⟩;simp[rW,h35,h39,h46,zaU];refine⟨i,?_,hjn,hlo,hhi,⟨ro1,r1⟩,fr⟩
   by_cases hz:cm i=0<;>simp[hlt,hz]
  .simp[rW,h0,h1,h2,h8,h9,h10,hlt,zaU];exact⟨i,by simp[hlt],hjn,hlo,hhi,⟨ro',gid⟩,hf⟩
def fn236:pr.fn 236=some zDF:=by kernel_rfl
def zfi(a b:Int):zbq a b=0↔a=b:=by
 unfold zbq;split
 .simp[*]
 .split<;>simp[*]
theorem zis:∀u v:List Int,zaO u v=0↔u=v
 |[],[]=>by simp[zaO]
 |[],b::v=>by simp[zaO]
 |a::u,[]=>by simp[zaO]
 |a::u,b::v=>by
  have ih:=zis u v;simp only[zaO,List.cons.injEq]
  by_cases h:zbq a b=0
  .rw[Z49 (by simpa using h),ih,(zfi a b).1 h];simp
  .have:¬a=b:=fun e=>h ((zfi a b).2 e)
   simp[h,this]
theorem zk4:∀u v:List Int,zaO u v<0↔(u=[]/\v≠[]\/∃a u' b v',u=a::u'/\v=b::v'/\(a<b\/a=b/\zaO u' v'<0))
 |[],[]=>by simp[zaO]
 |[],b::v=>by simp[zaO]
 |a::u,[]=>by simp[zaO]
 |a::u,b::v=>by
  simp only[zaO];constructor
  .intro h;refine .inr ⟨a,u,b,v,rfl,rfl,?_⟩
   by_cases h0:zbq a b=0
   .rw[Z49 (by simpa using h0)]at h;exact .inr ⟨(zfi a b).1 h0,h⟩
   .rw[Z51 h0,zr1]at h;exact .inl h
  .rintro (h|⟨a',u',b',v',e1,e2,h⟩)
   .cases h.1
   .cases e1;cases e2;rcases h with h|⟨rfl,h⟩
    .have:zbq a b= -1:=by unfold zbq;rw[Z49 (by omega),Z51 h]
     simp[this]
    .have:zbq a a=0:=(zfi a a).2 rfl;simpa [this]using h
theorem zk5:∀u v w:List Int,zaO u v<0->zaO v w<0->zaO u w<0
 |[],v,w,h1,h2=>by
  refine (zk4 _ _).2 (.inl ⟨rfl,?_⟩);rcases (zk4 _ _).1 h2 with⟨_,h⟩ |⟨a,u',b,v',_,rfl,_⟩
  .exact h
  .simp
 |a::u,v,w,h1,h2=>by
  rcases (zk4 _ _).1 h1 with⟨h,_⟩ |⟨a',u',b,v',e1,rfl,h⟩
  .cases h
  .cases e1;rcases (zk4 _ _).1 h2 with⟨h,_⟩ |⟨b',v2,c,w',e2,rfl,h'⟩
   .cases h
   .cases e2;refine (zk4 _ _).2 (.inr ⟨a,u,c,w',rfl,rfl,?_⟩);rcases h with h|⟨rfl,h⟩
    .rcases h' with h'|⟨rfl,h'⟩
     .exact .inl (by omega)
     .exact .inl h
    .rcases h' with h'|⟨rfl,h'⟩
     .exact .inl h'
     .exact .inr ⟨rfl,zk5 _ _ _ h h'⟩
def Srt(ts:List (List Int×List F)):Prop:=∀a b:Nat,a<b->b<ts.length->zaO (ts[a]?.getD ([],[])).1 (ts[b]?.getD ([],[])).1<0
def z4e{ts:List (List Int×List F)}(hs:Srt ts)(v:List Int)(a b:Nat)(hab:a<=b)(hb:b<ts.length)(h:zaO (ts[b]?.getD ([],[])).1 v<0):zaO (ts[a]?.getD ([],[])).1 v<0:=by
 rcases Z145 a b with h1|h1
 .exact zk5 _ _ _ (hs a b h1 hb) h
 .have:a=b:=by omega
  subst this;exact h
def zZq{ts:List (List Int×List F)}(hs:Srt ts){v:List Int}{pos:Nat}(hp:pos<=ts.length)(h1:∀k,k<pos->zaO (ts[k]?.getD ([],[])).1 v<0)(h2:∀k,pos<=k->k<ts.length->0<=zaO (ts[k]?.getD ([],[])).1 v):(decide (pos<ts.length)&&decide (zaO (ts[pos]?.getD ([],[])).1 v=0))=ts.any fun t=>t.1==v:=by
 rw[Bool.eq_iff_iff];simp only[Z14,Z86,Z30,beq_iff_eq];constructor
 .rintro⟨h,e⟩;refine⟨ts[pos],Z1 h,?_⟩;rw[Z0 h]at e;exact (zis _ _).1 e
 .rintro⟨t,ht,e⟩;obtain⟨k,hk,rfl⟩ :=Z101.1 ht;have e0:zaO (ts[k]?.getD ([],[])).1 v=0:=by
   rw[Z0 hk];exact (zis _ _).2 e
  have hpk:pos<=k:=by
   rcases Z145 k pos with h|h
   .have:=h1 k h;omega
   .exact h
  refine⟨by omega,?_⟩;rcases Z145 pos k with h|h
  .have a1:=hs pos k h hk;have a2:=h2 pos (Z2 _) (by omega);rw[(zis _ _).1 e0]at a1;omega
  .have:pos=k:=by omega
   subst this;exact e0
def zkJ(h:T Ob)(S lo:Nat)(d:D)(k:Nat):Prop:=(k=0/\d= .f .nils)\/∃id,d= .sl id 0 k 1 k false/\h.get id=some (.arr 1 0 (ziz (List.range k)))/\(S<id/\id<lo)/\0<k
def zkJ.len{h:T Ob}{S lo k:Nat}{d:D}(H:zkJ h S lo d k):zco d=some k:=by
 rcases H with⟨rfl,rfl⟩ |⟨id,rfl,-⟩ <;>rfl
structure zdm(h:T Ob)(lo S:Nat)(L:List Rl):Prop where
 s:∃(PR:Nat) (W:List D),h.get S=some (.arr 2 0 [[.f (zbS L),.sl PR 0 L.length 1 L.length true]])/\h.get PR=some (.arr 1 0 (W.map fun d=>[d]))/\(S<=PR+1/\PR<lo)/\W.length=L.length/\∀(i:Nat) (r:Rl),L[i]? =some r->∃d,W[i]? =some d/\zkJ h S lo d r.tu.length
 l:S<lo
def zdm.up{h h':T Ob}{lo S:Nat}{L:List Rl}(H:zdm h lo S L)(hf:∀id,S<=id+1->id<lo->h'.get id=h.get id):zdm h' lo S L:=by
 obtain⟨⟨PR,W,a1,a2,a3,a4,a5⟩,hl⟩ :=H;refine⟨⟨PR,W,by rw[hf _ (by omega) hl];exact a1,by rw[hf _ a3.1 a3.2];exact a2,a3,a4,fun i r hr=> ?_⟩,hl⟩;obtain⟨d,b1,b2⟩ :=a5 i r hr;refine⟨d,b1,?_⟩;rcases b2 with b2|⟨id,c1,c2,c3,c4⟩
 .exact .inl b2
 .exact .inr ⟨id,c1,by rw[hf _ (by omega) c3.2];exact c2,c3,c4⟩
structure RlO(r:Rl):Prop where
 n:r.tu.length<=3
 l:∀t∈r.tu,t.1.length<1000
 s:Srt r.tu
def zkJ.ia{h:T Ob}{S lo n:Nat}{d:D}(H:zkJ h S lo d n):∃ip,(∀k,k<n->iaB 1 d k=some (.ptr ip 1 k 0))/\(0<n->h.get ip=some (.arr 1 0 (ziz (List.range n)))/\S<ip/\ip<lo):=by
 rcases H with⟨rfl,rfl⟩ |⟨id,rfl,a1,a2,a3⟩
 .exact⟨0,fun k hk=>absurd hk (by omega),fun h=>absurd h (by omega)⟩
 .exact⟨id,fun k hk=>by simp[iaB,hk],fun _=>⟨a1,a2⟩⟩
def zrt(k j:Nat)(h:j<k):(ziz (List.range k))[j]? =some [D.f (.i .i64 (j:Nat))]:=by
 simp[ziz,h]
theorem z0f{h:T Ob}{c S id ro i lo:Nat}{L:List Rl}{r:Rl}{v:List Int}(HS:zdm h lo S L)(hlo:lo<=id)(hid:id<c)(hr:L[i]? =some r)(hR:RlO r)(hg:h.get id=some (.arr 3 ro (vRw v)))(hv:v≠[])(hvl:v.length<1000):
  Eff pr 236 [.ptr S 2 0 0,.f (.i .i64 i),.sl id 0 v.length 3 v.length true] h c (HasP (.f (.b (r.tu.any fun t=>t.1==v))) v id h c):=by
 refine zb2 kps fn236 (fun d h' c' ⟨a1,⟨ro',a2⟩,a3⟩ _ hf=>⟨a1,⟨ro',by rw[<-hf id hid];exact a2⟩,fun _ _ _=>rfl⟩) ?_;obtain⟨⟨PR,W,a1,a2,a3,a4,a5⟩,hl⟩ :=HS;obtain⟨d,b1,b2⟩ :=a5 i r hr;have hiL:i<L.length:=(Z8.1 hr).1;have hrow:(W.map fun d=>[d])[i]? =some [d]:=by rw[Z36,b1];rfl
 have n1:¬S=c:=by omega
 have n2:¬PR=c:=by omega
 have n3:¬id=c:=by omega
 obtain⟨ip,i1,i2⟩ :=b2.ia;have hl2:d.cells=some [d]:=by
  rcases b2 with⟨_,rfl⟩ |⟨_,rfl,_⟩ <;>rfl
 simp only[zDF,rU];have hA:=(Z8.1 hr).2;have hc2:(D.f (zdf r.tu)).cells=some [.f (zdf r.tu)]:=zfE _ _;have hB:=(Z8.1 b1).2;simp[rW,st0,zay,a1,znF,hr,hA,hB,rlE,hc2,n1,n2,a2,hrow,hiL,a4];have e1:=z0i (h:=((h.set c (.arr 1 0 [[.f .nils]])).set c (.arr 1 0 [[.f (zdf r.tu)]]))) (c:=c+1) (C:=c) (id:=id) (ip:=ip) (ro:=ro) (n:=r.tu.length) (dp:=d) (rows:=ziz (List.range r.tu.length)) (ts:=r.tu) (v:=v) (by simp[TG]) (by rw[TG,Z49 n3,TG,Z49 n3];exact hg) hv hvl rfl hR.n hR.l (by omega) (by omega) (by omega) b2.len i1 (fun h0=>⟨by rw[TG,Z49 (by have:=(i2 h0).2.2;omega),TG,Z49 (by have:=(i2 h0).2.2;omega)];exact (i2 h0).1,by have:=(i2 h0).2.2;omega,by have:=(i2 h0).2.2;omega⟩) (fun k hk=>zrt _ _ hk) (z4e hR.s v);refine zbQ [] e1 (by simp only[rG]) (by simp only[rG]) trivial rfl ?_;rintro s d1 ⟨pos,rfl,p1,p2,p3,p4,p5⟩ hc1 h28 -;refine⟨?_⟩;simp[rW,h28,zaU];refine⟨by rw[zZq hR.s p1 p2 p3],p4,fun x hx hn=> ?_⟩;rw[p5 x (by omega) hn,TG,Z49 (by omega),TG,Z49 (by omega)]
def zf4(h:T Ob)(c:Nat)(d:D)(v:List Int):Prop:=∃id ro ex,d= .sl id 0 v.length 3 v.length ex/\h.get id=some (.arr 3 ro (vRw v))/\id<c
def zBI{v:List Int}{n:Nat}{a:Int}(h:v[n]? =some a):(vRw v)[n]? =some [D.f (.i .i64 1),D.f (.i .i64 a),D.f (.s [])]:=by simp[vRw,h,Sm.vF]
def K63(h:T Ob)(d e:D)(u v:List Int)(c n:Nat)(s:St):Prop:=(s.tm.get 0=some (d)/\s.tm.get 1=some (e)/\s.tm.get 2=some (.f (.fn 64))/\s.tm.get 11=some (d)/\s.tm.get 12=some (.f (.i .i64 u.length))/\s.tm.get 13=some (.f (.i .i64 n)))/\c<=s.c/\n<=v.length/\(∀i,i<n->u[i]? =v[i]?)/\∀id,id<c->s.h.get id=h.get id
def L63(h:T Ob)(d e:D)(u v:List Int)(c:Nat)(x:Ex)(s:St):Prop:=(x= .exit 0/\K63 h d e u v c u.length s)\/(x= .ret/\s.tm.get 6=some (.f (.i .i64 (zaO u v)))/\∀id,id<c->s.h.get id=h.get id)
def z0j{d e:D}(u v:List Int)(hu:u.length<1000)(hv:v.length<1000){h:T Ob}{c:Nat}(hd:zf4 h c d u)(he:zf4 h c e v):Eff pr 63 [d,e,.f (.fn 64)] h c (Same (.f (.i .i64 (zaO u v))) h c):=by
 refine zb2 kps fn63 (fun d h' c' ⟨a,_⟩ _ _=>⟨a,fun _ _=>rfl⟩) ?_;obtain⟨ia,ra,xa,rfl,ga,la⟩ :=hd;obtain⟨ib,rb,xb,rfl,gb,lb⟩ :=he;simp only[g63,rU];simp[rW,st0,zay];refine zfa (fun k s=>∃n:Nat,n<=u.length/\k=u.length - n/\K63 h (.sl ia 0 u.length 3 u.length xa) (.sl ib 0 v.length 3 v.length xb) u v c n s) (L63 h (.sl ia 0 u.length 3 u.length xa) (.sl ib 0 v.length 3 v.length xb) u v c) ?_ u.length _ ⟨0,Z61 _,rfl,⟨?_,?_,?_,?_,?_,?_⟩,?_,?_,?_,?_⟩ ?_
 .rintro k s ⟨n,hn,rfl,⟨h0,h1,h2,h11,h12,h13⟩,hc,hnv,hI,hf⟩;have hw:=zaH n (by omega);have ga':=(hf ia la).trans ga;have gb':=(hf ib lb).trans gb;have ul:=zsv u;have vl:=zsv v;have na:¬ia=s.c:=by omega
  have nb:¬ib=s.c:=by omega
  by_cases hlt:n<u.length
  .have hx:u[n]? =some u[n]:=Z0 hlt;generalize hA:u[n]=a at hx;have hrx:=zBI hx;have hrxA:=(Z8.1 hrx).2
   by_cases hlv:n<v.length
   .have hy:v[n]? =some v[n]:=Z0 hlv;generalize hB:v[n]=b at hy;have hry:=zBI hy;have hryA:=(Z8.1 hry).2;have hge:¬((v.length:Int)<=(n:Int)):=by omega
    have n1:¬s.c=s.c+1:=by omega
    have nb1:¬ib=s.c+1:=by omega
    have na1:¬ia=s.c+1:=by omega
    simp[rW,h0,h1,h2,h11,h12,h13,hlt,ga',gb',ul,vl,hrxA,hryA,hge,n1,na,nb,nb1,na1,hlv];refine zbQ [(0,.sl ia 0 u.length 3 u.length xa),(1,.sl ib 0 v.length 3 v.length xb),(2,.f (.fn 64)),(11,.sl ia 0 u.length 3 u.length xa),(12,.f (.i .i64 u.length)),(13,.f (.i .i64 n))] (zjs (ro64 a b _ _)) (by simp only[rG];rfl) (by simp only[rG];rfl) (by simp only[Rg];simp[rW,h0,h1,h2,h11,h12,h13]) rfl ?_;rintro s1 d1 ⟨rfl,hh,hcc⟩ hc1 kd ⟨k0,k1,k2,k11,k12,k13,-⟩;have hf2:∀id,id<c->s1.h.get id=h.get id:=fun id hid=>by
     rw[hh,TG,Z49 (by omega),TG,Z49 (by omega),TG,Z49 (by omega),TG,Z49 (by omega)];exact hf id hid
    refine⟨?_⟩
    by_cases hz:zbq a b=0
    .have hab:a=b:=(zfi _ _).1 hz;rw[hz]at kd;simp[rW,k0,k1,k2,k11,k12,k13,kd,hw];refine⟨u.length - (n+1),by omega,n+1,by omega,rfl,⟨by simp[rW,k0],by simp[rW,k1],by simp[rW,k2],by simp[rW,k11],by simp[rW,k12],by simp[rW,hw]⟩,by simp only[rG];omega,by omega,fun i hi=> ?_,fun id hid=>by simp[rW];exact hf2 id hid⟩
     by_cases e:i=n
     .subst e;rw[hx,hy,hab]
     .exact hI i (by omega)
    .have hl3:zaO u v=zbq a b:=by
      rw[zey u v n hn hnv hI,Z55 hlt,Z55 hlv,hA,hB];simp[zaO,hz]
     simp[rW,k0,k1,k2,k11,k12,k13,kd,hz];exact .inr ⟨rfl,by simp[rW,hl3],fun id hid=>by simp[rW];exact hf2 id hid⟩
   .have hge:(v.length:Int)<=(n:Int):=by omega
    have hl3:zaO u v=1:=by
     rw[zey u v n hn hnv hI,Z55 hlt,show List.drop n v=[]from Z24 (by omega)];rfl
    have n1:¬s.c=s.c+1:=by omega
    simp[rW,h0,h1,h2,h11,h12,h13,hlt,ga',ul,hrxA,hge,n1,na];refine .inr ⟨rfl,by simp[rW,hl3],fun id hid=> ?_⟩;have a1:¬id=s.c:=by omega
    simp[rW,a1];exact hf id hid
  .have hen:n=u.length:=by omega
   subst hen;simp[rW,h0,h1,h2,h11,h12,h13];exact .inl ⟨rfl,⟨by simp[rW,h0],by simp[rW,h1],by simp[rW,h2],by simp[rW,h11],by simp[rW,h12],by simp[rW,h13]⟩,by simp only[rG];omega,hnv,hI,hf⟩
 .simp[rW]
 .simp[rW]
 .simp[rW]
 .simp[rW]
 .simp[rW]
 .simp[rW]
 .simp[rW]
 .simp
 .intro i hi;omega
 .intro id hid;simp[rW]
 .rintro e s (⟨rfl,⟨h0,h1,h2,h11,h12,h13⟩,hc,hnv,hI,hf⟩ |⟨rfl,h6,hf⟩)
  .by_cases hl:u.length<v.length
   .have hl3:zaO u v= -1:=by
     rw[zey u v u.length (Z2 _) hnv hI,Z206,Z55 hl];rfl
    simp[rW,h0,h1,h2,hl,zaU];exact⟨by rw[hl3],hf⟩
   .have he:v.length=u.length:=by omega
    have hl3:zaO u v=0:=by
     rw[zey u v u.length (Z2 _) hnv hI,Z206,<-he,Z206];rfl
    simp[rW,h0,h1,h2,hl,zaU];exact⟨by rw[hl3],hf⟩
  .simp[rW,h6,zaU];exact⟨rfl,hf⟩
def z0d{d e:D}(u v:List Int)(hu:u.length<1000)(hv:v.length<1000){h:T Ob}{c:Nat}(hd:zf4 h c d u)(he:zf4 h c e v):Eff pr 30 [d,e] h c (Same (.f (.i .i64 (zaO u v))) h c):=by
 refine zb2 kps fn30 (fun d h' c' ⟨a,_⟩ _ _=>⟨a,fun _ _=>rfl⟩) ?_;simp only[g30,rU];simp[rW,st0,zay];refine zbQ [] (z0j u v hu hv hd he) (by simp only[rG]) (by simp only[rG]) trivial rfl ?_;rintro s1 d1 ⟨rfl,hf⟩ hc1 k7 -;refine⟨?_⟩;simp[rW,k7,zaU];exact⟨rfl,hf⟩
def zPp:pr.fn 126=some zkq:=by kernel_rfl
def fn61:pr.fn 61=some g61:=by kernel_rfl
def fn29:pr.fn 29=some g29:=by kernel_rfl
def fn62:pr.fn 62=some g62:=by kernel_rfl
def fn135:pr.fn 135=some zDo:=by kernel_rfl
def zJH(z:Int)(h1: -9000000000000000000<=z)(h2:z<=9000000000000000000):IntKind.i64.wrap z=z:=IntWalk.i64_in _ (by omega)
abbrev Er:=D×List Int
def ltE(x y:Er):Bool:=decide (zaO x.2 y.2<0)
instance :Inhabited Er:=⟨(.f .un,[])⟩
def rE(l:List Er):List (List D):=l.map fun p=>[p.1]
def z2D(l:List Er):(rE l).length=l.length:=by simp[rE]
def zy5(l:List Er)(i:Nat)(v:Er):(rE l).set i [v.1]=rE (l.set i v):=by simp[rE,Z116]
def zy4(d:Array Er){i:Nat}(hi:i<d.size):(rE d.toList)[i]? =some [d[i]!.1]:=by
 simp[rE,hi]
def z2E(d:Array Er)(i j:Nat):((rE d.toList).set i [d[j]!.1]).set j [d[i]!.1]=rE (Go.Sort.swp d i j).toList:=by
 rw[zy5,zy5];simp[Go.Sort.swp,Array.toList_setIfInBounds]
def zEe(d:Array Er)(i:Nat){j:Nat}(hj:j<d.size):((rE d.toList).set i [d[j]!.1])[j]? =some [d[j]!.1]:=by
 by_cases h:i=j
 .subst h;rw[Z140 (by rw[z2D];simpa using hj)]
 .rw[Z125 h];exact zy4 d hj
structure SRw(h:T Ob)(c id n:Nat)(d:Array Er)(h':T Ob)(c':Nat):Prop where
 row:h'.get id=some (.arr 1 0 (rE d.toList))
 sz:d.size=n
 el:∀p∈d.toList,zf4 h c p.1 p.2/\p.2.length<1000
 fr:∀j,j<c->j≠id->h'.get j=h.get j
 le:c<=c'
def SRw.cc{h:T Ob}{c id n:Nat}{d:Array Er}{h' h'':T Ob}{c' c'':Nat}(H:SRw h c id n d h' c')(hid:id<c)(hh:∀j,j<c'->h''.get j=h'.get j)(hc:c'<=c''):SRw h c id n d h'' c'':=
 ⟨by rw[hh id (by have:=H.le;omega)];exact H.row,H.sz,H.el,fun q hq hne=>(hh q (by have:=H.le;omega)).trans (H.fr q hq hne),Z3 H.le hc⟩
def SRw.hrow{h:T Ob}{c id n:Nat}{d d0:Array Er}{h':T Ob}{c':Nat}(H:SRw h c id n d h' c')(h0:h.get id=some (.arr 1 0 (rE d0.toList))){i:Nat}(hi:i<n):zf4 h' c' d[i]!.1 d[i]!.2/\d[i]!.2.length<1000:=by
 have hs:=H.sz;have hm:d[i]! ∈d.toList:=by
  rw[getElem!_pos d i (by omega)];exact Array.getElem_mem_toList (by omega)
 obtain⟨⟨a,ro,ex,e,g,l⟩,h2⟩ :=H.el _ hm;have hne:a≠id:=fun e2=>by rw[e2,h0]at g;simp at g
 exact⟨⟨a,ro,ex,e,by rw[H.fr a l hne];exact g,by have:=H.le;omega⟩,h2⟩
def zUr(d:Array Er)(i j:Nat)(hi:i<d.size)(hj:j<d.size)(p:Er)(hp:p∈(Go.Sort.swp d i j).toList):p∈d.toList:=by
 simp only[Go.Sort.swp,Array.toList_setIfInBounds]at hp;rcases Z156 hp with h1|rfl
 .rcases Z156 h1 with h2|rfl
  .exact h2
  .rw[getElem!_pos d j hj];exact Array.getElem_mem_toList hj
 .rw[getElem!_pos d i hi];exact Array.getElem_mem_toList hi
def I2r(h:T Ob)(c id n a b i:Nat)(ex:Bool)(D1:Array Er)(k:Nat)(s:St):Prop:=∃(d:Array Er),(s.tm.get 0=some (.sl id 0 n 1 n ex)/\s.tm.get 1=some (.f (.i .i64 a))/\s.tm.get 2=some (.f (.i .i64 b))/\s.tm.get 3=some (.f (.fn 30))/\s.tm.get 8=some (.f (.i .i64 i))/\s.tm.get 9=some (.f (.i .i64 k)))/\SRw h c id n d s.h s.c/\Go.Sort.insInner ltE a k d=D1/\k<n
def I1r(h:T Ob)(c id n a b:Nat)(ex:Bool)(D0:Array Er)(m:Nat)(s:St):Prop:=∃(d:Array Er) (i:Nat),i=a+1+m/\(s.tm.get 0=some (.sl id 0 n 1 n ex)/\s.tm.get 1=some (.f (.i .i64 a))/\s.tm.get 2=some (.f (.i .i64 b))/\s.tm.get 3=some (.f (.fn 30))/\s.tm.get 8=some (.f (.i .i64 (i:Int))))/\SRw h c id n d s.h s.c/\Go.Sort.insOuter ltE a b i d=D0
def zkU:C:=zkq.body.r.b.o
def zx8:C:=zkU.r.l.b.r.b.o
def R2r(h:T Ob)(c id n a b i:Nat)(ex:Bool)(D1:Array Er)(x:Ex)(s:St):Prop:=x= .exit 2/\(s.tm.get 0=some (.sl id 0 n 1 n ex)/\s.tm.get 1=some (.f (.i .i64 a))/\s.tm.get 2=some (.f (.i .i64 b))/\s.tm.get 3=some (.f (.fn 30))/\s.tm.get 8=some (.f (.i .i64 i)))/\SRw h c id n D1 s.h s.c
def z1X{h:T Ob}{c id n a b i:Nat}{ex:Bool}{d0 D1:Array Er}(g0:h.get id=some (.arr 1 0 (rE d0.toList)))(hid:id<c)(hsz:n<100000){k:Nat}{s:St}{K:Ex->St->Prop}(hJ:I2r h c id n a b i ex D1 k s)(hK:∀e s,R2r h c id n a b i ex D1 e s->K e s):WL pr zx8 s K:=by
 refine zfa (I2r h c id n a b i ex D1) (R2r h c id n a b i ex D1) ?_ k _ hJ hK;clear hJ;clear k;rintro k s ⟨d',⟨h0,h1,h2,h3,h8,h9⟩,HS,hI,hk⟩
 by_cases hka:a<k
 .obtain⟨j,hkj⟩ :∃j,k=j+1:=⟨k - 1,by omega⟩
  have hins:Go.Sort.insInner ltE a k d'=if zaO d'[k]!.2 d'[j]!.2<0 then Go.Sort.insInner ltE a j (Go.Sort.swp d' k j)else d':=by
   subst hkj;show(if(decide (j+1>a)&&ltE d'[j+1]! d'[j]!)=true then _ else _)=_;rw[decide_eq_true (by omega)];simp[ltE]
  have hsub:IntKind.i64.wrap ((k:Int) - 1)=(j:Int):=by
   rw[zJH _ (by omega) (by omega)];omega
  have hj:j<n:=by omega
  have e1:=zy4 d' (i:=k) (by rw[HS.sz];exact hk);have e0:=zy4 d' (i:=j) (by rw[HS.sz];exact hj);have e0':=zEe d' k (j:=j) (by rw[HS.sz];exact hj);obtain⟨rk,lk⟩ :=HS.hrow g0 hk;obtain⟨rj,lj⟩ :=HS.hrow g0 hj;have gR:=HS.row;have hsw:=z2E d' k j;have szsw:(Go.Sort.swp d' k j).size=n:=by simp[Go.Sort.swp,HS.sz]
  have hmem:=zUr d' k j (by rw[HS.sz];exact hk) (by rw[HS.sz];exact hj);have hkc:d'[k]!.1.cells=some [d'[k]!.1]:=by obtain⟨_,_,_,e,_⟩ :=rk;rw[e];rfl
  have hjc:d'[j]!.1.cells=some [d'[j]!.1]:=by obtain⟨_,_,_,e,_⟩ :=rj;rw[e];rfl
  have hk8:∀l:List (List D),hd8 ([d'[k]!.1]::l)=false:=by obtain⟨_,_,_,e,_⟩ :=rk;rw[e];intro l;rfl
  have hj8:∀l:List (List D),hd8 ([d'[j]!.1]::l)=false:=by obtain⟨_,_,_,e,_⟩ :=rj;rw[e];intro l;rfl
  have hall8:∀l:List Er,(∀p∈l,zf4 h c p.1 p.2/\p.2.length<1000)->hd8 (rE l)=false:=fun l hl=>by
   cases l with
   |nil=>rfl
   |cons p l=>obtain⟨⟨_,_,_,e,_⟩,_⟩ :=hl p (by simp);simp only[rE,Z10,e];rfl
  have h8a:=hall8 _ HS.el;have h8b:=hall8 _ (fun p hp=>HS.el p (hmem p hp));have h8c:hd8 ((rE d'.toList).set k [d'[j]!.1])=false:=by
   rw[zy5];refine hall8 _ fun p hp=> ?_
   rcases Z156 hp with h1|rfl
   .exact HS.el p h1
   .refine HS.el _ ?_;rw[getElem!_pos d' j (by rw[HS.sz];exact hj)];exact Array.getElem_mem_toList _
  have hup:∀{d:D} {v:List Int},zf4 s.h s.c d v->zf4 s.h (s.c+1+1+1+1+1+1+1+1+1+1+1+1+1+1) d v:=fun⟨a,ro,ex,e,g,l⟩ =>⟨a,ro,ex,e,g,by omega⟩
  generalize d'[k]! =pk at*;generalize d'[j]! =pj at*;unfold zx8 zkU zkq;simp only[rU,C.l,C.r,C.b,C.o];simp[rW,h0,h1,h2,h3,h8,h9,hka];refine zfJ ?_;simp[rW,h0,h1,h2,h3,h8,h9,hka,gR,hk,hj,hsub,e1,e0];refine zmb [(0,.sl id 0 n 1 n ex),(1,.f (.i .i64 a)),(2,.f (.i .i64 b)),(3,.f (.fn 30)),(8,.f (.i .i64 i)),(9,.f (.i .i64 k)),(21,.f (.b true))] (z0d (h:=s.h) (c:=s.c+1+1+1+1+1+1+1+1+1+1+1+1+1+1) pk.2 pj.2 lk lj (hup rk) (hup rj)) (by simp only[rG]) (by simp only[rG]) (by simp only[Rg];simp[rW,h0,h1,h2,h3,h8,h9]) rfl ?_;rintro s1 d1 c' ⟨rfl,hf1⟩ hc1 hc2 k32 ⟨k0,k1,k2,k3,k8,k9,k21,-⟩;have HS1:SRw h c id n d' s1.h s1.c:=HS.cc hid (fun j hj=>hf1 j (by omega)) (by omega);have gR1:=HS1.row;refine⟨by simp[rW],⟨?_⟩⟩
  by_cases hlt:zaO pk.2 pj.2<0
  .rw[Z51 hlt]at hins;simp[rW,k0,k1,k2,k3,k8,k9,k21,k32,hlt];refine zbf ?_;simp[rW,k0,k1,k2,k3,k8,k9,gR1,hk,hj,hsub,e1,e0,e0',hkc,hjc,h8a,h8b,h8c,hsw];have hle:=HS1.le;refine⟨by omega,by omega,j,by omega,Go.Sort.swp d' k j,⟨by simp[rW,k0],by simp[rW,k1],by simp[rW,k2],by simp[rW,k3],by simp[rW,k8],by simp[rW,hsub]⟩,⟨by simp[rW],szsw,fun p hp=>HS.el p (hmem p hp),fun q hq hne=> ?_,by simp only[rG];omega⟩,hins.symm.trans hI,hj⟩;simp[rW,hne];exact HS1.fr q hq hne
  .rw[Z49 hlt]at hins;rw[hins]at hI;subst hI;simp[rW,k0,k1,k2,k3,k8,k9,k21,k32,hlt];exact⟨rfl,⟨by simp[rW,k0],by simp[rW,k1],by simp[rW,k2],by simp[rW,k3],by simp[rW,k8]⟩,HS1.cc hid (fun _ _=>by simp only[rG]) (by simp only[rG];omega)⟩
 .have hins:Go.Sort.insInner ltE a k d'=d':=by
   cases k with
   |zero=>rfl
   |succ j=>
    show(if(decide (j+1>a)&&ltE d'[j+1]! d'[j]!)=true then _ else _)=_;rw[decide_eq_false (by omega)];rfl
  rw[hins]at hI;subst hI;unfold zx8 zkU zkq;simp only[rU,C.l,C.r,C.b,C.o];simp[rW,h0,h1,h2,h3,h8,h9,hka];refine zfJ ?_;simp[rW,h0,h1,h2,h3,h8,h9,hka];exact⟨rfl,⟨by simp[rW,h0],by simp[rW,h1],by simp[rW,h2],by simp[rW,h3],by simp[rW,h8]⟩,HS.cc hid (fun _ _=>by simp only[rG]) (by simp only[rG];omega)⟩
def z1U{h:T Ob}{c id n a b:Nat}{ex:Bool}{d0 D0:Array Er}(g0:h.get id=some (.arr 1 0 (rE d0.toList)))(hid:id<c)(hsz:n<100000)(hb:b<=n){s:St}{K:Ex->St->Prop}(hJ:I1r h c id n a b ex D0 0 s)(hK:∀s,I1r h c id n a b ex D0 (b - (a+1)) s->K (.exit 0) s):WL pr zkU s K:=by
 refine zc0 (b - (a+1)) (I1r h c id n a b ex D0) (fun x s=>x= .exit 0/\I1r h c id n a b ex D0 (b - (a+1)) s) ?_ ?_ _ hJ ?_
 .rintro m s hm ⟨d,i,hi,⟨h0,h1,h2,h3,h8⟩,HS,hD⟩;have hib:i<b:=by omega
  have hwi:=zaH i (by omega);rw[Go.Sort.insOuter,Z51 hib]at hD;unfold zkU zkq;simp only[rU,C.l,C.r,C.b,C.o];simp[rW,h0,h1,h2,h3,h8,hib];refine z1X (h:=h) (c:=c) (id:=id) (n:=n) (a:=a) (b:=b) (i:=i) (ex:=ex) (D1:=Go.Sort.insInner ltE a i d) g0 hid hsz (k:=i) ⟨d,⟨by simp[rW,h0],by simp[rW,h1],by simp[rW,h2],by simp[rW,h3],by simp[rW,h8],by simp[rW]⟩,HS.cc hid (fun _ _=>by simp only[rG]) (by simp only[rG];omega),rfl,by omega⟩ ?_;rintro e s1 ⟨rfl,⟨k0,k1,k2,k3,k8⟩,HS1⟩;simp[rW,k0,k1,k2,k3,k8,hwi];exact⟨_,i+1,by omega,⟨by simp[rW,k0],by simp[rW,k1],by simp[rW,k2],by simp[rW,k3],by simp[rW,hwi]⟩,HS1.cc hid (fun _ _=>by simp only[rG]) (by simp only[rG];omega),hD⟩
 .rintro s ⟨d,i,hi,⟨h0,h1,h2,h3,h8⟩,HS,hD⟩;have hib:¬i<b:=by omega
  unfold zkU zkq;simp only[rU,C.l,C.r,C.b,C.o];simp[rW,h0,h1,h2,h3,h8,hib];exact⟨d,i,hi,⟨by simp[rW,h0],by simp[rW,h1],by simp[rW,h2],by simp[rW,h3],by simp[rW,h8]⟩,HS.cc hid (fun _ _=>by simp only[rG]) (by simp only[rG];omega),hD⟩
 .rintro e s ⟨rfl,hJ⟩;exact hK s hJ
def SoP(h:T Ob)(c id n:Nat)(d:Array Er)(_:D)(h':T Ob)(c':Nat):Prop:=SRw h c id n d h' c'
def SoP.clo{h:T Ob}{c id n:Nat}{d:Array Er}(hid:id<c)(x:D)(h':T Ob)(c':Nat)(H:SoP h c id n d x h' c')(_:x.isF=true)(hf:∀j,j<c->h'.get j=h.get j):SoP h c id n d x h c:=
 ⟨by rw[<-hf id hid];exact H.row,H.sz,H.el,fun _ _ _=>rfl,Z2 _⟩
def zZ6{h:T Ob}{c id n:Nat}{ex:Bool}{d:Array Er}(g0:h.get id=some (.arr 1 0 (rE d.toList)))(hn:d.size=n)(hel:∀p∈d.toList,zf4 h c p.1 p.2/\p.2.length<1000)(hid:id<c)(hsz:n<100000):Eff pr 126 [.sl id 0 n 1 n ex,.f (.i .i64 0),.f (.i .i64 n),.f (.fn 30)] h c (SoP h c id n (Go.Sort.insertionSort ltE d 0 n)):=by
 refine zb2 kps zPp (SoP.clo hid) ?_;have hw1:IntKind.i64.wrap (0+1)=1:=rfl;simp only[zkq,rU];simp[rW,st0,zay];refine z1U (h:=h) (c:=c) (id:=id) (n:=n) (a:=0) (b:=n) (ex:=ex) (D0:=Go.Sort.insertionSort ltE d 0 n) g0 hid hsz (Z2 n) ⟨d,1,rfl,⟨by simp[rW],by simp[rW]<;>rfl,by simp[rW],by simp[rW],by simp[rW]<;>rfl⟩,⟨by simp only[rG]<;>exact g0,hn,hel,fun _ _ _=>by simp only[rG],by simp only[rG]<;>exact Z2 _⟩,rfl⟩ ?_;rintro s ⟨d1,i,hi,⟨h0,h1,h2,h3,h8⟩,HS,hD⟩;rw[Go.Sort.insOuter,Z49 (by omega)]at hD;subst hD;simp[rW,znd];exact HS
def zIZ(a b:Int):Go.Vse.zaS .geq (.i .u64 a) (.i .u64 b)=some (.b (decide (b<=a))):=rfl
def z2k:∀x:Fin 64,(([0,1,2,2,3,3,3,3,4,4,4,4,4,4,4,4,5,5,5,5,5,5,5,5,5,5,5,5,5,5,5,5,6,6,6,6,6,6,6,6,6,6,6,6,6,6,6,6,6,6,6,6,6,6,6,6,6,6,6,6,6,6,6,6,7,7,7,7,7,7,7,7,7,7,7,7,7,7,7,7,7,7,7,7,7,7,7,7,7,7,7,7,7,7,7,7,7,7,7,7,7,7,7,7,7,7,7,7,7,7,7,7,7,7,7,7,7,7,7,7,7,7,7,7,7,7,7,7,8,8,8,8,8,8,8,8,8,8,8,8,8,8,8,8,8,8,8,8,8,8,8,8,8,8,8,8,8,8,8,8,8,8,8,8,8,8,8,8,8,8,8,8,8,8,8,8,8,8,8,8,8,8,8,8,8,8,8,8,8,8,8,8,8,8,8,8,8,8,8,8,8,8,8,8,8,8,8,8,8,8,8,8,8,8,8,8,8,8,8,8,8,8,8,8,8,8,8,8,8,8,8,8,8,8,8,8,8,8,8,8,8,8,8,8,8,8,8,8,8,8,8,8,8,8,8,8]:List UInt8)[x.val]?)=some (UInt8.ofNat (Go.Sort.bitsLen x.val)):=by decide+kernel
def zJJ:∀x:Fin 64,Go.Sort.bitsLen x.val<=6:=by decide+kernel
def o_ixs{pr:Pr}{s:St}{Q:St->Prop}{dst:Option Nat}{l:List Go.Vse.Op}{x i:A}:wpO pr (⟨dst,none,.ixs x i⟩ ::l) s Q↔oB (((O.ixs x i).res (zah s.tm)).bind (opv s.h.get s.c)) fun r=>zau r.c r.wr=true/\wpO pr l (s.aft dst r.d r.wr r.c) Q:=zdp rfl
def v_ixs{h:Nat->Option Ob}{c:Nat}{l:List UInt8}{i:Nat}{b:UInt8}(hb:l[i]? =some b):opv h c (.ixs (.f (.s l)) (.f (.i .u8 (i:Int))))=some {d:= .f (.i .u8 (b.toNat:Int)),c:=c}:=by
 simp[opv,zbu,hb,okF]
def ro135{h:T Ob}{c x:Nat}(hx:x<64):RO pr 135 [.f (.i .u64 x)] h c (.f (.i .i64 (Go.Sort.bitsLen x))):=by
 refine ziL zgr fn135 rfl ?_;simp only[zDo,rU];have t:=z2k ⟨x,hx⟩;have t2:=zJJ ⟨x,hx⟩;simp only at t t2;obtain⟨b,hb,hbt⟩ :∃b:UInt8,b=UInt8.ofNat (Go.Sort.bitsLen x)/\b.toNat=Go.Sort.bitsLen x:=⟨_,rfl,by rw[UInt8.toNat_ofNat'];omega⟩
 rw[<-hb]at t;rw[<-hbt];have hwb:IntKind.i64.wrap (b.toNat:Int)=(b.toNat:Int):=zJH _ (by omega) (by omega);have t3:=fun(h:Nat->Option Ob) (c:Nat)=>v_ixs (h:=h) (c:=c) t
 have h32:¬((4294967296:Int)<=x):=by omega
 have h16:¬((65536:Int)<=x):=by omega
 have hy8:¬((256:Int)<=x):=by omega
 have hu8:IntKind.u8.wrap (x:Int)=x:=by simp[IntKind.wrap,IntKind.bits,IntKind.signed];omega
 simp[rW,st0,zay,h32,h16,hy8,o_ixs,hu8,zIZ,O.res,Z47,t3,zQ0,hwb,zfd,zth]
def ro62{h:T Ob}{c x:Nat}(hx:x<64):RO pr 62 [.f (.i .u64 x)] h c (.f (.i .i64 (Go.Sort.bitsLen x))):=by
 refine ziL zgr fn62 rfl ?_;simp only[g62,rU];simp[rW,st0,zay];refine zkd (ro135 hx) ?_ ?_
 .simp only[rG];omega
 intro mx;simp[rW,zfd]
def eff61{h:T Ob}{c id n lm:Nat}{ex:Bool}{d:Array Er}(g0:h.get id=some (.arr 1 0 (rE d.toList)))(hn:d.size=n)(hel:∀p∈d.toList,zf4 h c p.1 p.2/\p.2.length<1000)(hid:id<c)(h12:n<=12):Eff pr 61 [.sl id 0 n 1 n ex,.f (.i .i64 0),.f (.i .i64 n),.f (.i .i64 lm),.f (.fn 30)] h c (SoP h c id n (Go.Sort.insertionSort ltE d 0 n)):=by
 refine zb2 kps fn61 (SoP.clo hid) ?_;have hw:IntKind.i64.wrap (n:Int)=n:=zJH _ (by omega) (by omega);have h12':(n:Int)<=12:=by omega
 simp only[g61,rU];simp[rW,st0,zay];refine round ?_;simp[rW,hw,h12'];refine zbQ [] (zZ6 (ex:=ex) g0 hn hel hid (by omega)) (by simp only[rG]) (by simp only[rG]) trivial rfl ?_;rintro s1 d1 HS hc1 - -;refine⟨?_⟩;simp[rW,zaU];exact HS
def eff29{h:T Ob}{c id n:Nat}{ex:Bool}{d:Array Er}(g0:h.get id=some (.arr 1 0 (rE d.toList)))(hn:d.size=n)(hel:∀p∈d.toList,zf4 h c p.1 p.2/\p.2.length<1000)(hid:id<c)(h12:n<=12):Eff pr 29 [.sl id 0 n 1 n ex,.f (.fn 30)] h c (SoP h c id n (Go.Sort.insertionSort ltE d 0 n)):=by
 refine zb2 kps fn29 (SoP.clo hid) ?_;have hu:IntKind.u64.wrap (n:Int)=(n:Int):=by rw[IntKind.wrap_u64];omega
 simp only[g29,rU];simp[rW,st0,zay,hu];refine zbQ [(7,.sl id 0 n 1 n ex),(8,.f (.i .i64 n)),(1,.f (.fn 30))] (zjs (ro62 (x:=n) (by omega))) (by simp only[rG];rfl) (by simp only[rG];rfl) (by simp only[Rg];simp[rW]) rfl ?_;rintro s1 d1 ⟨rfl,hh,hcc⟩ hc1 k11 ⟨k7,k8,k1,-⟩;refine⟨?_⟩;simp[rW,k1,k7,k8,k11];refine zbQ [] (eff61 (ex:=ex) g0 hn hel hid h12) (by simp only[rG];exact hh) (by simp only[rG];exact hcc) trivial rfl ?_;rintro s2 d2 HS hc2 - -;refine⟨?_⟩;simp[rW,znd];exact HS
def zyO(u v:List Int)(h:¬zaO u v<0):u=v\/zaO v u<0:=by
 induction u generalizing v with
 |nil=>
  cases v with
  |nil=>exact .inl rfl
  |cons b v=>exact absurd (by simp[zaO]) h
 |cons a u ih=>
  cases v with
  |nil=>exact .inr (by simp[zaO])
  |cons b v=>
   by_cases h0:zbq a b=0
   .have hab:=(zfi a b).1 h0;subst hab;simp only[zaO,h0,ne_eq,not_true_eq_false,Z63]at h;rcases ih v h with rfl|h1
    .exact .inl rfl
    .right;simpa [zaO,h0]using h1
   .simp only[zaO,ne_eq,h0,not_false_eq_true,Z60,zr1]at h;right;have hba:b<a:=by
     have:¬a=b:=fun e=>h0 ((zfi a b).2 e)
     omega
    have h1:zbq b a≠0:=fun e=>by have:=(zfi b a).1 e;omega
    simp only[zaO,ne_eq,h1,not_false_eq_true,Z60,zr1];exact hba
def zom(v:List Int):¬zaO v v<0:=by rw[(zis v v).2 rfl];omega
theorem swoE:Go.Sort.SWO ltE where
 irrefl x:=by simp only[ltE,Z65];exact zom _
 trans x y z h1 h2:=by
  simp only[ltE,Z86]at*;exact zk5 _ _ _ h1 h2
 ntrans x y z h1 h2:=by
  simp only[ltE,Z65]at*;intro h;rcases zyO _ _ h1 with e|e
  .rw[e]at h;exact h2 h
  .exact h2 (zk5 _ _ _ e h)
def insE(l:List Er)(hl:l.length<=12):(Go.Sort.insertionSort ltE l.toArray 0 l.length).toList.Perm l/\(Go.Sort.insertionSort ltE l.toArray 0 l.length).toList.Pairwise fun x y=>¬zaO y.2 x.2<0:=by
 have h:=Go.Sort.pdq_sorts ltE swoE l.toArray 0 l.length 1 true true (Z61 _) (by simp) (Or.inl rfl);have e:Go.Sort.pdq ltE l.toArray 0 l.length 1 true true=Go.Sort.insertionSort ltE l.toArray 0 l.length:=by
  rw[Go.Sort.pdq,Z51 (by omega)]
 rw[e]at h;generalize Go.Sort.insertionSort ltE l.toArray 0 l.length=D at h;obtain⟨⟨h1,h2,h3⟩,h4⟩ :=h;have hs:D.size=l.length:=by simpa using h1
 have e1:(D.extract 0 l.length).toList=D.toList:=by
  rw[Array.toList_extract];simp only[List.extract,<-hs,Z34,Nat.sub_zero];exact Z11 (by simp)
 have e2:(l.toArray.extract 0 l.length).toList=l:=by simp[List.extract]
 rw[e1,e2]at h3;refine⟨h3,Z126.2 fun i j hi hj hij=> ?_⟩;have hi':i<D.size:=by simpa using hi
 have hj':j<D.size:=by simpa using hj
 have:=h4 i j (Z61 _) hij (by omega);rw[getElem!_pos D j hj',getElem!_pos D i hi']at this;simpa [ltE]using this
def zmS(l:List (List Int)):Prop:=l.Pairwise fun a b=>zaO a b<0
def zUn{l:List Er}(h:l.Pairwise fun x y=>¬zaO y.2 x.2<0)(hn:(l.map (·.2)).Nodup):zmS (l.map (·.2)):=by
  unfold zmS;rw[List.pairwise_map];have h2:l.Pairwise fun x y=>x.2≠y.2:=by
    have:=hn;unfold List.Nodup at this
    rwa[List.pairwise_map]at this
  refine (h.and h2).imp ?_;rintro x y ⟨h3,h4⟩;rcases zyO _ _ h3 with e|e
  . exact absurd e.symm h4
  . exact e
theorem zBB:∀{a b:List (List Int)},zmS a->zmS b->(∀v,v∈a↔v∈b)->a=b
 |[],[],_,_,_=>rfl
 |[],y::b,_,_,h=>by have:=(h y).2 (by simp);simp at this
 |x::a,[],_,_,h=>by have:=(h x).1 (by simp);simp at this
 |x::a,y::b,ha,hb,h=>by
  obtain⟨ha1,ha2⟩ :=Z56.1 ha;obtain⟨hb1,hb2⟩ :=Z56.1 hb;have exy:x=y:=by
   have h1:=(h x).1 (by simp);have h2:=(h y).2 (by simp);rcases Z5.1 h1 with e|m1
   .exact e
   .rcases Z5.1 h2 with e|m2
    .exact e.symm
    .exact absurd (zk5 _ _ _ (ha1 y m2) (hb1 x m1)) (zom x)
  subst exy
  congr 1
  refine zBB ha2 hb2 fun v=>⟨fun hv=> ?_,fun hv=> ?_⟩
  .rcases Z5.1 ((h v).1 (by simp[hv]))with rfl|h1
   .exact absurd (ha1 v hv) (zom v)
   .exact h1
  .rcases Z5.1 ((h v).2 (by simp[hv]))with rfl|h1
   .exact absurd (hb1 v hv) (zom v)
   .exact h1
def FrO(h:T Ob)(c:Nat)(_:D)(h':T Ob)(_:Nat):Prop:=∀j,j<c->h'.get j=h.get j
def z0l{h:T Ob}{c:Nat}:Eff pr 29 [.f .nils,.f (.fn 30)] h c (FrO h c):=by
 have hi:∀(h:T Ob) (c:Nat),Eff pr 126 [.f .nils,.f (.i .i64 0),.f (.i .i64 0),.f (.fn 30)] h c (FrO h c):=fun h c=>by
  refine zb2 kps zPp (fun d h' c' _ _ _=>fun _ _=>rfl) ?_;simp only[zkq,rU];have hw1:IntKind.i64.wrap 1=1:=rfl;simp[rW,st0,zay];refine round ?_;simp[rW,hw1,znd];exact fun _ _=>rfl
 have hp:∀(h:T Ob) (c lm:Nat),Eff pr 61 [.f .nils,.f (.i .i64 0),.f (.i .i64 0),.f (.i .i64 lm),.f (.fn 30)] h c (FrO h c):=fun h c lm=>by
  refine zb2 kps fn61 (fun d h' c' _ _ _=>fun _ _=>rfl) ?_;simp only[g61,rU];have hw1:IntKind.i64.wrap 0=0:=rfl;simp[rW,st0,zay];refine round ?_;simp[rW,hw1];refine zbQ [] (hi h c) (by simp only[rG]) (by simp only[rG]) trivial rfl ?_;rintro s1 d1 hf hc1 - -;refine⟨?_⟩;simp[rW,zaU];exact hf
 refine zb2 kps fn29 (fun d h' c' _ _ _=>fun _ _=>rfl) ?_;have hu:IntKind.u64.wrap 0=0:=rfl;simp only[g29,rU];simp[rW,st0,zay,hu];refine zbQ [(7,.f .nils),(8,.f (.i .i64 0)),(1,.f (.fn 30))] (zjs (ro62 (x:=0) (by omega))) (by simp only[rG];rfl) (by simp only[rG];rfl) (by simp only[Rg];simp[rW]) rfl ?_;rintro s1 d1 ⟨rfl,hh,hcc⟩ hc1 k11 ⟨k7,k8,k1,-⟩;refine⟨?_⟩;simp[rW,k1,k7,k8,k11];refine zbQ [] (hp s1.h s1.c _) (by simp only[rG]) (by simp only[rG]) trivial rfl ?_;rintro s2 d2 hf hc2 - -;refine⟨?_⟩;simp[rW,znd];exact fun j hj=>(hf j (by omega)).trans (by rw[hh])
def fn235:pr.fn 235=some zDE:=by kernel_rfl
def zS0(t:Opn):t.c.length=4:=by cases t<;>rfl
def z0e{h:T Ob}{c:Nat}{X:Mx}{σ:Asg}(H:MtS h c X σ){t:Opn}{z:Int}(hz:zaF σ t=some z):Eff pr 235 [.ptr X.M 7 0 0,.ag (t.c.map D.f)] h c (Same (.ag [.f (.i .i64 1),.f (.i .i64 z),.f (.s [])]) h c):=by
 refine zyt zgr fn235 ?_;have hm:=H.m;have ho:=H.o;obtain⟨vs,v1,v2,v3,v4⟩ :=H.v;simp only[zDE,rU];cases t with
 |cst y=>
  cases hz;have n1:¬c=c+1:=by omega
  simp[rW,st0,zay,Opn.c,zqW,n1];refine⟨⟨rfl,fun id hid=> ?_⟩,fun _=>Same.rfl' _ _ _ _⟩;have a1:¬id=c:=by omega
  have a2:¬id=c+1:=by omega
  simp[rW,a1,a2]
 |var i=>
  have hs:σ[i]? =some (some z):=by
   simp only[zaF]at hz;cases hh:σ[i]? with
   |none=>rw[hh]at hz;cases hz
   |some o=>rw[hh]at hz;exact congrArg some hz
  have hv:=v4 i z hs;have hi:¬((i:Int)<0):=by omega
  have n1:¬c=c+1:=by omega
  have n2:¬X.M=c:=by omega
  have n3:¬X.M=c+1:=by omega
  have n4:¬X.V=c:=by omega
  have n5:¬X.V=c+1:=by omega
  have hl:i<X.ns.length:=by
   have:=(Z8.1 hs).1;rw[<-H.n];exact this
  simp[rW,st0,zay,Opn.c,hi];refine zbf ?_;simp[rW,st0,zay,hm,v1,hv,n1,n2,n3,n4,n5,hl,Sm.vF,zqW];refine⟨⟨rfl,fun id hid=> ?_⟩,fun _=>Same.rfl' _ _ _ _⟩;have a1:¬id=c:=by omega
  have a2:¬id=c+1:=by omega
  simp[rW,a1,a2]
def zDe{h:T Ob}{c:Nat}{X:Mx}{σ:Asg}{t:Opn}{z:Int}{cells:List D}(hz:zaF σ t=some z)(hc:t.c.map D.f=cells)(H:MtS h c X σ):Eff pr 235 [.ptr X.M 7 0 0,.ag cells] h c (Same (.ag [.f (.i .i64 1),.f (.i .i64 z),.f (.s [])]) h c):=hc▸z0e H hz
def fn186:pr.fn 186=some zix:=by kernel_rfl
def fn234:pr.fn 234=some zDD:=by kernel_rfl
def zZi(op c:Int):Ans pr 234 [.i .i64 op,.i .i64 c] (.b (if op=1 then decide (c=0)else if op=2 then decide (c≠0)else if op=3 then decide (c<0)else if op=4 then decide (c<=0)else false)):=by
 refine zdr fn234 ?_;simp only[zDD,rU]
 by_cases e1:op=1
 .subst e1;simp[rW,st0,zay];rfl
 .by_cases e2:op=2
  .subst e2;simp[rW,st0,zay];rfl
  .by_cases e3:op=3
   .subst e3;simp[rW,st0,zay]
   .by_cases e4:op=4
    .subst e4;simp[rW,st0,zay]
    .simp[rW,st0,zay,e1,e2,e3,e4]
theorem zd6:∀σ:Asg,zaQ σ<2 ^ σ.length
 |[]=>by simp[zaQ]
 |o::σ=>by
  have:=zd6 σ;simp only[zaQ,Z23,Z195];split<;>omega
theorem zd8:∀(σ:Asg) (i:Nat),(zaQ σ).testBit i=(zaF σ (.var i)).isSome
 |[],i=>by simp[zaQ,zaF]
 |o::σ,0=>by
  simp only[zaQ,zaF,List.getElem?_cons_zero,Option.join];cases o<;>simp[Z200]
 |o::σ,i+1=>by
  have h:=zd8 σ i;simp only[zaF,List.getElem?_cons_succ]at h|-;rw[<-h,zaQ,Z161]
  congr 1
  split<;>omega
def zea(n:Nat):Opn->Prop
 | .var i=>i<n
 | .cst _=>True
def zfZ(t:Opn)(j:Nat):t.m.testBit j=true↔t= .var j:=by
 cases t with
 |cst z=>simp[Opn.m]
 |var i=>
  simp only[Opn.m,Opn.var.injEq];rw[Nat.testBit_two_pow];simp
def zk8{n:Nat}{t:Opn}(h:zea n t)(hn:n<=6):t.m<64:=by
 cases t with
 |cst z=>simp[Opn.m]
 |var i=>
  have h:i<n:=h;have:2 ^ i<=2 ^ 5:=Z113 (by decide) (by omega);simp only[Opn.m];omega
def zD8{a b:Nat}(ha:a<64)(hb:b<64):a|||b<64:=Nat.or_lt_two_pow (n:=6) ha hb
def zjF(n:Nat)(k:Cnd):Prop:=zea n k.l/\zea n k.r
def zqM{n:Nat}{k:Cnd}(h:zjF n k)(hn:n<=6):k.m<64:=zD8 (zk8 h.1 hn) (zk8 h.2 hn)
def zot{σ:Asg}{t:Opn}:(∀i,t.m.testBit i=true->(zaQ σ).testBit i=true)↔(zaF σ t).isSome=true:=by
 constructor
 .intro h;cases t with
  |cst z=>rfl
  |var i=>
   have:=h i ((zfZ _ _).2 rfl)
   rwa[zd8]at this
 .intro h i hi;have:=(zfZ _ _).1 hi;subst this;rw[zd8];exact h
def zAy{σ:Asg}{k:Cnd}(h:zjF σ.length k)(hn:σ.length<=6):zcX k.m (zaQ σ)=0↔(zaF σ k.l).isSome=true/\(zaF σ k.r).isSome=true:=by
 have hm:zaQ σ<64:=Z15 (zd6 σ) (Z113 (by decide) hn);rw[zAs (zqM h hn) hm,<-zot,<-zot];unfold Cnd.m;constructor
 .intro H;exact⟨fun i hi=>H i (by rw[Nat.testBit_or,hi,Bool.true_or]),fun i hi=>H i (by rw[Nat.testBit_or,hi,Bool.or_true])⟩
 .intro H i hi;rw[Nat.testBit_or,Z115]at hi;exact hi.elim (H.1 i) (H.2 i)
def zhk(σ:Asg)(k:Cnd):Bool:=match zaF σ k.l,zaF σ k.r with
 |some a,some b=>zr2 k.op a b
 |_,_=>true
def zSb(op a b:Int)(h:op=1\/op=2\/op=3\/op=4):(if op=1 then decide (zbq a b=0)else if op=2 then decide (zbq a b≠0)else if op=3 then decide (zbq a b<0)else if op=4 then decide (zbq a b<=0)else false)=zr2 op a b:=by
 unfold zbq;rcases h with rfl|rfl|rfl|rfl<;>simp[zr2]<;>by_cases h1:a=b<;>by_cases h2:a<b<;>simp[h1,h2]<;>omega
end Go.Proofs.YthcehnaehljnfaaGreatDoor
end
