/- value.CompareTuples on rows of the heap. -/
import Derived.Test.YtbhholaillniiaaGreatDoorPo
import Derived.Test.YtbhholaillniiaaGreatDoorPk
import Derived.KernelRfl
import Derived.IntWalk
import Derived.Sort.AssemblyPlain
import Derived.Sort.Row
import Derived.Laws.Bits64
import Derived.Laws.Bits64b
import Derived.Sort.LotD5
set_option linter.all false
set_option maxRecDepth 100000
set_option maxHeartbeats 4000000
noncomputable section
section
namespace Go.Proofs.YtbhholaillniiaaGreatDoor
open Go Go.Vse Go.Vse.Sm
def zgb(h:T Ob)(c:Nat)(d:D)(v:List Int):Prop:=∃id ro ex,d= .sl id 0 v.length 3 v.length ex/\h.get id=some (.arr 3 ro (vRw v))/\id<c
def zyy{v:List Int}{n:Nat}{a:Int}(h:v[n]? =some a):(vRw v)[n]? =some [D.f (.i .i64 1),D.f (.i .i64 a),D.f (.s [])]:=by simp[vRw,h,Sm.vF]
def K71(h:T Ob)(d e:D)(u v:List Int)(c n:Nat)(s:St):Prop:=(s.tm.get 0=some (d)/\s.tm.get 1=some (e)/\s.tm.get 2=some (.f (.fn 72))/\s.tm.get 11=some (d)/\s.tm.get 12=some (.f (.i .i64 u.length))/\s.tm.get 13=some (.f (.i .i64 n)))/\c<=s.c/\n<=v.length/\(∀i,i<n->u[i]? =v[i]?)/\∀id,id<c->s.h.get id=h.get id
def L71(h:T Ob)(d e:D)(u v:List Int)(c:Nat)(x:Ex)(s:St):Prop:=(x= .exit 0/\K71 h d e u v c u.length s)\/(x= .ret/\s.tm.get 6=some (.f (.i .i64 (zaM u v)))/\∀id,id<c->s.h.get id=h.get id)
def zNp{d e:D}(u v:List Int)(hu:u.length<1000)(hv:v.length<1000){h:T Ob}{c:Nat}(hd:zgb h c d u)(he:zgb h c e v):Eff pr 71 [d,e,.f (.fn 72)] h c (Same (.f (.i .i64 (zaM u v))) h c):=by
 refine zcm kps fn71 (fun d h' c' ⟨a,_⟩ _ _=>⟨a,fun _ _=>rfl⟩) ?_;obtain⟨ia,ra,xa,rfl,ga,la⟩ :=hd;obtain⟨ib,rb,xb,rfl,gb,lb⟩ :=he;simp only[g71,rU];simp[rW,st0,zal];refine zcJ (fun k s=>∃n:Nat,n<=u.length/\k=u.length - n/\K71 h (.sl ia 0 u.length 3 u.length xa) (.sl ib 0 v.length 3 v.length xb) u v c n s) (L71 h (.sl ia 0 u.length 3 u.length xa) (.sl ib 0 v.length 3 v.length xb) u v c) ?_ u.length _ ⟨0,Z61 _,rfl,⟨?_,?_,?_,?_,?_,?_⟩,?_,?_,?_,?_⟩ ?_
 .rintro k s ⟨n,hn,rfl,⟨h0,h1,h2,h11,h12,h13⟩,hc,hnv,hI,hf⟩;have hw:=zau n (by omega);have ga':=(hf ia la).trans ga;have gb':=(hf ib lb).trans gb;have ul:=zrt u;have vl:=zrt v;have na:¬ia=s.c:=by omega
  have nb:¬ib=s.c:=by omega
  by_cases hlt:n<u.length
  .have hx:u[n]? =some u[n]:=Z0 hlt;generalize hA:u[n]=a at hx;have hrx:=zyy hx;have hrxA:=(Z8.1 hrx).2
   by_cases hlv:n<v.length
   .have hy:v[n]? =some v[n]:=Z0 hlv;generalize hB:v[n]=b at hy;have hry:=zyy hy;have hryA:=(Z8.1 hry).2;have hge:¬((v.length:Int)<=(n:Int)):=by omega
    have n1:¬s.c=s.c+1:=by omega
    have nb1:¬ib=s.c+1:=by omega
    have na1:¬ia=s.c+1:=by omega
    simp[rW,h0,h1,h2,h11,h12,h13,hlt,ga',gb',ul,vl,hrxA,hryA,hge,n1,na,nb,nb1,na1,hlv];refine zbO [(0,.sl ia 0 u.length 3 u.length xa),(1,.sl ib 0 v.length 3 v.length xb),(2,.f (.fn 72)),(11,.sl ia 0 u.length 3 u.length xa),(12,.f (.i .i64 u.length)),(13,.f (.i .i64 n))] (zjl (ro72 a b _ _)) (by simp only[rG];rfl) (by simp only[rG];rfl) (by simp only[Rg];simp[rW,h0,h1,h2,h11,h12,h13]) rfl ?_;rintro s1 d1 ⟨rfl,hh,hcc⟩ hc1 kd ⟨k0,k1,k2,k11,k12,k13,-⟩;have hf2:∀id,id<c->s1.h.get id=h.get id:=fun id hid=>by
     rw[hh,TG,Z49 (by omega),TG,Z49 (by omega),TG,Z49 (by omega),TG,Z49 (by omega)];exact hf id hid
    refine⟨?_⟩
    by_cases hz:zaT a b=0
    .have hab:a=b:=(zfv _ _).1 hz;rw[hz]at kd;simp[rW,k0,k1,k2,k11,k12,k13,kd,hw];refine⟨u.length - (n+1),by omega,n+1,by omega,rfl,⟨by simp[rW,k0],by simp[rW,k1],by simp[rW,k2],by simp[rW,k11],by simp[rW,k12],by simp[rW,hw]⟩,by simp only[rG];omega,by omega,fun i hi=> ?_,fun id hid=>by simp[rW];exact hf2 id hid⟩
     by_cases e:i=n
     .subst e;rw[hx,hy,hab]
     .exact hI i (by omega)
    .have hl3:zaM u v=zaT a b:=by
      rw[zeL u v n hn hnv hI,Z55 hlt,Z55 hlv,hA,hB];simp[zaM,hz]
     simp[rW,k0,k1,k2,k11,k12,k13,kd,hz];exact .inr ⟨rfl,by simp[rW,hl3],fun id hid=>by simp[rW];exact hf2 id hid⟩
   .have hge:(v.length:Int)<=(n:Int):=by omega
    have hl3:zaM u v=1:=by
     rw[zeL u v n hn hnv hI,Z55 hlt,show List.drop n v=[]from Z24 (by omega)];rfl
    have n1:¬s.c=s.c+1:=by omega
    simp[rW,h0,h1,h2,h11,h12,h13,hlt,ga',ul,hrxA,hge,n1,na];refine .inr ⟨rfl,by simp[rW,hl3],fun id hid=> ?_⟩;have a1:¬id=s.c:=by omega
    simp[rW,a1];exact hf id hid
  .have hen:n=u.length:=by omega
   subst hen;simp[rW,h0,h1,h2,h11,h12,h13];exact .inl ⟨rfl,⟨by simp[rW,h0],by simp[rW,h1],by simp[rW,h2],by simp[rW,h11],by simp[rW,h12],by simp[rW,h13]⟩,by simp only[rG];omega,hnv,hI,hf⟩
 .simp[rW]
 .simp[rW]
 .simp[rW]
 .simp[rW]
 .simp[rW]
 .simp[rW]
 .simp[rW]
 .simp
 .intro i hi;omega
 .intro id hid;simp[rW]
 .rintro e s (⟨rfl,⟨h0,h1,h2,h11,h12,h13⟩,hc,hnv,hI,hf⟩ |⟨rfl,h6,hf⟩)
  .by_cases hl:u.length<v.length
   .have hl3:zaM u v= -1:=by
     rw[zeL u v u.length (Z2 _) hnv hI,Z206,Z55 hl];rfl
    simp[rW,h0,h1,h2,hl,zaV];exact⟨by rw[hl3],hf⟩
   .have he:v.length=u.length:=by omega
    have hl3:zaM u v=0:=by
     rw[zeL u v u.length (Z2 _) hnv hI,Z206,<-he,Z206];rfl
    simp[rW,h0,h1,h2,hl,zaV];exact⟨by rw[hl3],hf⟩
  .simp[rW,h6,zaV];exact⟨rfl,hf⟩
def zNm{d e:D}(u v:List Int)(hu:u.length<1000)(hv:v.length<1000){h:T Ob}{c:Nat}(hd:zgb h c d u)(he:zgb h c e v):Eff pr 37 [d,e] h c (Same (.f (.i .i64 (zaM u v))) h c):=by
 refine zcm kps fn37 (fun d h' c' ⟨a,_⟩ _ _=>⟨a,fun _ _=>rfl⟩) ?_;simp only[g37,rU];simp[rW,st0,zal];refine zbO [] (zNp u v hu hv hd he) (by simp only[rG]) (by simp only[rG]) trivial rfl ?_;rintro s1 d1 ⟨rfl,hf⟩ hc1 k7 -;refine⟨?_⟩;simp[rW,k7,zaV];exact⟨rfl,hf⟩
def zHI:pr.fn 121=some zkj:=by kernel_rfl
def fn69:pr.fn 69=some g69:=by kernel_rfl
def fn36:pr.fn 36=some g36:=by kernel_rfl
def fn70:pr.fn 70=some g70:=by kernel_rfl
def fn130:pr.fn 130=some zzV:=by kernel_rfl
def zFd(z:Int)(h1: -9000000000000000000<=z)(h2:z<=9000000000000000000):IntKind.i64.wrap z=z:=IntWalk.i64_in _ (by omega)
abbrev Er:=D×List Int
def ltE(x y:Er):Bool:=decide (zaM x.2 y.2<0)
instance :Inhabited Er:=⟨(.f .un,[])⟩
def rE(l:List Er):List (List D):=l.map fun p=>[p.1]
def zPa(l:List Er):(rE l).length=l.length:=by simp[rE]
def zva(l:List Er)(i:Nat)(v:Er):(rE l).set i [v.1]=rE (l.set i v):=by simp[rE,Z116]
def zu9(d:Array Er){i:Nat}(hi:i<d.size):(rE d.toList)[i]? =some [d[i]!.1]:=by
 simp[rE,hi]
def zPb(d:Array Er)(i j:Nat):((rE d.toList).set i [d[j]!.1]).set j [d[i]!.1]=rE (Go.Sort.swp d i j).toList:=by
 rw[zva,zva];simp[Go.Sort.swp,Array.toList_setIfInBounds]
def zAJ(d:Array Er)(i:Nat){j:Nat}(hj:j<d.size):((rE d.toList).set i [d[j]!.1])[j]? =some [d[j]!.1]:=by
 by_cases h:i=j
 .subst h;rw[Z140 (by rw[zPa];simpa using hj)]
 .rw[Z125 h];exact zu9 d hj
structure SRw(h:T Ob)(c id n:Nat)(d:Array Er)(h':T Ob)(c':Nat):Prop where
 row:h'.get id=some (.arr 1 0 (rE d.toList))
 sz:d.size=n
 el:∀p∈d.toList,zgb h c p.1 p.2/\p.2.length<1000
 fr:∀j,j<c->j≠id->h'.get j=h.get j
 le:c<=c'
def SRw.cc{h:T Ob}{c id n:Nat}{d:Array Er}{h' h'':T Ob}{c' c'':Nat}(H:SRw h c id n d h' c')(hid:id<c)(hh:∀j,j<c'->h''.get j=h'.get j)(hc:c'<=c''):SRw h c id n d h'' c'':=
 ⟨by rw[hh id (by have:=H.le;omega)];exact H.row,H.sz,H.el,fun q hq hne=>(hh q (by have:=H.le;omega)).trans (H.fr q hq hne),Z3 H.le hc⟩
def SRw.hrow{h:T Ob}{c id n:Nat}{d d0:Array Er}{h':T Ob}{c':Nat}(H:SRw h c id n d h' c')(h0:h.get id=some (.arr 1 0 (rE d0.toList))){i:Nat}(hi:i<n):zgb h' c' d[i]!.1 d[i]!.2/\d[i]!.2.length<1000:=by
 have hs:=H.sz;have hm:d[i]! ∈d.toList:=by
  rw[getElem!_pos d i (by omega)];exact Array.getElem_mem_toList (by omega)
 obtain⟨⟨a,ro,ex,e,g,l⟩,h2⟩ :=H.el _ hm;have hne:a≠id:=fun e2=>by rw[e2,h0]at g;simp at g
 exact⟨⟨a,ro,ex,e,by rw[H.fr a l hne];exact g,by have:=H.le;omega⟩,h2⟩
def zL9(d:Array Er)(i j:Nat)(hi:i<d.size)(hj:j<d.size)(p:Er)(hp:p∈(Go.Sort.swp d i j).toList):p∈d.toList:=by
 simp only[Go.Sort.swp,Array.toList_setIfInBounds]at hp;rcases Z156 hp with h1|rfl
 .rcases Z156 h1 with h2|rfl
  .exact h2
  .rw[getElem!_pos d j hj];exact Array.getElem_mem_toList hj
 .rw[getElem!_pos d i hi];exact Array.getElem_mem_toList hi
def I2r(h:T Ob)(c id n a b i:Nat)(ex:Bool)(D1:Array Er)(k:Nat)(s:St):Prop:=∃(d:Array Er),(s.tm.get 0=some (.sl id 0 n 1 n ex)/\s.tm.get 1=some (.f (.i .i64 a))/\s.tm.get 2=some (.f (.i .i64 b))/\s.tm.get 3=some (.f (.fn 37))/\s.tm.get 8=some (.f (.i .i64 i))/\s.tm.get 9=some (.f (.i .i64 k)))/\SRw h c id n d s.h s.c/\Go.Sort.insInner ltE a k d=D1/\k<n
def I1r(h:T Ob)(c id n a b:Nat)(ex:Bool)(D0:Array Er)(m:Nat)(s:St):Prop:=∃(d:Array Er) (i:Nat),i=a+1+m/\(s.tm.get 0=some (.sl id 0 n 1 n ex)/\s.tm.get 1=some (.f (.i .i64 a))/\s.tm.get 2=some (.f (.i .i64 b))/\s.tm.get 3=some (.f (.fn 37))/\s.tm.get 8=some (.f (.i .i64 (i:Int))))/\SRw h c id n d s.h s.c/\Go.Sort.insOuter ltE a b i d=D0
def zkK:C:=zkj.body.r.b.o
def ztw:C:=zkK.r.l.b.r.b.o
def R2r(h:T Ob)(c id n a b i:Nat)(ex:Bool)(D1:Array Er)(x:Ex)(s:St):Prop:=x= .exit 2/\(s.tm.get 0=some (.sl id 0 n 1 n ex)/\s.tm.get 1=some (.f (.i .i64 a))/\s.tm.get 2=some (.f (.i .i64 b))/\s.tm.get 3=some (.f (.fn 37))/\s.tm.get 8=some (.f (.i .i64 i)))/\SRw h c id n D1 s.h s.c
def zOL{h:T Ob}{c id n a b i:Nat}{ex:Bool}{d0 D1:Array Er}(g0:h.get id=some (.arr 1 0 (rE d0.toList)))(hid:id<c)(hsz:n<100000){k:Nat}{s:St}{K:Ex->St->Prop}(hJ:I2r h c id n a b i ex D1 k s)(hK:∀e s,R2r h c id n a b i ex D1 e s->K e s):WL pr ztw s K:=by
 refine zcJ (I2r h c id n a b i ex D1) (R2r h c id n a b i ex D1) ?_ k _ hJ hK;clear hJ;clear k;rintro k s ⟨d',⟨h0,h1,h2,h3,h8,h9⟩,HS,hI,hk⟩
 by_cases hka:a<k
 .obtain⟨j,hkj⟩ :∃j,k=j+1:=⟨k - 1,by omega⟩
  have hins:Go.Sort.insInner ltE a k d'=if zaM d'[k]!.2 d'[j]!.2<0 then Go.Sort.insInner ltE a j (Go.Sort.swp d' k j)else d':=by
   subst hkj;show(if(decide (j+1>a)&&ltE d'[j+1]! d'[j]!)=true then _ else _)=_;rw[decide_eq_true (by omega)];simp[ltE]
  have hsub:IntKind.i64.wrap ((k:Int) - 1)=(j:Int):=by
   rw[zFd _ (by omega) (by omega)];omega
  have hj:j<n:=by omega
  have e1:=zu9 d' (i:=k) (by rw[HS.sz];exact hk);have e0:=zu9 d' (i:=j) (by rw[HS.sz];exact hj);have e0':=zAJ d' k (j:=j) (by rw[HS.sz];exact hj);obtain⟨rk,lk⟩ :=HS.hrow g0 hk;obtain⟨rj,lj⟩ :=HS.hrow g0 hj;have gR:=HS.row;have hsw:=zPb d' k j;have szsw:(Go.Sort.swp d' k j).size=n:=by simp[Go.Sort.swp,HS.sz]
  have hmem:=zL9 d' k j (by rw[HS.sz];exact hk) (by rw[HS.sz];exact hj);have hkc:d'[k]!.1.cells=some [d'[k]!.1]:=by obtain⟨_,_,_,e,_⟩ :=rk;rw[e];rfl
  have hjc:d'[j]!.1.cells=some [d'[j]!.1]:=by obtain⟨_,_,_,e,_⟩ :=rj;rw[e];rfl
  have hk8:∀l:List (List D),hd8 ([d'[k]!.1]::l)=false:=by obtain⟨_,_,_,e,_⟩ :=rk;rw[e];intro l;rfl
  have hj8:∀l:List (List D),hd8 ([d'[j]!.1]::l)=false:=by obtain⟨_,_,_,e,_⟩ :=rj;rw[e];intro l;rfl
  have hall8:∀l:List Er,(∀p∈l,zgb h c p.1 p.2/\p.2.length<1000)->hd8 (rE l)=false:=fun l hl=>by
   cases l with
   |nil=>rfl
   |cons p l=>obtain⟨⟨_,_,_,e,_⟩,_⟩ :=hl p (by simp);simp only[rE,Z10,e];rfl
  have h8a:=hall8 _ HS.el;have h8b:=hall8 _ (fun p hp=>HS.el p (hmem p hp));have h8c:hd8 ((rE d'.toList).set k [d'[j]!.1])=false:=by
   rw[zva];refine hall8 _ fun p hp=> ?_
   rcases Z156 hp with h1|rfl
   .exact HS.el p h1
   .refine HS.el _ ?_;rw[getElem!_pos d' j (by rw[HS.sz];exact hj)];exact Array.getElem_mem_toList _
  have hup:∀{d:D} {v:List Int},zgb s.h s.c d v->zgb s.h (s.c+1+1+1+1+1+1+1+1+1+1+1+1+1+1) d v:=fun⟨a,ro,ex,e,g,l⟩ =>⟨a,ro,ex,e,g,by omega⟩
  generalize d'[k]! =pk at*;generalize d'[j]! =pj at*;unfold ztw zkK zkj;simp only[rU,C.l,C.r,C.b,C.o];simp[rW,h0,h1,h2,h3,h8,h9,hka];refine zfS ?_;simp[rW,h0,h1,h2,h3,h8,h9,hka,gR,hk,hj,hsub,e1,e0];refine zlQ [(0,.sl id 0 n 1 n ex),(1,.f (.i .i64 a)),(2,.f (.i .i64 b)),(3,.f (.fn 37)),(8,.f (.i .i64 i)),(9,.f (.i .i64 k)),(21,.f (.b true))] (zNm (h:=s.h) (c:=s.c+1+1+1+1+1+1+1+1+1+1+1+1+1+1) pk.2 pj.2 lk lj (hup rk) (hup rj)) (by simp only[rG]) (by simp only[rG]) (by simp only[Rg];simp[rW,h0,h1,h2,h3,h8,h9]) rfl ?_;rintro s1 d1 c' ⟨rfl,hf1⟩ hc1 hc2 k32 ⟨k0,k1,k2,k3,k8,k9,k21,-⟩;have HS1:SRw h c id n d' s1.h s1.c:=HS.cc hid (fun j hj=>hf1 j (by omega)) (by omega);have gR1:=HS1.row;refine⟨by simp[rW],⟨?_⟩⟩
  by_cases hlt:zaM pk.2 pj.2<0
  .rw[Z51 hlt]at hins;simp[rW,k0,k1,k2,k3,k8,k9,k21,k32,hlt];refine zay ?_;simp[rW,k0,k1,k2,k3,k8,k9,gR1,hk,hj,hsub,e1,e0,e0',hkc,hjc,h8a,h8b,h8c,hsw];have hle:=HS1.le;refine⟨by omega,by omega,j,by omega,Go.Sort.swp d' k j,⟨by simp[rW,k0],by simp[rW,k1],by simp[rW,k2],by simp[rW,k3],by simp[rW,k8],by simp[rW,hsub]⟩,⟨by simp[rW],szsw,fun p hp=>HS.el p (hmem p hp),fun q hq hne=> ?_,by simp only[rG];omega⟩,hins.symm.trans hI,hj⟩;simp[rW,hne];exact HS1.fr q hq hne
  .rw[Z49 hlt]at hins;rw[hins]at hI;subst hI;simp[rW,k0,k1,k2,k3,k8,k9,k21,k32,hlt];exact⟨rfl,⟨by simp[rW,k0],by simp[rW,k1],by simp[rW,k2],by simp[rW,k3],by simp[rW,k8]⟩,HS1.cc hid (fun _ _=>by simp only[rG]) (by simp only[rG];omega)⟩
 .have hins:Go.Sort.insInner ltE a k d'=d':=by
   cases k with
   |zero=>rfl
   |succ j=>
    show(if(decide (j+1>a)&&ltE d'[j+1]! d'[j]!)=true then _ else _)=_;rw[decide_eq_false (by omega)];rfl
  rw[hins]at hI;subst hI;unfold ztw zkK zkj;simp only[rU,C.l,C.r,C.b,C.o];simp[rW,h0,h1,h2,h3,h8,h9,hka];refine zfS ?_;simp[rW,h0,h1,h2,h3,h8,h9,hka];exact⟨rfl,⟨by simp[rW,h0],by simp[rW,h1],by simp[rW,h2],by simp[rW,h3],by simp[rW,h8]⟩,HS.cc hid (fun _ _=>by simp only[rG]) (by simp only[rG];omega)⟩
def zOJ{h:T Ob}{c id n a b:Nat}{ex:Bool}{d0 D0:Array Er}(g0:h.get id=some (.arr 1 0 (rE d0.toList)))(hid:id<c)(hsz:n<100000)(hb:b<=n){s:St}{K:Ex->St->Prop}(hJ:I1r h c id n a b ex D0 0 s)(hK:∀s,I1r h c id n a b ex D0 (b - (a+1)) s->K (.exit 0) s):WL pr zkK s K:=by
 refine zcA (b - (a+1)) (I1r h c id n a b ex D0) (fun x s=>x= .exit 0/\I1r h c id n a b ex D0 (b - (a+1)) s) ?_ ?_ _ hJ ?_
 .rintro m s hm ⟨d,i,hi,⟨h0,h1,h2,h3,h8⟩,HS,hD⟩;have hib:i<b:=by omega
  have hwi:=zau i (by omega);rw[Go.Sort.insOuter,Z51 hib]at hD;unfold zkK zkj;simp only[rU,C.l,C.r,C.b,C.o];simp[rW,h0,h1,h2,h3,h8,hib];refine zOL (h:=h) (c:=c) (id:=id) (n:=n) (a:=a) (b:=b) (i:=i) (ex:=ex) (D1:=Go.Sort.insInner ltE a i d) g0 hid hsz (k:=i) ⟨d,⟨by simp[rW,h0],by simp[rW,h1],by simp[rW,h2],by simp[rW,h3],by simp[rW,h8],by simp[rW]⟩,HS.cc hid (fun _ _=>by simp only[rG]) (by simp only[rG];omega),rfl,by omega⟩ ?_;rintro e s1 ⟨rfl,⟨k0,k1,k2,k3,k8⟩,HS1⟩;simp[rW,k0,k1,k2,k3,k8,hwi];exact⟨_,i+1,by omega,⟨by simp[rW,k0],by simp[rW,k1],by simp[rW,k2],by simp[rW,k3],by simp[rW,hwi]⟩,HS1.cc hid (fun _ _=>by simp only[rG]) (by simp only[rG];omega),hD⟩
 .rintro s ⟨d,i,hi,⟨h0,h1,h2,h3,h8⟩,HS,hD⟩;have hib:¬i<b:=by omega
  unfold zkK zkj;simp only[rU,C.l,C.r,C.b,C.o];simp[rW,h0,h1,h2,h3,h8,hib];exact⟨d,i,hi,⟨by simp[rW,h0],by simp[rW,h1],by simp[rW,h2],by simp[rW,h3],by simp[rW,h8]⟩,HS.cc hid (fun _ _=>by simp only[rG]) (by simp only[rG];omega),hD⟩
 .rintro e s ⟨rfl,hJ⟩;exact hK s hJ
def SoP(h:T Ob)(c id n:Nat)(d:Array Er)(_:D)(h':T Ob)(c':Nat):Prop:=SRw h c id n d h' c'
def SoP.clo{h:T Ob}{c id n:Nat}{d:Array Er}(hid:id<c)(x:D)(h':T Ob)(c':Nat)(H:SoP h c id n d x h' c')(_:x.isF=true)(hf:∀j,j<c->h'.get j=h.get j):SoP h c id n d x h c:=
 ⟨by rw[<-hf id hid];exact H.row,H.sz,H.el,fun _ _ _=>rfl,Z2 _⟩
def zM6{h:T Ob}{c id n:Nat}{ex:Bool}{d:Array Er}(g0:h.get id=some (.arr 1 0 (rE d.toList)))(hn:d.size=n)(hel:∀p∈d.toList,zgb h c p.1 p.2/\p.2.length<1000)(hid:id<c)(hsz:n<100000):Eff pr 121 [.sl id 0 n 1 n ex,.f (.i .i64 0),.f (.i .i64 n),.f (.fn 37)] h c (SoP h c id n (Go.Sort.insertionSort ltE d 0 n)):=by
 refine zcm kps zHI (SoP.clo hid) ?_;have hw1:IntKind.i64.wrap (0+1)=1:=rfl;simp only[zkj,rU];simp[rW,st0,zal];refine zOJ (h:=h) (c:=c) (id:=id) (n:=n) (a:=0) (b:=n) (ex:=ex) (D0:=Go.Sort.insertionSort ltE d 0 n) g0 hid hsz (Z2 n) ⟨d,1,rfl,⟨by simp[rW],by simp[rW]<;>rfl,by simp[rW],by simp[rW],by simp[rW]<;>rfl⟩,⟨by simp only[rG]<;>exact g0,hn,hel,fun _ _ _=>by simp only[rG],by simp only[rG]<;>exact Z2 _⟩,rfl⟩ ?_;rintro s ⟨d1,i,hi,⟨h0,h1,h2,h3,h8⟩,HS,hD⟩;rw[Go.Sort.insOuter,Z49 (by omega)]at hD;subst hD;simp[rW,zmi];exact HS
def zEv(a b:Int):Go.Vse.zaH .geq (.i .u64 a) (.i .u64 b)=some (.b (decide (b<=a))):=rfl
def zOY:∀x:Fin 64,(([0,1,2,2,3,3,3,3,4,4,4,4,4,4,4,4,5,5,5,5,5,5,5,5,5,5,5,5,5,5,5,5,6,6,6,6,6,6,6,6,6,6,6,6,6,6,6,6,6,6,6,6,6,6,6,6,6,6,6,6,6,6,6,6,7,7,7,7,7,7,7,7,7,7,7,7,7,7,7,7,7,7,7,7,7,7,7,7,7,7,7,7,7,7,7,7,7,7,7,7,7,7,7,7,7,7,7,7,7,7,7,7,7,7,7,7,7,7,7,7,7,7,7,7,7,7,7,7,8,8,8,8,8,8,8,8,8,8,8,8,8,8,8,8,8,8,8,8,8,8,8,8,8,8,8,8,8,8,8,8,8,8,8,8,8,8,8,8,8,8,8,8,8,8,8,8,8,8,8,8,8,8,8,8,8,8,8,8,8,8,8,8,8,8,8,8,8,8,8,8,8,8,8,8,8,8,8,8,8,8,8,8,8,8,8,8,8,8,8,8,8,8,8,8,8,8,8,8,8,8,8,8,8,8,8,8,8,8,8,8,8,8,8,8,8,8,8,8,8,8,8,8,8,8,8,8]:List UInt8)[x.val]?)=some (UInt8.ofNat (Go.Sort.bitsLen x.val)):=by decide+kernel
def zFf:∀x:Fin 64,Go.Sort.bitsLen x.val<=6:=by decide+kernel
def o_ixs{pr:Pr}{s:St}{Q:St->Prop}{dst:Option Nat}{l:List Go.Vse.Op}{x i:A}:wpO pr (⟨dst,none,.ixs x i⟩ ::l) s Q↔oB (((O.ixs x i).res (zae s.tm)).bind (opv s.h.get s.c)) fun r=>zaq r.c r.wr=true/\wpO pr l (s.aft dst r.d r.wr r.c) Q:=zdD rfl
def v_ixs{h:Nat->Option Ob}{c:Nat}{l:List UInt8}{i:Nat}{b:UInt8}(hb:l[i]? =some b):opv h c (.ixs (.f (.s l)) (.f (.i .u8 (i:Int))))=some {d:= .f (.i .u8 (b.toNat:Int)),c:=c}:=by
 simp[opv,zbh,hb,okF]
def ro130{h:T Ob}{c x:Nat}(hx:x<64):RO pr 130 [.f (.i .u64 x)] h c (.f (.i .i64 (Go.Sort.bitsLen x))):=by
 refine zia zfC fn130 rfl ?_;simp only[zzV,rU];have t:=zOY ⟨x,hx⟩;have t2:=zFf ⟨x,hx⟩;simp only at t t2;obtain⟨b,hb,hbt⟩ :∃b:UInt8,b=UInt8.ofNat (Go.Sort.bitsLen x)/\b.toNat=Go.Sort.bitsLen x:=⟨_,rfl,by rw[UInt8.toNat_ofNat'];omega⟩
 rw[<-hb]at t;rw[<-hbt];have hwb:IntKind.i64.wrap (b.toNat:Int)=(b.toNat:Int):=zFd _ (by omega) (by omega);have t3:=fun(h:Nat->Option Ob) (c:Nat)=>v_ixs (h:=h) (c:=c) t
 have h32:¬((4294967296:Int)<=x):=by omega
 have h16:¬((65536:Int)<=x):=by omega
 have hy8:¬((256:Int)<=x):=by omega
 have hu8:IntKind.u8.wrap (x:Int)=x:=by simp[IntKind.wrap,IntKind.bits,IntKind.signed];omega
 simp[rW,st0,zal,h32,h16,hy8,o_ixs,hu8,zEv,O.res,Z47,t3,zBc,hwb,ze8,zmF]
def ro70{h:T Ob}{c x:Nat}(hx:x<64):RO pr 70 [.f (.i .u64 x)] h c (.f (.i .i64 (Go.Sort.bitsLen x))):=by
 refine zia zfC fn70 rfl ?_;simp only[g70,rU];simp[rW,st0,zal];refine ziO (ro130 hx) ?_ ?_
 .simp only[rG];omega
 intro mx;simp[rW,ze8]
def eff69{h:T Ob}{c id n lm:Nat}{ex:Bool}{d:Array Er}(g0:h.get id=some (.arr 1 0 (rE d.toList)))(hn:d.size=n)(hel:∀p∈d.toList,zgb h c p.1 p.2/\p.2.length<1000)(hid:id<c)(h12:n<=12):Eff pr 69 [.sl id 0 n 1 n ex,.f (.i .i64 0),.f (.i .i64 n),.f (.i .i64 lm),.f (.fn 37)] h c (SoP h c id n (Go.Sort.insertionSort ltE d 0 n)):=by
 refine zcm kps fn69 (SoP.clo hid) ?_;have hw:IntKind.i64.wrap (n:Int)=n:=zFd _ (by omega) (by omega);have h12':(n:Int)<=12:=by omega
 simp only[g69,rU];simp[rW,st0,zal];refine round ?_;simp[rW,hw,h12'];refine zbO [] (zM6 (ex:=ex) g0 hn hel hid (by omega)) (by simp only[rG]) (by simp only[rG]) trivial rfl ?_;rintro s1 d1 HS hc1 - -;refine⟨?_⟩;simp[rW,zaV];exact HS
def eff36{h:T Ob}{c id n:Nat}{ex:Bool}{d:Array Er}(g0:h.get id=some (.arr 1 0 (rE d.toList)))(hn:d.size=n)(hel:∀p∈d.toList,zgb h c p.1 p.2/\p.2.length<1000)(hid:id<c)(h12:n<=12):Eff pr 36 [.sl id 0 n 1 n ex,.f (.fn 37)] h c (SoP h c id n (Go.Sort.insertionSort ltE d 0 n)):=by
 refine zcm kps fn36 (SoP.clo hid) ?_;have hu:IntKind.u64.wrap (n:Int)=(n:Int):=by rw[IntKind.wrap_u64];omega
 simp only[g36,rU];simp[rW,st0,zal,hu];refine zbO [(7,.sl id 0 n 1 n ex),(8,.f (.i .i64 n)),(1,.f (.fn 37))] (zjl (ro70 (x:=n) (by omega))) (by simp only[rG];rfl) (by simp only[rG];rfl) (by simp only[Rg];simp[rW]) rfl ?_;rintro s1 d1 ⟨rfl,hh,hcc⟩ hc1 k11 ⟨k7,k8,k1,-⟩;refine⟨?_⟩;simp[rW,k1,k7,k8,k11];refine zbO [] (eff69 (ex:=ex) g0 hn hel hid h12) (by simp only[rG];exact hh) (by simp only[rG];exact hcc) trivial rfl ?_;rintro s2 d2 HS hc2 - -;refine⟨?_⟩;simp[rW,zmi];exact HS
def zuM(u v:List Int)(h:¬zaM u v<0):u=v\/zaM v u<0:=by
 induction u generalizing v with
 |nil=>
  cases v with
  |nil=>exact .inl rfl
  |cons b v=>exact absurd (by simp[zaM]) h
 |cons a u ih=>
  cases v with
  |nil=>exact .inr (by simp[zaM])
  |cons b v=>
   by_cases h0:zaT a b=0
   .have hab:=(zfv a b).1 h0;subst hab;simp only[zaM,h0,ne_eq,not_true_eq_false,Z63]at h;rcases ih v h with rfl|h1
    .exact .inl rfl
    .right;simpa [zaM,h0]using h1
   .simp only[zaM,ne_eq,h0,not_false_eq_true,Z60,zqL]at h;right;have hba:b<a:=by
     have:¬a=b:=fun e=>h0 ((zfv a b).2 e)
     omega
    have h1:zaT b a≠0:=fun e=>by have:=(zfv b a).1 e;omega
    simp only[zaM,ne_eq,h1,not_false_eq_true,Z60,zqL];exact hba
def znr(v:List Int):¬zaM v v<0:=by rw[(zij v v).2 rfl];omega
theorem swoE:Go.Sort.SWO ltE where
 irrefl x:=by simp only[ltE,Z65];exact znr _
 trans x y z h1 h2:=by
  simp only[ltE,Z86]at*;exact ziV _ _ _ h1 h2
 ntrans x y z h1 h2:=by
  simp only[ltE,Z65]at*;intro h;rcases zuM _ _ h1 with e|e
  .rw[e]at h;exact h2 h
  .exact h2 (ziV _ _ _ e h)
def insE(l:List Er)(hl:l.length<=12):(Go.Sort.insertionSort ltE l.toArray 0 l.length).toList.Perm l/\(Go.Sort.insertionSort ltE l.toArray 0 l.length).toList.Pairwise fun x y=>¬zaM y.2 x.2<0:=by
 have h:=Go.Sort.pdq_sorts ltE swoE l.toArray 0 l.length 1 true true (Z61 _) (by simp) (Or.inl rfl);have e:Go.Sort.pdq ltE l.toArray 0 l.length 1 true true=Go.Sort.insertionSort ltE l.toArray 0 l.length:=by
  rw[Go.Sort.pdq,Z51 (by omega)]
 rw[e]at h;generalize Go.Sort.insertionSort ltE l.toArray 0 l.length=D at h;obtain⟨⟨h1,h2,h3⟩,h4⟩ :=h;have hs:D.size=l.length:=by simpa using h1
 have e1:(D.extract 0 l.length).toList=D.toList:=by
  rw[Array.toList_extract];simp only[List.extract,<-hs,Z34,Nat.sub_zero];exact Z11 (by simp)
 have e2:(l.toArray.extract 0 l.length).toList=l:=by simp[List.extract]
 rw[e1,e2]at h3;refine⟨h3,Z126.2 fun i j hi hj hij=> ?_⟩;have hi':i<D.size:=by simpa using hi
 have hj':j<D.size:=by simpa using hj
 have:=h4 i j (Z61 _) hij (by omega);rw[getElem!_pos D j hj',getElem!_pos D i hi']at this;simpa [ltE]using this
def zlZ(l:List (List Int)):Prop:=l.Pairwise fun a b=>zaM a b<0
def zL2{l:List Er}(h:l.Pairwise fun x y=>¬zaM y.2 x.2<0)(hn:(l.map (·.2)).Nodup):zlZ (l.map (·.2)):=by
  unfold zlZ;rw[List.pairwise_map];have h2:l.Pairwise fun x y=>x.2≠y.2:=by
    have:=hn;unfold List.Nodup at this
    rwa[List.pairwise_map]at this
  refine (h.and h2).imp ?_;rintro x y ⟨h3,h4⟩;rcases zuM _ _ h3 with e|e
  . exact absurd e.symm h4
  . exact e
theorem zyk:∀{a b:List (List Int)},zlZ a->zlZ b->(∀v,v∈a↔v∈b)->a=b
 |[],[],_,_,_=>rfl
 |[],y::b,_,_,h=>by have:=(h y).2 (by simp);simp at this
 |x::a,[],_,_,h=>by have:=(h x).1 (by simp);simp at this
 |x::a,y::b,ha,hb,h=>by
  obtain⟨ha1,ha2⟩ :=Z56.1 ha;obtain⟨hb1,hb2⟩ :=Z56.1 hb;have exy:x=y:=by
   have h1:=(h x).1 (by simp);have h2:=(h y).2 (by simp);rcases Z5.1 h1 with e|m1
   .exact e
   .rcases Z5.1 h2 with e|m2
    .exact e.symm
    .exact absurd (ziV _ _ _ (ha1 y m2) (hb1 x m1)) (znr x)
  subst exy
  congr 1
  refine zyk ha2 hb2 fun v=>⟨fun hv=> ?_,fun hv=> ?_⟩
  .rcases Z5.1 ((h v).1 (by simp[hv]))with rfl|h1
   .exact absurd (ha1 v hv) (znr v)
   .exact h1
  .rcases Z5.1 ((h v).2 (by simp[hv]))with rfl|h1
   .exact absurd (hb1 v hv) (znr v)
   .exact h1
def FrO(h:T Ob)(c:Nat)(_:D)(h':T Ob)(_:Nat):Prop:=∀j,j<c->h'.get j=h.get j
def zNq{h:T Ob}{c:Nat}:Eff pr 36 [.f .nils,.f (.fn 37)] h c (FrO h c):=by
 have hi:∀(h:T Ob) (c:Nat),Eff pr 121 [.f .nils,.f (.i .i64 0),.f (.i .i64 0),.f (.fn 37)] h c (FrO h c):=fun h c=>by
  refine zcm kps zHI (fun d h' c' _ _ _=>fun _ _=>rfl) ?_;simp only[zkj,rU];have hw1:IntKind.i64.wrap 1=1:=rfl;simp[rW,st0,zal];refine round ?_;simp[rW,hw1,zmi];exact fun _ _=>rfl
 have hp:∀(h:T Ob) (c lm:Nat),Eff pr 69 [.f .nils,.f (.i .i64 0),.f (.i .i64 0),.f (.i .i64 lm),.f (.fn 37)] h c (FrO h c):=fun h c lm=>by
  refine zcm kps fn69 (fun d h' c' _ _ _=>fun _ _=>rfl) ?_;simp only[g69,rU];have hw1:IntKind.i64.wrap 0=0:=rfl;simp[rW,st0,zal];refine round ?_;simp[rW,hw1];refine zbO [] (hi h c) (by simp only[rG]) (by simp only[rG]) trivial rfl ?_;rintro s1 d1 hf hc1 - -;refine⟨?_⟩;simp[rW,zaV];exact hf
 refine zcm kps fn36 (fun d h' c' _ _ _=>fun _ _=>rfl) ?_;have hu:IntKind.u64.wrap 0=0:=rfl;simp only[g36,rU];simp[rW,st0,zal,hu];refine zbO [(7,.f .nils),(8,.f (.i .i64 0)),(1,.f (.fn 37))] (zjl (ro70 (x:=0) (by omega))) (by simp only[rG];rfl) (by simp only[rG];rfl) (by simp only[Rg];simp[rW]) rfl ?_;rintro s1 d1 ⟨rfl,hh,hcc⟩ hc1 k11 ⟨k7,k8,k1,-⟩;refine⟨?_⟩;simp[rW,k1,k7,k8,k11];refine zbO [] (hp s1.h s1.c _) (by simp only[rG]) (by simp only[rG]) trivial rfl ?_;rintro s2 d2 hf hc2 - -;refine⟨?_⟩;simp[rW,zmi];exact fun j hj=>(hf j (by omega)).trans (by rw[hh])
def fn231:pr.fn 231=some zAh:=by kernel_rfl
def zKC(t:Opn):t.c.length=4:=by cases t<;>rfl
def zNi{h:T Ob}{c:Nat}{X:Mx}{σ:Asg}(H:MtS h c X σ){t:Opn}{z:Int}(hz:zaF σ t=some z):Eff pr 231 [.ptr X.M 7 0 0,.ag (t.c.map D.f)] h c (Same (.ag [.f (.i .i64 1),.f (.i .i64 z),.f (.s [])]) h c):=by
 refine zph zfC fn231 ?_;have hm:=H.m;have ho:=H.o;obtain⟨vs,v1,v2,v3,v4⟩ :=H.v;simp only[zAh,rU];cases t with
 |cst y=>
  cases hz;have n1:¬c=c+1:=by omega
  simp[rW,st0,zal,Opn.c,zkO,n1];refine⟨⟨rfl,fun id hid=> ?_⟩,fun _=>Same.rfl' _ _ _ _⟩;have a1:¬id=c:=by omega
  have a2:¬id=c+1:=by omega
  simp[rW,a1,a2]
 |var i=>
  have hs:σ[i]? =some (some z):=by
   simp only[zaF]at hz;cases hh:σ[i]? with
   |none=>rw[hh]at hz;cases hz
   |some o=>rw[hh]at hz;exact congrArg some hz
  have hv:=v4 i z hs;have hi:¬((i:Int)<0):=by omega
  have n1:¬c=c+1:=by omega
  have n2:¬X.M=c:=by omega
  have n3:¬X.M=c+1:=by omega
  have n4:¬X.V=c:=by omega
  have n5:¬X.V=c+1:=by omega
  have hl:i<X.ns.length:=by
   have:=(Z8.1 hs).1;rw[<-H.n];exact this
  simp[rW,st0,zal,Opn.c,hi];refine zay ?_;simp[rW,st0,zal,hm,v1,hv,n1,n2,n3,n4,n5,hl,Sm.vF,zkO];refine⟨⟨rfl,fun id hid=> ?_⟩,fun _=>Same.rfl' _ _ _ _⟩;have a1:¬id=c:=by omega
  have a2:¬id=c+1:=by omega
  simp[rW,a1,a2]
def zzD{h:T Ob}{c:Nat}{X:Mx}{σ:Asg}{t:Opn}{z:Int}{cells:List D}(hz:zaF σ t=some z)(hc:t.c.map D.f=cells)(H:MtS h c X σ):Eff pr 231 [.ptr X.M 7 0 0,.ag cells] h c (Same (.ag [.f (.i .i64 1),.f (.i .i64 z),.f (.s [])]) h c):=hc▸zNi H hz
def fn186:pr.fn 186=some zis:=by kernel_rfl
def fn230:pr.fn 230=some zAd:=by kernel_rfl
def zMA(op c:Int):Ans pr 230 [.i .i64 op,.i .i64 c] (.b (if op=1 then decide (c=0)else if op=2 then decide (c≠0)else if op=3 then decide (c<0)else if op=4 then decide (c<=0)else false)):=by
 refine zcx fn230 ?_;simp only[zAd,rU]
 by_cases e1:op=1
 .subst e1;simp[rW,st0,zal];rfl
 .by_cases e2:op=2
  .subst e2;simp[rW,st0,zal];rfl
  .by_cases e3:op=3
   .subst e3;simp[rW,st0,zal]
   .by_cases e4:op=4
    .subst e4;simp[rW,st0,zal]
    .simp[rW,st0,zal,e1,e2,e3,e4]
theorem zem:∀σ:Asg,zaO σ<2 ^ σ.length
 |[]=>by simp[zaO]
 |o::σ=>by
  have:=zem σ;simp only[zaO,Z23,Z195];split<;>omega
theorem zes:∀(σ:Asg) (i:Nat),(zaO σ).testBit i=(zaF σ (.var i)).isSome
 |[],i=>by simp[zaO,zaF]
 |o::σ,0=>by
  simp only[zaO,zaF,List.getElem?_cons_zero,Option.join];cases o<;>simp[Z200]
 |o::σ,i+1=>by
  have h:=zes σ i;simp only[zaF,List.getElem?_cons_succ]at h|-;rw[<-h,zaO,Z161]
  congr 1
  split<;>omega
def zet(n:Nat):Opn->Prop
 | .var i=>i<n
 | .cst _=>True
def zf5(t:Opn)(j:Nat):t.m.testBit j=true↔t= .var j:=by
 cases t with
 |cst z=>simp[Opn.m]
 |var i=>
  simp only[Opn.m,Opn.var.injEq];rw[Nat.testBit_two_pow];simp
def zk0{n:Nat}{t:Opn}(h:zet n t)(hn:n<=6):t.m<64:=by
 cases t with
 |cst z=>simp[Opn.m]
 |var i=>
  have h:i<n:=h;have:2 ^ i<=2 ^ 5:=Z113 (by decide) (by omega);simp only[Opn.m];omega
def zAF{a b:Nat}(ha:a<64)(hb:b<64):a|||b<64:=Nat.or_lt_two_pow (n:=6) ha hb
def zjw(n:Nat)(k:Cnd):Prop:=zet n k.l/\zet n k.r
def zo6{n:Nat}{k:Cnd}(h:zjw n k)(hn:n<=6):k.m<64:=zAF (zk0 h.1 hn) (zk0 h.2 hn)
def znw{σ:Asg}{t:Opn}:(∀i,t.m.testBit i=true->(zaO σ).testBit i=true)↔(zaF σ t).isSome=true:=by
 constructor
 .intro h;cases t with
  |cst z=>rfl
  |var i=>
   have:=h i ((zf5 _ _).2 rfl)
   rwa[zes]at this
 .intro h i hi;have:=(zf5 _ _).1 hi;subst this;rw[zes];exact h
def zwZ{σ:Asg}{k:Cnd}(h:zjw σ.length k)(hn:σ.length<=6):zdf k.m (zaO σ)=0↔(zaF σ k.l).isSome=true/\(zaF σ k.r).isSome=true:=by
 have hm:zaO σ<64:=Z15 (zem σ) (Z113 (by decide) hn);rw[zwx (zo6 h hn) hm,<-znw,<-znw];unfold Cnd.m;constructor
 .intro H;exact⟨fun i hi=>H i (by rw[Nat.testBit_or,hi,Bool.true_or]),fun i hi=>H i (by rw[Nat.testBit_or,hi,Bool.or_true])⟩
 .intro H i hi;rw[Nat.testBit_or,Z115]at hi;exact hi.elim (H.1 i) (H.2 i)
def zhh(σ:Asg)(k:Cnd):Bool:=match zaF σ k.l,zaF σ k.r with
 |some a,some b=>zqM k.op a b
 |_,_=>true
def zJU(op a b:Int)(h:op=1\/op=2\/op=3\/op=4):(if op=1 then decide (zaT a b=0)else if op=2 then decide (zaT a b≠0)else if op=3 then decide (zaT a b<0)else if op=4 then decide (zaT a b<=0)else false)=zqM op a b:=by
 unfold zaT;rcases h with rfl|rfl|rfl|rfl<;>simp[zqM]<;>by_cases h1:a=b<;>by_cases h2:a<b<;>simp[h1,h2]<;>omega
def zkq(t:Opn):∃a b c d,t.c=[a,b,c,d]:=by cases t<;>exact⟨_,_,_,_,rfl⟩
def zej{h:T Ob}{lo c es:Nat}{d:D}{els:List (List D)}(hg:Gro h lo c es d els){n:Nat}(hn:n<els.length):∃id ro,d= .sl id 0 els.length es els.length false/\h.get id=some (.arr es ro els)/\lo<=id/\id<c:=by
 rcases hg with⟨-,rfl⟩ |⟨id,ro,h1,-,h3,-,h5,h6⟩
 .simp at hn
 .exact⟨id,ro,h1,h3,h5,h6⟩
def zyA{ops:List (Go.Vse.Op×Nat)}(n:Nat){L:List Go.Vse.En}{s:St}{Q:St->Prop}(h:∀T,T=ops.drop n->wpG pr L (ops.take n++T) s Q):wpG pr L ops s Q:=by
 have:=h _ rfl
 rwa[Z94]at this
def zqm{α:Type}{p:α->Bool}{l:List α}{n:Nat}{x:α}(hx:l[n]? =some x)(h:∀k∈l.take n,p k=true)(hp:p x=true):∀k∈l.take (n+1),p k=true:=by
 intro k hk;rw[Z105,hx]at hk;rcases Z4.1 hk with h1|h1
 .exact h k h1
 .simp at h1;rw[h1];exact hp
def all_false{α:Type}{p:α->Bool}{l:List α}{x:α}(hx:x∈l)(hp:p x=false):l.all p=false:=by
 rw[Z143];exact⟨x,hx,by simp[hp]⟩
def zyI(X:Mx)(σ:Asg)(h:T Ob)(c n:Nat)(s:St):Prop:=(s.tm.get 0=some (.ptr X.M 7 0 0)/\s.tm.get 13=some (X.dC)/\s.tm.get 14=some (.f (.i .i64 X.cs.length))/\s.tm.get 15=some (.f (.i .i64 n)))/\c<=s.c/\(∀id,id<c->s.h.get id=h.get id)/\(∀k∈X.cs.take n,zhh σ k=true)
def R186(X:Mx)(σ:Asg)(h:T Ob)(c:Nat)(e:Ex)(s:St):Prop:=(e= .exit 0/\zyI X σ h c X.cs.length s)\/(e= .ret/\s.tm.get 2=some (.f (.b false))/\c<=s.c/\(∀id,id<c->s.h.get id=h.get id)/\X.cs.all (zhh σ)=false)
def zBE:C:=zis.body.r.l.r.b.o
theorem zMO{h:T Ob}{c:Nat}{X:Mx}{σ:Asg}(H:MtS h c X σ)(hk:∀k∈X.cs,zjw σ.length k/\(k.op=1\/k.op=2\/k.op=3\/k.op=4))(hl:X.cs.length<1000){s:St}{K:Ex->St->Prop}
  (hJ:zyI X σ h c 0 s)(kx:∀s,zyI X σ h c X.cs.length s->K (.exit 0) s)(kr:∀s,s.tm.get 2=some (.f (.b false))->(∀id,id<c->s.h.get id=h.get id)->X.cs.all (zhh σ)=false->K .ret s):WL pr zBE s K:=by
 have hm:=H.m;have ho:=H.o;have gC:=H.C;have lC:=zdL gC;have hcl:(cnD X.cs).length=X.cs.length:=by simp[cnD]
 rw[hcl]at lC;have hb:zaO σ<64:=Z15 (zem σ) (Z113 (by decide) H.n6);refine zcJ (fun k s=>∃n:Nat,n<=X.cs.length/\k=X.cs.length - n/\zyI X σ h c n s) (R186 X σ h c) ?_ X.cs.length _ ⟨0,Z61 _,rfl,hJ⟩ ?_
 .rintro k s ⟨n,hn,rfl,⟨h0,h13,h14,h15⟩,hc,hf,hI⟩;have hw:=zau n (by omega);unfold zBE zis;simp only[rU,C.l,C.r,C.b,C.o]
  by_cases hlt:n<X.cs.length
  .have hx:X.cs[n]? =some X.cs[n]:=Z0 hlt;have hK:=hk _ (Z1 hlt);generalize hA:X.cs[n]=q at hx hK;obtain⟨op,l,r⟩ :=q;obtain⟨l0,l1,l2,l3,el⟩ :=zkq l;obtain⟨r0,r1,r2,r3,er⟩ :=zkq r;obtain⟨id,ro,e1,e2,e3,e4⟩ :=zej gC (n:=n) (by omega);have hrow:(cnD X.cs)[n]? =some [D.f (.i .i64 op),D.f l0,D.f l1,D.f l2,D.f l3,D.f r0,D.f r1,D.f r2,D.f r3,D.f (.i .u64 ((Cnd.mk op l r).m:Nat))]:=by simp[cnD,hx,el,er]
   have e2':s.h.get id=some (.arr 10 ro (cnD X.cs)):=(hf id e4).trans e2;have hm':s.h.get X.M=_:=(hf X.M (by omega)).trans hm;rw[hcl]at e1;have i1:¬id=s.c:=by omega
   have i2:¬X.M=s.c:=by omega
   have hm64:=zo6 hK.1 H.n6;have ban:=zka hm64 hb;have hsame:∀id,id<c->id≠s.c->(s.h.set s.c (.arr 10 0 [[D.f (.i .i64 op),D.f l0,D.f l1,D.f l2,D.f l3,D.f r0,D.f r1,D.f r2,D.f r3,D.f (.i .u64 ((Cnd.mk op l r).m:Nat))]])).get id=h.get id:=fun id h1 h2=>by
    rw[TG,Z49 h2];exact hf id h1
   simp[rW,h0,h13,h14,h15,hlt,e1,e2',hrow,i1,i2]
   by_cases hz:zdf (Cnd.mk op l r).m (zaO σ)=0
   .rw[hz]at ban;obtain⟨v1,v2⟩ :=(zwZ hK.1 H.n6).1 hz;obtain⟨a,ha⟩ :=Z158.1 v1;obtain⟨b,hb'⟩ :=Z158.1 v2;refine zfS (zyA 9 fun T hT=> ?_);simp only[List.take,List.drop,Z29,Z28]at hT|-;simp[rW,h0,h13,h14,h15,hm',i1,i2,ban,u_eq];subst hT;simp[rW,h0,h13,h14,h15,hm',i1,i2];refine wg_e (by simp only[rG];rfl) (by simp only[rG];rfl) (zzD ha (by rw[el];rfl) (H.up (fun id hid=> ?_) ?_)) ?_
    .have a:¬id=s.c:=by omega
     simp[rW,a];exact hf id hid
    .omega
    rintro d1 h1' c1 lw1 mx1 ⟨rfl,hs1⟩ hc1 hm1;have g4:h1'.get s.c=some (.arr 10 0 [[D.f (.i .i64 op),D.f l0,D.f l1,D.f l2,D.f l3,D.f r0,D.f r1,D.f r2,D.f r3,D.f (.i .u64 ((Cnd.mk op l r).m:Nat))]]):=by
     rw[hs1 _ (by omega)];simp[rW]
    have f1:∀x,x<c->h1'.get x=h.get x:=fun x hx=>by
     rw[hs1 _ (by omega)];have a:¬x=s.c:=by omega
     simp[rW,a];exact hf x hx
    simp[rW,h0,h13,h14,h15,g4,O.res,Z47];refine wg_e (by simp only[rG];rfl) (by simp only[rG];rfl) (zzD hb' (by rw[er];rfl) (H.up (fun id hid=> ?_) ?_)) ?_
    .exact f1 id hid
    .omega
    rintro d2 h2' c2 lw2 mx2 ⟨rfl,hs2⟩ hc2 hm2;have g5:h2'.get s.c=some (.arr 10 0 [[D.f (.i .i64 op),D.f l0,D.f l1,D.f l2,D.f l3,D.f r0,D.f r1,D.f r2,D.f r3,D.f (.i .u64 ((Cnd.mk op l r).m:Nat))]]):=by
     rw[hs2 _ (by omega)];exact g4
    have f2:∀x,x<c->h2'.get x=h.get x:=fun x hx=>by
     rw[hs2 _ (by omega)];exact f1 x hx
    have q1:=fun k=>zad (k:=k) (zGN a b)
    have q2:=fun k=>zad (k:=k) (zMA op (zaT a b))
    rw[zJU op a b hK.2]at q2;simp only[Sm.vF]at q1;simp[rW,h0,h13,h14,h15,g4,g5,O.res,Z47,q1,q2];have hcb:zhh σ ⟨op,l,r⟩ =zqM op a b:=by simp[zhh,ha,hb']
    by_cases hv:zqM op a b=true
    .rw[Z51 hv];rw[hv]at hcb;refine⟨X.cs.length - (n+1),by omega,n+1,by omega,rfl,⟨?_,?_,?_,?_⟩,?_,?_,?_⟩
     .simp[rW,h0]
     .simp[rW,h13]
     .simp[rW,h14]
     .simp[rW,hw]
     .simp[rW];omega
     .intro id hid;simp[rW];exact f2 id hid
     .exact zqm hx hI hcb
    .rw[Z49 hv];refine .inr ⟨rfl,?_,?_,?_,all_false (Z39 hx) (by rw[hcb];simpa using hv)⟩
     .simp[rW]
     .simp[rW];omega
     .intro id hid;simp[rW];exact f2 id hid
   .have hz2:(((zdf (Cnd.mk op l r).m (zaO σ):Nat):Int)==0)=false:=by simpa using hz
    have hcb:zhh σ ⟨op,l,r⟩ =true:=by
     unfold zhh;split
     .rename_i a b e1 e2;exact absurd ((zwZ hK.1 H.n6).2 ⟨by rw[e1];rfl,by rw[e2];rfl⟩) hz
     .rfl
    refine zfS (zyA 9 fun T hT=> ?_);simp only[List.take,List.drop,Z29,Z28]at hT|-;simp[rW,h0,h13,h14,h15,hm',i1,i2,ban,u_eq,hz2];subst hT;simp[rW,h0,h13,h14,h15,hm',i1,i2];refine⟨X.cs.length - (n+1),by omega,n+1,by omega,rfl,⟨?_,?_,?_,?_⟩,?_,?_,?_⟩
    .simp[rW,h0]
    .simp[rW,h13]
    .simp[rW,h14]
    .simp[rW,hw]
    .simp[rW];omega
    .intro id hid;have a:¬id=s.c:=by omega
     simp[rW,a];exact hf id hid
    .exact zqm hx hI hcb
  .have hen:n=X.cs.length:=by omega
   subst hen;simp[rW,h0,h13,h14,h15];exact .inl ⟨rfl,⟨by simp[rW,h0],by simp[rW,h13],by simp[rW,h14],by simp[rW,h15]⟩,by simp[rW,hc],fun id hid=>by simp[rW];exact hf id hid,hI⟩
 .rintro e s (⟨rfl,hJ⟩ |⟨rfl,h2,hc,hf,hI⟩)
  .exact kx s hJ
  .exact kr s h2 hf hI
def zc3(σ:Asg):List Opn->Option (List Int)
 |[]=>some []
 |t::l=>match zaF σ t,zc3 σ l with
  |some z,some v=>some (z::v)
  |_,_=>none
theorem zsh{σ:Asg}:∀{ts:List Opn},(∀t∈ts,(zaF σ t).isSome=true)->∃v,zc3 σ ts=some v
 |[],_=>⟨[],rfl⟩
 |t::l,h=>by
  obtain⟨v,hv⟩ :=zsh (σ:=σ) (ts:=l) fun x hx=>h x (by simp[hx])
  obtain⟨z,hz⟩ :=Z158.1 (h t (by simp));exact⟨z::v,by simp[zc3,hv,hz]⟩
theorem zlM{σ:Asg}:∀{ts:List Opn} {v:List Int},zc3 σ ts=some v->∀t∈ts,(zaF σ t).isSome=true
 |[],_,_=>by simp
 |t::l,v,h=>by
  simp only[zc3]at h;split at h
  .rename_i z w hz hw;intro x hx;rcases Z5.1 hx with rfl|hx
   .rw[hz];rfl
   .exact zlM hw x hx
  .cases h
theorem zoE{σ:Asg}:∀{ts:List Opn} {v:List Int},zc3 σ ts=some v->v.length=ts.length/\∀(i:Nat) (t:Opn),ts[i]? =some t->∃z,v[i]? =some z/\zaF σ t=some z
 |[],v,h=>by cases h;exact⟨rfl,by simp⟩
 |t::l,v,h=>by
  simp only[zc3]at h;split at h
  .rename_i z w hz hw;cases h;obtain⟨a1,a2⟩ :=zoE hw;refine⟨by simp[a1],fun i x hx=> ?_⟩;cases i with
   |zero=>cases hx;exact⟨z,rfl,hz⟩
   |succ i=>exact a2 i x hx
  .cases h
theorem zu6(i:Nat):∀(ts:List Opn) (b:Nat),(ts.foldl (fun b t=>b|||t.m) b).testBit i=(b.testBit i||ts.any fun t=>t.m.testBit i)
 |[],b=>by simp
 |t::l,b=>by
  rw[Z42,zu6 i l,Nat.testBit_or,List.any_cons,Bool.or_assoc]
def zhK(p:Pat)(i:Nat):p.m.testBit i=p.ts.any fun t=>t.m.testBit i:=by
 unfold Pat.m;rw[zu6];simp
theorem zq9{n:Nat}(hn:n<=6):∀(ts:List Opn) (b:Nat),b<64->(∀t∈ts,zet n t)->ts.foldl (fun b t=>b|||t.m) b<64
 |[],b,hb,_=>hb
 |t::l,b,hb,h=>zq9 hn l _ (zAF hb (zk0 (h t (by simp)) hn)) fun x hx=>h x (by simp[hx])
def zi9{n:Nat}(hn:n<=6){p:Pat}(h:∀t∈p.ts,zet n t):p.m<64:=zq9 hn _ _ (by decide) h
def zxT{σ:Asg}{p:Pat}(h:∀t∈p.ts,zet σ.length t)(hn:σ.length<=6):zdf p.m (zaO σ)=0↔∀t∈p.ts,(zaF σ t).isSome=true:=by
 have hm:zaO σ<64:=Z15 (zem σ) (Z113 (by decide) hn);rw[zwx (zi9 hn h) hm];constructor
 .intro H t ht;refine (znw (σ:=σ) (t:=t)).1 fun i hi=>H i ?_
  rw[zhK];exact Z30.2 ⟨t,ht,hi⟩
 .intro H i hi;rw[zhK]at hi;obtain⟨t,ht,h2⟩ :=Z30.1 hi;exact (znw (σ:=σ) (t:=t)).2 (H t ht) i h2
def hasB(L:List Rl)(i:Nat)(v:List Int):Bool:=match L[i]? with
 |some r=>r.tu.any fun t=>t.1==v
 |none=>false
def zhs(L:List Rl)(σ:Asg)(p:Pat):Bool:=match zc3 σ p.ts with
 |some v=>!hasB L p.r v
 |none=>true
structure zyR(L:List Rl)(n:Nat)(p:Pat):Prop where
 r:p.r<L.length
 e:p.ts≠[]
 l:p.ts.length<1000
 o:∀t∈p.ts,zet n t
 a:∀r,L[p.r]? =some r->∀t∈r.tu,t.1.length=p.ts.length
structure MxO(X:Mx)(L:List Rl):Prop where
 c:∀k∈X.cs,zjw X.ns.length k/\(k.op=1\/k.op=2\/k.op=3\/k.op=4)
 cl:X.cs.length<1000
 N:∀q∈X.WN,zyR L X.ns.length q.1
 P:∀q∈X.WP,zyR L X.ns.length q.1
 Nl:X.WN.length<1000
 Pl:X.WP.length<=6
 L:∀r∈L,RlO r
structure MS(L:List Rl)(h:T Ob)(c:Nat)(X:Mx)(σ:Asg):Prop where
 m:MtS h c X σ
 s:zdx h X.M X.S L
 o:MxO X L
def MS.up{L:List Rl}{h h':T Ob}{c c':Nat}{X:Mx}{σ:Asg}(H:MS L h c X σ)(hf:∀id,id<c->h'.get id=h.get id)(hc:c<=c'):MS L h' c' X σ:=
 ⟨H.m.up hf hc,H.s.up fun id _ hid=>hf id (by have:=H.m.o;omega),H.o⟩
def zc:List D:=[.f (.i .i64 0),.f (.i .i64 0),.f (.s [])]
def zgH(v:List Int)(i:Nat):List (List D):=vRw (v.take i)++List.replicate (v.length - i) zc
def zF0{v:List Int}{i:Nat}(h:i<=v.length):(zgH v i).length=v.length:=by
 simp[zgH,vRw];omega
def zDi(v:List Int):zgH v 0=List.replicate v.length zc:=by simp[zgH,vRw]
def zvi(v:List Int):zgH v v.length=vRw v:=by simp[zgH]
def zvo{v:List Int}{i:Nat}{z:Int}(h:v[i]? =some z):(zgH v i).set i [.f (.i .i64 1),.f (.i .i64 z),.f (.s [])]=zgH v (i+1):=by
 have hi:i<v.length:=(Z8.1 h).1;unfold zgH;have hl:(vRw (v.take i)).length=i:=by simp[vRw];omega
 rw[Z112 _ _ (by omega),hl,Z194,Z105,h];obtain⟨m,hm⟩ :∃m,v.length - i=m+1:=⟨v.length - i - 1,by omega⟩
 rw[hm,show v.length - (i+1)=m by omega,Z181];simp[vRw,Sm.vF]
def zvl{v:List Int}{i:Nat}(h:i<v.length):(zgH v i)[i]? =some zc:=by
 unfold zgH;have hl:(vRw (v.take i)).length=i:=by simp[vRw];omega
 rw[Z62 (by omega),hl,Z194,Z160,Z51 (by omega)]
def zx1(v:List Int)(i:Nat):hd8 (zgH v i)=false:=by
 unfold zgH;cases h:v.take i with
 |nil=>
  cases v.length - i with
  |zero=>rfl
  |succ n=>rfl
 |cons a l=>rfl
def zi3:C:=zis.body.r.r.l.r.b.o
def zty:C:=zi3.r.r.l.b.r.r.r.l.r.b.o
def J4(X:Mx)(q:Pat×D)(v:List Int)(h:T Ob)(c R P6 k i:Nat)(s:St):Prop:=(s.tm.get 0=some (.ptr X.M 7 0 0)/\s.tm.get 6=some (.ptr P6 3 0 0)/\s.tm.get 7=some (.sl R 0 v.length 3 v.length true)/\s.tm.get 46=some (X.dN)/\s.tm.get 47=some (.f (.i .i64 X.WN.length))/\s.tm.get 48=some (.f (.i .i64 k))/\s.tm.get 65=some (q.2)/\s.tm.get 66=some (.f (.i .i64 v.length))/\s.tm.get 67=some (.f (.i .i64 i))/\s.h.get R=some (.arr 3 0 (zgH v i))/\s.h.get P6=some (.arr 3 0 [[.f (.i .i64 q.1.r),q.2,.f (.i .u64 q.1.m)]]))/\c<=R/\c<=P6/\R<s.c/\P6<s.c/\R≠P6/\∀id,id<c->s.h.get id=h.get id
theorem zMT{h:T Ob}{c:Nat}{X:Mx}{σ:Asg}(H:MtS h c X σ){q:Pat×D}(hq:q∈X.WN){v:List Int}(hv:zc3 σ q.1.ts=some v)(hl:v.length<1000){R P6 k:Nat}{s:St}{K:Ex->St->Prop}
  (hJ:J4 X q v h c R P6 k 0 s)(kx:∀s,J4 X q v h c R P6 k v.length s->K (.exit 4) s):WL pr zty s K:=by
 have hm:=H.m;have ho:=H.o;obtain⟨vl,vg⟩ :=zoE hv;have gQ:=H.N.2 q hq;have hql:(opD q.1.ts).length=v.length:=by simp[opD,vl]
 refine zcA v.length (J4 X q v h c R P6 k) (fun e s=>e= .exit 4/\J4 X q v h c R P6 k v.length s) ?_ ?_ _ hJ ?_
 .rintro i s hlt ⟨⟨h0,h6,h7,h46,h47,h48,h65,h66,h67,gR,gP⟩,r1,r2,r3,r4,r5,hf⟩;have hw:=zau i (by omega);obtain⟨id,ro,e1,e2,e3,e4⟩ :=zej gQ (n:=i) (by omega);have ht:q.1.ts[i]? =some (q.1.ts[i]'(by omega)):=Z0 (by omega);obtain⟨z,hz1,hz2⟩ :=vg i _ ht;generalize q.1.ts[i]'(by omega)=t at ht hz2;obtain⟨t0,t1,t2,t3,et⟩ :=zkq t;have hrow:(opD q.1.ts)[i]? =some [D.f t0,D.f t1,D.f t2,D.f t3]:=by simp[opD,ht,et]
  have e2':s.h.get id=some (.arr 4 ro (opD q.1.ts)):=(hf id e4).trans e2;have hm':s.h.get X.M=_:=(hf X.M (by omega)).trans hm;rw[hql]at e1;have i1:¬id=s.c:=by omega
  have i2:¬X.M=s.c:=by omega
  have i3:¬R=s.c:=by omega
  have hrl:=zF0 (v:=v) (i:=i) (by omega);have hrs:=zvo hz1;unfold zty zi3 zis;simp only[rU,C.l,C.r,C.b,C.o];simp[rW,h0,h6,h7,h46,h47,h48,h65,h66,h67,hlt,e1,e2',hrow,i1,i2];refine zbO [(0,.ptr X.M 7 0 0),(6,.ptr P6 3 0 0),(7,.sl R 0 v.length 3 v.length true),(46,X.dN),(47,.f (.i .i64 X.WN.length)),(48,.f (.i .i64 k)),(65,q.2),(66,.f (.i .i64 v.length)),(67,.f (.i .i64 i)),(72,.sl R 0 v.length 3 v.length true),(73,.f (.i .i64 i))] (zzD hz2 (by rw[et];rfl) (H.up (fun id hid=> ?_) ?_)) (by simp only[rG];rfl) (by simp only[rG];rfl) (by simp only[Rg];simp[rW,h0,h6,h7,h46,h47,h48,h65,h66,h67,e1]) rfl ?_
  .have a:¬id=s.c:=by omega
   simp[rW,a];exact hf id hid
  .omega
  rintro s1 d1 ⟨rfl,hs1⟩ hc1 k76 ⟨k0,k6,k7,k46,k47,k48,k65,k66,k67,k72,k73,-⟩;have f1:∀id,id<s.c->s1.h.get id=s.h.get id:=fun id hid=>by
   rw[hs1 id (by omega),TG,Z49 (by omega),TG,Z49 (by omega)]
  have gR1:=(f1 R r3).trans gR;have gP1:=(f1 P6 r4).trans gP;refine⟨?_⟩;have hge:=zvl hlt;have hgA:=(Z8.1 hge).2;have h8:=zx1 v i;have j1:R<s1.c:=by omega
  have j2:¬P6=R:=fun e=>r5 e.symm
  simp[rW,k0,k6,k7,k46,k47,k48,k65,k66,k67,k72,k73,k76,gR1,hlt,hrl,hrs,hw,hgA,h8,zc,j1];refine⟨⟨?_,?_,?_,?_,?_,?_,?_,?_,?_,?_,?_⟩,r1,r2,?_,?_,r5,?_⟩
  .simp[rW,k0]
  .simp[rW,k6]
  .simp[rW,k7]
  .simp[rW,k46]
  .simp[rW,k47]
  .simp[rW,k48]
  .simp[rW,k65]
  .simp[rW,k66]
  .simp[rW,hw]
  .simp[rW]
  .simp[rW,j2,gP1]
  .simp only[rG];omega
  .simp only[rG];omega
  .intro id hid;have a:¬id=R:=by omega
   simp[rW,a];exact (f1 id (by omega)).trans (hf id hid)
 .rintro s ⟨⟨h0,h6,h7,h46,h47,h48,h65,h66,h67,gR,gP⟩,r1,r2,r3,r4,r5,hf⟩;unfold zty zi3 zis;simp only[rU,C.l,C.r,C.b,C.o];simp[rW,h0,h6,h7,h46,h47,h48,h65,h66,h67];exact⟨⟨by simp[rW,h0],by simp[rW,h6],by simp[rW,h7],by simp[rW,h46],by simp[rW,h47],by simp[rW,h48],by simp[rW,h65],by simp[rW,h66],by simp[rW,h67],gR,gP⟩,r1,r2,r3,r4,r5,hf⟩
 .rintro e s ⟨rfl,hJ⟩;exact kx s hJ
end Go.Proofs.YtbhholaillniiaaGreatDoor
end
