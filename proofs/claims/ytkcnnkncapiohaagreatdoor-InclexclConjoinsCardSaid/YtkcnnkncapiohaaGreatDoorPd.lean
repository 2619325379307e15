/- The reference's matching: tuples, fits. -/
import Derived.Test.YtkcnnkncapiohaaGreatDoorPc
import Derived.KernelRfl
import Derived.IntWalk
set_option linter.all false
set_option maxRecDepth 100000
set_option maxHeartbeats 4000000
section
namespace Go.Proofs.YtkcnnkncapiohaaGreatDoor
open Go Go.Vse Go.Vse.Sm
def fnd:List Rl->Str->List (List Int×List F)
 |[],_=>[]
 |r::l,x=>if r.nm=x then r.tu else fnd l x
theorem zo1:∀(l:List Rl) (x:Str),(fnd l x).map (·.1)=zlO (zcJ l) x
 |[],_=>rfl
 |r::l,x=>by
  simp only[fnd,zcJ,Z10,zlO];split
  .rfl
  .exact zo1 l x
theorem zy9:∀(l:List Rl) (x:Str) (n:Nat) (hn:n<l.length),(∀r∈l.take n,r.nm≠x)->(l[n]).nm=x->fnd l x=(l[n]).tu
 |[],_,_,hn,_,_=>by simp at hn
 |r::l,x,0,_,_,h=>by simp at h;simp[fnd,h]
 |r::l,x,n+1,hn,h,h2=>by
  have:r.nm≠x:=h r (by simp);simp only[fnd,Z49 this];simpa using zy9 l x n (by simpa using hn) (fun p hp=>h p (by simp[hp])) (by simpa using h2)
theorem zwY:∀(l:List Rl) (x:Str),(∀r∈l,r.nm≠x)->fnd l x=[]
 |[],_,_=>rfl
 |r::l,x,h=>by
  have:r.nm≠x:=h r (by simp);simp only[fnd,Z49 this];exact zwY l x fun p hp=>h p (by simp[hp])
def zcj(l:List Rl):F:=slc 4 (l.map rlF)
def zcY(l:List Rl):(zcj l).d= .f (zcj l):=zeI ..
def zdn(l:List Rl):zbj (.f (zcj l))=some l.length:=by simp[zcj,zdp]
def zd5(l:List Rl)(n:Nat):iaB 4 (.f (zcj l)) n=(l[n]?).map fun r=>D.fptr (rlF r):=by simp[zcj,zd6,Z67]
def zeL(l:List (List Int×List F)):F:=slc 4 (l.map tuF)
def zvI(l:List (List Int×List F)):(zeL l).d= .f (zeL l):=zeI ..
def zfr(l:List (List Int×List F)):zbj (.f (zeL l))=some l.length:=by simp[zeL,zdp]
def zjP(l:List (List Int×List F))(n:Nat):iaB 4 (.f (zeL l)) n=(l[n]?).map fun t=>D.fptr (tuF t):=by simp[zeL,zd6,Z67]
def rlE(r:Rl):rlF r=[.s r.nm,.b r.ce,r.co,zeL r.tu]:=rfl
def J56(l:List Rl)(x:Str)(n:Nat)(s:St):Prop:=s.tm.get 0=some (.f (zcj l))/\s.tm.get 1=some (.f (.s x))/\s.tm.get 5=some (.f (.i .i64 n))
def Q56(l:List Rl)(n:Nat)(y:Ex)(s:St):Prop:=y= .ret/\∃r,l[n]? =some r/\s.tm.get 4=some (.f (zeL r.tu))
def zJs(l:List Rl)(x:Str)(hl:l.length<1000):Ans pr 56 [zcj l,.s x] (zeL (fnd l x)):=by
 refine zbN fn56 ?_;simp only[g56,rU];simp[rW,st0,zal,zcY];refine zvo l (fun r=>r.nm==x) (J56 l x) (fun x s=>x= .exit 0) (Q56 l) ?_ ?_ _ ⟨?_,?_,?_⟩ ?_ ?_
 .rintro n s hn ⟨h0,h1,h5⟩;have hw:=zaB n (by omega);have hx:l[n]? =some l[n]:=Z0 hn;generalize hA:l[n]=r at hx|-
  by_cases hb:r.nm=x
  .simp[rW,h0,h1,h5,hn,zdn,zd5,hx,hA,rlE,hb];exact⟨rfl,r,hx,by simp[rW]⟩
  .simp[rW,h0,h1,h5,hn,zdn,zd5,hx,hA,rlE,hb,hw];exact⟨by simp[rW,h0],by simp[rW,h1],by simp[rW,hw]⟩
 .rintro s ⟨h0,h1,h5⟩;simp[rW,h0,h5,zdn]
 .simp[rW]
 .simp[rW]
 .simp[rW]
 .rintro h z s rfl;rw[zwY l x fun r hr=>by simpa using h r hr];simp[rW];rfl
 .rintro n hn hp hm z s ⟨rfl,r,hx,h4⟩;have hk:=zy9 l x n hn (fun q hq=>by
   obtain⟨m,hm1,hm2⟩ :=Z130 hq;rw[Z41]at hm1;have:=hm m (by omega);rw[Z157]at hm2;rw[hm2]at this;simpa using this) (by simpa using hp)
  rw[Z0 hn]at hx;cases hx;rw[hk];simp[rW,h4]
def zyV(e:Env)(t:Trm)(v:Int):(bnd e t v).1.length<=e.length+1:=by
 unfold bnd;cases gtm e t with
 |some w=>simp
 |none=>cases t<;>simp
def I57(e:Env)(a:Atm)(vs:List Int)(p0 p1 p2:F)(n:Nat)(e':Env)(ok:Bool)(s:St):Prop:=
  n <= a.ts.length/\(s.tm.get 3=some (.ptr 0 2 0 0)/\s.tm.get 4=some (.ptr 1 3 0 0)/\s.tm.get 5=some (.ptr 2 4 0 0)/\s.tm.get 6=some (.ptr 3 2 0 0)/\s.tm.get 8=some (.f (.b ok))/\s.tm.get 9=some (.f (.i .i64 n))/\s.h.get 0=some (.arr 2 0 [[.f (zbh (e'.map (·.1))),.f (valsF (e'.map (·.2)))]])/\s.h.get 1=some (.arr 3 0 [[.f (.s a.r),.f (.b a.neg),.f (zjO a.ts)]])/\s.h.get 2=some (.arr 4 0 [[.f (valsF vs),.f p0,.f p1,.f p2]])/\s.h.get 3=some (.arr 2 0 [[.f .nils,.f .nils]]))/\4<=s.c/\
      e'.length<=e.length+n/\zcF e a.ts vs=(if ok=true then zcF e' (a.ts.drop n) (vs.drop n)else(e',false))
def J57(e:Env)(a:Atm)(vs:List Int)(p0 p1 p2:F)(k:Nat)(s:St):Prop:=∃n e' ok,k=a.ts.length - n/\I57 e a vs p0 p1 p2 n e' ok s
def R57(e:Env)(a:Atm)(vs:List Int)(x:Ex)(s:St):Prop:=x= .exit 0/\∃e' ok,zcF e a.ts vs=(e',ok)/\(s.tm.get 3=some (.ptr 0 2 0 0)/\s.tm.get 6=some (.ptr 3 2 0 0)/\s.tm.get 8=some (.f (.b ok))/\s.h.get 0=some (.arr 2 0 [[.f (zbh (e'.map (·.1))),.f (valsF (e'.map (·.2)))]])/\s.h.get 3=some (.arr 2 0 [[.f .nils,.f .nils]]))/\4<=s.c
theorem zJt(e:Env)(a:Atm)(t:List Int×List F)(ht:∀x∈a.ts,zaO x)(hp:Pc t.2)(hl:e.length+a.ts.length<980):
  Ans pr 57 [.ag (zde e),.ag (atF a),.ag (tuF t)] (.tu [.ag (zde (fits e a t.1).1),.b (fits e a t.1).2]):=by
 obtain⟨vs,p⟩ :=t;obtain⟨p0,p1,p2,rfl,d0,d1,d2⟩ :=hp;refine zbN fn57 ?_;simp only[g57,rU];have htu:tuF (vs,[p0,p1,p2])=[valsF vs,p0,p1,p2]:=rfl
 by_cases hlen:a.ts.length=vs.length
 .have hfe:fits e a vs=zcF e a.ts vs:=by simp[fits,hlen]
  rw[hfe];simp[rW,st0,zal,zde,atE,htu,za5,zav,zh2,d0,d1,d2,zhh,zf6,hlen];refine zbS (J57 e a vs p0 p1 p2) (R57 e a vs) ?_ a.ts.length _ ⟨0,e,true,rfl,Z61 _,⟨?_,?_,?_,?_,?_,?_,?_,?_,?_,?_⟩,?_,Z2 _,rfl⟩ ?_
  .rintro k s ⟨n,e',ok,rfl,hn,⟨h3,h4,h5,h6,h8,h9,g0,g1,g2,g3⟩,hc,hel,hfit⟩;have c0:0<s.c:=by omega
   cases ok with
   |false=>
    simp only[Z52,Z63]at hfit;have fin:R57 e a vs (.exit 0) s->True:=fun _=>trivial
    by_cases hlt:n<a.ts.length
    .simp[rW,h3,h4,h5,h6,h8,h9,g0,g1,g2,g3,hlt,zhh];exact⟨rfl,e',false,hfit,⟨by simp[rW,h3],by simp[rW,h6],by simp[rW,h8],by simp[rW,g0],by simp[rW,g3]⟩,by simp[rW,hc]⟩
    .simp[rW,h3,h4,h5,h6,h8,h9,g0,g1,g2,g3,hlt,zhh];exact⟨rfl,e',false,hfit,⟨by simp[rW,h3],by simp[rW,h6],by simp[rW,h8],by simp[rW,g0],by simp[rW,g3]⟩,by simp[rW,hc]⟩
   |true=>
    simp only[Z60]at hfit
    by_cases hlt:n<a.ts.length
    .have hltv:n<vs.length:=by omega
     have hw:=zaB n (by omega);have hto:=ht _ (Z1 hlt);have q:=fun k=>zad (k:=k) (zRs e' (a.ts[n]) (vs[n]) hto (by omega))
     have hx:a.ts[n]? =some a.ts[n]:=Z0 hlt;have hv:vs[n]? =some vs[n]:=Z0 hltv;rw[Z55 hlt,Z55 hltv]at hfit;have hbl:=zyV e' (a.ts[n]) (vs[n]);generalize a.ts[n]=T at*;generalize vs[n]=V at*;simp only[zde,tmE,vF]at q;simp[rW,h3,h4,h5,h6,h8,h9,g0,g1,g2,g3,hlt,zhh];refine zaq ?_;simp[rW,h3,h4,h5,h6,h8,h9,g0,g1,g2,g3,zx3,hx,hv,zok,tmE,vF,za5,zav,q,c0,hw];rw[za1];refine⟨_,?_,n+1,(bnd e' T V).1,(bnd e' T V).2,rfl,by omega,⟨?_,?_,?_,?_,?_,?_,?_,?_,?_,?_⟩,?_,by omega,?_⟩
     .omega
     all_goals try (simp[rW,h3,h4,h5,h6,h8,h9,g0,g1,g2,g3,hw,hc,zde,za5,zav];done)
     .rw[hfit];simp only[zcF];split
      .rfl
      .rename_i hb;have:(bnd e' T V).2=false:=by simpa using hb
       rw[<-this]
    .have hnl:n=a.ts.length:=by omega
     subst hnl;have:zcF e a.ts vs=(e',true):=by rw[hfit];simp[hlen,zcF]
     simp[rW,h3,h4,h5,h6,h8,h9,g0,g1,g2,g3,zhh];exact⟨rfl,e',true,this,⟨by simp[rW,h3],by simp[rW,h6],by simp[rW,h8],by simp[rW,g0],by simp[rW,g3]⟩,by simp[rW,hc]⟩
  .simp[rW]
  .simp[rW]
  .simp[rW]
  .simp[rW]
  .simp[rW]
  .simp[rW]
  .simp[rW]
  .simp[rW]
  .simp[rW]
  .simp[rW]
  .simp[rW]
  .rintro x s ⟨rfl,e',ok,hf,⟨h3,h6,h8,g0,g3⟩,hc⟩;have c3:3<s.c:=by omega
   rw[hf];simp[rW,h3,h6,h8,g0,g3,c3,zde,za5,zav]
 .have hfe:fits e a vs=(e,false):=by simp[fits,hlen]
  rw[hfe];have hi:¬((a.ts.length:Int)=(vs.length:Int)):=by omega
  simp[rW,st0,zal,zde,atE,htu,za5,zav,zh2,d0,d1,d2,zhh,zf6,hlen,hi]
def fn55:pr.fn 55=some g55:=by kernel_rfl
structure CqX(c:CQ):Prop where
 na:c.as.length<10
 nc:c.cs.length<100
 at':∀a∈c.as,a.ts.length<80/\∀t∈a.ts,zaO t
 cm':∀k∈c.cs,zaO k.l/\zaO k.r
structure zoK(l:List Rl):Prop where
 n:l.length<100
 tu:∀r∈l,r.tu.length<=3/\∀t∈r.tu,Pc t.2
def zwZ{l:List Rl}(h:zoK l)(x:Str):(fnd l x).length<=3/\∀t∈fnd l x,Pc t.2:=by
 obtain⟨h1,h⟩ :=h;clear h1
 induction l with
 |nil=>exact⟨by simp[fnd],by simp[fnd]⟩
 |cons r l ih=>
  unfold fnd;split
  .exact h r (by simp)
  .exact ih fun r hr=>h r (by simp[hr])
def ziD(k:Cm):cmF k=[.i .i64 k.op,.s (tv k.l),.i .i64 (tk k.l),.i .i64 (tn k.l),.s [],.s (tv k.r),.i .i64 (tk k.r),.i .i64 (tn k.r),.s []]:=by
 show F.i .i64 k.op::(tmF k.l++tmF k.r)=_;rw[tmE,tmE];rfl
def F2(l:List Rl)(c:CQ)(e:Env)(s:St):Prop:=(s.tm.get 0=some (.f (zcj l))/\s.tm.get 3=some (.f (.b true))/\s.tm.get 5=some (.ptr 0 2 0 0)/\s.tm.get 6=some (.ptr 1 2 0 0)/\s.h.get 0=some (.arr 2 0 [[.f (zdU c),.f (zdq c)]])/\s.h.get 1=some (.arr 2 0 [[.f (zbh (e.map (·.1))),.f (valsF (e.map (·.2)))]]))/\2<=s.c
def F2.up{l:List Rl}{c:CQ}{e:Env}{s S:St}(H:F2 l c e s)(hc:s.c<=S.c)(g0:S.h.get 0=s.h.get 0)(g1:S.h.get 1=s.h.get 1)(t0:S.tm.get 0=s.tm.get 0)(t3:S.tm.get 3=s.tm.get 3)(t5:S.tm.get 5=s.tm.get 5)(t6:S.tm.get 6=s.tm.get 6):F2 l c e S:=by
 obtain⟨⟨h0,h3,h5,h6,k0,k1⟩,hlo⟩ :=H;exact⟨⟨t0.trans h0,t3.trans h3,t5.trans h5,t6.trans h6,g0.trans k0,g1.trans k1⟩,by omega⟩
def I55(l:List Rl)(c:CQ)(e:Env)(k:Nat)(s:St):Prop:=
 ∃n:Nat,n<=c.cs.length/\k=c.cs.length - n/\F2 l c e s/\s.tm.get 9=some (.f (.i .i64 n))/\∀k∈c.cs.take n,zgN e k=true
def R55(l:List Rl)(c:CQ)(e:Env)(x:Ex)(s:St):Prop:=
 (x= .exit 0/\F2 l c e s/\c.cs.all (zgN e)=true)\/(x= .ret/\s.tm.get 8=some (.f (.b false))/\c.cs.all (zgN e)=false)
def J55(l:List Rl)(c:CQ)(e:Env)(k:Nat)(s:St):Prop:=
 ∃n:Nat,n<=c.as.length/\k=c.as.length - n/\F2 l c e s/\s.tm.get 14=some (.f (.i .i64 n))/\∀a∈c.as.take n,zhW (zcJ l) e a=true
def S55(l:List Rl)(c:CQ)(e:Env)(x:Ex)(s:St):Prop:=
 (x= .exit 2/\c.as.all (zhW (zcJ l) e)=true)\/(x= .ret/\s.tm.get 8=some (.f (.b false))/\c.as.all (zhW (zcJ l) e)=false)
def K55(l:List Rl)(c:CQ)(e:Env)(n:Nat)(a:Atm)(k:Nat)(s:St):Prop:=
 ∃m:Nat,m<=(fnd l a.r).length/\k=(fnd l a.r).length - m/\F2 l c e s/\(s.tm.get 14=some (.f (.i .i64 n))/\s.tm.get 15=some (.f (zeL (fnd l a.r)))/\s.tm.get 16=some (.f (.i .i64 m)))/\∀t∈(fnd l a.r).take m,hits e a t.1=false
def T55(l:List Rl)(c:CQ)(e:Env)(n:Nat)(a:Atm)(x:Ex)(s:St):Prop:=
 (x= .exit 4/\F2 l c e s/\s.tm.get 14=some (.f (.i .i64 n))/\∀t∈fnd l a.r,hits e a t.1=false)\/(x= .ret/\s.tm.get 8=some (.f (.b false))/\∃t∈fnd l a.r,hits e a t.1=true)
def zpr{α:Type}{P:α->Prop}{l:List α}{n:Nat}(h:n<l.length)(h1:∀a∈l.take n,P a)(h2:P l[n]):∀a∈l.take (n+1),P a:=by
 intro a ha;rw[Z105,Z0 h]at ha;rcases Z4.1 ha with h'|h'
 .exact h1 _ h'
 .simp at h';rw[h'];exact h2
def zni(l:List Rl)(e:Env)(a:Atm):zhW (zcJ l) e a=true↔a.neg=false\/∀t∈fnd l a.r,hits e a t.1=false:=by
 unfold zhW;rw[<-zo1];simp[Z50]
def ans55(l:List Rl)(c:CQ)(e:Env)(hl:zoK l)(hc:CqX c)(he:e.length<890):Ans pr 55 [zcj l,.ag (cqF c),.ag (zde e),.b true] (.b (passes (zcJ l) c e)):=by
 refine zbN fn55 ?_;simp only[g55,rU];simp[rW,st0,zal,zcY,cqE,zdL,zea,zde,za5,zav];refine zbS (I55 l c e) (R55 l c e) ?_ c.cs.length _ ⟨0,Z61 _,rfl,⟨⟨?_,?_,?_,?_,?_,?_⟩,?_⟩,?_,by simp⟩ ?_
 .rintro k s ⟨n,hn,rfl,hF,h9,hA⟩;obtain⟨⟨h0,h3,h5,h6,g0,g1⟩,hlo⟩ :=id hF;have hnc:=hc.nc;have hw:=zaB n (by omega)
  by_cases hlt:n<c.cs.length
  .obtain⟨tl,tr⟩ :=hc.cm' (c.cs[n]) (Z1 hlt);have hx:c.cs[n]? =some c.cs[n]:=Z0 hlt;have hback:zgN e c.cs[n]=true->∀k∈c.cs.take (n+1),zgN e k=true:=fun hk=>zpr hlt hA hk
   have hout:zgN e c.cs[n]=false->c.cs.all (zgN e)=false:=fun hk=>by
    rw[Z143];exact⟨_,Z1 hlt,by simp[hk]⟩
   generalize hK:c.cs[n]=K at*;have qL:=fun k=>zad (k:=k) (zAH e K.l tl (by omega))
   have qR:=fun k=>zad (k:=k) (zAH e K.r tr (by omega))
   have qC:=fun a b k=>zad (k:=k) (ans99 K.op a b)
   simp only[zde,tmE]at qL qR;simp only[vF]at qC;have c0:0<s.c:=by omega
   have c1:1<s.c:=by omega
   cases hgl:gtm e K.l with
   |none=>
    have hf:=hout (by unfold zgN;rw[hgl]);simp only[ziF,hgl,zF]at qL;cases hgr:gtm e K.r with
    |none=>
     simp only[ziF,hgr,zF]at qR;simp[rW,h0,h3,h5,h6,h9,g0,g1,hlt,zgb];refine zaq ?_;simp[rW,h0,h3,h5,h6,h9,g0,g1,hlt,zeU,hx,hK,ziD,za5,zav,qL,c0,c1];refine zaq ?_;simp[rW,h0,h3,h5,h6,h9,g0,g1,hlt,zeU,hx,hK,ziD,za5,zav,qR,c0,c1];refine zaq ?_;simp[rW,h0,h3,h5,h6,h9,g0,g1];exact .inr ⟨rfl,by simp[rW],hf⟩
    |some b=>
     simp only[ziF,hgr,vF]at qR;simp[rW,h0,h3,h5,h6,h9,g0,g1,hlt,zgb];refine zaq ?_;simp[rW,h0,h3,h5,h6,h9,g0,g1,hlt,zeU,hx,hK,ziD,za5,zav,qL,c0,c1];refine zaq ?_;simp[rW,h0,h3,h5,h6,h9,g0,g1,hlt,zeU,hx,hK,ziD,za5,zav,qR,c0,c1];refine zaq ?_;simp[rW,h0,h3,h5,h6,h9,g0,g1];exact .inr ⟨rfl,by simp[rW],hf⟩
   |some a=>
    simp only[ziF,hgl,vF]at qL;cases hgr:gtm e K.r with
    |none=>
     have hf:=hout (by unfold zgN;rw[hgl,hgr]);simp only[ziF,hgr,zF]at qR;simp[rW,h0,h3,h5,h6,h9,g0,g1,hlt,zgb];refine zaq ?_;simp[rW,h0,h3,h5,h6,h9,g0,g1,hlt,zeU,hx,hK,ziD,za5,zav,qL,c0,c1];refine zaq ?_;simp[rW,h0,h3,h5,h6,h9,g0,g1,hlt,zeU,hx,hK,ziD,za5,zav,qR,c0,c1];refine zaq ?_;simp[rW,h0,h3,h5,h6,h9,g0,g1];exact .inr ⟨rfl,by simp[rW],hf⟩
    |some b=>
     simp only[ziF,hgr,vF]at qR;have qC:=qC a b;cases hcmp:zwx K.op a b with
     |false=>
      rw[hcmp]at qC;have hf:=hout (by unfold zgN;rw[hgl,hgr];exact hcmp);simp[rW,h0,h3,h5,h6,h9,g0,g1,hlt,zgb];refine zaq ?_;simp[rW,h0,h3,h5,h6,h9,g0,g1,hlt,zeU,hx,hK,ziD,za5,zav,qL,c0,c1];refine zaq ?_;simp[rW,h0,h3,h5,h6,h9,g0,g1,hlt,zeU,hx,hK,ziD,za5,zav,qR,c0,c1];refine zaq ?_;simp[rW,h0,h3,h5,h6,h9,g0,g1,hlt,zeU,hx,hK,ziD,qC,c0,c1];exact .inr ⟨rfl,by simp[rW],hf⟩
     |true=>
      rw[hcmp]at qC;have hf:zgN e K=true:=by unfold zgN;rw[hgl,hgr];exact hcmp
      simp[rW,h0,h3,h5,h6,h9,g0,g1,hlt,zgb];refine zaq ?_;simp[rW,h0,h3,h5,h6,h9,g0,g1,hlt,zeU,hx,hK,ziD,za5,zav,qL,c0,c1];refine zaq ?_;simp[rW,h0,h3,h5,h6,h9,g0,g1,hlt,zeU,hx,hK,ziD,za5,zav,qR,c0,c1];refine zaq ?_;simp[rW,h0,h3,h5,h6,h9,g0,g1,hlt,zeU,hx,hK,ziD,qC,c0,c1,hw];rw[za1];refine⟨c.cs.length - (n+1),by omega,n+1,by omega,rfl,hF.up ?_ ?_ ?_ ?_ ?_ ?_ ?_,?_,hback hf⟩
      .simp[rW]<;>omega
      .simp[rW,g0]
      .simp[rW,g1]
      all_goals simp[rW,hw]
  .have hnl:n=c.cs.length:=by omega
   subst hnl;rw[Z7]at hA;simp[rW,h5,h9,g0,zgb];exact .inl ⟨rfl,hF.up (by simp[rW]) (by simp[rW]) (by simp[rW]) (by simp[rW]) (by simp[rW]) (by simp[rW]) (by simp[rW]),by rw[Z50];exact hA⟩
 .simp[rW]
 .simp[rW]
 .simp[rW]
 .simp[rW]
 .simp[rW]
 .simp[rW]
 .simp[rW]
 .simp[rW]
 .rintro x s (⟨rfl,hF,hA⟩ |⟨rfl,h8,hA⟩)
  .have hpass:passes (zcJ l) c e=c.as.all (zhW (zcJ l) e):=by simp[passes,hA]
   rw[hpass];simp[rW];refine zbS (J55 l c e) (S55 l c e) ?_ c.as.length _ ⟨0,Z61 _,rfl,hF.up (by simp[rW]) (by simp[rW]) (by simp[rW]) (by simp[rW]) (by simp[rW]) (by simp[rW]) (by simp[rW]),by simp[rW],by simp⟩ ?_
   .clear hF s;rintro k s ⟨n,hn,rfl,hF,h14,hA⟩;obtain⟨⟨h0,h3,h5,h6,g0,g1⟩,hlo⟩ :=id hF;have hna:=hc.na;have hw:=zaB n (by omega)
    by_cases hlt:n<c.as.length
    .obtain⟨hts,htm⟩ :=hc.at' (c.as[n]) (Z1 hlt);have hx:c.as[n]? =some c.as[n]:=Z0 hlt;have hback:zhW (zcJ l) e c.as[n]=true->∀a∈c.as.take (n+1),zhW (zcJ l) e a=true:=fun hk=>zpr hlt hA hk
     have hmem:c.as[n]∈c.as:=Z1 hlt;generalize hA2:c.as[n]=A at hts htm hx hback hmem;cases hneg:A.neg with
     |false=>
      simp[rW,h0,h3,h5,h6,h14,g0,g1,hlt,zdr,zfi,hx,hA2,atE,hneg,hw];rw[za1];exact⟨c.as.length - (n+1),by omega,n+1,by omega,rfl,hF.up (by simp[rW]) (by simp[rW]) (by simp[rW]) (by simp[rW]) (by simp[rW]) (by simp[rW]) (by simp[rW]),by simp[rW,hw],hback ((zni ..).2 (.inl hneg))⟩
     |true=>
      have qT:=fun k=>zad (k:=k) (zJs l A.r (by have:=hl.n;omega))
      obtain⟨hfl,hfp⟩ :=zwZ hl A.r;simp[rW,h0,h3,h5,h6,h14,g0,g1,hlt,zdr,zfi,hx,hA2,atE,hneg,zcY,qT,zvI];refine zbS (K55 l c e n A) (T55 l c e n A) ?_ (fnd l A.r).length _ ⟨0,Z61 _,rfl,hF.up (by simp[rW]) (by simp[rW]) (by simp[rW]) (by simp[rW]) (by simp[rW]) (by simp[rW]) (by simp[rW]),⟨by simp[rW,h14],by simp[rW],by simp[rW]⟩,by simp⟩ ?_
      .clear h0 h3 h5 h6 g0 g1 hlo hF h14 s;rintro k s ⟨m,hm,rfl,hF,⟨h14,h15,h16⟩,hB⟩;obtain⟨⟨h0,h3,h5,h6,g0,g1⟩,hlo⟩ :=id hF;have hwm:=zaB m (by omega);have c0:0<s.c:=by omega
       have c1:1<s.c:=by omega
       by_cases hlt2:m< (fnd l A.r).length
       .have hxt:(fnd l A.r)[m]? =some (fnd l A.r)[m]:=Z0 hlt2;have hmt:(fnd l A.r)[m]∈fnd l A.r:=Z1 hlt2;have hp:=hfp _ hmt;have hBs:hits e A (fnd l A.r)[m].1=false->∀t∈(fnd l A.r).take (m+1),hits e A t.1=false:=fun hk=>zpr hlt2 hB hk
        generalize hT2:(fnd l A.r)[m]=T at hxt hmt hp hBs;have qf:=fun k=>zad (k:=k) (zJt e A T htm hp (by omega))
        obtain⟨p0,p1,p2,hpe,hd0,hd1,hd2⟩ :=hp;have htu:tuF T=[valsF T.1,p0,p1,p2]:=by unfold tuF;rw[hpe]
        rw[htu]at qf;simp only[atE,zde,hneg]at qf;have hl1:zbj (.f (zbh ((fits e A T.1).1.map (·.1))))=some (fits e A T.1).1.length:=zmV _;have hl2:zbj (.f (zbh (e.map (·.1))))=some e.length:=zmV _;have hh:hits e A T.1=((fits e A T.1).2&&decide ((fits e A T.1).1.length=e.length)):=rfl;cases hf2:(fits e A T.1).2 with
        |false=>
         rw[hf2]at qf hh;generalize (fits e A T.1).1=E at*;simp[rW,h0,h3,h5,h6,h14,h15,h16,g0,g1,hlt2,zfr];refine zaq ?_;simp[rW,h0,h3,h5,h6,h14,h15,h16,g0,g1,hlt,hlt2,zfi,hx,hA2,atE,hneg,zh2,zjP,hxt,hT2,htu,qf,za5,zav,hd0,hd1,hd2,c0,c1,hwm];rw[za1];refine⟨(fnd l A.r).length - (m+1),by omega,m+1,by omega,rfl,hF.up ?_ ?_ ?_ ?_ ?_ ?_ ?_,⟨?_,?_,?_⟩,hBs (by rw[hh];rfl)⟩
         .simp[rW]<;>omega
         .simp[rW,g0]
         .simp[rW,g1]
         .simp[rW]
         .simp[rW]
         .simp[rW]
         .simp[rW]
         .simp[rW,h14]
         .simp[rW,h15]
         .simp[rW,hwm]
        |true=>
         rw[hf2]at qf hh;generalize (fits e A T.1).1=E at*
         by_cases hle:E.length=e.length
         .simp[rW,h0,h3,h5,h6,h14,h15,h16,g0,g1,hlt2,zfr];refine zaq ?_;simp[rW,h0,h3,h5,h6,h14,h15,h16,g0,g1,hlt,hlt2,zfi,hx,hA2,atE,hneg,zh2,zjP,hxt,hT2,htu,qf,za5,zav,hd0,hd1,hd2,c0,c1,hl1,hl2,hle];exact .inr ⟨rfl,by simp[rW],T,hmt,by rw[hh];simp[hle]⟩
         .have hi:¬((E.length:Int)=(e.length:Int)):=by omega
          simp[rW,h0,h3,h5,h6,h14,h15,h16,g0,g1,hlt2,zfr];refine zaq ?_;simp[rW,h0,h3,h5,h6,h14,h15,h16,g0,g1,hlt,hlt2,zfi,hx,hA2,atE,hneg,zh2,zjP,hxt,hT2,htu,qf,za5,zav,hd0,hd1,hd2,c0,c1,hl1,hl2,hle,hi,hwm];rw[za1];refine⟨(fnd l A.r).length - (m+1),by omega,m+1,by omega,rfl,hF.up ?_ ?_ ?_ ?_ ?_ ?_ ?_,⟨?_,?_,?_⟩,hBs (by rw[hh];simp[hle])⟩
          .simp[rW]<;>omega
          .simp[rW,g0]
          .simp[rW,g1]
          .simp[rW]
          .simp[rW]
          .simp[rW]
          .simp[rW]
          .simp[rW,h14]
          .simp[rW,h15]
          .simp[rW,hwm]
       .have hml:m=(fnd l A.r).length:=by omega
        subst hml;rw[Z7]at hB;simp[rW,h15,h16,zfr];exact .inl ⟨rfl,hF.up (by simp[rW]) (by simp[rW]) (by simp[rW]) (by simp[rW]) (by simp[rW]) (by simp[rW]) (by simp[rW]),by simp[rW,h14],hB⟩
      .clear h0 h3 h5 h6 g0 g1 hlo hF h14 s;rintro x s (⟨rfl,hF,h14,hB⟩ |⟨rfl,h8,t,ht,hB⟩)
       .simp[rW,h14,hw];rw[za1];exact⟨c.as.length - (n+1),by omega,n+1,by omega,rfl,hF.up (by simp[rW]) (by simp[rW]) (by simp[rW]) (by simp[rW]) (by simp[rW]) (by simp[rW]) (by simp[rW]),by simp[rW,hw],hback ((zni ..).2 (.inr hB))⟩
       .simp[rW];refine .inr ⟨rfl,h8,?_⟩;rw[Z143];refine⟨A,hmem,fun h=> ?_⟩;rcases (zni ..).1 h with h'|h'
        .rw[hneg]at h';cases h'
        .rw[h' t ht]at hB;cases hB
    .have hnl:n=c.as.length:=by omega
     subst hnl;rw[Z7]at hA;simp[rW,h0,h3,h5,h6,h14,g0,g1,zdr];exact .inl ⟨rfl,by rw[Z50];exact hA⟩
   .rintro x s (⟨rfl,hA⟩ |⟨rfl,h8,hA⟩)
    .rw[hA];simp[rW]
    .rw[hA];simp[rW,h8]
  .have hpass:passes (zcJ l) c e=false:=by simp[passes,hA]
   rw[hpass];simp[rW,h8]
def fn23:pr.fn 23=some g23:=by kernel_rfl
def fn8:pr.fn 8=some g8:=by kernel_rfl
def fn9:pr.fn 9=some g9:=by kernel_rfl
def ext1(l:List Rl)(c:CQ)(asz:List Atm)(e:Env)(a:Atm)(t:List Int×List F):List Env:=if(fits e a t.1).2 then extend (zcJ l) c asz (fits e a t.1).1 else[]
def zqc(l:List Rl)(c:CQ)(a:Atm)(asz:List Atm)(e:Env)(h:a.neg=false):extend (zcJ l) c (a::asz) e=(fnd l a.r).flatMap (ext1 l c asz e a):=by
 simp only[extend,h];rw[<-zo1,List.flatMap_map];rfl
def zqb(l:List Rl)(c:CQ)(a:Atm)(asz:List Atm)(e:Env)(h:a.neg=true):extend (zcJ l) c (a::asz) e=extend (zcJ l) c asz e:=by
 simp[extend,h]
theorem za2{α β:Type}(f:α->List β)(N:Nat):∀l:List α,(∀a∈l,(f a).length<=N)->(l.flatMap f).length<=l.length*N
 |[],_=>by simp
 |a::l,h=>by
  have h1:=h a (by simp);have h2:=za2 f N l fun a ha=>h a (by simp[ha])
  simp only[Z92,Z16,Z23,Z35,Z177];omega
theorem zlz(l:List Rl)(c:CQ)(hl:zoK l):∀(asz:List Atm) (e:Env),(extend (zcJ l) c asz e).length<=4 ^ asz.length
 |[],e=>by
  simp only[extend];split<;>simp
 |a::asz,e=>by
  have h4:4 ^ asz.length<=4 ^ (a::asz).length:=by simp[Z195];omega
  cases hn:a.neg with
  |true=>rw[zqb _ _ _ _ _ hn];exact Z3 (zlz l c hl asz e) h4
  |false=>
   rw[zqc _ _ _ _ _ hn];have h1:=za2 (ext1 l c asz e a) (4 ^ asz.length) (fnd l a.r) (fun t _=>by
    unfold ext1;split
    .exact zlz l c hl asz _
    .simp)
   have h2:=(zwZ hl a.r).1;have h3:(fnd l a.r).length*4 ^ asz.length<=3*4 ^ asz.length:=Z9 _ h2;simp only[Z23,Z195];omega
theorem ztE:∀(ts:List Trm) (vs:List Int) (e:Env),(zcF e ts vs).1.length<=e.length+ts.length
 |[],vs,e=>by simp[zcF]
 |t::ts,[],e=>by simp[zcF]
 |t::ts,v::vs,e=>by
  have hb:=zyV e t v;unfold zcF;split
  .have:=ztE ts vs (bnd e t v).1;simp only[Z23];omega
  .simp only[Z23];omega
def zHm(e:Env)(a:Atm)(vs:List Int):(fits e a vs).1.length<=e.length+a.ts.length:=by
 unfold fits;split
 .exact ztE ..
 .simp
def exF(L:List Env):List (List D):=L.map fun e=>(zde e).map D.f
def zNS(a b:List Env):exF (a++b)=exF a++exF b:=by simp[exF]
def zy5(a:List Env):(exF a).length=a.length:=by simp[exF]
def zNT(h:Nat->Option Ob)(k:Nat)(L:List Env):zaU (frz h (k+1)) (exF L)=some (L.map zde,[]):=by
 have:=zhO h k (L.map zde)
 rwa[Z33]at this
def zmX(L:List Env):F:=slc 2 (L.map zde)
def zA9(L:List Env):(zmX L).d= .f (zmX L):=zeI ..
def zNR(L:List Env):zbj (.f (zmX L))=some L.length:=by simp[zmX,zdp]
def zSc(h:Nat->Option Ob)(L:List Env):elemsOf 2 h (.f (zmX L))=some (exF L,[]):=by
 unfold zmX;rw[zwH rfl,Z33];rfl
def G2(l:List Rl)(c:CQ)(e:Env)(s:St):Prop:=(s.tm.get 0=some (.f (zcj l))/\s.tm.get 4=some (.f (.b true))/\s.tm.get 6=some (.ptr 0 2 0 0)/\s.tm.get 8=some (.ptr 1 2 0 0)/\s.h.get 0=some (.arr 2 0 [[.f (zdU c),.f (zdq c)]])/\s.h.get 1=some (.arr 2 0 [[.f (zbh (e.map (·.1))),.f (valsF (e.map (·.2)))]]))/\2<=s.c
def G2.up{l:List Rl}{c:CQ}{e:Env}{s S:St}(H:G2 l c e s)(hc:s.c<=S.c)(g0:S.h.get 0=s.h.get 0)(g1:S.h.get 1=s.h.get 1)(t0:S.tm.get 0=s.tm.get 0)(t4:S.tm.get 4=s.tm.get 4)(t6:S.tm.get 6=s.tm.get 6)(t8:S.tm.get 8=s.tm.get 8):G2 l c e S:=by
 obtain⟨⟨h0,h4,h6,h8,k0,k1⟩,hlo⟩ :=H;exact⟨⟨t0.trans h0,t4.trans h4,t6.trans h6,t8.trans h8,g0.trans k0,g1.trans k1⟩,by omega⟩
def I23(l:List Rl)(c:CQ)(e:Env)(at':Nat)(k:Nat)(s:St):Prop:=
 ∃n:Nat,at'<=n/\n<=c.as.length/\k=c.as.length - n/\G2 l c e s/\s.tm.get 2=some (.f (.i .i64 n))/\extend (zcJ l) c (c.as.drop at') e=extend (zcJ l) c (c.as.drop n) e
def R23(l:List Rl)(c:CQ)(e:Env)(at':Nat)(x:Ex)(s:St):Prop:=
 x= .exit 0/\∃n:Nat,at'<=n/\n<=c.as.length/\G2 l c e s/\s.tm.get 2=some (.f (.i .i64 n))/\extend (zcJ l) c (c.as.drop at') e=extend (zcJ l) c (c.as.drop n) e/\∀h:n<c.as.length,(c.as[n]).neg=false
def J23(l:List Rl)(c:CQ)(e:Env)(n:Nat)(a:Atm)(m:Nat)(s:St):Prop:=
 G2 l c e s/\(s.tm.get 2=some (.f (.i .i64 n))/\s.tm.get 12=some (.f (zeL (fnd l a.r)))/\s.tm.get 13=some (.f (.i .i64 m)))/\
  ∃d,s.tm.get 11=some d/\Gro s.h 2 s.c 2 d (exF (((fnd l a.r).take m).flatMap (ext1 l c (c.as.drop (n+1)) e a)))
def S23(l:List Rl)(c:CQ)(e:Env)(n:Nat)(a:Atm)(x:Ex)(s:St):Prop:=
 x= .exit 2/\2<=s.c/\∃d,s.tm.get 11=some d/\Gro s.h 2 s.c 2 d (exF ((fnd l a.r).flatMap (ext1 l c (c.as.drop (n+1)) e a)))
def pow48:(4:Nat) ^ 8=65536:=by decide
theorem ans23(l:List Rl)(c:CQ)(hl:zoK l)(hc:CqX c):∀(r at':Nat) (e:Env),at'<=c.as.length->r=c.as.length - at'->e.length<=80*at'->
  Ans pr 23 [zcj l,.ag (cqF c),.i .i64 at',.ag (zde e),.b true] (zmX (extend (zcJ l) c (c.as.drop at') e)):=by
 intro r
 induction r using Nat.strongRecOn with
 |ind r ih=>
  intro at' e hat hr he;have hna:=hc.na;refine zbN fn23 ?_;simp only[g23,rU];simp[rW,st0,zal,zcY,cqE,zdL,zea,zde,za5,zav];refine zbS (I23 l c e at') (R23 l c e at') ?_ (c.as.length - at') _ ⟨at',Z2 _,hat,rfl,⟨⟨?_,?_,?_,?_,?_,?_⟩,?_⟩,?_,rfl⟩ ?_
  .rintro k s ⟨n,hn1,hn,rfl,hG,h2,hA⟩;obtain⟨⟨h0,h4,h6,h8,g0,g1⟩,hlo⟩ :=id hG;have hw:=zaB n (by omega)
   by_cases hlt:n<c.as.length
   .have hx:c.as[n]? =some c.as[n]:=Z0 hlt;have hdr:=Z55 hlt;cases hneg:(c.as[n]).neg with
    |true=>
     rw[hdr,zqb _ _ _ _ _ hneg]at hA;generalize hA2:c.as[n]=A at hx hneg;simp[rW,h0,h2,h4,h6,h8,g0,g1,hlt,zdr,zfi,hx,hA2,atE,hneg,hw];rw[za1];exact⟨c.as.length - (n+1),by omega,n+1,by omega,by omega,rfl,hG.up (by simp[rW]) (by simp[rW]) (by simp[rW]) (by simp[rW]) (by simp[rW]) (by simp[rW]) (by simp[rW]),by simp[rW,hw],hA⟩
    |false=>
     have hneg2:=hneg;generalize hA2:c.as[n]=A at hx hneg;simp[rW,h0,h2,h4,h6,h8,g0,g1,hlt,zdr,zfi,hx,hA2,atE,hneg];exact⟨rfl,n,hn1,hn,hG.up (by simp[rW]) (by simp[rW]) (by simp[rW]) (by simp[rW]) (by simp[rW]) (by simp[rW]) (by simp[rW]),by simp[rW,h2],hA,fun _=>hneg2⟩
   .simp[rW,h0,h2,h4,h6,h8,g0,g1,hlt,zdr];exact⟨rfl,n,hn1,hn,hG.up (by simp[rW]) (by simp[rW]) (by simp[rW]) (by simp[rW]) (by simp[rW]) (by simp[rW]) (by simp[rW]),by simp[rW,h2],hA,fun h=>absurd h hlt⟩
  .simp[rW]
  .simp[rW]
  .simp[rW]
  .simp[rW]
  .simp[rW]
  .simp[rW]
  .simp[rW]
  .simp[rW]
  .rintro x s ⟨rfl,n,hn1,hn,hG,h2,hA,hB⟩;obtain⟨⟨h0,h4,h6,h8,g0,g1⟩,hlo⟩ :=id hG;rw[hA]
   by_cases hlt:n<c.as.length
   .have hne:¬n=c.as.length:=by omega
    have hne2:¬((n:Int)=(c.as.length:Int)):=by omega
    have hneg:=hB hlt;have hx:c.as[n]? =some c.as[n]:=Z0 hlt;obtain⟨hts,htm⟩ :=hc.at' (c.as[n]) (Z1 hlt);rw[Z55 hlt,zqc _ _ _ _ _ hneg];generalize hA2:c.as[n]=A at hx hneg hts htm|-;have qT:=fun k=>zad (k:=k) (zJs l A.r (by have:=hl.n;omega))
    obtain⟨hfl,hfp⟩ :=zwZ hl A.r;have hx4:∀e',(extend (zcJ l) c (c.as.drop (n+1)) e').length<=4 ^ 8:=fun e'=>Z3 (zlz l c hl _ _) (Z113 (by omega) (by simp;omega))
    have p8:=pow48;simp[rW,h0,h2,h4,h6,h8,g0,g1,hlt,hne,hne2,zdr,zfi,hx,hA2,atE,zcY,qT,zvI];refine zex (fnd l A.r).length (J23 l c e n A) (S23 l c e n A) ?_ ?_ _ ⟨hG.up (by simp[rW]) (by simp[rW]) (by simp[rW]) (by simp[rW]) (by simp[rW]) (by simp[rW]) (by simp[rW]),⟨by simp[rW,h2],by simp[rW],by simp[rW]⟩,.f .nils,by simp[rW],.inl ⟨rfl,rfl⟩⟩ ?_
    .clear h0 h4 h6 h8 g0 g1 hlo hG h2 s;rintro m s hm ⟨hG,⟨h2,h12,h13⟩,d,h11,hg⟩;obtain⟨⟨h0,h4,h6,h8,g0,g1⟩,hlo⟩ :=id hG;have hw:=zaB m (by omega);have hw2:=zaB n (by omega);have c0:0<s.c:=by omega
     have c1:1<s.c:=by omega
     have hxt:(fnd l A.r)[m]? =some (fnd l A.r)[m]:=Z0 hm;have hmt:(fnd l A.r)[m]∈fnd l A.r:=Z1 hm;have hp:=hfp _ hmt;have htk:((fnd l A.r).take (m+1)).flatMap (ext1 l c (c.as.drop (n+1)) e A)=((fnd l A.r).take m).flatMap (ext1 l c (c.as.drop (n+1)) e A)++ext1 l c (c.as.drop (n+1)) e A (fnd l A.r)[m]:=by
      rw[Z105,hxt,Z183];simp[List.flatMap]
     have hb1:(exF (((fnd l A.r).take m).flatMap (ext1 l c (c.as.drop (n+1)) e A))).length<=3*4 ^ 8:=by
      rw[zy5];have:=za2 (ext1 l c (c.as.drop (n+1)) e A) (4 ^ 8) ((fnd l A.r).take m) (fun t _=>by
       unfold ext1;split
       .exact hx4 _
       .simp)
      have h3:((fnd l A.r).take m).length<=3:=by simp;omega
      exact Z3 this (Z9 _ h3)
     generalize hT2:(fnd l A.r)[m]=T at hxt hmt hp htk;have qf:=fun k=>zad (k:=k) (zJt e A T htm hp (by omega))
     obtain⟨p0,p1,p2,hpe,hd0,hd1,hd2⟩ :=hp;have htu:tuF T=[valsF T.1,p0,p1,p2]:=by unfold tuF;rw[hpe]
     rw[htu]at qf;simp only[atE,zde]at qf;have hfl2:=zHm e A T.1;have h24:=ih (c.as.length - (n+1)) (by omega) (n+1) (fits e A T.1).1 (by omega) rfl (by omega);have hb2:(exF (extend (zcJ l) c (c.as.drop (n+1)) (fits e A T.1).1)).length<=4 ^ 8:=by rw[zy5];exact hx4 _
     have hE:ext1 l c (c.as.drop (n+1)) e A T=if(fits e A T.1).2 then extend (zcJ l) c (c.as.drop (n+1)) (fits e A T.1).1 else[]:=rfl
     rw[hE]at htk;have q24:=fun k=>zad (k:=k) h24
     simp only[cqE,zde]at q24;rw[show((n+1:Nat):Int)=(n:Int)+1 from rfl]at q24;have hlow:∀x,x<s.c->x≠s.c:=fun x hx=>by omega
     cases hf2:(fits e A T.1).2 with
     |false=>
      rw[hf2]at qf htk;simp only[Z52,Z63,Z22]at htk;generalize (fits e A T.1).1=E at*;simp[rW,h0,h2,h4,h6,h8,h11,h12,h13,g0,g1,hm,zfr];refine zaq ?_;simp[rW,h0,h2,h4,h6,h8,h11,h12,h13,g0,g1,hlt,hm,zfi,hx,hA2,atE,zh2,zjP,hxt,hT2,htu,qf,za5,zav,hd0,hd1,hd2,c0,c1,hw];refine⟨hG.up ?_ ?_ ?_ ?_ ?_ ?_ ?_,⟨?_,?_,?_⟩,d,?_,?_⟩
      .simp[rW]<;>omega
      .simp[rW,g0]
      .simp[rW,g1]
      .simp[rW]
      .simp[rW]
      .simp[rW]
      .simp[rW]
      .simp[rW,h2]
      .simp[rW,h12]
      .simp[rW,hw]
      .simp[rW,h11]
      .rw[htk];refine zbB hg ?_ ?_
       .simp[rW]<;>omega
       .intro id h1 h2';have i1:¬id=s.c+1+1+1+1+1+1+1+1+1+1+1+1+1+1:=by omega
        simp[rW,i1]
     |true=>
      rw[hf2]at qf htk;simp only[Z60]at htk;generalize (fits e A T.1).1=E at*;generalize extend (zcJ l) c (c.as.drop (n+1)) E=X at*;simp[rW,h0,h2,h4,h6,h8,h11,h12,h13,g0,g1,hm,zfr];refine zaq ?_;simp[rW,h0,h2,h4,h6,h8,h11,h12,h13,g0,g1,hlt,hm,zfi,hx,hA2,atE,zh2,zjP,hxt,hT2,htu,qf,za5,zav,hd0,hd1,hd2,c0,c1,hw,hw2,zcY,zdL,zea,q24,zA9,zSc];refine zb6 (new:=exF X) (zbB hg ?_ fun id h1 h2'=> ?_) ?_ ?_ (by omega) ?_
      .omega
      .have i1:¬id=s.c+1+1+1+1+1+1+1+1+1+1+1+1+1+1:=by omega
       simp[rW,i1]
      .omega
      .omega
      .intro r hr1 hr2 hr3 hr4 hr5;refine⟨hr1,?_⟩;rw[<-zNS,<-htk]at hr2;have e0:=hr4 0 (by omega) (zcC hg (by omega));have e1:=hr4 1 (by omega) (zcC hg (by omega));have i0:¬0=s.c+1+1+1+1+1+1+1+1+1+1+1+1+1+1:=by omega
       have i1:¬1=s.c+1+1+1+1+1+1+1+1+1+1+1+1+1+1:=by omega
       simp[TG,i0,i1]at e0 e1;refine⟨hG.up ?_ ?_ ?_ ?_ ?_ ?_ ?_,⟨?_,?_,?_⟩,r.d,?_,?_⟩
       .simp[rW]<;>omega
       .simp[rW,e0]
       .simp[rW,e1]
       .simp[rW]
       .simp[rW]
       .simp[rW]
       .simp[rW]
       .simp[rW,h2]
       .simp[rW,h12]
       .simp[rW,hw]
       .simp[rW]
       .simp[rW];exact hr2
    .clear h0 h4 h6 h8 g0 g1 hlo hG h2 s;rintro s ⟨hG,⟨h2,h12,h13⟩,d,h11,hg⟩;rw[Z7]at hg;simp[rW,h12,h13,zfr];exact⟨rfl,by have:=hG.2;simp[rW]<;>omega,d,by simp[rW,h11],by simp[rW];exact hg⟩
    .rintro x s ⟨rfl,hc2,d,h11,hg⟩;simp[rW,h11];obtain⟨rd,hf⟩ :=zi3 (k:=11) hg (zNT _ 10 _) (by simp[exF]);simp[rW,hf];rfl
   .have hnl:n=c.as.length:=by omega
    subst hnl;have h43:=ans55 l c e hl hc (by omega);have q43:=fun k=>zad (k:=k) h43
    simp only[cqE,zde]at q43;rw[Z206];simp only[extend];cases hp:passes (zcJ l) c e with
    |true=>
     rw[hp]at q43;simp[rW,h0,h2,h4,h6,h8,g0,g1,zdr,zcY,zdL,zea,za5,zav,q43];rfl
    |false=>
     rw[hp]at q43;simp[rW,h0,h2,h4,h6,h8,g0,g1,zdr,zcY,zdL,zea,za5,zav,q43];rfl
def ans9(c:CQ):Ans pr 9 [.ag (cqF c)] (.ag [.nils,qsF [c]]):=by
 refine zbN fn9 ?_;simp only[g9,rU];simp[rW,st0,zal,cqE,zdL,zea];rfl
def ans8(l:List Rl)(c:CQ)(hl:zoK l)(hc:CqX c):Ans pr 8 [zcj l,.ag [.nils,qsF [c]]] (.b (holdsOne (zcJ l) c)):=by
 have h24:=ans23 l c hl hc c.as.length 0 [] (Z61 _) (by simp) (by simp);rw[Z34,show((0:Nat):Int)=0 from rfl]at h24;have hev:holdsOne (zcJ l) c= !(extend (zcJ l) c c.as []).isEmpty:=rfl;rw[hev];generalize extend (zcJ l) c c.as []=L at h24;refine zbN fn8 ?_;simp only[g8,rU];simp only[cqE,zde]at h24;have q24:=fun k=>zad (k:=k) h24
 have e0:zbh (([]:Env).map (·.1))= .nils:=rfl;have e1:valsF (([]:Env).map (·.2))= .nils:=rfl;rw[e0,e1]at q24;have hw0:IntKind.i64.wrap 1=1:=by decide
 have hq:qsF [c]= .sl 2 [[zdU c,zdq c]]:=rfl;cases L with
 |nil=>
  have ez:zbj (.f (zmX []))=some 0:=rfl;simp[rW,st0,zal,zcY,hq];refine round ?_;simp[rW,zcY,zdL,zea,q24,zA9,ez,hw0];refine round ?_;simp[rW]
 |cons e L=>
  have ez:=zNR (e::L);have hp:(0:Int)< ((e::L).length:Nat):=by simp only[Z23];omega
  simp[rW,st0,zal,zcY,hq];refine round ?_;simp[rW,zcY,zdL,zea,q24,zA9,ez,hp]
def fn117:pr.fn 117=some zBl:=by kernel_rfl
def fn75:pr.fn 75=some g75:=by kernel_rfl
def fn95:pr.fn 95=some g95:=by kernel_rfl
structure zkP(SS:Nat->List F->Prop)(PP:List F->Prop):Prop where
 z:∃p,SS 0 p/\Ans pr 42 [.i .i64 0] (.ag p)
 pc:∀k p,SS k p->Pc p
 pp:∀p,PP p->Pc p
 add:∀k s p,k<3->SS k s->PP p->∃r,SS (k+1) r/\Ans pr 169 [.ag s,.ag p] (.ag r)
 prob:∀k s,SS k s->∃b,Ans pr 116 [.ag s] (.b b)
 norm:∀p,PP p->Ans pr 47 [.ag p] (.ag p)
def ixF(b:List Nat):F:= .sl 1 (b.map fun i=>[.i .i64 (i:Nat)])
def I73(SS:Nat->List F->Prop)(r:Rl)(b:List Nat)(k:Nat)(s:St):Prop:=
 ∃n:Nat,n<=b.length/\k=b.length - n/\s.tm.get 1=some (.f (ixF b))/\s.tm.get 2=some (.ptr 0 4 0 0)/\s.tm.get 4=some (.ptr 1 3 0 0)/\s.tm.get 5=some (.ptr 2 3 0 0)/\s.tm.get 6=some (.f (.i .i64 n))/\
  s.h.get 0=some (.arr 4 0 [[.f (.s r.nm),.f (.b r.ce),.f r.co,.f (slc 4 (r.tu.map tuF))]])/\s.h.get 1=some (.arr 3 0 [[.f (.b false),.f .nils,.f .nils]])/\3<=s.c/\
  ∃p0 p1 p2:F,SS n [p0,p1,p2]/\s.h.get 2=some (.arr 3 0 [[.f p0,.f p1,.f p2]])
def R73(SS:Nat->List F->Prop)(b:List Nat)(x:Ex)(s:St):Prop:=
 x= .exit 0/\s.tm.get 4=some (.ptr 1 3 0 0)/\s.tm.get 5=some (.ptr 2 3 0 0)/\s.h.get 1=some (.arr 3 0 [[.f (.b false),.f .nils,.f .nils]])/\3<=s.c/\∃p0 p1 p2:F,SS b.length [p0,p1,p2]/\s.h.get 2=some (.arr 3 0 [[.f p0,.f p1,.f p2]])
theorem zRu{SS:Nat->List F->Prop}{PP:List F->Prop}(hS:zkP SS PP)(r:Rl)(hco:r.co.d= .f r.co)(hce:(D.f r.co).cells=some [.f r.co])(hT:∀t∈r.tu,PP t.2)(b:List Nat)(hb:b.length<=3)(hbi:∀i∈b,i<r.tu.length):
  ∃p,SS b.length p/\Ans pr 117 [.ag (rlF r),ixF b] (.ag p):=by
 have main:∃y,(∃p,y= .ag p/\SS b.length p)/\Ans pr 117 [.ag (rlF r),ixF b] y:=by
  refine zdR fn117 ?_;obtain⟨z,hz0,hz⟩ :=hS.z;obtain⟨z0,z1,z2,rfl,hd0,hd1,hd2⟩ :=hS.pc _ _ hz0;have q16:=fun k=>zad (k:=k) hz
  simp only[zBl,rU];simp -implicitDefEqProofs [rR,st0,zal,rlF,ixF,hco,q16,hd0,hd1,hd2];refine zbS (I73 SS r b) (R73 SS b) ?_ b.length _ ⟨0,Z61 _,rfl,?_,?_,?_,?_,?_,?_,?_,?_,z0,z1,z2,hz0,?_⟩ ?_
  any_goals (simp -implicitDefEqProofs [rR,zal,ixF];done)
  .rintro k s ⟨n,hn,rfl,h1,h2,h4,h5,h6,g0,g1,hc,p0,p1,p2,hp,g2⟩;have hw:=zaB n (by omega);have c0:0<s.c:=by omega
   have c1:1<s.c:=by omega
   have c2:2<s.c:=by omega
   by_cases hlt:n<b.length
   .have hix:=hbi _ (Z1 hlt);have hpt:=hT _ (Z1 hix);obtain⟨x0,x1,x2,hx,_,_,_⟩ :=hS.pp _ hpt;have htu:tuF (r.tu[b[n]])=[valsF (r.tu[b[n]]).1,x0,x1,x2]:=by unfold tuF;rw[hx]
    obtain⟨w,hw1,hw2⟩ :=hS.add n _ _ (by omega) hp hpt;obtain⟨w0,w1,w2,rfl,he0,he1,he2⟩ :=hS.pc _ _ hw1;rw[hx]at hw2;have q113:=fun k=>zad (k:=k) hw2
    simp only[ixF]at h1;simp -implicitDefEqProofs [rR,h1,h2,h4,h5,h6,g0,g1,g2,hlt];refine zaq ?_;simp -implicitDefEqProofs [rR,h1,h2,h4,h5,h6,g0,g1,g2,hlt,hix,htu,q113,he0,he1,he2,c0,c1,c2,hw];rw[za1];refine⟨b.length - (n+1),by omega,n+1,by omega,rfl,?_,?_,?_,?_,?_,?_,?_,?_,w0,w1,w2,hw1,?_⟩
    all_goals simp -implicitDefEqProofs [rR,h1,h2,h4,h5,h6,g0,g1,g2,ixF,c0,c1,c2,hc]
   .have hnl:n=b.length:=by omega
    subst hnl;simp only[ixF]at h1;simp -implicitDefEqProofs [rR,h1,h6];exact⟨rfl,by simp -implicitDefEqProofs [rR,h4],by simp -implicitDefEqProofs [rR,h5],by simp -implicitDefEqProofs [rR,g1],by simp -implicitDefEqProofs [rR,hc],p0,p1,p2,hp,by simp -implicitDefEqProofs [rR,g2]⟩
  .rintro x s ⟨rfl,h4,h5,g1,hc,p0,p1,p2,hp,g2⟩;have c1:1<s.c:=by omega
   simp -implicitDefEqProofs [rR,h4,h5,g1,g2,c1];exact hp
 obtain⟨y,⟨p,rfl,hp⟩,ha⟩ :=main;exact⟨p,hp,ha⟩
def zfW(B:List (List Nat)):F:=slc 1 (B.map fun b=>[ixF b])
structure zd7(SS:Nat->List F->Prop)(PP:List F->Prop)(r:Rl):Prop where
 co:r.co.d= .f r.co
 cc:(D.f r.co).cells=some [.f r.co]
 v:Ans pr 114 [.ag [.s r.nm,.b r.ce,r.co]] (.b true)
 n:r.tu.length<=3
 p:∀t∈r.tu,PP t.2
 c:∀t∈r.tu,∃e,Ans pr 94 [.ag [.s r.nm,.b r.ce,r.co],.ag (tuF t)] (.i .i64 e)
 l:∀t∈r.tu,t.1.length<10
 g:∃B:List (List Nat),Ans pr 115 [.ag (rlF r)] (zfW B)/\B.length<=3/\∀b∈B,b.length<=3/\∀i∈b,i<r.tu.length
 gc:r.ce=true->Ans pr 115 [.ag (rlF r)] .nils
abbrev V2(r:Rl)(s:St):Prop:=s.tm.get 1=some (.ptr 0 4 0 0)/\s.h.get 0=some (.arr 4 0 [[.f (.s r.nm),.f (.b r.ce),.f r.co,.f (slc 4 (r.tu.map tuF))]])/\1<=s.c
def I34(r:Rl)(k:Nat)(s:St):Prop:=∃n:Nat,n<=r.tu.length/\k=r.tu.length - n/\V2 r s/\s.tm.get 3=some (.f (.i .i64 n))
def R34(r:Rl)(x:Ex)(s:St):Prop:=(x= .exit 0/\V2 r s)\/(x= .ret/\∃e,s.tm.get 2=some (.f (.i .i64 e)))
def J34(r:Rl)(B:List (List Nat))(k:Nat)(s:St):Prop:=∃n:Nat,n<=B.length/\k=B.length - n/\V2 r s/\s.tm.get 6=some (.f (zfW B))/\s.tm.get 7=some (.f (.i .i64 n))
def S34(r:Rl)(B:List (List Nat))(x:Ex)(s:St):Prop:=x= .exit 3/\V2 r s/\s.tm.get 6=some (.f (zfW B))
def K34(r:Rl)(B:List (List Nat))(k:Nat)(s:St):Prop:=∃n:Nat,n<=B.length/\k=B.length - n/\V2 r s/\s.tm.get 6=some (.f (zfW B))/\s.tm.get 8=some (.f (.i .i64 n))
def T34(x:Ex)(s:St):Prop:=x= .exit 5\/(x= .ret/\∃e,s.tm.get 2=some (.f (.i .i64 e)))
def zHR(b:List Nat):(ixF b).d= .f (ixF b):=rfl
def zw2(b:List Nat):zbj (.f (ixF b))=some b.length:=by simp[ixF,zbj]
def zAS(B:List (List Nat)):(zfW B).d= .f (zfW B):=zeI ..
def zfA(B:List (List Nat)):zbj (.f (zfW B))=some B.length:=by simp[zfW,zdp]
def zkV(B:List (List Nat))(n:Nat):iaB 1 (.f (zfW B)) n=(B[n]?).map fun b=>D.fptr [ixF b]:=by simp[zfW,zd6,Z67]
def IsInt(y:F):Prop:=∃e,y= .i .i64 e
def zhD{SS:Nat->List F->Prop}{PP:List F->Prop}(hS:zkP SS PP)(r:Rl)(hr:zd7 SS PP r):∃e,Ans pr 75 [.ag (rlF r)] (.i .i64 e):=by
 have main:∃y,IsInt y/\Ans pr 75 [.ag (rlF r)] y:=by
  refine zdR fn75 ?_;obtain⟨B,hB,hBn,hBb⟩ :=hr.g;have hnT:=hr.n;have hco:=hr.co;have q70:=fun k=>zad (k:=k) hr.v
  simp only[rlF]at hB;have q71:=fun k=>zad (k:=k) hB
  have h64:¬((64:Int)< (r.tu.length:Int)):=by omega
  simp only[g75,rU];simp -implicitDefEqProofs [rR,st0,zal,rlF,hco,q70,h64];refine zbS (I34 r) (R34 r) ?_ r.tu.length _ ⟨0,Z61 _,rfl,⟨?_,?_,?_⟩,?_⟩ ?_
  any_goals (simp -implicitDefEqProofs [rR,zal];done)
  .rintro k s ⟨n,hn,rfl,⟨h1,g0,hc⟩,h3⟩;have hw:=zaB n (by omega);have c0:0<s.c:=by omega
   by_cases hlt:n<r.tu.length
   .obtain⟨e,he⟩ :=hr.c _ (Z1 hlt);obtain⟨x0,x1,x2,hx,hd0,hd1,hd2⟩ :=hS.pp _ (hr.p _ (Z1 hlt));have htu:tuF (r.tu[n])=[valsF (r.tu[n]).1,x0,x1,x2]:=by unfold tuF;rw[hx]
    rw[htu]at he;have q44:=fun k=>zad (k:=k) he
    by_cases he0:e=0
    .subst he0;cases n with
     |zero=>
      have hw01:IntKind.i64.wrap 1=1:=by decide
      simp -implicitDefEqProofs [rR,h1,g0,h3,hlt];refine zaq ?_;simp -implicitDefEqProofs [rR,h1,g0,h3,hlt,htu,hco,zav,hd0,hd1,hd2,q44,hw01];rw[za1];refine⟨r.tu.length - 1,by omega,1,by omega,rfl,⟨?_,?_,?_⟩,?_⟩
      all_goals simp -implicitDefEqProofs [rR,h1,g0,hc]
     |succ m=>
      have hwm:IntKind.i64.wrap (m:Int)=(m:Int):=wrap_i64 _ (by omega) (by omega);have hwm2:IntKind.i64.wrap ((m:Int)+1+1)=((m+2:Nat):Int):=wrap_i64 _ (by omega) (by omega);have hltI:(m:Int)+1<r.tu.length:=by omega
      have hltm:m<r.tu.length:=by omega
      have hne0:¬((m:Int)+1=0):=by omega
      have hp0:(0:Int)<=(m:Int)+1:=by omega
      have h25:=zpR (r.tu[m]).1 (r.tu[m+1]).1 (by have:=hr.l _ (Z1 hltm);omega);obtain⟨y0,y1,y2,hy,_,_,_⟩ :=hS.pp _ (hr.p _ (Z1 hltm));have htum:tuF (r.tu[m])=[valsF (r.tu[m]).1,y0,y1,y2]:=by unfold tuF;rw[hy]
      have q46:=fun k=>zad (k:=k) h25
      obtain⟨z,hz⟩ :∃z,z=cmpL (r.tu[m]).1 (r.tu[m+1]).1:=⟨_,rfl⟩
      rw[<-hz]at q46
      by_cases k0:z=0
      .simp -implicitDefEqProofs [rR,h1,g0,h3,hltI];refine zaq ?_;simp -implicitDefEqProofs [rR,h1,g0,h3,hlt,hltI,hltm,hp0,htu,htum,hco,zav,hd0,hd1,hd2,q44,hne0];refine zaq ?_;simp -implicitDefEqProofs [rR,h1,g0,h3,hlt,hltI,hltm,hp0,htu,htum,hco,zav,hd0,hd1,hd2,hwm,q46,k0];exact .inr ⟨rfl,8,by simp -implicitDefEqProofs [rR,h1]⟩
      .by_cases k1:0<z
       .simp -implicitDefEqProofs [rR,h1,g0,h3,hltI];refine zaq ?_;simp -implicitDefEqProofs [rR,h1,g0,h3,hlt,hltI,hltm,hp0,htu,htum,hco,zav,hd0,hd1,hd2,q44,hne0];refine zaq ?_;simp -implicitDefEqProofs [rR,h1,g0,h3,hlt,hltI,hltm,hp0,htu,htum,hco,zav,hd0,hd1,hd2,hwm,q46,k0,k1];exact .inr ⟨rfl,1,by simp -implicitDefEqProofs [rR,h1]⟩
       .simp -implicitDefEqProofs [rR,h1,g0,h3,hltI];refine zaq ?_;simp -implicitDefEqProofs [rR,h1,g0,h3,hlt,hltI,hltm,hp0,htu,htum,hco,zav,hd0,hd1,hd2,q44,hne0];refine zaq ?_;simp -implicitDefEqProofs [rR,h1,g0,h3,hlt,hltI,hltm,hp0,htu,htum,hco,zav,hd0,hd1,hd2,hwm,q46,k0,k1,hwm2];rw[za1];refine⟨r.tu.length - (m+2),by omega,m+2,by omega,rfl,⟨?_,?_,?_⟩,?_⟩
        all_goals simp -implicitDefEqProofs [rR,h1,g0,hc]
        all_goals omega
    .simp -implicitDefEqProofs [rR,h1,g0,h3,hlt];refine zaq ?_;simp -implicitDefEqProofs [rR,h1,g0,h3,hlt,htu,hco,zav,hd0,hd1,hd2,q44,he0];exact .inr ⟨rfl,e,by simp -implicitDefEqProofs [rR,h1]⟩
   .simp -implicitDefEqProofs [rR,h1,g0,h3,hlt];exact .inl ⟨rfl,by simp -implicitDefEqProofs [rR,h1],by simp -implicitDefEqProofs [rR,g0],by simp -implicitDefEqProofs [rR,hc]⟩
  .rintro x s (⟨rfl,h1,g0,hc⟩ |⟨rfl,e,h2⟩)
   .have c0:0<s.c:=by omega
    simp -implicitDefEqProofs [rR,h1,g0,hco,q71,zAS];refine zbS (J34 r B) (S34 r B) ?_ B.length _ ⟨0,Z61 _,rfl,⟨?_,?_,?_⟩,?_,?_⟩ ?_
    any_goals (simp -implicitDefEqProofs [rR,h1,g0,hc];done)
    .rintro k s ⟨n,hn,rfl,⟨h1,g0,hc⟩,h6,h7⟩;have hw:=zaB n (by omega)
     by_cases hlt:n<B.length
     .have hbl:=(hBb _ (Z1 hlt)).1;have h16:¬((16:Int)< ((B[n]).length:Int)):=by omega
      simp -implicitDefEqProofs [rR,h1,g0,h6,h7,hlt,zfA,zkV,zw2,zHR,h16,hw];rw[za1];refine⟨B.length - (n+1),by omega,n+1,by omega,rfl,⟨?_,?_,?_⟩,?_,?_⟩
      all_goals simp -implicitDefEqProofs [rR,h1,g0,hc,h6]
     .simp -implicitDefEqProofs [rR,h1,g0,h6,h7,hlt,zfA];exact⟨rfl,⟨by simp -implicitDefEqProofs [rR,h1],by simp -implicitDefEqProofs [rR,g0],by simp -implicitDefEqProofs [rR,hc]⟩,by simp -implicitDefEqProofs [rR,h6]⟩
    .rintro x s ⟨rfl,⟨h1,g0,hc⟩,h6⟩;simp -implicitDefEqProofs [rR,h1,g0,h6];refine zbS (K34 r B) T34 ?_ B.length _ ⟨0,Z61 _,rfl,⟨?_,?_,?_⟩,?_,?_⟩ ?_
     any_goals (simp -implicitDefEqProofs [rR,h1,g0,hc,h6];done)
     .rintro k s ⟨n,hn,rfl,⟨h1,g0,hc⟩,h6,h8⟩;have hw:=zaB n (by omega);have c0:0<s.c:=by omega
      by_cases hlt:n<B.length
      .obtain⟨hbl,hbi⟩ :=hBb _ (Z1 hlt);obtain⟨p,hp,h73⟩ :=zRu hS r hr.co hr.cc hr.p (B[n]) hbl hbi;obtain⟨b,h72⟩ :=hS.prob _ _ hp;obtain⟨w0,w1,w2,rfl,he0,he1,he2⟩ :=hS.pc _ _ hp;simp only[rlF]at h73;have q73:=fun k=>zad (k:=k) h73
       have q72:=fun k=>zad (k:=k) h72
       cases b with
       |true=>
        simp -implicitDefEqProofs [rR,h1,g0,h6,h8,hlt,zfA];refine zaq ?_;simp -implicitDefEqProofs [rR,h1,g0,h6,h8,hlt,zkV,zHR,hco,q73,q72,he0,he1,he2,hw,c0];rw[za1];refine⟨B.length - (n+1),by omega,n+1,by omega,rfl,⟨?_,?_,?_⟩,?_,?_⟩
        all_goals simp -implicitDefEqProofs [rR,h1,g0,hc,h6]
       |false=>
        simp -implicitDefEqProofs [rR,h1,g0,h6,h8,hlt,zfA];refine zaq ?_;simp -implicitDefEqProofs [rR,h1,g0,h6,h8,hlt,zkV,zHR,hco,q73,q72,he0,he1,he2,hw,c0];exact .inr ⟨rfl,19,by simp -implicitDefEqProofs [rR,h1]⟩
      .simp -implicitDefEqProofs [rR,h1,g0,h6,h8,hlt,zfA];exact .inl rfl
     .rintro x s (rfl|⟨rfl,e,h2⟩)
      .simp -implicitDefEqProofs [rR,h1];exact⟨_,rfl⟩
      .simp -implicitDefEqProofs [rR,h2];exact⟨_,rfl⟩
   .simp -implicitDefEqProofs [rR,h2];exact⟨e,rfl⟩
 obtain⟨y,⟨e,rfl⟩,ha⟩ :=main;exact⟨e,ha⟩
end Go.Proofs.YtkcnnkncapiohaaGreatDoor
end
