/- apart. -/
import Derived.Test.YtkcnnkncapiohaaGreatDoorPf
import Derived.KernelRfl
import Derived.IntWalk
import Derived.Test.YtkcnnkncapiohaaGreatDoorPc
set_option linter.all false
set_option maxRecDepth 100000
set_option maxHeartbeats 4000000
section
namespace Go.Proofs.YtkcnnkncapiohaaGreatDoor
open Go Go.Vse Go.Vse.Sm
def fn14:pr.fn 14=some g14:=by kernel_rfl
theorem eff14{h:T Ob}{lo c0:Nat}{dA1 dC1 dA dC:D}{A q:CQ}{hd:List Str}{xs:List Nat}(hlo:lo<=c0)(hr:RdQ h c0 dA1 dC1 A)(hA:CqSm A)(hq:CqSm q)(hh:HQx h lo c0 dA dC q.as q xs)(hF:dA.isF=false)
  (hU:(vrs A).length+(vrs q).length+hd.length+(vrs q).length<98)(hxl:∀x∈vrs q,x.length<1000):
  Eff pr 14 [.ag [dA1,dC1],.ag [dA,dC],.f (zbh hd)] h c0 fun d h' c'=>d= .ag [dA,dC]/\Frm h h' lo/\HQx h' lo c0 dA dC (q.as.map (rnA (apN (vrs A) (vrs q) hd))) ⟨q.as,q.cs.map (rnK (apN (vrs A) (vrs q) hd)),q.ne,q.na⟩ xs:=by
 refine zfZ zfM fn14 ?_;simp only[g14,rU];have hrb:=zE4 hh;have hfr:∀o1 o2 o3 o4,Frm h ((((h.set c0 o1).set (c0+1) o2).set (c0+1+1) o3).set (c0+1+1+1) o4) c0:=fun o1 o2 o3 o4 x hx=>by
  have n1:¬x=c0:=by omega
  have n2:¬x=c0+1:=by omega
  have n3:¬x=c0+1+1:=by omega
  have n4:¬x=c0+1+1+1:=by omega
  simp[TG,n1,n2,n3,n4]
 have m1:¬(c0=c0+1+1+1):=by omega
 have m2:¬(c0+1=c0+1+1+1):=by omega
 have m3:¬(c0=c0+1+1):=by omega
 have m4:¬(c0=c0+1):=by omega
 simp[rW,st0,zal,hr.ca,hr.cc,hrb.ca,hrb.cc,m1,m2,m3,m4];refine zez rfl rfl (zKp A hA ?_) ?_
 .refine hr.up (hfr _ _ _ _) ?_;simp only[rG];omega
 rintro dV h' c' lw mx ⟨hf,hg⟩ hcc;simp only[rG]at hf hg hcc;have hf0:Frm h h' c0:=zju (hfr _ _ _ _) hf (by omega);have e1:=hf (c0+1) (by omega);have e2:=hf (c0+1+1) (by omega);have e3:=hf (c0+1+1+1) (by omega);simp[TG]at e1 e2 e3;obtain⟨P,hP⟩ :∃P,P=c0+1:=⟨_,rfl⟩
 obtain⟨R,hR⟩ :∃R,R=c0+1+1:=⟨_,rfl⟩
 obtain⟨M,hM⟩ :∃M,M=c0+1+1+1:=⟨_,rfl⟩
 have hlen:=zfD hg;have hRd:dA.cells=some [dA]/\dC.cells=some [dC]:=⟨hrb.ca,hrb.cc⟩
 simp[rW,hlen];rw[<-hP]at e1;rw[<-hR]at e2;rw[<-hM]at e3;refine zgd (vrs A) zcz [] (fun n a s=>APS h' c0 P R M hd dA dC a s/\Gro s.h (M+1) c' 1 dV (zaQ (vrs A))/\(s.tm.get 30=some (dV)/\s.tm.get 31=some (.f (.i .i64 (vrs A).length))/\s.tm.get 32=some (.f (.i .i64 n)))) (fun e s=>e= .exit 0/\APS h' c0 P R M hd dA dC ((vrs A).foldl zcz []) s) ?_ ?_ _ ?_ ?_
 .clear hlen;rintro n a s hn - ⟨⟨⟨h2,h4,h6,h7,gP,gR,gM⟩,hf,hMc⟩,hg,⟨h30,h31,h32⟩⟩;have hw:=zaB n (by omega);have nPM:¬(P=M):=by omega
  have nRM:¬(R=M):=by omega
  obtain⟨X,r0,hi,gX,hX1,hX2⟩ :=zhP hg (n:=n) (by rw[zaW];exact hn);have ht:(zaQ (vrs A))[n]? =some [.f (.s (vrs A)[n])]:=by simp[zaQ,hn]
  have hnt:n< (zaQ (vrs A)).length:=by rw[zaW];exact hn
  have ht2:∀h:n< (zaQ (vrs A)).length,(zaQ (vrs A))[n]=[.f (.s (vrs A)[n])]:=fun h=>by
   rw[Z0 h]at ht;exact Z53 ht
  generalize (vrs A)[n]=x at ht ht2|-;simp[rW,h2,h4,h6,h7,gP,gR,gM,h30,h31,h32,hn,hi,gX,ht,ht2,hnt,zDl,hw,hMc];refine⟨⟨?_,fun z hz=> ?_,?_⟩,?_⟩
  .simp[rW,h2,h4,h6,h7,gP,gR,gM,nPM,nRM]
  .have z1:¬z=M:=by omega
   simp[rW,z1];exact hf z hz
  .simp[rW,hMc]
  .refine zbB hg (Z2 _) fun z hz1 hz2=> ?_
   have z1:¬z=M:=by omega
   simp[rW,z1]
 .rintro s ⟨⟨⟨h2,h4,h6,h7,gP,gR,gM⟩,hf,hMc⟩,hg,⟨h30,h31,h32⟩⟩;simp[rW,h30,h31,h32];refine⟨?_,hf,hMc⟩;simp[rW,h2,h4,h6,h7,gP,gR,gM]
 .refine⟨⟨?_,?_,?_⟩,?_,?_⟩
  .simp[rW,e1,e2,e3,<-hP,<-hR,<-hM];exact⟨by omega,by omega,rfl⟩
  .simp[rW];exact fun _ _=>rfl
  .simp[rW];omega
  .simp[rW];exact zk3 hg (by omega)
  .simp[rW]
 rintro e s ⟨rfl,a1⟩;rw[zk5,Z51 rfl,znH];have hal:=zgR (vrs A) [];simp only[Z170,Z25]at hal;refine r25 (h0:=h') (lo:=lo) (c0:=c0) (P:=P) (R:=R) (M:=M) (by omega) hq (by omega) hxl s a1 (hh.up hf0) ?_;rintro s N2 hN h6 gR hf6 hQ hRc;have hN2:N2=apN (vrs A) (vrs q) hd:=hN;rw[<-hN2];simp[rW,h6,gR,hrb.ca,hrb.cc,zd0,hF];exact⟨zju (fun z hz=>hf0 z (by omega)) hf6 (Z2 _),hQ⟩
structure CqM(n:Nat)(c:CQ):Prop where
 al:∀a∈c.as,zb2 a/\a.ts.length<=2/\a.ts≠[]
 cs:∀k∈c.cs,zb8 k
 la:c.as.length<=3*n
 lc:c.cs.length<=n
structure CqN(n:Nat)(c:CQ):Prop where
 al:∀a∈c.as,zb2 a/\a.ts.length<=2/\a.ts≠[]
 cs:∀k∈c.cs,zb8 k
 la:c.as.length<=3*n
 lc:c.cs.length<=n
 ne:c.as≠[]
 vl:∀x∈vrs c,x.length<1000
def CqN.m{n:Nat}{c:CQ}(h:CqN n c):CqM n c:=⟨h.al,h.cs,h.la,h.lc⟩
def CqM.g{n:Nat}{c:CQ}(h:CqM n c)(hn:n<=4):CqG c:=
 ⟨⟨⟨fun a ha=>(h.al a ha).1,h.cs,by have:=h.la;omega,by have:=h.lc;omega⟩,by have:=h.la;omega,fun a ha=>by have:=(h.al a ha).2.1;omega,by have:=h.lc;omega,fun a ha=>(h.al a ha).2.1⟩,fun a ha=>(h.al a ha).2.2⟩
def zx7{n:Nat}{c:CQ}(h:CqM n c):(vrs c).length<=8*n:=by
 have h1:=zj2 (tsC c) [];have h2:zdi [] (tsC c)=vrs c:=zrF c;have h3:=zix (·.ts) 2 c.as fun a ha=>(h.al a ha).2.1
 have h4:=zix ts2 2 c.cs (by simp[ts2]);rw[h2]at h1;have:=h.la;have:=h.lc;simp only[tsC,tsA,Z16,Z170]at h1;omega
def NmF(N:Nms):Prop:=∀x y,lkS x N=some y->y≠[]
theorem zLH(A hd:List Str):∀(B:List Str) (N:Nms) (x y:Str),lkS x (B.foldl (kyS A hd) N)=some y->(∃z,lkS x N=some z)\/x∈B
 |[],N,x,y,h=> .inl ⟨y,h⟩
 |b::B,N,x,y,h=>by
  rw[Z42]at h;rcases zLH A hd B _ x y h with⟨z,hz⟩ |hm
  .unfold kyS at hz;split at hz
   .by_cases e:x=b
    .exact .inr (by rw[e];simp)
    .rw[zgt e]at hz;exact .inl ⟨z,hz⟩
   .exact .inl ⟨z,hz⟩
  .exact .inr (by simp[hm])
theorem zJv:∀(B:List Str) (st:List Str×Nms),(∀x y,lkS x st.2=some y->y≠[]\/x∈B)->NmF (B.foldl apS st).2
 |[],st,h,x,y,hxy=>by rcases h x y hxy with h|h;exact h;simp at h
 |b::B,st,h,x,y,hxy=>by
  rw[Z42]at hxy;refine zJv B (apS st b) (fun u w huw=> ?_) x y hxy;unfold apS at huw;split at huw
  .by_cases e:u=b
   .subst e;simp only[ziB,Z45]at huw;exact .inl (by rw[<-huw];exact zSB _ _)
   .simp only[zgt e]at huw;rcases h u w huw with h|h
    .exact .inl h
    .exact .inr (by simpa [e]using h)
  .rename_i hk;rcases h u w huw with h|h
   .exact .inl h
   .rcases Z5.1 h with rfl|h
    .rw[huw]at hk;simp at hk
    .exact .inr h
def zwd(A B hd:List Str):NmF (apN A B hd):=by
 refine zJv B _ fun x y h=> ?_
 rcases zLH _ _ _ _ _ _ h with⟨z,hz⟩ |hm
 .simp[lkS]at hz
 .exact .inr hm
def znw{N:Nms}(hN:NmF N){t:Trm}(ht:zaO t):zaO (rnT N t):=by
 cases t with
 |var s=>
  show rnV N s≠[];unfold rnV;have hs:s≠[]:=ht;rw[Z49 hs];cases h:lkS s N with
  |none=>exact hs
  |some y=>exact hN s y h
 |cst n=>exact ht
def zSQ{N:Nms}(hN:NmF N){a:Atm}(ha:zb2 a/\a.ts.length<=2/\a.ts≠[]):zb2 (rnA N a)/\(rnA N a).ts.length<=2/\(rnA N a).ts≠[]:=by
 refine⟨⟨fun t ht=> ?_,by simpa [rnA]using ha.1.2⟩,by simpa [rnA]using ha.2.1,by simpa [rnA]using ha.2.2⟩;obtain⟨u,hu,rfl⟩ :=Z12.1 ht;exact znw hN (ha.1.1 u hu)
def cjS(hd:List Str)(acc c:CQ):CQ:=⟨acc.as++c.as.map (rnA (apN (vrs acc) (vrs c) hd)),acc.cs++c.cs.map (rnK (apN (vrs acc) (vrs c) hd)),false,false⟩
def cj0:CQ:=⟨[],[],false,false⟩
def zev(hd:List Str)(l:List CQ):CQ:=l.foldl (cjS hd) cj0
def zJV{n:Nat}{hd:List Str}{acc c:CQ}(h1:CqM n acc)(h2:CqN 1 c):CqM (n+1) (cjS hd acc c):=by
 have hN:=zwd (vrs acc) (vrs c) hd;refine⟨fun a ha=> ?_,fun k hk=> ?_,?_,?_⟩
 .rcases Z4.1 ha with h|h
  .exact h1.al a h
  .obtain⟨b,hb,rfl⟩ :=Z12.1 h;exact zSQ hN (h2.al b hb)
 .rcases Z4.1 hk with h|h
  .exact h1.cs k h
  .obtain⟨b,hb,rfl⟩ :=Z12.1 h;exact⟨znw hN (h2.cs b hb).1,znw hN (h2.cs b hb).2⟩
 .have:=h1.la;have:=h2.la;simp[cjS];omega
 .have:=h1.lc;have:=h2.lc;simp[cjS];omega
theorem zEr{hd:List Str}:∀{l:List CQ} {n:Nat} {acc:CQ},CqM n acc->(∀c∈l,CqN 1 c)->CqM (n+l.length) (l.foldl (cjS hd) acc)
 |[],n,acc,h,_=>h
 |c::l,n,acc,h,hl=>by
  have:=zEr (hd:=hd) (l:=l) (zJV (hd:=hd) h (hl c (by simp))) fun d hdm=>hl d (by simp[hdm])
  rw[Z42,Z23,show n+(l.length+1)=n+1+l.length by omega];exact this
def zJU:CqM 0 cj0:=⟨by simp[cj0],by simp[cj0],by simp[cj0],by simp[cj0]⟩
def zEo{hd:List Str}{l:List CQ}(hl:∀c∈l,CqN 1 c):CqM l.length (zev hd l):=by
 have:=zEr (hd:=hd) zJU hl;rw[Z25]at this;exact this
def evT(σ:Str->Int):Trm->Int
 | .cst n=>n
 | .var s=>σ s
def Agr(e:Env)(σ:Str->Int):Prop:=∀s v,lk e s=some v->σ s=v
def zjc(l:zhA)(c:CQ):Prop:=∃σ:Str->Int,(∀a∈c.as,a.neg=false->a.ts.map (evT σ)∈zlO l a.r)/\(∀k∈c.cs,zwx k.op (evT σ k.l) (evT σ k.r)=true)/\∀a∈c.as,a.neg=true->a.ts.map (evT σ)∉zlO l a.r
def Safe(c:CQ):Prop:=(∀k∈c.cs,∀x,(k.l= .var x\/k.r= .var x)->∃a∈c.as,a.neg=false/\Trm.var x∈a.ts)/\∀b∈c.as,b.neg=true->∀x,Trm.var x∈b.ts->∃a∈c.as,a.neg=false/\Trm.var x∈a.ts
def zzg{e:Env}{σ:Str->Int}{t:Trm}{v:Int}(h:Agr e σ)(hg:gtm e t=some v):evT σ t=v:=by
 cases t with
 |cst n=>exact Z53 hg
 |var s=>exact h s v hg
def zNp{e:Env}{σ:Str->Int}{t:Trm}{v:Int}(hb:(bnd e t v).2=true)(hA:Agr (bnd e t v).1 σ):Agr e σ/\evT σ t=v:=by
 unfold bnd at hb hA;cases hg:gtm e t with
 |some w=>
  simp only[hg]at hb hA;exact⟨hA,by rw[zzg hA hg];exact (of_decide_eq_true hb).symm⟩
 |none=>
  cases t with
  |cst n=>simp[gtm]at hg
  |var s=>
   simp only[hg]at hA;have hg':lk e s=none:=hg;refine⟨fun s' v' h'=>hA s' v' (by rw[zjA,h']),hA s v ?_⟩;rw[zjA,hg'];simp[lk]
def zNn{e:Env}{σ:Str->Int}{t:Trm}{v:Int}(hA:Agr e σ)(h:evT σ t=v):(bnd e t v).2=true/\Agr (bnd e t v).1 σ:=by
 unfold bnd;cases hg:gtm e t with
 |some w=>
  have:=zzg hA hg;exact⟨by simp only[];exact decide_eq_true (by rw[<-h,this]),hA⟩
 |none=>
  cases t with
  |cst n=>simp[gtm]at hg
  |var s=>
   refine⟨rfl,fun s' v' h'=> ?_⟩;have h':lk (e++[(s,v)]) s'=some v':=h';rw[zjA]at h';cases he:lk e s' with
   |some w=>
    rw[he]at h';cases h';exact hA s' _ he
   |none=>
    rw[he]at h';simp only[lk]at h'
    by_cases hs:s=s'
    .rw[Z51 hs]at h';cases h';rw[<-hs];exact h
    .rw[Z49 hs]at h';cases h'
theorem ztC{σ:Str->Int}:∀(ts:List Trm) (vs:List Int) (e:Env),ts.length=vs.length->(zcF e ts vs).2=true->Agr (zcF e ts vs).1 σ->Agr e σ/\ts.map (evT σ)=vs
 |[],[],e,_,_,hA=>⟨hA,rfl⟩
 |[],_::_,_,h,_,_=>by simp at h
 |_::_,[],_,h,_,_=>by simp at h
 |t::ts,v::vs,e,h,h2,hA=>by
  unfold zcF at h2 hA
  by_cases hb:(bnd e t v).2=true
  .rw[Z51 hb]at h2 hA;obtain⟨h3,h4⟩ :=ztC ts vs _ (by simpa using h) h2 hA;obtain⟨h5,h6⟩ :=zNp hb h3;exact⟨h5,by rw[Z10,h6,h4]⟩
  .rw[Z49 hb]at h2;exact absurd h2 hb
theorem ztB{σ:Str->Int}:∀(ts:List Trm) (vs:List Int) (e:Env),Agr e σ->ts.map (evT σ)=vs->(zcF e ts vs).2=true/\Agr (zcF e ts vs).1 σ
 |[],[],e,hA,_=>⟨rfl,hA⟩
 |[],_::_,_,_,h=>by simp at h
 |_::_,[],_,_,h=>by simp at h
 |t::ts,v::vs,e,hA,h=>by
  rw[Z10,List.cons.injEq]at h;obtain⟨h1,h2⟩ :=zNn hA h.1;unfold zcF;rw[Z51 h1];exact ztB ts vs _ h2 h.2
theorem zlB:∀(ts:List Trm) (vs:List Int) (e:Env),(∀x,Trm.var x∈ts->lk e x≠none)->(zcF e ts vs).1=e
 |[],_,e,_=>by simp[zcF]
 |t::ts,[],e,_=>by simp[zcF]
 |t::ts,v::vs,e,h=>by
  have hb:(bnd e t v).1=e:=by
   unfold bnd;cases hg:gtm e t with
   |some w=>rfl
   |none=>
    cases t with
    |cst n=>rfl
    |var s=>exact absurd hg (h s (by simp))
  unfold zcF;split
  .rw[hb];exact zlB ts vs e fun x hx=>h x (by simp[hx])
  .exact hb
def zOr{σ:Str->Int}{ts:List Trm}{vs:List Int}(h:ts.map (evT σ)=vs):ts.length=vs.length:=by rw[<-h,Z18]
def zwX{σ:Str->Int}{e:Env}{a:Atm}{vs:List Int}(h:(fits e a vs).2=true)(hA:Agr (fits e a vs).1 σ):Agr e σ/\a.ts.map (evT σ)=vs:=by
 unfold fits at h hA
 by_cases hl:a.ts.length=vs.length
 .rw[Z51 hl]at h hA;exact ztC _ _ _ hl h hA
 .rw[Z49 hl]at h;cases h
def zwW{σ:Str->Int}{e:Env}{a:Atm}{vs:List Int}(hA:Agr e σ)(h:a.ts.map (evT σ)=vs):(fits e a vs).2=true/\Agr (fits e a vs).1 σ:=by
 unfold fits;rw[Z51 (zOr h)];exact ztB _ _ _ hA h
def ztF{e:Env}{a:Atm}{vs:List Int}{x:Str}{v:Int}(h:lk e x=some v):lk (fits e a vs).1 x=some v:=by
 unfold fits;split
 .exact zqe h
 .exact h
def zql{e:Env}{a:Atm}{vs:List Int}{x:Str}(hx:Trm.var x∈a.ts)(h:(fits e a vs).2=true):lk (fits e a vs).1 x≠none:=by
 unfold fits at h|-
 by_cases hl:a.ts.length=vs.length
 .rw[Z51 hl]at h|-;exact zot _ _ _ hl hx h
 .rw[Z49 hl]at h;cases h
theorem zsO(l:zhA)(c:CQ):∀(asz:List Atm) (e e':Env),e'∈extend l c asz e->
  passes l c e'=true/\(∀s v,lk e s=some v->lk e' s=some v)/\(∀a∈asz,a.neg=false->(∀σ,Agr e' σ->a.ts.map (evT σ)∈zlO l a.r)/\∀x,Trm.var x∈a.ts->lk e' x≠none)
 |[],e,e',h=>by
  unfold extend at h;split at h
  .rename_i hp;rw[Z31.1 h];exact⟨hp,fun _ _ h=>h,by simp⟩
  .simp at h
 |a::asz,e,e',h=>by
  unfold extend at h
  by_cases hn:a.neg=true
  .rw[Z51 hn]at h;obtain⟨h1,h2,h3⟩ :=zsO l c asz e e' h;refine⟨h1,h2,fun b hb hbn=> ?_⟩;rcases Z5.1 hb with rfl|hb
   .rw[hn]at hbn;cases hbn
   .exact h3 b hb hbn
  .rw[Z49 hn]at h;obtain⟨vs,hvs,h⟩ :=Z38.1 h
   by_cases hf:(fits e a vs).2=true
   .rw[Z51 hf]at h;obtain⟨h1,h2,h3⟩ :=zsO l c asz _ e' h;refine⟨h1,fun s v hs=>h2 s v (ztF hs),fun b hb hbn=> ?_⟩;rcases Z5.1 hb with rfl|hb
    .refine⟨fun σ hA=> ?_,fun x hx=> ?_⟩
     .have hA2:Agr (fits e b vs).1 σ:=fun s v hs=>hA s v (h2 s v hs)
      rw[(zwX hf hA2).2];exact hvs
     .have:=zql hx hf;cases hk:lk (fits e b vs).1 x with
      |none=>exact absurd hk this
      |some v=>rw[h2 x v hk];simp
    .exact h3 b hb hbn
   .rw[Z49 hf]at h;simp at h
theorem zsM(l:zhA)(c:CQ)(σ:Str->Int):∀(asz:List Atm) (e:Env),Agr e σ->(∀a∈asz,a.neg=false->a.ts.map (evT σ)∈zlO l a.r)->
  (∀e',Agr e' σ->(∀x,lk e x≠none->lk e' x≠none)->(∀a∈asz,a.neg=false->∀x,Trm.var x∈a.ts->lk e' x≠none)->passes l c e'=true)->extend l c asz e≠[]
 |[],e,hA,_,hp=>by
  unfold extend;rw[Z51 (hp e hA (fun _ h=>h) (by simp))];simp
 |a::asz,e,hA,ht,hp=>by
  unfold extend
  by_cases hn:a.neg=true
  .rw[Z51 hn];refine zsM l c σ asz e hA (fun b hb=>ht b (by simp[hb])) fun e' h1 h2 h3=>hp e' h1 h2 fun b hb hbn=> ?_
   rcases Z5.1 hb with rfl|hb
   .rw[hn]at hbn;cases hbn
   .exact h3 b hb hbn
  .rw[Z49 hn];have hn':a.neg=false:=by simpa using hn
   have hm:=ht a (by simp) hn';obtain⟨h1,h2⟩ :=zwW (a:=a) hA rfl;have ih:=zsM l c σ asz (fits e a (a.ts.map (evT σ))).1 h2 (fun b hb=>ht b (by simp[hb])) fun e' k1 k2 k3=>hp e' k1 (fun x hx=>k2 x ?_) fun b hb hbn x hx=> ?_
   .intro h0;have:extend l c asz (fits e a (a.ts.map (evT σ))).1=[]:=by
     rw[List.flatMap_eq_nil_iff]at h0;have:=h0 _ hm
     rwa[Z51 h1]at this
    exact ih this
   .cases hk:lk e x with
    |none=>exact absurd hk hx
    |some v=>rw[ztF hk];simp
   .rcases Z5.1 hb with rfl|hb
    .exact k2 x (zql hx h1)
    .exact k3 b hb hbn x hx
def zkd{e:Env}{σ:Str->Int}{t:Trm}(hA:Agr e σ)(h:∀x,t= .var x->lk e x≠none):gtm e t=some (evT σ t):=by
 cases t with
 |cst n=>rfl
 |var s=>
  cases hk:lk e s with
  |none=>exact absurd hk (h s rfl)
  |some v=>
   show lk e s=some (σ s);rw[hk,hA s v hk]
def zm3(l:zhA)(c:CQ)(hs:Safe c):holdsOne l c=true↔zjc l c:=by
 have hne:holdsOne l c=true↔extend l c c.as []≠[]:=by
  unfold holdsOne;cases extend l c c.as []<;>simp
 rw[hne];constructor
 .intro h;obtain⟨e,he⟩ :=List.exists_mem_of_ne_nil _ h;obtain⟨h1,_,h3⟩ :=zsO l c c.as [] e he;have hA:Agr e fun s=>(lk e s).getD 0:=fun s v hs=>by simp[hs]
  unfold passes at h1;rw[Z14,Z50,Z50]at h1;refine⟨_,fun a ha hn=>(h3 a ha hn).1 _ hA,fun k hk=> ?_,fun a ha hn hm=> ?_⟩
  .have h2:=h1.1 k hk;unfold zgN at h2;rw[zkd hA fun x hx=> ?_,zkd hA fun x hx=> ?_]at h2
   .exact h2
   .obtain⟨a,ha,hn,hm⟩ :=hs.1 k hk x (.inr hx);exact (h3 a ha hn).2 x hm
   .obtain⟨a,ha,hn,hm⟩ :=hs.1 k hk x (.inl hx);exact (h3 a ha hn).2 x hm
  .have h2:=h1.2 a ha;unfold zhW at h2;rw[hn,Z89,Bool.false_or,Z50]at h2;have h4:=h2 _ hm;obtain⟨f1,_⟩ :=zwW (a:=a) hA rfl;have f2:(fits e a (a.ts.map (evT fun s=>(lk e s).getD 0))).1=e:=by
    unfold fits;rw[Z51 (by simp)];refine zlB _ _ _ fun x hx=> ?_
    obtain⟨b,hb,hbn,hbm⟩ :=hs.2 a ha hn x hx;exact (h3 b hb hbn).2 x hbm
   unfold hits at h4;rw[f1,f2]at h4;simp at h4
 .rintro⟨σ,h1,h2,h3⟩;refine zsM l c σ c.as [] (fun s v h=>by simp[lk]at h) h1 fun e hA _ hb=> ?_
  unfold passes;rw[Z14,Z50,Z50];refine⟨fun k hk=> ?_,fun a ha=> ?_⟩
  .unfold zgN;rw[zkd hA fun x hx=> ?_,zkd hA fun x hx=> ?_]
   .exact h2 k hk
   .obtain⟨a,ha,hn,hm⟩ :=hs.1 k hk x (.inr hx);exact hb a ha hn x hm
   .obtain⟨a,ha,hn,hm⟩ :=hs.1 k hk x (.inl hx);exact hb a ha hn x hm
  .unfold zhW;cases hn:a.neg with
   |false=>rfl
   |true=>
    rw[Z89,Bool.false_or,Z50];intro vs hvs;unfold hits;cases hf:(fits e a vs).2 with
    |false=>rfl
    |true=>
     have hsm:(fits e a vs).1=e:=by
      unfold fits;split
      .refine zlB _ _ _ fun x hx=> ?_
       obtain⟨b,hbm,hbn,hbx⟩ :=hs.2 a ha hn x hx;exact hb b hbm hbn x hbx
      .rfl
     have hm:=(zwX hf (by rw[hsm];exact hA)).2;rw[<-hm]at hvs;exact absurd hvs (h3 a ha hn)
def zlo{U:List Str}{x y:Str}:x∈zcz U y↔x∈U\/x=y:=by
 unfold zcz;split
 .rename_i h;exact⟨.inl,fun h2=>h2.elim id fun e=>e▸h⟩
 .simp
theorem zmA{x:Str}:∀{L U:List Str},x∈L.foldl zcz U↔x∈U\/x∈L
 |[],U=>by simp
 |y::L,U=>by
  rw[Z42,zmA (L:=L),zlo,Z5,or_assoc]
def zN1{U:List Str}{x:Str}(hU:U.length<98):nmx x (frs U x)∉U:=by
 unfold frs;cases h:(List.range' 1 99).find? fun n=>decide (nmx x n∉U)with
 |none=>
  rw[List.find?_eq_none]at h;have:=zKs (U:=U) (x:=x) (n:=100) hU fun m h1 h2=>by
   have:=h m (Z106.2 ⟨h1,by omega⟩);simpa using this
  omega
 |some n=>
  have:=List.find?_some h;simpa using this
theorem ky0(A:List Str)(x:Str):∀(B:List Str) (N:Nms),(x∈B/\x∈A->lkS x (B.foldl (kyS A []) N)=some [])/\(¬(x∈B/\x∈A)->lkS x (B.foldl (kyS A []) N)=lkS x N)
 |[],N=>⟨fun h=>by simp at h,fun _=>rfl⟩
 |b::B,N=>by
  rw[Z42];have ih:=ky0 A x B (kyS A [] N b)
  by_cases hx:x∈B/\x∈A
  .exact⟨fun _=>ih.1 hx,fun h=>absurd ⟨by simp[hx.1],hx.2⟩ h⟩
  .have h2:=ih.2 hx;constructor
   .rintro⟨h3,h4⟩;have e:x=b:=by
     rcases Z5.1 h3 with h|h
     .exact h
     .exact absurd ⟨h,h4⟩ hx
    rw[h2,<-e];unfold kyS;rw[Z51 ⟨h4,rfl⟩,ziB]
   .intro h3;rw[h2];unfold kyS;split
    .rename_i h4;rw[zgt];intro e;subst e;exact h3 ⟨by simp,h4.1⟩
    .rfl
structure ApI(A B done:List Str)(st:List Str×Nms):Prop where
 g1:∀x,x∈A\/x∈B->x∈st.1
 g2:∀x∈done,∀y,lkS x st.2=some y->y∈st.1/\y∉A/\y∉B
 g3:∀x∈done,∀z∈done,∀y,lkS x st.2=some y->lkS z st.2=some y->x=z
 g4:∀x,(lkS x st.2).isSome=true↔x∈B/\x∈A
theorem zwc{A B:List Str}:∀(R done:List Str) (st:List Str×Nms),ApI A B done st->R.Nodup->(∀x∈R,x∉done)->st.1.length+R.length<98->∃done',(∀x,x∈done'↔x∈done\/x∈R)/\ApI A B done' (R.foldl apS st)
 |[],done,st,H,_,_,_=>⟨done,by simp,H⟩
 |r::R,done,st,H,hn,hd,hl=>by
  rw[Z42];have hn2:=Z74.1 hn;have hrd:=hd r (by simp);have hl':st.1.length+(R.length+1)<98:=hl;have key:ApI A B (r::done) (apS st r)/\(apS st r).1.length<=st.1.length+1:=by
   unfold apS;split
   .rename_i hs;have hnew:=zN1 (U:=st.1) (x:=r) (by omega);generalize nmx r (frs st.1 r)=w at hnew|-;refine⟨⟨fun x hx=>zlo.2 (.inl (H.g1 x hx)),fun x hx y hy=> ?_,fun x hx z hz y h1 h2=> ?_,fun x=> ?_⟩,zoM _ _⟩
    .by_cases e:x=r
     .subst e;simp only[ziB,Z45]at hy;subst hy;exact⟨zlo.2 (.inr rfl),fun h=>hnew (H.g1 _ (.inl h)),fun h=>hnew (H.g1 _ (.inr h))⟩
     .simp only[zgt e]at hy;obtain⟨k1,k2,k3⟩ :=H.g2 x (by simpa [e]using hx) y hy;exact⟨zlo.2 (.inl k1),k2,k3⟩
    .by_cases e:x=r
     .by_cases e2:z=r
      .rw[e,e2]
      .subst e;simp only[ziB,Z45]at h1;simp only[zgt e2]at h2;subst h1;exact absurd (H.g2 z (by simpa [e2]using hz) _ h2).1 hnew
     .by_cases e2:z=r
      .subst e2;simp only[ziB,Z45]at h2;simp only[zgt e]at h1;subst h2;exact absurd (H.g2 x (by simpa [e]using hx) _ h1).1 hnew
      .simp only[zgt e]at h1;simp only[zgt e2]at h2;exact H.g3 x (by simpa [e]using hx) z (by simpa [e2]using hz) y h1 h2
    .by_cases e:x=r
     .subst e;simp only[ziB,Option.isSome_some,true_iff];exact (H.g4 x).1 hs
     .simp only[zgt e];exact H.g4 x
   .rename_i hs;refine⟨⟨H.g1,fun x hx y hy=> ?_,fun x hx z hz y h1 h2=> ?_,H.g4⟩,by omega⟩
    .rcases Z5.1 hx with rfl|hx
     .rw[hy]at hs;simp at hs
     .exact H.g2 x hx y hy
    .rcases Z5.1 hx with rfl|hx
     .rw[h1]at hs;simp at hs
     .rcases Z5.1 hz with rfl|hz
      .rw[h2]at hs;simp at hs
      .exact H.g3 x hx z hz y h1 h2
  obtain⟨d',h1,h2⟩ :=zwc R (r::done) (apS st r) key.1 hn2.2 (fun x hx hm=>by
   rcases Z5.1 hm with rfl|hm
   .exact hn2.1 hx
   .exact hd x (by simp[hx]) hm) (by have:=key.2;omega)
  refine⟨d',fun x=> ?_,h2⟩;rw[h1,Z5,Z5];constructor
  .rintro ((h|h)|h)
   .exact .inr (.inl h)
   .exact .inl h
   .exact .inr (.inr h)
  .rintro (h|h|h)
   .exact .inl (.inr h)
   .exact .inl (.inl h)
   .exact .inr h
def zyx{A B:List Str}(hB:B.Nodup)(hl:A.length+B.length+B.length<98):(∀v∈B,v≠[]->rnV (apN A B []) v∉A)/\∀u∈B,∀v∈B,u≠[]->v≠[]->rnV (apN A B []) u=rnV (apN A B []) v->u=v:=by
 have hk:=ky0 (A.foldl zcz []) (B:=B) (N:=[]);have hA:∀x,x∈A.foldl zcz []↔x∈A:=fun x=>by rw[zmA];simp
 have H0:ApI A B [] (B.foldl zcz (A.foldl zcz []),B.foldl (kyS (A.foldl zcz []) []) []):=by
  refine⟨fun x hx=> ?_,by simp,by simp,fun x=> ?_⟩
  .rw[zmA,hA];exact hx
  .by_cases h:x∈B/\x∈A.foldl zcz []
   .rw[(hk x).1 h];simp only[Option.isSome_some,true_iff];exact⟨h.1,(hA x).1 h.2⟩
   .rw[(hk x).2 h];simp only[lkS,Option.isSome_none,Z52,false_iff];exact fun h2=>h ⟨h2.1,(hA x).2 h2.2⟩
 have l1:=zgR A [];have l2:=zgR B (A.foldl zcz []);obtain⟨d,hd,H⟩ :=zwc B [] _ H0 hB (by simp) (by simp at l1 l2|-;omega);have hd2:∀v∈B,v∈d:=fun v hv=>(hd v).2 (.inr hv)
 have e:apN A B []=(B.foldl apS (B.foldl zcz (A.foldl zcz []),B.foldl (kyS (A.foldl zcz []) []) [])).2:=rfl;rw[e];clear e;generalize B.foldl apS (B.foldl zcz (A.foldl zcz []),B.foldl (kyS (A.foldl zcz []) []) [])=st at H|-;refine⟨fun v hv hv0=> ?_,fun u hu v hv hu0 hv0 he=> ?_⟩
 .cases h:lkS v st.2 with
  |some y=>rw[zjN hv0 h];exact (H.g2 v (hd2 v hv) y h).2.1
  |none=>
   rw[zjL h];intro hvA;have:=(H.g4 v).2 ⟨hv,hvA⟩;rw[h]at this;simp at this
 .cases h1:lkS u st.2 with
  |some y=>
   rw[zjN hu0 h1]at he;cases h2:lkS v st.2 with
   |some z=>
    rw[zjN hv0 h2]at he;subst he;exact H.g3 u (hd2 u hu) v (hd2 v hv) y h1 h2
   |none=>
    rw[zjL h2]at he;subst he;exact absurd hv (H.g2 u (hd2 u hu) y h1).2.2
  |none=>
   rw[zjL h1]at he;cases h2:lkS v st.2 with
   |some z=>
    rw[zjN hv0 h2]at he;subst he;exact absurd hu (H.g2 v (hd2 v hv) u h2).2.2
   |none=>
    rw[zjL h2]at he;exact he
def zDH{l:List Str}{s x:Str}:x∈zcQ l s↔x∈l\/(x=s/\s≠[]):=by
  rw[zMh];split
  . rename_i h;simp only[Z4,Z31];constructor
    . rintro (h1|h1)
      . exact .inl h1
      . exact .inr ⟨h1,h.1⟩
    . rintro (h1|⟨h1,-⟩)
      . exact .inl h1
      . exact .inr h1
  . rename_i h;constructor
    . exact .inl
    . rintro (h1|⟨rfl,h2⟩)
      . exact h1
      . have:l.any (· ==x)=true:=Classical.byContradiction fun h3=>h ⟨h2,h3⟩
        obtain⟨y,hy,e⟩ :=Z30.1 this;rw[<-eq_of_beq e];exact hy
theorem zpN{x:Str}:∀{ts:List Trm} {l:List Str},x∈zdi l ts↔x∈l\/∃t∈ts,x=tv t/\x≠[]
 |[],l=>by simp[zdi]
 |t::ts,l=>by
  have ih:=zpN (x:=x) (ts:=ts) (l:=zcQ l (tv t));show x∈zdi (zcQ l (tv t)) ts↔_;rw[ih,zDH];constructor
  .rintro ((h|⟨h,h2⟩)|⟨u,hu,h⟩)
   .exact .inl h
   .exact .inr ⟨t,by simp,h,by rw[h];exact h2⟩
   .exact .inr ⟨u,by simp[hu],h⟩
  .rintro (h|⟨u,hu,h,h2⟩)
   .exact .inl (.inl h)
   .rcases Z5.1 hu with rfl|hu
    .exact .inl (.inr ⟨h,by rw[<-h];exact h2⟩)
    .exact .inr ⟨u,hu,h,h2⟩
def zi6{c:CQ}{x:Str}:x∈vrs c↔∃t∈tsC c,x=tv t/\x≠[]:=by
 have e:zdi [] (tsC c)=vrs c:=zrF c;rw[<-e,zpN];simp
def TC(c:CQ):Prop:=∀t∈tsC c,zaO t
def zrE(acc c:CQ)(t:Trm):t∈tsC (cjS [] acc c)↔t∈tsC acc\/∃u∈tsC c,t=rnT (apN (vrs acc) (vrs c) []) u:=by
 unfold cjS tsC tsA;simp only[Z183,Z4,Z38,Z12];generalize apN (vrs acc) (vrs c) []=N;constructor
 .rintro ((⟨a,ha,h⟩ |⟨a,⟨b,hb,rfl⟩,h⟩)|(⟨k,hk,h⟩ |⟨k,⟨m,hm,rfl⟩,h⟩))
  .exact .inl (.inl ⟨a,ha,h⟩)
  .obtain⟨u,hu,rfl⟩ :=Z12.1 h;exact .inr ⟨u,.inl ⟨b,hb,hu⟩,rfl⟩
  .exact .inl (.inr ⟨k,hk,h⟩)
  .simp only[ts2,rnK,Z5,Z164,or_false]at h;rcases h with rfl|rfl
   .exact .inr ⟨m.l,.inr ⟨m,hm,by simp[ts2]⟩,rfl⟩
   .exact .inr ⟨m.r,.inr ⟨m,hm,by simp[ts2]⟩,rfl⟩
 .rintro ((⟨a,ha,h⟩ |⟨k,hk,h⟩)|⟨u,(⟨b,hb,h⟩ |⟨m,hm,h⟩),rfl⟩)
  .exact .inl (.inl ⟨a,ha,h⟩)
  .exact .inr (.inl ⟨k,hk,h⟩)
  .exact .inl (.inr ⟨rnA N b,⟨b,hb,rfl⟩,Z12.2 ⟨u,h,rfl⟩⟩)
  .refine .inr (.inr ⟨rnK N m,⟨m,hm,rfl⟩,?_⟩);simp only[ts2,Z5,Z164,or_false]at h;rcases h with rfl|rfl<;>simp[ts2,rnK]
def tc_cj{acc c:CQ}(h1:TC acc)(h2:TC c):TC (cjS [] acc c):=by
 intro t ht;rcases (zrE acc c t).1 ht with h|⟨u,hu,rfl⟩
 .exact h1 t h
 .exact znw (zwd _ _ _) (h2 u hu)
def zTE{acc c:CQ}(h2:TC c){x:Str}:x∈vrs (cjS [] acc c)↔x∈vrs acc\/∃u∈vrs c,x=rnV (apN (vrs acc) (vrs c) []) u:=by
 rw[zi6,zi6];constructor
 .rintro⟨t,ht,hx,h0⟩;rcases (zrE acc c t).1 ht with h|⟨u,hu,rfl⟩
  .exact .inl ⟨t,h,hx,h0⟩
  .right;cases u with
   |cst n=>exact absurd hx h0
   |var s=>exact⟨s,zi6.2 ⟨_,hu,rfl,h2 _ hu⟩,hx⟩
 .rintro (⟨t,ht,hx⟩ |⟨u,hu,rfl⟩)
  .exact⟨t,(zrE acc c t).2 (.inl ht),hx⟩
  .obtain⟨t,ht,rfl,h0⟩ :=zi6.1 hu;refine⟨rnT (apN (vrs acc) (vrs c) []) t,(zrE acc c _).2 (.inr ⟨t,ht,rfl⟩),(zvJ _ t).symm,?_⟩;have:=znw (zwd (vrs acc) (vrs c) []) (h2 t ht);cases t with
   |cst n=>exact absurd rfl h0
   |var s=>exact this
def zDo{acc c:CQ}(h2:TC c)(hl:(vrs acc).length+(vrs c).length+(vrs c).length<98):(vrs (cjS [] acc c)).length=(vrs acc).length+(vrs c).length:=by
 obtain⟨p1,p2⟩ :=zyx (A:=vrs acc) (zf8 c).1 hl;have hne:=(zf8 c).2;have hm:=fun x=>zTE (acc:=acc) h2 (x:=x)
 have hnd:=(zf8 (cjS [] acc c)).1;generalize apN (vrs acc) (vrs c) []=N at*;have h0:∀u∈vrs c,u≠[]:=fun u hu e=>hne (e▸hu)
 have e:(vrs acc++(vrs c).map (rnV N)).length=(vrs acc).length+(vrs c).length:=by simp
 rw[<-e];refine Nat.le_antisymm (zqN hnd fun x hx=> ?_) (zqN ?_ fun x hx=> ?_)
 .rcases (hm x).1 hx with h|⟨u,hu,rfl⟩
  .exact Z102 _ h
  .exact Z96 _ (Z12.2 ⟨u,hu,rfl⟩)
 .refine Z90.2 ⟨(zf8 acc).1,?_,fun a ha b hb e=> ?_⟩
  .unfold List.Nodup;rw[List.pairwise_map];exact (zf8 c).1.imp_of_mem fun{a b} ha hb hab e=>hab (p2 a ha b hb (h0 a ha) (h0 b hb) e)
  .obtain⟨u,hu,rfl⟩ :=Z12.1 hb;exact p1 u hu (h0 u hu) (e▸ha)
 .rcases Z4.1 hx with h|h
  .exact (hm x).2 (.inl h)
  .obtain⟨u,hu,rfl⟩ :=Z12.1 h;exact (hm _).2 (.inr ⟨u,hu,rfl⟩)
def zPa{acc c:CQ}(h1:Safe acc)(h2:Safe c):Safe (cjS [] acc c):=by
 unfold cjS Safe;generalize apN (vrs acc) (vrs c) []=N;have key:∀(t:Trm) (x:Str),rnT N t= .var x->∃y,t= .var y/\x=rnV N y:=by
  intro t x h;cases t with
  |cst n=>cases h
  |var y=>exact⟨y,rfl,(Trm.var.inj h).symm⟩
 refine⟨fun k hk x hx=> ?_,fun b hb hn x hx=> ?_⟩
 .rcases Z4.1 hk with hk|hk
  .obtain⟨a,ha,h⟩ :=h1.1 k hk x hx;exact⟨a,Z102 _ ha,h⟩
  .obtain⟨m,hm,rfl⟩ :=Z12.1 hk;have:∃y,(m.l= .var y\/m.r= .var y)/\x=rnV N y:=by
    rcases hx with hx|hx
    .obtain⟨y,e1,e2⟩ :=key m.l x hx;exact⟨y,.inl e1,e2⟩
    .obtain⟨y,e1,e2⟩ :=key m.r x hx;exact⟨y,.inr e1,e2⟩
   obtain⟨y,hy,rfl⟩ :=this;obtain⟨a,ha,han,hat⟩ :=h2.1 m hm y hy;exact⟨rnA N a,Z96 _ (Z12.2 ⟨a,ha,rfl⟩),han,Z12.2 ⟨_,hat,rfl⟩⟩
 .rcases Z4.1 hb with hb|hb
  .obtain⟨a,ha,h⟩ :=h1.2 b hb hn x hx;exact⟨a,Z102 _ ha,h⟩
  .obtain⟨m,hm,rfl⟩ :=Z12.1 hb;obtain⟨t,ht,e⟩ :=Z12.1 hx;obtain⟨y,rfl,rfl⟩ :=key t x e;obtain⟨a,ha,han,hat⟩ :=h2.2 m hm hn y ht;exact⟨rnA N a,Z96 _ (Z12.2 ⟨a,ha,rfl⟩),han,Z12.2 ⟨_,hat,rfl⟩⟩
def zp9(N:Nms)(σ:Str->Int)(t:Trm):evT σ (rnT N t)=evT (fun v=>σ (rnV N v)) t:=by cases t<;>rfl
def zKq{σ τ:Str->Int}{t:Trm}(h:∀x,t= .var x->σ x=τ x):evT σ t=evT τ t:=by
 cases t with
 |cst n=>rfl
 |var x=>exact h x rfl
def zwR(N:Nms)(σ:Str->Int)(a:Atm):(rnA N a).ts.map (evT σ)=a.ts.map (evT fun v=>σ (rnV N v)):=by
 unfold rnA;rw[Z33];exact Z68 fun t _=>zp9 N σ t
def zzs{c:CQ}{a:Atm}(ha:a∈c.as){t:Trm}(ht:t∈a.ts):t∈tsC c:=by
 simp only[tsC,tsA,Z4,Z38];exact .inl ⟨a,ha,ht⟩
def zn5{c:CQ}{k:Cm}(hk:k∈c.cs):k.l∈tsC c/\k.r∈tsC c:=by
 simp only[tsC,tsA,Z4,Z38];exact⟨.inr ⟨k,hk,by simp[ts2]⟩,.inr ⟨k,hk,by simp[ts2]⟩⟩
def zHP{l:zhA}{acc c:CQ}(h1:TC acc)(h2:TC c)(hl:(vrs acc).length+(vrs c).length+(vrs c).length<98):zjc l (cjS [] acc c)↔zjc l acc/\zjc l c:=by
 obtain⟨p1,p2⟩ :=zyx (A:=vrs acc) (zf8 c).1 hl;have hne:=(zf8 c).2;have h0:∀u∈vrs c,u≠[]:=fun u hu e=>hne (e▸hu)
 unfold cjS;generalize apN (vrs acc) (vrs c) []=N at*;constructor
 .rintro⟨σ,k1,k2,k3⟩;refine⟨⟨σ,fun a ha=>k1 a (Z102 _ ha),fun k hk=>k2 k (Z102 _ hk),fun a ha=>k3 a (Z102 _ ha)⟩,fun v=>σ (rnV N v),fun a ha hn=> ?_,fun k hk=> ?_,fun a ha hn=> ?_⟩
  .rw[<-zwR];exact k1 (rnA N a) (Z96 _ (Z12.2 ⟨a,ha,rfl⟩)) hn
  .rw[<-zp9,<-zp9];exact k2 (rnK N k) (Z96 _ (Z12.2 ⟨k,hk,rfl⟩))
  .rw[<-zwR];exact k3 (rnA N a) (Z96 _ (Z12.2 ⟨a,ha,rfl⟩)) hn
 .rintro⟨⟨σ,a1,a2,a3⟩,τ,b1,b2,b3⟩;obtain⟨ρ,hρ⟩ :∃ρ:Str->Int,ρ=fun v=>if v∈vrs acc then σ v else match(vrs c).find? (fun u=>decide (rnV N u=v))with
   |some u=>τ u
   |none=>0:=⟨_,rfl⟩
  have eA:∀t∈tsC acc,evT ρ t=evT σ t:=fun t ht=>zKq fun x hx=>by
   subst hx;rw[hρ];exact Z51 (zi6.2 ⟨_,ht,rfl,h1 _ ht⟩)
  have eB:∀t∈tsC c,evT (fun v=>ρ (rnV N v)) t=evT τ t:=fun t ht=>zKq fun u hu=>by
   subst hu;have hm:u∈vrs c:=zi6.2 ⟨_,ht,rfl,h2 _ ht⟩;rw[hρ];show(if rnV N u∈vrs acc then _ else _)=_;rw[Z49 (p1 u hm (h0 u hm))];cases hfd:(vrs c).find? (fun w=>decide (rnV N w=rnV N u))with
   |none=>
    rw[List.find?_eq_none]at hfd;have:=hfd u hm;simp at this
   |some w=>
    have h3:=List.find?_some hfd;have h4:=List.mem_of_find?_eq_some hfd;simp only;rw[p2 w h4 u hm (h0 w h4) (h0 u hm) (by simpa using h3)]
  have mA:∀a∈acc.as,a.ts.map (evT ρ)=a.ts.map (evT σ):=fun a ha=>Z68 fun t ht=>eA t (zzs ha ht)
  have mB:∀a∈c.as,(rnA N a).ts.map (evT ρ)=a.ts.map (evT τ):=fun a ha=>by
   rw[zwR];exact Z68 fun t ht=>eB t (zzs ha ht)
  refine⟨ρ,fun a ha hn=> ?_,fun k hk=> ?_,fun a ha hn=> ?_⟩
  .rcases Z4.1 ha with ha|ha
   .rw[mA a ha];exact a1 a ha hn
   .obtain⟨b,hb,rfl⟩ :=Z12.1 ha;rw[mB b hb];exact b1 b hb hn
  .rcases Z4.1 hk with hk|hk
   .rw[eA _ (zn5 hk).1,eA _ (zn5 hk).2];exact a2 k hk
   .obtain⟨m,hm,rfl⟩ :=Z12.1 hk;have e1:evT ρ (rnK N m).l=evT τ m.l:=by rw[show(rnK N m).l=rnT N m.l from rfl,zp9];exact eB _ (zn5 hm).1
    have e2:evT ρ (rnK N m).r=evT τ m.r:=by rw[show(rnK N m).r=rnT N m.r from rfl,zp9];exact eB _ (zn5 hm).2
    rw[e1,e2];exact b2 m hm
  .rcases Z4.1 ha with ha|ha
   .rw[mA a ha];exact a3 a ha hn
   .obtain⟨b,hb,rfl⟩ :=Z12.1 ha;rw[mB b hb];exact b3 b hb hn
theorem zwy{l:zhA}:∀(cs:List CQ) (acc:CQ),TC acc->Safe acc->(∀c∈cs,TC c/\Safe c/\(vrs c).length<=8)->(vrs acc).length+8*cs.length+8<98->
  Safe (cs.foldl (cjS []) acc)/\(zjc l (cs.foldl (cjS []) acc)↔zjc l acc/\∀c∈cs,zjc l c)/\(vrs (cs.foldl (cjS []) acc)).length=(vrs acc).length+(cs.map fun c=>(vrs c).length).sum/\(cs.foldl (cjS []) acc).as.length=acc.as.length+(cs.map fun c=>c.as.length).sum
 |[],acc,_,h2,_,_=>⟨h2,by simp,by simp,by simp⟩
 |c::cs,acc,h1,h2,h3,h4=>by
  obtain⟨k1,k2,k3⟩ :=h3 c (by simp);have e:=zDo (acc:=acc) k1 (by simp at h4;omega);obtain⟨i1,i2,i3,i4⟩ :=zwy (l:=l) cs (cjS [] acc c) (tc_cj h1 k1) (zPa h2 k2) (fun d hd=>h3 d (by simp[hd])) (by rw[e];simp at h4;omega);rw[Z42];refine⟨i1,?_,?_,?_⟩
  .rw[i2,zHP h1 k1 (by simp at h4;omega)];simp only[Z5,forall_eq_or_imp,and_assoc]
  .rw[i3,e];simp only[Z10,Z159];omega
  .rw[i4];simp only[cjS,Z16,Z18,Z10,Z159];omega
theorem zG8{l:zhA}{cs:List CQ}(h:∀c∈cs,TC c/\Safe c/\(vrs c).length<=8)(hl:cs.length<=3):
  holdsOne l (zev [] cs)=cs.all (holdsOne l)/\(vrs (zev [] cs)).length=(cs.map fun c=>(vrs c).length).sum/\(zev [] cs).as.length=(cs.map fun c=>c.as.length).sum:=by
 have v0:(vrs cj0).length=0:=rfl;obtain⟨i1,i2,i3,i4⟩ :=zwy (l:=l) cs cj0 (fun t ht=>by simp[tsC,tsA,cj0]at ht) ⟨by simp[cj0],by simp[cj0]⟩ h (by rw[v0];omega);have e:(zev [] cs)=cs.foldl (cjS []) cj0:=rfl;rw[e];refine⟨?_,by rw[i3,v0,Z25],by rw[i4];simp[cj0]⟩;rw[Bool.eq_iff_iff,zm3 _ _ i1,i2,Z50];constructor
 .rintro⟨_,h2⟩ c hc;exact (zm3 _ _ (h c hc).2.1).2 (h2 c hc)
 .intro h2;exact⟨⟨fun _=>0,by simp[cj0],by simp[cj0],by simp[cj0]⟩,fun c hc=>(zm3 _ _ (h c hc).2.1).1 (h2 c hc)⟩
def nv:List Nat->Nat
 |[]=>0
 |d::l=>d+4294967296*nv l
def Dg(l:List Nat):Prop:=∀d∈l,d<4294967296
def nrm:List Nat->List Nat
 |[]=>[]
 |d::l=>if nrm l=[]/\d=0 then[]else d::nrm l
theorem ztV:∀l,nrm (l++[0])=nrm l
 |[]=>by simp[nrm]
 |d::l=>by simp only[Z29,nrm,ztV l]
theorem zxc{d:Nat}(h:d≠0):∀l,nrm (l++[d])=l++[d]
 |[]=>by simp[nrm,h]
 |e::l=>by simp[nrm,zxc h l]
theorem zhZ:∀l,nv (nrm l)=nv l
 |[]=>rfl
 |d::l=>by
  have ih:=zhZ l;unfold nrm;split
  .rename_i h;rw[h.1]at ih;simp only[nv]at ih|-;omega
  .simp only[nv,ih]
theorem zeh:∀l,(nrm l).length<=l.length
 |[]=>Z2 _
 |d::l=>by
  have:=zeh l;unfold nrm;split
  .simp
  .simp only[Z23];omega
theorem zdZ:∀{l},Dg l->Dg (nrm l)
 |[],h=>h
 |d::l,h=>by
  have ih:=zdZ (l:=l) fun x hx=>h x (by simp[hx])
  unfold nrm;split
  .intro x hx;simp at hx
  .intro x hx;rcases Z5.1 hx with rfl|hx
   .exact h _ (by simp)
   .exact ih x hx
theorem zn9:∀{l},nrm l=[]↔nv l=0
 |[]=>by simp[nrm,nv]
 |d::l=>by
  have ih:=zn9 (l:=l);unfold nrm;simp only[nv];split
  .rename_i h;have:=ih.1 h.1;simp only[true_iff];omega
  .rename_i h;simp only[List.cons_ne_nil,false_iff];intro h2;exact h ⟨ih.2 (by omega),by omega⟩
theorem zdG:∀l,nrm (nrm l)=nrm l
 |[]=>rfl
 |d::l=>by
  have ih:=zdG l
  by_cases h:nrm l=[]/\d=0
  .rw[show nrm (d::l)=[]from by rw[nrm,Z51 h]];rfl
  .rw[show nrm (d::l)=d::nrm l from by rw[nrm,Z49 h]];rw[nrm,ih,Z49 h]
theorem zo6:∀(l:List Nat) (n:Nat),nv l=nv (l.take n)+4294967296 ^ n*nv (l.drop n)
 |[],n=>by simp[nv]
 |d::l,0=>by simp[nv]
 |d::l,n+1=>by
  have ih:=zo6 l n;simp only[Z180,List.drop_succ_cons,nv];rw[Z195,Nat.mul_comm (4294967296 ^ n) 4294967296,Z185,ih];generalize 4294967296 ^ n*nv (l.drop n)=z;omega
theorem zoc(d:Nat):∀l,nv (l++[d])=nv l+4294967296 ^ l.length*d
 |[]=>by simp[nv]
 |e::l=>by
  have ih:=zoc d l;simp only[Z29,nv,ih,Z23];rw[Z195,Nat.mul_comm (4294967296 ^ l.length) 4294967296,Z185];generalize 4294967296 ^ l.length*d=z;omega
theorem zqT:∀{l},Dg l->nv l<4294967296 ^ l.length
 |[],_=>by simp[nv]
 |d::l,h=>by
  have ih:=zqT (l:=l) fun x hx=>h x (by simp[hx])
  have hd:=h d (by simp);simp only[nv,Z23];rw[Z195];generalize 4294967296 ^ l.length=z at ih;omega
theorem zLK:∀{l},nrm l≠[]->4294967296 ^ ((nrm l).length - 1)<=nv (nrm l)
 |[],h=>by simp[nrm]at h
 |d::l,h=>by
  have ih:=zLK (l:=l);unfold nrm at h|-;split at h
  .exact absurd rfl h
  .rename_i hc;rw[Z49 hc];simp only[nv,Z23,Z152]
   by_cases h2:nrm l=[]
   .rw[h2]at hc|-;simp only[true_and]at hc;simp only[Z170,Nat.pow_zero,nv];omega
   .have ih:=ih h2;have hl:0< (nrm l).length:=Z129.2 h2;have e:4294967296 ^ (nrm l).length=4294967296 ^ ((nrm l).length - 1)*4294967296:=by
     rw[<-Z195];congr 1;omega
    rw[e];generalize 4294967296 ^ ((nrm l).length - 1)=z at ih;omega
def znk{x y:List Nat}(hx:Dg x)(hy:nrm y=y)(h:x.length<y.length):nv x<nv y:=by
 have h1:=zqT hx;have h2:nrm y≠[]:=by
  rw[hy];rintro rfl;simp at h
 have h3:=zLK h2;rw[hy]at h3;have h4:(4294967296:Nat) ^ x.length<=4294967296 ^ (y.length - 1):=Z113 (by omega) (by omega);omega
def ztY{x y:List Nat}(hx:Dg x){i:Nat}(h1:i<x.length)(h2:i<y.length)(hd:x.drop (i+1)=y.drop (i+1))(h:x[i]<y[i]):nv x<nv y:=by
 have e1:=zo6 x i;have e2:=zo6 y i;rw[Z55 h1]at e1;rw[Z55 h2,<-hd]at e2;simp only[nv]at e1 e2;have h3:nv (x.take i)<4294967296 ^ i:=by
  have:=zqT (l:=x.take i) fun d hd=>hx d (Z13 hd)
  rwa[Z41,Z73 (by omega)]at this
 generalize nv (x.drop (i+1))=r at e1 e2;have h4:4294967296 ^ i*(x[i]+4294967296*r)+4294967296 ^ i<=4294967296 ^ i*(y[i]+4294967296*r):=by
  rw[<-Nat.mul_succ];exact Nat.mul_le_mul_left _ (by omega)
 omega
def cN(a b:Nat):Int:=if a<b then -1 else if a=b then 0 else 1
def zve{a b:Nat}(h:a<b):cN a b= -1:=by simp[cN,h]
def zAT{a b:Nat}(h:b<a):cN a b=1:=by
 have h1:¬a<b:=by omega
 have h2:¬a=b:=by omega
 simp[cN,h1,h2]
def cN_eq{a b:Nat}(h:a=b):cN a b=0:=by
 have h1:¬a<b:=by omega
 simp[cN,h]
def sbD(x d:Nat):Nat:=if x<d then x+4294967296 - d else x - d
def sbB(x d:Nat):Nat:=if x<d then 1 else 0
def sbA(y:List Nat)(i br:Nat):Nat:=br+y.getD i 0
theorem zIv{x y r:List Nat}{i br:Nat}(hi:i<x.length)(hy:Dg y)(hx:Dg x)(hr:r.length=i)(hb:br<=1)(h:nv r+nv (y.take i)=nv (x.take i)+br*4294967296 ^ i):
  nv (r++[sbD x[i] (sbA y i br)])+nv (y.take (i+1))=nv (x.take (i+1))+sbB x[i] (sbA y i br)*4294967296 ^ (i+1)/\sbD x[i] (sbA y i br)<4294967296/\sbB x[i] (sbA y i br)<=1:=by
 have hxi:=hx _ (Z1 hi);have ey:nv (y.take (i+1))=nv (y.take i)+4294967296 ^ i*y.getD i 0:=by
  by_cases h2:i<y.length
  .rw[Z6 h2,zoc,Z41,Z73 (by omega)];simp[Z48,Z0 h2]
  .rw[Z11 (by omega),Z11 (by omega)];simp[Z48,Z97 (by omega:y.length<=i)]
 have hyi:y.getD i 0<4294967296:=by
  by_cases h2:i<y.length
  .simp[Z48,Z0 h2];exact hy _ (Z1 h2)
  .simp[Z48,Z97 (by omega:y.length<=i)]
 have ex:nv (x.take (i+1))=nv (x.take i)+4294967296 ^ i*x[i]:=by
  rw[Z6 hi,zoc,Z41,Z73 (by omega)]
 rw[zoc,hr,ey,ex,Z195];unfold sbA sbD sbB;generalize y.getD i 0=b at*;generalize x[i]=a at*;generalize (4294967296:Nat) ^ i=z at*;generalize nv (x.take i)=p at*;generalize nv (y.take i)=q at*;generalize nv r=t at*
 by_cases h3:a<br+b
 .rw[Z51 h3,Z51 h3];refine⟨?_,by omega,by omega⟩;obtain⟨e,he⟩ :∃e,a+4294967296=e+(br+b):=⟨a+4294967296 - (br+b),by omega⟩
  rw[show a+4294967296 - (br+b)=e by omega];have k:z*a+z*4294967296=z*e+(z*br+z*b):=by rw[<-Z179,<-Z179,<-Z179,he]
  have k2:br*z=z*br:=Nat.mul_comm _ _;omega
 .rw[Z49 h3,Z49 h3];refine⟨?_,by omega,by omega⟩;obtain⟨e,he⟩ :∃e,a=e+(br+b):=⟨a - (br+b),by omega⟩
  rw[show a - (br+b)=e by omega];have k:z*a=z*e+(z*br+z*b):=by rw[<-Z179,<-Z179,he]
  have k2:br*z=z*br:=Nat.mul_comm _ _;omega
def zPs{x y r:List Nat}{br:Nat}(hr:r.length=x.length)(hd:Dg r)(hb:br<=1)(hl:y.length<=x.length)(hle:nv y<=nv x)(h:nv r+nv (y.take x.length)=nv (x.take x.length)+br*4294967296 ^ x.length):nv r=nv x - nv y:=by
 rw[Z11 hl,Z7]at h;have:=zqT hd;rw[hr]at this;have hb2:br=0\/br=1:=by omega
 rcases hb2 with rfl|rfl
 .omega
 .rw[Z177]at h;generalize (4294967296:Nat) ^ x.length=z at*;omega
def zCB{x y:List Nat}(hy:Dg y)(hx:Dg x)(h:nv y<=nv x):(nrm y).length<=(nrm x).length:=by
 by_cases h2:(nrm x).length< (nrm y).length
 .have:=znk (zdZ hx) (zdG y) h2;rw[zhZ,zhZ]at this;omega
 .omega
def hfd(l:List Nat)(i:Nat):Nat:=l.getD i 0/2+2147483648*(l.getD (i+1) 0%2)
def hfl(l:List Nat)(n:Nat):List Nat:=(List.range n).map (hfd l)
theorem zLL:∀l:List Nat,nv (hfl l l.length)=nv l/2
 |[]=>rfl
 |d::l=>by
  have ih:=zLL l;have e:hfl (d::l) (d::l).length=(d/2+2147483648*(l.getD 0 0%2))::hfl l l.length:=by
   unfold hfl;rw[Z23,List.range_succ_eq_map,Z10,Z33];rfl
  rw[e];simp only[nv,ih];cases l with
  |nil=>simp[nv]
  |cons a l=>
   simp only[nv,List.getD_cons_zero];omega
def zOo(l:List Nat)(n:Nat):hfl l (n+1)=hfl l n++[hfd l n]:=by
 unfold hfl;rw[Z136,Z20];rfl
def zSr{l:List Nat}(h:Dg l)(i:Nat):hfd l i<4294967296:=by
 unfold hfd;have:l.getD i 0<4294967296:=by
  by_cases h2:i<l.length
  .simp[Z48,Z0 h2];exact h _ (Z1 h2)
  .simp[Z48,Z97 (by omega:l.length<=i)]
 omega
def zR0{l:List Nat}(h:Dg l)(n:Nat):Dg (hfl l n):=by
 intro d hd;obtain⟨i,_,rfl⟩ :=Z12.1 hd;exact zSr h i
def zsU(l:List Nat)(n:Nat):(hfl l n).length=n:=by simp[hfl]
def zoa{l:List Nat}(h:0<l.length):l[0]%2=nv l%2:=by
 cases l with
 |nil=>simp at h
 |cons d l=>simp only[List.getElem_cons_zero,nv];omega
def ziO{l:List Nat}(h:nv l≠0):0<l.length:=by
 cases l with
 |nil=>simp[nv]at h
 |cons d l=>simp
def pow32(n:Nat):(4294967296:Nat) ^ n=2 ^ (32*n):=by
 rw[Nat.pow_mul]
end Go.Proofs.YtkcnnkncapiohaaGreatDoor
end
