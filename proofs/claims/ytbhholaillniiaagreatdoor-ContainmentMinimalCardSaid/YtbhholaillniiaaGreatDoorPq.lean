/- The matcher: consistent, the loop over the negated atoms. -/
import Derived.Test.YtbhholaillniiaaGreatDoorPp
import Derived.KernelRfl
import Derived.IntWalk
import Derived.Test.YtbhholaillniiaaGreatDoorPk
import Derived.Test.YtbhholaillniiaaGreatDoorPo
set_option linter.all false
set_option maxRecDepth 100000
set_option maxHeartbeats 4000000
noncomputable section
section
namespace Go.Proofs.YtbhholaillniiaaGreatDoor
open Go Go.Vse Go.Vse.Sm
def J2(X:Mx)(L:List Rl)(σ:Asg)(h:T Ob)(c k:Nat)(s:St):Prop:=(s.tm.get 0=some (.ptr X.M 7 0 0)/\s.tm.get 46=some (X.dN)/\s.tm.get 47=some (.f (.i .i64 X.WN.length))/\s.tm.get 48=some (.f (.i .i64 k)))/\c<=s.c/\(∀id,id<c->s.h.get id=h.get id)/\∀q∈X.WN.take k,zhs L σ q.1=true
def R2(X:Mx)(L:List Rl)(σ:Asg)(h:T Ob)(c:Nat)(e:Ex)(s:St):Prop:=(e= .exit 2/\J2 X L σ h c X.WN.length s)\/(e= .ret/\s.tm.get 2=some (.f (.b false))/\(∀id,id<c->s.h.get id=h.get id)/\(X.WN.all fun q=>zhs L σ q.1)=false)
theorem zMR{L:List Rl}{h:T Ob}{c:Nat}{X:Mx}{σ:Asg}(H:MS L h c X σ){s:St}{K:Ex->St->Prop}
  (hJ:J2 X L σ h c 0 s)(kx:∀s,J2 X L σ h c X.WN.length s->K (.exit 2) s)(kr:∀s,s.tm.get 2=some (.f (.b false))->(∀id,id<c->s.h.get id=h.get id)->(X.WN.all fun q=>zhs L σ q.1)=false->K .ret s):WL pr zi3 s K:=by
 have hm:=H.m.m;have ho:=H.m.o;have gN:=H.m.N.1;have lN:=zdL gN;have hcl:(paD X.WN).length=X.WN.length:=by simp[paD]
 have hwl:=H.o.Nl;have hn6:=H.m.n6;have hb:zaO σ<64:=Z15 (zem σ) (Z113 (by decide) hn6);refine zcJ (fun m s=>∃k:Nat,k<=X.WN.length/\m=X.WN.length - k/\J2 X L σ h c k s) (R2 X L σ h c) ?_ X.WN.length _ ⟨0,Z61 _,rfl,hJ⟩ ?_
 .rintro m s ⟨k,hn,rfl,⟨h0,h46,h47,h48⟩,hc,hf,hI⟩;have hw:=zau k (by omega)
  by_cases hlt:k<X.WN.length
  .have hx:X.WN[k]? =some X.WN[k]:=Z0 hlt;have hmem:=Z1 hlt;generalize X.WN[k]=q at hx hmem;have hP:=H.o.N q hmem;have hgQ:=H.m.N.2 q hmem;have hQl:=zdL hgQ;have hql:(opD q.1.ts).length=q.1.ts.length:=by simp[opD]
   rw[hql]at hQl;obtain⟨id,ro,e1,e2,e3,e4⟩ :=zej gN (n:=k) (by omega);have hrow:(paD X.WN)[k]? =some [.f (.i .i64 q.1.r),q.2,.f (.i .u64 q.1.m)]:=by simp[paD,hx]
   have hA:=(Z8.1 hrow).2;have hqc:q.2.cells=some [q.2]:=zbu hgQ;have e2':s.h.get id=some (.arr 3 ro (paD X.WN)):=(hf id e4).trans e2;have hm':s.h.get X.M=_:=(hf X.M (by omega)).trans hm;rw[hcl]at e1;have i1:¬id=s.c:=by omega
   have i2:¬X.M=s.c:=by omega
   have ho6:∀t∈q.1.ts,zet σ.length t:=by rw[H.m.n];exact hP.o
   have hm64:=zi9 hn6 ho6;have ban:=zka hm64 hb
   by_cases hz:zdf q.1.m (zaO σ)=0
   .obtain⟨v,hv⟩ :=zsh ((zxT ho6 hn6).1 hz);have hvl:=(zoE hv).1;have hQl':zcp q.2=some v.length:=by rw[hvl];exact hQl
    have hpl:=hP.l;have i9:¬s.c=s.c+1+1+1+1+1+1+1+1+1:=by omega
    have m1:v.length<=zaB:=by have:=zcZ (n:=v.length) (by omega);simpa using this
    have m2:v.length*32<=zaB:=by have:=zcZ (n:=v.length*32) (by omega);simpa using this
    rw[hz]at ban;unfold zi3 zis;simp only[rU,C.l,C.r,C.b,C.o];simp[rW,h0,h46,h47,h48,hlt,e1,e2',hrow,hA,hcl,hqc,i1,i2];refine zay ?_;simp[rW,h0,h46,h47,h48,hm',i1,i2,i9,ban,zhu,hQl',m1,m2];obtain⟨r,hr⟩ :∃r,L[q.1.r]? =some r:=⟨L[q.1.r]'hP.r,Z0 hP.r⟩
    have hRO:=H.o.L r (Z39 hr);have hvne:v≠[]:=fun e=>hP.e (Z17.1 (by rw[<-hvl,e];rfl))
    have hnb:zhs L σ q.1= !(r.tu.any fun t=>t.1==v):=by simp[zhs,hv,hasB,hr]
    refine zMT H.m hmem hv (by omega) (R:=s.c+1+1+1+1+1+1+1+1+1) (P6:=s.c) (k:=k) ⟨⟨?_,?_,?_,?_,?_,?_,?_,?_,?_,?_,?_⟩,by omega,by omega,?_,?_,by omega,?_⟩ ?_
    .simp[rW,h0]
    .simp[rW]
    .simp[rW]
    .simp[rW,h46]
    .simp[rW,h47]
    .simp[rW,h48]
    .simp[rW]
    .simp[rW]
    .simp[rW]
    .rw[zDi];simp[rW,zc]
    .simp[rW,i9]
    .simp only[rG];omega
    .simp only[rG];omega
    .intro id hid;have a:¬id=s.c:=by omega
     have b:¬id=s.c+1+1+1+1+1+1+1+1+1:=by omega
     simp[rW,a,b];exact hf id hid
    .generalize s.c+1+1+1+1+1+1+1+1+1=R;clear i9;rintro s' ⟨⟨k0,k6,k7,k46,k47,k48,k65,k66,k67,gR,gP⟩,r1,r2,r3,r4,r5,hf'⟩;rw[zvi]at gR;have hm2:s'.h.get X.M=_:=(hf' X.M (by omega)).trans hm;simp[rW,k0,k6,k7,k46,k47,k48];refine zfS ?_;simp[rW,k0,k6,k7,k46,k47,k48,hm2,gP];refine zlQ [(0,.ptr X.M 7 0 0),(46,X.dN),(47,.f (.i .i64 X.WN.length)),(48,.f (.i .i64 k))] (zNk (c:=s'.c+1+1+1+1+1+1+1) (lo:=X.M) (H.s.up fun id _ hid=>hf' id (by omega)) (by omega) (by omega) hr hRO gR hvne (by omega)) (by simp only[rG]) (by simp only[rG]) (by simp only[Rg];simp[rW,k0,k46,k47,k48]) rfl ?_;rintro s2 d1 c' ⟨rfl,-,hs2⟩ hc1 hc2 j86 ⟨j0,j46,j47,j48,-⟩;have f2:∀id,id<c->s2.h.get id=h.get id:=fun id hid=>(hs2 id (by omega) (by omega)).trans (hf' id hid)
     refine⟨by simp[rW],⟨?_⟩⟩;cases hany:r.tu.any fun t=>t.1==v with
     |true=>
      rw[hany]at j86 hnb;simp[rW,j0,j46,j47,j48,j86];refine .inr ⟨rfl,by simp[rW],fun id hid=>by simp[rW];exact f2 id hid,all_false (Z39 hx) (by simpa using hnb)⟩
     |false=>
      rw[hany]at j86 hnb;simp[rW,j0,j46,j47,j48,j86,hw];refine⟨X.WN.length - (k+1),by omega,k+1,by omega,rfl,⟨?_,?_,?_,?_⟩,?_,?_,?_⟩
      .simp[rW,j0]
      .simp[rW,j46]
      .simp[rW,j47]
      .simp[rW,hw]
      .simp only[rG];omega
      .intro id hid;simp[rW];exact f2 id hid
      .exact zqm hx hI (by simpa using hnb)
   .have hz2:(((zdf q.1.m (zaO σ):Nat):Int)==0)=false:=by simpa using hz
    have hnb:zhs L σ q.1=true:=by
     unfold zhs;split
     .rename_i v hv;exact absurd ((zxT ho6 hn6).2 (zlM hv)) hz
     .rfl
    unfold zi3 zis;simp only[rU,C.l,C.r,C.b,C.o];simp[rW,h0,h46,h47,h48,hlt,e1,e2',hrow,hA,hcl,hqc,i1,i2];refine zay ?_;simp[rW,h0,h46,h47,h48,hm',i1,i2,ban,zhu,hz2,hw];refine⟨X.WN.length - (k+1),by omega,k+1,by omega,rfl,⟨?_,?_,?_,?_⟩,?_,?_,?_⟩
    .simp[rW,h0]
    .simp[rW,h46]
    .simp[rW,h47]
    .simp[rW,hw]
    .simp only[rG];omega
    .intro id hid;have a:¬id=s.c:=by omega
     simp[rW,a];exact hf id hid
    .exact zqm hx hI hnb
  .have hen:k=X.WN.length:=by omega
   subst hen;unfold zi3 zis;simp only[rU,C.l,C.r,C.b,C.o];simp[rW,h0,h46,h47,h48];exact .inl ⟨rfl,⟨by simp[rW,h0],by simp[rW,h46],by simp[rW,h47],by simp[rW,h48]⟩,by simp[rW,hc],fun id hid=>by simp[rW];exact hf id hid,hI⟩
 .rintro e s (⟨rfl,hJ⟩ |⟨rfl,h2,hf,hI⟩)
  .exact kx s hJ
  .exact kr s h2 hf hI
def zde(L:List Rl)(X:Mx)(σ:Asg):Bool:=X.cs.all (zhh σ)&&X.WN.all fun q=>zhs L σ q.1
def zB4{L:List Rl}{h:T Ob}{c:Nat}{X:Mx}{σ:Asg}(H:MS L h c X σ):Eff pr 186 [.ptr X.M 7 0 0] h c (Same (.f (.b (zde L X σ))) h c):=by
 refine zcm kps fn186 (fun d h' c' ⟨a,_⟩ _ _=>⟨a,fun _ _=>rfl⟩) ?_;have hm:=H.m.m;have ho:=H.m.o;have gC:=H.m.C;have lC:=zdL gC;have hcl:(cnD X.cs).length=X.cs.length:=by simp[cnD]
 rw[hcl]at lC;have gN:=H.m.N.1;have lN:=zdL gN;have hnl:(paD X.WN).length=X.WN.length:=by simp[paD]
 rw[hnl]at lN;have hk:∀k∈X.cs,zjw σ.length k/\(k.op=1\/k.op=2\/k.op=3\/k.op=4):=by rw[H.m.n];exact H.o.c
 simp only[zis,rU];simp[rW,st0,zal,hm,lC];refine zMO H.m hk H.o.cl ⟨⟨?_,?_,?_,?_⟩,?_,?_,?_⟩ ?_ ?_
 .simp[rW]
 .simp[rW]
 .simp[rW]
 .simp[rW]
 .simp[rW]
 .intro id hid;simp[rW]
 .simp
 .rintro s ⟨⟨h0,h13,h14,h15⟩,hc,hf,hI⟩;have hm':s.h.get X.M=_:=(hf X.M (by omega)).trans hm;have hI1:X.cs.all (zhh σ)=true:=by
   rw[Z7]at hI;exact Z50.2 hI
  simp[rW,h0,h13,h14,h15,hm',lN];refine zMR H ⟨⟨?_,?_,?_,?_⟩,?_,?_,?_⟩ ?_ ?_
  .simp[rW,h0]
  .simp[rW]
  .simp[rW]
  .simp[rW]
  .simp only[rG];omega
  .intro id hid;simp[rW];exact hf id hid
  .simp
  .rintro s ⟨⟨h0,h46,h47,h48⟩,hc,hf,hJ⟩;have hI2:(X.WN.all fun q=>zhs L σ q.1)=true:=by
    rw[Z7]at hJ;exact Z50.2 hJ
   simp[rW,zaV];exact⟨by simp[zde,hI1,hI2],hf⟩
  .intro s h2 hf hJ;simp[rW,h2,zaV];exact⟨by simp[zde,hJ],hf⟩
 .intro s h2 hf hJ;simp[rW,h2,zaV];exact⟨by simp[zde,hJ],hf⟩
def zd8:Asg->List Opn->List Int->Option Asg
 |σ,t::ts,z::zs=>match zaF σ t with
  |some y=>if y=z then zd8 σ ts zs else none
  |none=>match t with
   | .var i=>zd8 (σ.set i (some z)) ts zs
   | .cst _=>none
 |σ,_,_=>some σ
def Ext(σ τ:Asg):Prop:=τ.length=σ.length/\∀(i:Nat) (z:Int),σ[i]? =some (some z)->τ[i]? =some (some z)
def Ext.rfl'(σ:Asg):Ext σ σ:=⟨rfl,fun _ _ h=>h⟩
def Ext.tr{a b c:Asg}(h:Ext a b)(g:Ext b c):Ext a c:=⟨g.1.trans h.1,fun i z hz=>g.2 i z (h.2 i z hz)⟩
def zw6{σ:Asg}{i:Nat}{z:Int}(h:zaF σ (.var i)=none):Ext σ (σ.set i (some z)):=by
 refine⟨by simp,fun j y hy=> ?_⟩;have hne:i≠j:=fun e=>by subst e;simp[zaF,hy]at h
 rw[Z125 hne];exact hy
theorem zfN:∀{ts:List Opn} {v:List Int} {σ τ:Asg},zd8 σ ts v=some τ->Ext σ τ
 |[],v,σ,τ,h=>by cases v<;>(cases h;exact Ext.rfl' _)
 |t::ts,[],σ,τ,h=>by cases h;exact Ext.rfl' _
 |t::ts,z::zs,σ,τ,h=>by
  simp only[zd8]at h;split at h
  .split at h
   .exact zfN h
   .cases h
  .rename_i hn;split at h
   .exact (zw6 hn).tr (zfN h)
   .cases h
def zFm:∀{σ:Asg} {i:Nat} (z:Int),i<σ.length->zaO (σ.set i (some z))=zaO σ|||2 ^ i:=by
 intro σ i z hi;refine Nat.eq_of_testBit_eq fun j=> ?_
 rw[zes,Nat.testBit_or,zes,Nat.testBit_two_pow];simp only[zaF]
 by_cases h:i=j
 .subst h;rw[Z140 hi];simp[Option.join]
 .rw[Z125 h];simp[h]
def ext_eq{σ τ:Asg}(h:Ext σ τ)(hm:zaO τ=zaO σ):τ=σ:=by
 refine Z107 fun i=> ?_
 have hb:(zaF τ (.var i)).isSome=(zaF σ (.var i)).isSome:=by rw[<-zes,<-zes,hm]
 by_cases hi:i<σ.length
 .have h1:σ[i]? =some σ[i]:=Z0 hi;have h2:τ[i]? =some (τ[i]'(by rw[h.1];exact hi)):=Z0 _;cases hs:σ[i]with
  |some z=>
   rw[hs]at h1;rw[h1,h.2 i z h1]
  |none=>
   rw[hs]at h1;rw[h1,h2];simp only[zaF,h1,h2,Option.join]at hb;cases ht:τ[i]'(by rw[h.1];exact hi)with
   |none=>rfl
   |some z=>rw[ht]at hb;cases hb
 .rw[Z97 (by rw[h.1];omega),Z97 (by omega)]
def zda(L:List Rl)(X:Mx)(σ:Asg)(p:Pat)(v:List Int):Option Asg:=(zd8 σ p.ts v).filter (zde L X)
structure Mv(L:List Rl)(X:Mx)(σ:Asg)(h:T Ob)(c:Nat)(τ:Asg)(h':T Ob)(c':Nat):Prop where
 m:MS L h' c' X τ
 e:Ext σ τ
 f:Fr X c h h'
def MtS.back{h h':T Ob}{c c':Nat}{X:Mx}{σ τ:Asg}(H:MtS h' c' X τ)(he:Ext σ τ)(hm:h.get X.M=some (.arr 7 0 [[.ptr X.S 2 0 0,.f (zah X.ns),X.dP,X.dN,X.dC,.sl X.V 0 X.ns.length 3 X.ns.length true,.f (.i .u64 (zaO σ))]]))(hf:∀id,id<c'->id≠X.M->h.get id=h'.get id)(hc:c'<=c):MtS h c X σ:=by
 obtain⟨vs,v1,v2,v3,v4⟩ :=H.v;have ho:=H.o;have key:∀id,X.V+1<=id->id<c'->h.get id=h'.get id:=fun id h1 h2=>hf id h2 (by omega)
 exact⟨hm,⟨vs,by rw[hf _ (by omega) (by omega)];exact v1,v2,v3,fun i z hz=>v4 i z (he.2 i z hz)⟩,by rw[<-H.n,he.1],by rw[<-he.1];exact H.n6,H.P.up key hc,H.N.up key hc,zaS H.C hc key,by omega⟩
theorem MtS.set{h:T Ob}{c:Nat}{X:Mx}{τ:Asg}{i:Nat}{z:Int}{vs:List (List D)}(H:MtS h c X τ)(hv:h.get X.V=some (.arr 3 0 vs))(hs:zaF τ (.var i)=none)(hi:i<τ.length){h':T Ob}{c':Nat}(hc:c<=c')
  (hM:h'.get X.M=some (.arr 7 0 [[.ptr X.S 2 0 0,.f (zah X.ns),X.dP,X.dN,X.dC,.sl X.V 0 X.ns.length 3 X.ns.length true,.f (.i .u64 (zaO (τ.set i (some z))))]]))(hV:h'.get X.V=some (.arr 3 0 (vs.set i ((Sm.vF z).map D.f))))(hf:∀id,id<c->id≠X.M->id≠X.V->h'.get id=h.get id):MtS h' c' X (τ.set i (some z)):=by
 obtain⟨vs',v1,v2,v3,v4⟩ :=H.v;rw[hv]at v1;cases v1;refine H.wr hf hc hM ⟨_,hV,by simpa using v2,fun x hx=> ?_,fun j y hy=> ?_⟩ (by simp)
 .rcases Z156 hx with h1|rfl
  .exact v3 x h1
  .exact⟨1,z,by simp[Sm.vF]⟩
 .by_cases h1:i=j
  .subst h1;rw[Z140 hi]at hy;cases hy;rw[Z140 (by rw[v2,<-H.n];exact hi)]
  .rw[Z125 h1]at hy|-;exact v4 j y hy
def fn191:pr.fn 191=some zn5:=by kernel_rfl
def ztC:C:=zn5.body.r.r.l.r.b.o
def Jb(L:List Rl)(X:Mx)(σ:Asg)(q:Pat×D)(v:List Int)(h:T Ob)(c i:Nat)(s:St):Prop:=(s.tm.get 0=some (.ptr X.M 7 0 0)/\s.tm.get 2=some (.f (valsF v))/\s.tm.get 7=some (.f (.i .u64 (zaO σ)))/\s.tm.get 15=some (q.2)/\s.tm.get 16=some (.f (.i .i64 q.1.ts.length))/\s.tm.get 17=some (.f (.i .i64 i)))/\c<=s.c/\∃τ,Mv L X σ h c τ s.h s.c/\zd8 σ q.1.ts v=zd8 τ (q.1.ts.drop i) (v.drop i)
def Rb(L:List Rl)(X:Mx)(σ:Asg)(q:Pat×D)(v:List Int)(h:T Ob)(c:Nat)(e:Ex)(s:St):Prop:=(e= .exit 0/\Jb L X σ q v h c q.1.ts.length s)\/(e= .ret/\s.tm.get 6=some (.f (.b false))/\zd8 σ q.1.ts v=none/\c<=s.c/\∃τ,Mv L X σ h c τ s.h s.c)
theorem zJH{L:List Rl}{h:T Ob}{c:Nat}{X:Mx}{σ:Asg}(H:MS L h c X σ){q:Pat×D}(hq:q∈X.WP){v:List Int}(hv:v.length=q.1.ts.length){s:St}{K:Ex->St->Prop}
  (hJ:Jb L X σ q v h c 0 s)(hK:∀e s,Rb L X σ q v h c e s->K e s):WL pr ztC s K:=by
 have hP:=H.o.P q hq;have hpl:=hP.l;have hn6:=H.m.n6;have hoo:=H.m.o;refine zcJ (fun m s=>∃i:Nat,i<=q.1.ts.length/\m=q.1.ts.length - i/\Jb L X σ q v h c i s) (Rb L X σ q v h c) ?_ q.1.ts.length _ ⟨0,Z61 _,rfl,hJ⟩ hK;rintro m s ⟨i,hn,rfl,⟨h0,h2,h7,h15,h16,h17⟩,hc,τ,HT,hB⟩;have hw:=zau i (by omega)
 by_cases hlt:i<q.1.ts.length
 .have gQ:=HT.m.m.P.2 q hq;have hql:(opD q.1.ts).length=q.1.ts.length:=by simp[opD]
  obtain⟨id,ro,e1,e2,e3,e4⟩ :=zej gQ (n:=i) (by omega);rw[hql]at e1;have hm:=HT.m.m.m;have ho:=HT.m.m.o;have ht:q.1.ts[i]? =some q.1.ts[i]:=Z0 hlt;have hto:=hP.o _ (Z1 hlt);have hd:=Z55 hlt;have hz:v[i]? =some (v[i]'(by omega)):=Z0 (by omega);have hzd:v.drop i=v[i]'(by omega)::v.drop (i+1):=Z55 (by omega);generalize v[i]'(by omega)=z at hz hzd;have hzA:=(Z8.1 hz).2;have hiv:i<v.length:=by omega
  generalize q.1.ts[i]=t at ht hto hd;obtain⟨t0,t1,t2,t3,et⟩ :=zkq t;have hrow:(opD q.1.ts)[i]? =some [D.f t0,D.f t1,D.f t2,D.f t3]:=by simp[opD,ht,et]
  rw[hd,hzd]at hB;have i1:¬id=s.c:=by omega
  have i2:¬X.M=s.c:=by omega
  have hb:zaO τ<64:=Z15 (zem τ) (Z113 (by decide) HT.m.m.n6);have hc4:t.c.length=4:=zKC t;obtain⟨H1,hH1⟩ :∃H1,H1=(s.h.set s.c (.arr 4 0 [[D.f (.i .i64 0),D.f (.i .i64 0),D.f (.i .i64 0),D.f (.s [])]])).set s.c (.arr 4 0 [[D.f t0,D.f t1,D.f t2,D.f t3]]):=⟨_,rfl⟩
  have g9:H1.get s.c=some (.arr 4 0 [[D.f t0,D.f t1,D.f t2,D.f t3]]):=by rw[hH1,TG,Z51 rfl]
  have f1:∀id,id<s.c->H1.get id=s.h.get id:=fun id hid=>by
   rw[hH1,TG,Z49 (by omega),TG,Z49 (by omega)]
  unfold ztC zn5;simp only[rU,C.l,C.r,C.b,C.o];simp[rW,h0,h2,h7,h15,h16,h17,hlt,e1,e2,hrow,i1,i2];refine zru (fun s'=>Rg [(0,.ptr X.M 7 0 0),(2,.f (valsF v)),(7,.f (.i .u64 (zaO σ))),(8,.f (.i .i64 i)),(9,.ptr s.c 4 0 0),(15,q.2),(16,.f (.i .i64 q.1.ts.length)),(17,.f (.i .i64 i)),(35,.f (.b (zaF τ t).isSome))] s'/\s'.h=H1/\s.c+1<=s'.c) (fun K hK=> ?_) ?_
  .refine zay ?_;cases t with
   |cst y0=>
    simp only[Opn.c,List.cons.injEq,and_true]at et;obtain⟨rfl,rfl,rfl,rfl⟩ :=et;simp[rW,h0,h2,h7,h15,h16,h17,hm,i1,i2];exact hK _ ⟨by simp only[Rg];simp[rW,h0,h2,h7,h15,h16,h17,e1,zaF],by simp only[rG];exact hH1.symm,by simp only[rG];omega⟩
   |var j=>
    have hj:j<6:=by
     have h1:j<X.ns.length:=hto;have h2:=HT.m.m.n6;rw[HT.m.m.n]at h2;omega
    obtain⟨bb1,bb2⟩ :=zGU hb hj;rw[zes]at bb2;generalize zaO τ>>>j=w at bb1 bb2;have hj0:¬((j:Int)<0):=by omega
    simp only[Opn.c,List.cons.injEq,and_true]at et;obtain⟨rfl,rfl,rfl,rfl⟩ :=et;cases hs:(zaF τ (.var j)).isSome with
    |true=>
     rw[hs]at bb2;simp[rW,h0,h2,h7,h15,h16,h17,hm,i1,i2,bb1,bb2,hj0,u_eq];exact hK _ ⟨by simp only[Rg];simp[rW,h0,h2,h7,h15,h16,h17,e1,hs],by simp only[rG];exact hH1.symm,by simp only[rG];omega⟩
    |false=>
     rw[hs]at bb2;simp[rW,h0,h2,h7,h15,h16,h17,hm,i1,i2,bb1,bb2,hj0,u_eq];exact hK _ ⟨by simp only[Rg];simp[rW,h0,h2,h7,h15,h16,h17,e1,hs],by simp only[rG];exact hH1.symm,by simp only[rG];omega⟩
  .rintro s' ⟨⟨k0,k2,k7,k8,k9,k15,k16,k17,k35,-⟩,hH,hc'⟩;have HT1:MS L s'.h s'.c X τ:=HT.m.up (fun id hid=>by rw[hH];exact f1 id hid) (by omega);have g9':=hH▸g9;cases hy:zaF τ t with
   |some y=>
    rw[hy]at k35;simp only[zd8,hy]at hB;simp[rW,k0,k2,k7,k8,k9,k15,k16,k17,k35];refine zfS ?_;simp[rW,k0,k2,k7,k8,k9,k15,k16,k17,g9'];refine zlQ [(0,.ptr X.M 7 0 0),(2,.f (valsF v)),(7,.f (.i .u64 (zaO σ))),(8,.f (.i .i64 i)),(15,q.2),(16,.f (.i .i64 q.1.ts.length)),(17,.f (.i .i64 i))] (zzD (c:=s'.c+1+1) hy (by rw[et];rfl) (HT1.m.up (fun _ _=>rfl) (by omega))) (by simp only[rG]) (by simp only[rG]) (by simp only[Rg];simp[rW,k0,k2,k7,k8,k15,k16,k17]) rfl ?_;rintro s2 d1 c' ⟨rfl,hs1⟩ hc1 hc2 j38 ⟨j0,j2,j7,j8,j15,j16,j17,-⟩;have HT2:MS L s2.h s2.c X τ:=HT1.up (fun id hid=>hs1 id (by omega)) (by omega);have F2:Fr X c h s2.h:=fun id h1 h2 h3=>(hs1 id (by omega)).trans (((congrArg (fun x=>Vse.T.get x id) hH).trans (f1 id (by omega))).trans (HT.f id h1 h2 h3))
    have q1:=fun k=>zad (k:=k) (zGN y z)
    simp only[Sm.vF]at q1;refine⟨by simp[rW],⟨?_⟩⟩
    by_cases hyz:y=z
    .rw[Z51 hyz]at hB;have hc0:zaT y z=0:=(zfv _ _).2 hyz;simp[rW,j0,j2,j7,j8,j15,j16,j17,j38,zqu,hz,hiv,hzA,Sm.vF,q1,hc0,hw];refine⟨q.1.ts.length - (i+1),by omega,i+1,by omega,rfl,⟨?_,?_,?_,?_,?_,?_⟩,?_,τ,⟨HT2.up (fun id hid=> ?_) ?_,HT.e,fun id h1 h2 h3=> ?_⟩,hB⟩
     .simp[rW,j0]
     .simp[rW,j2]
     .simp[rW,j7]
     .simp[rW,j15]
     .simp[rW,j16]
     .simp[rW,hw]
     .simp only[rG];omega
     .simp[rW]
     .simp only[rG];omega
     .simp[rW];exact F2 id h1 h2 h3
    .rw[Z49 hyz]at hB;have hc0:¬zaT y z=0:=fun e=>hyz ((zfv _ _).1 e)
     simp[rW,j0,j2,j7,j8,j15,j16,j17,j38,zqu,hz,hiv,hzA,Sm.vF,q1,hc0,hw];refine .inr ⟨rfl,by simp[rW],hB,?_,τ,⟨HT2.up (fun id hid=> ?_) ?_,HT.e,fun id h1 h2 h3=> ?_⟩⟩
     .simp only[rG];omega
     .simp[rW]
     .simp only[rG];omega
     .simp[rW];exact F2 id h1 h2 h3
   |none=>
    cases t with
    |cst y0=>cases hy
    |var j=>
     have hjn:j<X.ns.length:=hto;have hn7:=HT1.m.n6;have hn8:=HT1.m.n;obtain⟨vs,v1,v2,v3,v4⟩ :=HT1.m.v;have hm1:=HT1.m.m;have h8:=zMk v3;have hvj:vs[j]? =some (vs[j]'(by omega)):=Z0 (by omega);obtain⟨a,b,hab⟩ :=v3 _ (Z1 (n:=j) (by omega));rw[hab]at hvj;have hva:=(Z8.1 hvj).2;simp only[Opn.c,List.cons.injEq,and_true]at et;obtain⟨rfl,rfl,rfl,rfl⟩ :=et;simp only[zd8,hy]at hB;have bsh:=zjE (i:=j) (by omega);have bor:=zl4 (a:=zaO τ) (b:=2 ^ j) hb (by have:2 ^ j<=2 ^ 5:=Z113 (by decide) (by omega);omega);have hms:Nat.lor (zaO τ) (2 ^ j)=zaO (τ.set j (some z)):=(zFm z (by omega)).symm;rw[hms]at bor;generalize hw2:2 ^ j=w2 at bsh bor;rw[hy]at k35;have n1:¬X.M=X.V:=by omega
     have n2:¬s.c=X.V:=by omega
     have n3:X.V<s'.c:=by omega
     simp[rW,k0,k2,k7,k8,k9,k15,k16,k17,k35];refine zay ?_;simp[rW,k0,k2,k7,k8,k9,k15,k16,k17,g9',hm1,zqu,hz,hiv,hzA,Sm.vF,hjn,v1,v2,hva,h8,n1,n2,n3];have hp1:s'.h.get s.c=some (.arr 4 0 [[D.f (.i .i64 j),D.f (.i .i64 0),D.f (.i .i64 0),D.f (.s [])]]):=g9';refine⟨by omega,zQw (fun s3=>Rg [(0,.ptr X.M 7 0 0),(2,.f (valsF v)),(7,.f (.i .u64 (zaO σ))),(9,.ptr s.c 4 0 0),(15,q.2),(16,.f (.i .i64 q.1.ts.length)),(17,.f (.i .i64 i))] s3/\s3.h=s'.h.set X.V (.arr 3 0 (vs.set j [D.f (.i .i64 1),D.f (.i .i64 z),D.f (.s [])]))/\s'.c<=s3.c) ⟨by simp only[Rg];simp[rW,k0,k2,k7,k9,k15,k16,k17],by simp only[rG],by simp only[rG];omega⟩ ?_⟩;rintro s3 ⟨⟨j0,j2,j7,j9,j15,j16,j17,-⟩,hH3,hc3⟩;have m3:s3.h.get X.M=_:=(show s3.h.get X.M=s'.h.get X.M by rw[hH3,TG,Z49 n1]).trans hm1;have p3:s3.h.get s.c=_:=(show s3.h.get s.c=s'.h.get s.c by rw[hH3,TG,Z49 n2]).trans hp1;have n4:X.M<s3.c:=by omega
     have n5:¬s.c=X.M:=by omega
     refine zay ?_;simp[rW,j0,j2,j7,j9,j15,j16,j17,m3,p3,bsh,bor,n4,n5,hw];refine⟨by omega,q.1.ts.length - (i+1),by omega,i+1,by omega,rfl,⟨?_,?_,?_,?_,?_,?_⟩,?_,τ.set j (some z),⟨⟨HT1.m.set v1 hy (by omega) ?_ ?_ ?_ ?_,HT1.s.up ?_,HT1.o⟩,HT.e.tr (zw6 hy),?_⟩,hB⟩
     .simp[rW,j0]
     .simp[rW,j2]
     .simp[rW,j7]
     .simp[rW,j15]
     .simp[rW,j16]
     .simp[rW,hw]
     .simp only[rG];omega
     .simp only[rG];omega
     .simp[rW]
     .have a:¬X.V=X.M:=fun e=>n1 e.symm
      simp[rW,a,hH3,Sm.vF]
     .intro id h1 h2 h3;simp[rW,h2,h3,hH3]
     .intro id _ h1;have a:¬id=X.M:=by omega
      have b:¬id=X.V:=by omega
      simp[rW,a,b,hH3]
     .intro id h1 h2 h3;simp[rW,h2,h3,hH3];exact (((congrArg (fun x=>Vse.T.get x id) hH).trans (f1 id (by omega))).trans (HT.f id h1 h2 h3))
 .have hen:i=q.1.ts.length:=by omega
  subst hen;unfold ztC zn5;simp only[rU,C.l,C.r,C.b,C.o];simp[rW,h0,h2,h7,h15,h16,h17];exact .inl ⟨rfl,⟨by simp[rW,h0],by simp[rW,h2],by simp[rW,h7],by simp[rW,h15],by simp[rW,h16],by simp[rW,h17]⟩,by simp[rW,hc],τ,HT,hB⟩
def BindP(L:List Rl)(X:Mx)(σ:Asg)(p:Pat)(v:List Int)(h:T Ob)(c:Nat)(d:D)(h':T Ob)(c':Nat):Prop:=∃τ,Mv L X σ h c τ h' c'/\((d= .f (.b true)/\zda L X σ p v=some τ)\/(d= .f (.b false)/\zda L X σ p v=none))
def Mv.low{L:List Rl}{X:Mx}{σ τ:Asg}{h h':T Ob}{c c':Nat}(H:Mv L X σ h c τ h' c')(H0:MS L h c X σ)(hf:∀id,id<c->h'.get id=h.get id):τ=σ:=by
 have hm:=H.m.m.m;have ho:=H0.m.o;rw[hf X.M (by omega),H0.m.m]at hm;simp only[Z45,Ob.arr.injEq,List.cons.injEq,D.f.injEq,F.i.injEq,true_and,and_true]at hm;exact ext_eq H.e (by omega)
theorem zNg{L:List Rl}{h:T Ob}{c:Nat}{X:Mx}{σ:Asg}(H:MS L h c X σ)(hcn:zde L X σ=true){q:Pat×D}(hq:q∈X.WP){v:List Int}(hv:v.length=q.1.ts.length):
  Eff pr 191 [.ptr X.M 7 0 0,.ag [.f (.i .i64 q.1.r),q.2,.f (.i .u64 q.1.m)],.f (valsF v)] h c (BindP L X σ q.1 v h c):=by
 refine zcm kps fn191 (fun d h' c' ⟨τ,a,b⟩ _ hf=> ?_) ?_
 .have e:=a.low H hf;subst e;exact⟨τ,⟨H,Ext.rfl' _,Fr.refl _ _ _⟩,b⟩
 have hm:=H.m.m;have ho:=H.m.o;have gQ:=H.m.P.2 q hq;have lQ:=zdL gQ;have hql:(opD q.1.ts).length=q.1.ts.length:=by simp[opD]
 rw[hql]at lQ;have hqc:q.2.cells=some [q.2]:=zbu gQ;have n1:¬X.M=c:=by omega
 simp only[zn5,rU];simp[rW,st0,zal,hm,hqc,n1,lQ];refine zJH H hq hv ⟨⟨?_,?_,?_,?_,?_,?_⟩,?_,σ,⟨H.up (fun id hid=> ?_) ?_,Ext.rfl' _,fun id h1 h2 h3=> ?_⟩,by simp⟩ ?_
 .simp[rW]
 .simp[rW]
 .simp[rW]
 .simp[rW]
 .simp[rW]
 .simp[rW]
 .simp only[rG];omega
 .have a:¬id=c:=by omega
  simp[rW,a]
 .simp only[rG];omega
 .have a:¬id=c:=by omega
  simp[rW,a]
 rintro e s (⟨rfl,⟨h0,h2,h7,h15,h16,h17⟩,hc,τ,HT,hB⟩ |⟨rfl,h6,hB,hc,τ,HT⟩)
 .have hB1:zd8 σ q.1.ts v=some τ:=by
   rw[hB,Z206];rfl
  have hm':=HT.m.m.m
  by_cases he:zaO τ=zaO σ
  .have:=ext_eq HT.e he;subst this;simp[rW,h0,h2,h7,h15,h16,h17,hm',u_eq,zaV];exact⟨τ,⟨HT.m.up (fun _ _=>rfl) (by first|(simp only[rG];omega)|omega),HT.e,fun id h1 h2 h3=>HT.f id h1 h2 h3⟩,.inl ⟨rfl,by simp[zda,hB1,hcn]⟩⟩
  .have he2:(((zaO τ:Nat):Int)==((zaO σ:Nat):Int))=false:=by
    simpa using fun e:((zaO τ:Nat):Int)=((zaO σ:Nat):Int)=>he (by omega)
   simp[rW,h0,h2,h7,h15,h16,h17,hm',u_eq,he2];refine zbO [(73,.f (.b false))] (zB4 HT.m) (by simp only[rG]) (by simp only[rG]) (by simp only[Rg];simp[rW,he2]) rfl ?_;rintro s2 d1 ⟨rfl,hs1⟩ hc1 j75 ⟨j73,-⟩;refine⟨?_⟩;simp[rW,j75,j73,zaV];refine⟨τ,⟨HT.m.up (fun id hid=>hs1 id hid) (by first|(simp only[rG];omega)|omega),HT.e,fun id h1 h2 h3=>(hs1 id (by omega)).trans (HT.f id h1 h2 h3)⟩,?_⟩;cases hcb:zde L X τ with
   |true=>exact .inl ⟨rfl,by simp[zda,hB1,hcb]⟩
   |false=>exact .inr ⟨rfl,by simp[zda,hB1,hcb]⟩
 .simp[rW,h6,zaV];exact⟨τ,⟨HT.m.up (fun _ _=>rfl) (by first|(simp only[rG];omega)|omega),HT.e,fun id h1 h2 h3=>HT.f id h1 h2 h3⟩,.inr ⟨rfl,by simp[zda,hB]⟩⟩
def fn117:pr.fn 117=some zzS:=by kernel_rfl
def fn190:pr.fn 190=some zAa:=by kernel_rfl
section
variable {s:St}{Q:St->Prop}{dst:Option Nat}{l:List Go.Vse.Op}
def o_un{op:UnOp}{x:A}:wpO pr (⟨dst,none,.un op x⟩ ::l) s Q↔oB (((O.un op x).res (zae s.tm)).bind (opv s.h.get s.c)) fun r=>zaq r.c r.wr=true/\wpO pr l (s.aft dst r.d r.wr r.c) Q:=zdD rfl
def o_iaa{es m:Nat}{x i:A}:wpO pr (⟨dst,none,.iaa es m x i⟩ ::l) s Q↔oB (((O.iaa es m x i).res (zae s.tm)).bind (opv s.h.get s.c)) fun r=>zaq r.c r.wr=true/\wpO pr l (s.aft dst r.d r.wr r.c) Q:=zdD rfl
end
def zsU(f:A->Option D)(op:UnOp)(x:A):O.res f (.un op x)=(f x).bind fun x=>some (.un op x):=rfl
def zPv(f:A->Option D)(es m:Nat)(x i:A):O.res f (.iaa es m x i)=(f x).bind fun x=>(f i).bind fun i=>some (.iaa es m x i):=rfl
def zO8(tm:T D)(cs:List F):zae tm (.g cs)=some (.fptr cs):=rfl
def zAw(n:Int):Option Int:=match Vse.zh8 (Go.Op.unary .neg (.int .u64 n))with
 |some (.int .u64 n)=>some n
 |_=>none
def v_neg(h:Nat->Option Ob)(c:Nat)(n m:Int)(hn:zAw n=some m):opv h c (.un .neg (.f (.i .u64 n)))=some {d:= .f (.i .u64 m),c}:=by
 unfold zAw at hn;unfold opv;simp only;split at hn
 .rename_i k e;rw[e];cases hn;rfl
 .cases hn
def v_iaa(h:Nat->Option Ob)(c es m i:Nat)(k:IntKind)(cs:List F)(hi:i<m):opv h c (.iaa es m (.fptr cs) (.f (.i k (i:Nat))))=some {d:= .fptr (cs.drop (i*es)),c}:=by
 have e:zbh (.f (.i k (i:Nat)))=some i:=by simp[zbh]
 unfold opv;simp only[e];rw[Z51 hi];rfl
def zs4:List F:=[.i .u8 0,.i .u8 1,.i .u8 56,.i .u8 2,.i .u8 57,.i .u8 49,.i .u8 28,.i .u8 3,.i .u8 61,.i .u8 58,.i .u8 42,.i .u8 50,.i .u8 38,.i .u8 29,.i .u8 17,.i .u8 4,.i .u8 62,.i .u8 47,.i .u8 59,.i .u8 36,.i .u8 45,.i .u8 43,.i .u8 51,.i .u8 22,.i .u8 53,.i .u8 39,.i .u8 33,.i .u8 30,.i .u8 24,.i .u8 18,.i .u8 12,.i .u8 5,.i .u8 63,.i .u8 55,.i .u8 48,.i .u8 27,.i .u8 60,.i .u8 41,.i .u8 37,.i .u8 16,.i .u8 46,.i .u8 35,.i .u8 44,.i .u8 21,.i .u8 52,.i .u8 32,.i .u8 23,.i .u8 11,.i .u8 54,.i .u8 26,.i .u8 40,.i .u8 15,.i .u8 34,.i .u8 20,.i .u8 31,.i .u8 10,.i .u8 25,.i .u8 14,.i .u8 19,.i .u8 9,.i .u8 13,.i .u8 8,.i .u8 7,.i .u8 6]
theorem t_neg:((List.range 64).all fun a=>a==0||match zAw ((a:Nat):Int)with
 |some z=>z==18446744073709551616 - ((a:Nat):Int)
 |none=>false)=true:=by kernel_rfl
theorem t_an2:((List.range 64).all fun a=>a==0||match zaH .and (.i .u64 (a:Nat)) (.i .u64 (18446744073709551616 - ((a:Nat):Int)))with
 |some (.i .u64 z)=>z==((2 ^ tz a:Nat):Int)&&Nat.blt (tz a) 6
 |_=>false)=true:=by kernel_rfl
def tz_k(k:Nat)(hk:k<6):∃m j,zaH .mul (.i .u64 ((2 ^ k:Nat):Int)) (.i .u64 285870213051353865)=some (.i .u64 m)/\zaH .shr (.i .u64 m) (.i .u64 58)=some (.i .u64 ((j:Nat):Int))/\j<64/\∃r,zs4.drop (j*1)= .i .u8 (k:Nat)::r:=by
 match k,hk with
 |0,_=>exact⟨285870213051353865,0,by kernel_rfl,by kernel_rfl,by decide,_,rfl⟩
 |1,_=>exact⟨571740426102707730,1,by kernel_rfl,by kernel_rfl,by decide,_,rfl⟩
 |2,_=>exact⟨1143480852205415460,3,by kernel_rfl,by kernel_rfl,by decide,_,rfl⟩
 |3,_=>exact⟨2286961704410830920,7,by kernel_rfl,by kernel_rfl,by decide,_,rfl⟩
 |4,_=>exact⟨4573923408821661840,15,by kernel_rfl,by kernel_rfl,by decide,_,rfl⟩
 |5,_=>exact⟨9147846817643323680,31,by kernel_rfl,by kernel_rfl,by decide,_,rfl⟩
def zP8{a:Nat}(ha:a<64)(h0:a≠0):∃n b m j,zAw a=some n/\zaH .and (.i .u64 (a:Nat)) (.i .u64 n)=some (.i .u64 b)/\zaH .mul (.i .u64 b) (.i .u64 285870213051353865)=some (.i .u64 m)/\zaH .shr (.i .u64 m) (.i .u64 58)=some (.i .u64 ((j:Nat):Int))/\j<64/\(∃r,zs4.drop (j*1)= .i .u8 (tz a:Nat)::r)/\tz a<6:=by
 have h1:=Z50.1 t_neg a (by simpa using ha);have h2:=Z50.1 t_an2 a (by simpa using ha);have hz:(a==0)=false:=by simpa using h0
 rw[hz,Bool.false_or]at h1 h2;split at h1
 .rename_i n e;have h1:=eq_of_beq h1;subst h1;split at h2
  .rename_i b e2;simp only[Z14]at h2;have h3:=eq_of_beq h2.1;subst h3;have h4:tz a<6:=by simpa [Z79]using h2.2
   obtain⟨m,j,e3,e4,e5,e6⟩ :=tz_k (tz a) h4;exact⟨_,_,m,j,e,e2,e3,e4,e5,e6,h4⟩
  .cases h2
 .cases h1
def ro190{a:Nat}(ha:a<64)(h0:a≠0)(h:T Ob)(c:Nat):RO pr 190 [.f (.i .u64 (a:Nat))] h c (.f (.i .i64 (tz a:Nat))):=by
 obtain⟨n,b,m,j,e1,e2,e3,e4,hj,⟨r,e5⟩,h6⟩ :=zP8 ha h0;refine zia zfC fn190 rfl ?_;have hz:(((a:Nat):Int)==0)=false:=by simpa using h0
 have hw:IntKind.i64.wrap ((tz a:Nat):Int)=((tz a:Nat):Int):=wrap_i64 _ (by omega) (by omega);simp only[zAa,rU];simp[rW,st0,zal,u_eq,hz];refine (o_un).2 ?_;simp[rW,zsU,v_neg _ _ _ _ e1,e2,e3,e4];refine (o_iaa).2 ?_;have hv:=v_iaa h.get c 1 64 j .u64 zs4 hj;rw[e5]at hv;unfold zs4 at hv;simp[rW,zPv,zO8,hv,hw,ze8,zAr]
 try simp (disch:=omega) only[zib,ziy]
 trace_state
def zsS{a:Nat}(ha:a<64)(h0:a≠0)(h:T Ob)(c:Nat):RO pr 117 [.f (.i .u64 (a:Nat))] h c (.f (.i .i64 (tz a:Nat))):=by
 refine zia zfC fn117 rfl ?_;simp only[zzS,rU];simp[rW,st0,zal];refine ziO (ro190 ha h0 _ _) ?_ fun mx=> ?_
 .simp only[rG];omega
 .simp[rW,ze8]
  try simp (disch:=omega) only[zib,ziy]
  trace_state
def fn118:pr.fn 118=some zn3:=by kernel_rfl
def ztp:C:=zn3.body.r.r.l.r.b.o
def ztt:C:=ztp.r.l.b.r.r.l.r.b.o
def zju{a:Nat}(ha:a<64)(h0:a≠0):a.testBit (tz a)=true/\tz a<6:=by
 have h:=zmb ha h0;have:tz a∈zhg a:=by rw[h];simp
 exact⟨(zhy.1 this).2,(zhy.1 this).1⟩
def zMa:((List.range 64).all fun a=>a==0||Nat.blt (Nat.land a (a - 1)) a)=true:=by kernel_rfl
def zuU{a:Nat}(ha:a<64)(h0:a≠0):Nat.land a (a - 1)<a:=by
 have h1:=Z50.1 zMa a (by simpa using ha);have hz:(a==0)=false:=by simpa using h0
 rw[hz,Bool.false_or]at h1;simpa [Z79]using h1
def zns{a i:Nat}(h:(Nat.land a (a - 1)).testBit i=true):a.testBit i=true:=by
 have h:(a&&& (a - 1)).testBit i=true:=h;rw[Nat.testBit_and,Z14]at h;exact h.1
def zei{a n i:Nat}(ha:a<2 ^ n)(h:a.testBit i=true):i<n:=by
 rcases Z145 i n with h1|h1
 .exact h1
 .have:2 ^ n<=2 ^ i:=Z113 (by decide) h1;rw[Nat.testBit_lt_two_pow (by omega)]at h;cases h
def Jc2(L:List Rl)(X:Mx)(σ:Asg)(q:Pat×D)(h:T Ob)(c:Nat)(R:List (Nat×D))(k:Nat)(s:St):Prop:=Rg R s/\(s.tm.get 28=some (q.2)/\s.tm.get 29=some (.f (.i .i64 q.1.ts.length))/\s.tm.get 30=some (.f (.i .i64 k)))/\(∃n:Nat,n<=k/\s.tm.get 9=some (.f (.i .i64 n)))/\c<=s.c/\∀id,id<c->s.h.get id=h.get id
theorem ch_l2{L:List Rl}{h:T Ob}{c:Nat}{X:Mx}{σ:Asg}(H:MS L h c X σ){q:Pat×D}(hq:q∈X.WP){a b:D}{rest cur i:D}{s:St}{K:Ex->St->Prop}
  (hJ:Jc2 L X σ q h c [(0,.ptr X.M 7 0 0),(1,rest),(5,a),(6,b),(7,cur),(8,i)] 0 s)(kx:∀s,Jc2 L X σ q h c [(0,.ptr X.M 7 0 0),(1,rest),(5,a),(6,b),(7,cur),(8,i)] q.1.ts.length s->K (.exit 2) s):WL pr ztt s K:=by
 have hP:=H.o.P q hq;have hpl:=hP.l;have hm:=H.m.m;have ho:=H.m.o;have gQ:=H.m.P.2 q hq;have hql:(opD q.1.ts).length=q.1.ts.length:=by simp[opD]
 have hb:zaO σ<64:=Z15 (zem σ) (Z113 (by decide) H.m.n6);refine zcA q.1.ts.length (Jc2 L X σ q h c [(0,.ptr X.M 7 0 0),(1,rest),(5,a),(6,b),(7,cur),(8,i)]) (fun e s=>e= .exit 2/\Jc2 L X σ q h c [(0,.ptr X.M 7 0 0),(1,rest),(5,a),(6,b),(7,cur),(8,i)] q.1.ts.length s) ?_ ?_ _ hJ ?_
 .rintro k s hlt ⟨⟨h0,h1,h5,h6,h7,h8,-⟩,⟨h28,h29,h30⟩,⟨n,hn,h9⟩,hc,hf⟩;have hw:=zau k (by omega);have hwn:=zau n (by omega);obtain⟨id,ro,e1,e2,e3,e4⟩ :=zej gQ (n:=k) (by omega);rw[hql]at e1;have ht:q.1.ts[k]? =some q.1.ts[k]:=Z0 hlt;have hto:=hP.o _ (Z1 hlt);generalize q.1.ts[k]=t at ht hto;obtain⟨t0,t1,t2,t3,et⟩ :=zkq t;have hrow:(opD q.1.ts)[k]? =some [D.f t0,D.f t1,D.f t2,D.f t3]:=by simp[opD,ht,et]
  have e2':s.h.get id=some (.arr 4 ro (opD q.1.ts)):=(hf id e4).trans e2;have hm':s.h.get X.M=_:=(hf X.M (by omega)).trans hm;have i1:¬id=s.c:=by omega
  have i2:¬X.M=s.c:=by omega
  obtain⟨H1,hH1⟩ :∃H1,H1=(s.h.set s.c (.arr 4 0 [[D.f (.i .i64 0),D.f (.i .i64 0),D.f (.i .i64 0),D.f (.s [])]])).set s.c (.arr 4 0 [[D.f t0,D.f t1,D.f t2,D.f t3]]):=⟨_,rfl⟩
  have f1:∀id,id<s.c->H1.get id=s.h.get id:=fun id hid=>by
   rw[hH1,TG,Z49 (by omega),TG,Z49 (by omega)]
  unfold ztt ztp zn3;simp only[rU,C.l,C.r,C.b,C.o];simp[rW,h28,h29,h30,hlt,e1,e2',hrow,i1,i2];refine zru (fun s'=>Rg [(0,.ptr X.M 7 0 0),(1,rest),(5,a),(6,b),(7,cur),(8,i),(28,q.2),(29,.f (.i .i64 q.1.ts.length)),(30,.f (.i .i64 k)),(9,.f (.i .i64 n)),(47,.f (.b (zaF σ t).isSome))] s'/\s'.h=H1/\s.c+1<=s'.c) (fun K hK=> ?_) ?_
  .refine zay ?_;cases t with
   |cst y0=>
    simp only[Opn.c,List.cons.injEq,and_true]at et;obtain⟨rfl,rfl,rfl,rfl⟩ :=et;simp[rW,h0,h1,h5,h6,h7,h8,h9,h28,h29,h30,hm',i1,i2];exact hK _ ⟨by simp only[Rg];simp[rW,h0,h1,h5,h6,h7,h8,h9,h28,h29,h30,e1,zaF],by simp only[rG];exact hH1.symm,by simp only[rG];omega⟩
   |var j=>
    have hj:j<6:=by
     have h1:j<X.ns.length:=hto;have h2:=H.m.n6;rw[H.m.n]at h2;omega
    obtain⟨bb1,bb2⟩ :=zGU hb hj;rw[zes]at bb2;generalize zaO σ>>>j=w at bb1 bb2;have hj0:¬((j:Int)<0):=by omega
    simp only[Opn.c,List.cons.injEq,and_true]at et;obtain⟨rfl,rfl,rfl,rfl⟩ :=et;cases hs:(zaF σ (.var j)).isSome with
    |true=>
     rw[hs]at bb2;simp[rW,h0,h1,h5,h6,h7,h8,h9,h28,h29,h30,hm',i1,i2,bb1,bb2,hj0,u_eq];exact hK _ ⟨by simp only[Rg];simp[rW,h0,h1,h5,h6,h7,h8,h9,h28,h29,h30,e1,hs],by simp only[rG];exact hH1.symm,by simp only[rG];omega⟩
    |false=>
     rw[hs]at bb2;simp[rW,h0,h1,h5,h6,h7,h8,h9,h28,h29,h30,hm',i1,i2,bb1,bb2,hj0,u_eq];exact hK _ ⟨by simp only[Rg];simp[rW,h0,h1,h5,h6,h7,h8,h9,h28,h29,h30,e1,hs],by simp only[rG];exact hH1.symm,by simp only[rG];omega⟩
  .rintro s' ⟨⟨k0,k1,k5,k6,k7,k8,k28,k29,k30,k9,k47,-⟩,hH,hc'⟩;have hf':∀id,id<c->s'.h.get id=h.get id:=fun id hid=>by rw[hH,f1 id (by omega)];exact hf id hid
   cases hy:(zaF σ t).isSome with
   |true=>
    rw[hy]at k47;simp[rW,k0,k1,k5,k6,k7,k8,k9,k28,k29,k30,k47,hw,hwn];exact⟨by simp only[Rg];simp[rW,k0,k1,k5,k6,k7,k8],⟨by simp[rW,k28],by simp[rW,k29],by simp[rW,hw]⟩,⟨n+1,by omega,by simp[rW,hwn]⟩,by simp only[rG];omega,fun id hid=>by simp[rW];exact hf' id hid⟩
   |false=>
    rw[hy]at k47;simp[rW,k0,k1,k5,k6,k7,k8,k9,k28,k29,k30,k47,hw,hwn];exact⟨by simp only[Rg];simp[rW,k0,k1,k5,k6,k7,k8],⟨by simp[rW,k28],by simp[rW,k29],by simp[rW,hw]⟩,⟨n,by omega,by simp[rW,k9]⟩,by simp only[rG];omega,fun id hid=>by simp[rW];exact hf' id hid⟩
 .rintro s ⟨⟨h0,h1,h5,h6,h7,h8,-⟩,⟨h28,h29,h30⟩,⟨n,hn,h9⟩,hc,hf⟩;unfold ztt ztp zn3;simp only[rU,C.l,C.r,C.b,C.o];simp[rW,h28,h29,h30];exact⟨by simp only[Rg];simp[rW,h0,h1,h5,h6,h7,h8],⟨by simp[rW,h28],by simp[rW,h29],by simp[rW,h30]⟩,⟨n,hn,by simp[rW,h9]⟩,by simp only[rG];omega,fun id hid=>by simp[rW];exact hf id hid⟩
 .rintro e s ⟨rfl,hJ⟩;exact kx s hJ
def Jc0(X:Mx)(rest:Nat)(h:T Ob)(c cur:Nat)(s:St):Prop:=(s.tm.get 0=some (.ptr X.M 7 0 0)/\s.tm.get 1=some (.f (.i .u64 rest))/\s.tm.get 7=some (.f (.i .u64 cur)))/\cur<64/\(∀i,cur.testBit i=true->rest.testBit i=true)/\(∃a b:Int,s.tm.get 5=some (.f (.i .i64 a))/\s.tm.get 6=some (.f (.i .i64 b))/\((b= -1/\cur≠0)\/∃i:Nat,a=i/\rest.testBit i=true))/\c<=s.c/\∀id,id<c->s.h.get id=h.get id
def Rc0(X:Mx)(rest:Nat)(h:T Ob)(c:Nat)(e:Ex)(s:St):Prop:=e= .exit 0/\Jc0 X rest h c 0 s
def ChP(rest:Nat)(h:T Ob)(c:Nat)(d:D)(h':T Ob)(_:Nat):Prop:=(∃i:Nat,d= .f (.i .i64 i)/\rest.testBit i=true)/\∀id,id<c->h'.get id=h.get id
def zB2{L:List Rl}{h:T Ob}{c:Nat}{X:Mx}{σ:Asg}(H:MS L h c X σ){rest:Nat}(hr0:rest≠0)(hrl:rest<2 ^ X.WP.length):Eff pr 118 [.ptr X.M 7 0 0,.f (.i .u64 rest)] h c (ChP rest h c):=by
 refine zcm kps fn118 (fun d h' c' ⟨a,_⟩ _ _=>⟨a,fun _ _=>rfl⟩) ?_;have hPl:=H.o.Pl;have hm:=H.m.m;have ho:=H.m.o;have gP:=H.m.P.1;have hpd:(paD X.WP).length=X.WP.length:=by simp[paD]
 have hr64:rest<64:=Z15 hrl (Z113 (by decide) hPl);simp only[zn3,rU];simp[rW,st0,zal];refine zcJ (fun k s=>∃cur,k=cur/\Jc0 X rest h c cur s) (Rc0 X rest h c) ?_ rest _ ⟨rest,rfl,⟨?_,?_,?_⟩,hr64,fun _ h=>h,⟨-1,-1,?_,?_,.inl ⟨rfl,hr0⟩⟩,?_,?_⟩ ?_
 .rintro cur s ⟨_,rfl,⟨h0,h1,h7⟩,hc64,hsub,⟨a,b,h5,h6,hab⟩,hc,hf⟩
  by_cases hz:cur=0
  .subst hz;rcases hab with⟨_,h⟩ |hab
   .exact absurd rfl h
   simp[rW,h0,h1,h5,h6,h7,zhu];exact⟨rfl,⟨by simp[rW,h0],by simp[rW,h1],by simp[rW,h7]⟩,hc64,hsub,⟨a,b,by simp[rW,h5],by simp[rW,h6],.inr hab⟩,by simp only[rG];omega,fun id hid=>by simp[rW];exact hf id hid⟩
  .obtain⟨tm1,tm2⟩ :=zju hc64 hz;have htr:=hsub _ tm1;have hti:=zei hrl htr;have hz2:(((cur:Nat):Int)==0)=false:=by simpa using hz
   obtain⟨lb1,lb2⟩ :=zzm hc64 hz;have hll:=zuU hc64 hz;generalize hi:tz cur=i at tm1 tm2 htr hti;have hx:X.WP[i]? =some X.WP[i]:=Z0 hti;have hmem:=Z1 hti;generalize X.WP[i]=q at hx hmem;have lQ:=zdL (H.m.P.2 q hmem);have hql:(opD q.1.ts).length=q.1.ts.length:=by simp[opD]
   rw[hql]at lQ;obtain⟨id,ro,e1,e2,e3,e4⟩ :=zej gP (n:=i) (by omega);rw[hpd]at e1;have hrow:(paD X.WP)[i]? =some [.f (.i .i64 q.1.r),q.2,.f (.i .u64 q.1.m)]:=by simp[paD,hx]
   have hA:=(Z8.1 hrow).2;simp[rW,h0,h1,h5,h6,h7,zhu,hz2];refine zbO [(0,.ptr X.M 7 0 0),(1,.f (.i .u64 rest)),(5,.f (.i .i64 a)),(6,.f (.i .i64 b)),(7,.f (.i .u64 cur))] (zjl (zsS hc64 hz s.h s.c)) (by simp only[rG]) (by simp only[rG]) (by simp only[Rg];simp[rW,h0,h1,h5,h6,h7]) rfl ?_;rintro s1 d1 ⟨rfl,hh,hcc⟩ hc1 k20 ⟨k0,k1,k5,k6,k7,-⟩;rw[hi]at k20;refine⟨?_⟩;have hm':s1.h.get X.M=_:=(show s1.h.get X.M=h.get X.M by rw[hh];exact hf X.M (by omega)).trans hm;have e2':s1.h.get id=some (.arr 3 ro (paD X.WP)):=(show s1.h.get id=h.get id by rw[hh];exact hf id e4).trans e2;simp[rW,k0,k1,k5,k6,k7,k20,hm',e1,hti,e2',hrow,hA,hpd,lQ];refine ch_l2 H hmem (a:= .f (.i .i64 a)) (b:= .f (.i .i64 b)) (rest:= .f (.i .u64 rest)) (cur:= .f (.i .u64 cur)) (i:= .f (.i .i64 i)) ⟨by simp only[Rg];simp[rW,k0,k1,k5,k6,k7],⟨by simp[rW],by simp[rW],by simp[rW]⟩,⟨0,Z2 _,by simp[rW]⟩,by simp only[rG];omega,fun id hid=>by simp[rW,hh];exact hf id hid⟩ ?_;rintro s2 ⟨⟨j0,j1,j5,j6,j7,j8,-⟩,-,⟨n,hn,j9⟩,hc2,hf2⟩;have hcur:∀i,(Nat.land cur (cur - 1)).testBit i=true->rest.testBit i=true:=fun i hi=>hsub i (zns hi)
   by_cases hgt:b< (n:Int)
   .simp[rW,j0,j1,j5,j6,j7,j8,j9,hgt,lb1,lb2];exact⟨_,hll,⟨by simp[rW,j0],by simp[rW,j1],by simp[rW]⟩,by omega,hcur,⟨i,n,by simp[rW],by simp[rW],.inr ⟨i,rfl,htr⟩⟩,by simp only[rG];omega,fun id hid=>by simp[rW];exact hf2 id hid⟩
   .have hab':∃i:Nat,a=i/\rest.testBit i=true:=by
     rcases hab with⟨e,_⟩ |h
     .omega
     .exact h
    simp[rW,j0,j1,j5,j6,j7,j8,j9,hgt,lb1,lb2];exact⟨_,hll,⟨by simp[rW,j0],by simp[rW,j1],by simp[rW]⟩,by omega,hcur,⟨a,b,by simp[rW,j5],by simp[rW,j6],.inr hab'⟩,by simp only[rG];omega,fun id hid=>by simp[rW];exact hf2 id hid⟩
 .simp[rW]
 .simp[rW]
 .simp[rW]
 .simp[rW]
 .simp[rW]
 .simp only[rG];omega
 .intro id hid;simp[rW]
 .rintro e s ⟨rfl,⟨h0,h1,h7⟩,hc64,hsub,⟨a,b,h5,h6,hab⟩,hc,hf⟩;rcases hab with⟨_,h⟩ |⟨i,rfl,hi⟩
  .exact absurd rfl h
  simp[rW,h0,h1,h5,h6,h7,zaV];exact⟨⟨i,rfl,hi⟩,hf⟩
end Go.Proofs.YtbhholaillniiaaGreatDoor
end
