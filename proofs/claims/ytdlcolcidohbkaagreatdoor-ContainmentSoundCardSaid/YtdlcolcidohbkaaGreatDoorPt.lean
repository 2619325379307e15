/- The matcher: project; the variables of the head that are not known. -/
import Derived.Test.YtdlcolcidohbkaaGreatDoorPs
import Derived.KernelRfl
import Derived.IntWalk
import Derived.Test.YtdlcolcidohbkaaGreatDoorPk
import Derived.Test.YtdlcolcidohbkaaGreatDoorPo
set_option linter.all false
set_option maxRecDepth 100000
set_option maxHeartbeats 4000000
noncomputable section
section
namespace Go.Proofs.YtdlcolcidohbkaaGreatDoor
open Go Go.Vse Go.Vse.Sm
def fn61:pr.fn 61=some g61:=by kernel_rfl
def fn115:pr.fn 115=some zzS:=by kernel_rfl
def fn34:pr.fn 34=some g34:=by kernel_rfl
def zyM:C:=g61.body.r.r.l.r.b.o
def hsD(hs:List Nat):List (List D):=hs.map fun i=>[.f (.i .i64 (i:Nat))]
def Jp0(R:List (Nat×D))(σ:Asg)(hs:List Nat)(dE:D)(h:T Ob)(b:Nat)(k:Nat)(s:St):Prop:=Rg R s/\(s.tm.get 8=some (.f (.i .u64 (frH σ (hs.take k))))/\s.tm.get 21=some (dE)/\s.tm.get 22=some (.f (.i .i64 hs.length))/\s.tm.get 23=some (.f (.i .i64 k)))/\b<=s.c/\(∀id,id<b->s.h.get id=h.get id)
theorem zGR{L:List Rl}{h:T Ob}{c lo e b c4:Nat}{X:Mx}{σ:Asg}{hs:List Nat}{dE D5 D6 D7:D}(H:MS L h c X σ)(hc:c<=b)(hE:Gro h lo e 1 dE (hsD hs))(he:e<=b)(hh:∀j∈hs,j<6)(hl:hs.length<1000)(g4:h.get c4=some (.arr 1 0 [[.ptr X.M 7 0 0]]))(hc4:c4<b){s:St}{K:Ex->St->Prop}
  (hJ:Jp0 [(4,.ptr c4 1 0 0),(5,D5),(6,D6),(7,D7)] σ hs dE h b 0 s)(kx:∀s,Jp0 [(4,.ptr c4 1 0 0),(5,D5),(6,D6),(7,D7)] σ hs dE h b hs.length s->K (.exit 0) s):WL pr zyM s K:=by
 have hσ:σ.length<=6:=H.m.n6;have hmo:=H.m.o;refine zbD hs.length (Jp0 [(4,.ptr c4 1 0 0),(5,D5),(6,D6),(7,D7)] σ hs dE h b) (fun e s=>e= .exit 0/\Jp0 [(4,.ptr c4 1 0 0),(5,D5),(6,D6),(7,D7)] σ hs dE h b hs.length s) ?_ ?_ _ hJ ?_
 .rintro k s hlt ⟨⟨h4,h5,h6,h7,-⟩,⟨h8,h21,h22,h23⟩,hcb,hf⟩;have hw:=zao k (by omega);have hx:hs[k]? =some hs[k]:=Z0 hlt;have hj:=hh _ (Z1 hlt);generalize htt:hs[k]=j at hx hj;have htk:frH σ (hs.take (k+1))=Nat.lor (frH σ (hs.take k)) (zdm (2 ^ j) (zaQ σ)):=by
   rw[Z105,hx,Option.toList,zD5]
  have q1:=zkO (i:=j) (by omega);have q2:=zll (zqN hj) (zxc hσ);have q3:=znl (zB7 hσ (hs:=hs.take k) fun i hi=>hh i (Z13 hi)) (zmh (b:=zaQ σ) (zqN hj));rw[<-htk]at q3;generalize 2 ^ j=w at q1 q2 q3;have hm:=(hf X.M (by omega)).trans H.m.m;have g4':=(hf c4 hc4).trans g4;rcases hE with⟨_,e0⟩ |⟨id,ro,rfl,e1,e2,e3,e4,e5⟩
  .have:hs=[]:=Z182.1 e0;rw[this]at hlt;simp at hlt
  have hel:(hsD hs).length=hs.length:=by simp[hsD]
  have hxe:(hsD hs)[k]? =some [.f (.i .i64 (j:Nat))]:=by simp[hsD,hx]
  have hxA:=(Z8.1 hxe).2;have e2':=(hf id (by omega)).trans e2;unfold zyM g61;simp only[rU,C.l,C.r,C.b,C.o];simp[rW,h4,h5,h6,h7,h8,h21,h22,h23,hlt,e2',hel,hxA];refine zgi ?_;simp[rW,h4,h5,h6,h7,h8,h21,h22,h23,g4',hm,q1,q2,q3,hw];exact⟨by simp only[Rg];simp[rW,h4,h5,h6,h7],⟨by simp[rW],by simp[rW,h21,hel],by simp[rW,h22],by simp[rW]⟩,by simp only[rG];omega,fun id h1=>by simp only[rG];exact hf id h1⟩
 .rintro s ⟨⟨h4,h5,h6,h7,-⟩,⟨h8,h21,h22,h23⟩,hcb,hf⟩;unfold zyM g61;simp only[rU,C.l,C.r,C.b,C.o];simp[rW,h8,h21,h22,h23];exact⟨by simp only[Rg];simp[rW,h4,h5,h6,h7],⟨by simp[rW,h8],by simp[rW,h21],by simp[rW,h22],by simp[rW,h23]⟩,by simp only[rG];omega,fun id h1=>by simp[rW];exact hf id h1⟩
 .rintro e s ⟨rfl,hJ⟩;exact kx s hJ
def cT:C->C
 | .cond _ a _=>a
 |c=>c
def zyN:C:=(cT g61.body.r.r.r.l.r).r.l.r.b.o
def Jp2(R:List (Nat×D))(dE:D)(hs:List Nat)(σ:Asg)(h:T Ob)(b V:Nat)(k:Nat)(s:St):Prop:=Rg R s/\(s.tm.get 11=some (.sl V 0 hs.length 3 hs.length true)/\s.tm.get 42=some (dE)/\s.tm.get 43=some (.f (.i .i64 hs.length))/\s.tm.get 44=some (.f (.i .i64 k)))/\b<=s.c/\(∀id,id<b->id≠V->s.h.get id=h.get id)/\s.h.get V=some (.arr 3 0 (zhg (hrow hs σ) k))
theorem pj_l2{L:List Rl}{h:T Ob}{c lo e b c4 V:Nat}{X:Mx}{σ:Asg}{hs:List Nat}{dE D5 D6 D7:D}(H:MS L h c X σ)(hc:c<=b)(hE:Gro h lo e 1 dE (hsD hs))(he:e<=b)(hh:∀j∈hs,(zaC σ (.var j)).isSome=true)(hl:hs.length<1000)(g4:h.get c4=some (.arr 1 0 [[.ptr X.M 7 0 0]]))(hc4:c4<b)(hV:c<=V/\e<=V/\V<b/\V≠c4){s:St}{K:Ex->St->Prop}
  (hJ:Jp2 [(4,.ptr c4 1 0 0),(5,D5),(6,D6),(7,D7)] dE hs σ h b V 0 s)(kx:∀s,Jp2 [(4,.ptr c4 1 0 0),(5,D5),(6,D6),(7,D7)] dE hs σ h b V hs.length s->K (.exit 2) s):WL pr zyN s K:=by
 have hmo:=H.m.o;refine zbD hs.length (Jp2 [(4,.ptr c4 1 0 0),(5,D5),(6,D6),(7,D7)] dE hs σ h b V) (fun e s=>e= .exit 2/\Jp2 [(4,.ptr c4 1 0 0),(5,D5),(6,D6),(7,D7)] dE hs σ h b V hs.length s) ?_ ?_ _ hJ ?_
 .rintro k s hlt ⟨⟨h4,h5,h6,h7,-⟩,⟨h11,h42,h43,h44⟩,hcb,hf,gV⟩;have hw:=zao k (by omega);have hx:hs[k]? =some hs[k]:=Z0 hlt;have hj:=hh _ (Z1 hlt);generalize htt:hs[k]=j at hx hj;obtain⟨z,hz⟩ :=Z158.1 hj;have hzo:σ[j]? =some (some z):=by
   simp only[zaC]at hz;cases hh:σ[j]? with
   |none=>rw[hh]at hz;cases hz
   |some o=>rw[hh]at hz;exact congrArg some hz
  have hjl:j<X.ns.length:=by rw[<-H.m.n];exact (Z8.1 hzo).1
  have hm:=(hf X.M (by omega) (by omega)).trans H.m.m;obtain⟨vs,v1,v2,v3,v4⟩ :=H.m.v;have v1':=(hf X.V (by omega) (by omega)).trans v1;have hvA:=v4 j z hzo;have g4':=(hf c4 hc4 (by omega)).trans g4;have hrl:(hrow hs σ).length=hs.length:=by simp[hrow]
  have hrk:(hrow hs σ)[k]? =some z:=by simp[hrow,hx,hz]
  rcases hE with⟨_,e0⟩ |⟨id,ro,rfl,e1,e2,e3,e4,e5⟩
  .have:hs=[]:=Z182.1 e0;rw[this]at hlt;simp at hlt
  have hel:(hsD hs).length=hs.length:=by simp[hsD]
  have hxe:(hsD hs)[k]? =some [.f (.i .i64 (j:Nat))]:=by simp[hsD,hx]
  have hxA:=(Z8.1 hxe).2;have e2':=(hf id (by omega) (by omega)).trans e2;have hgk:=zvv (v:=hrow hs σ) (i:=k) (by omega);have hst:=zvw hrk;have h8:=zxo (hrow hs σ) k;have hVs:V<s.c:=by omega
  unfold zc at hgk;unfold zyN g61;simp only[rU,C.l,C.r,C.b,C.o];dsimp only[cT,C.l,C.r,C.b,C.o];simp[rW,h4,h5,h6,h7,h11,h42,h43,h44,hlt,e2',hel,hxA,g4',hm,hjl,v1',hvA,gV,Sm.vF,hgk,hst,h8,hw,hVs];exact⟨by simp only[Rg];simp[rW,h4,h5,h6,h7],⟨by simp[rW,h11],by simp[rW,h42,hel],by simp[rW,h43],by simp[rW]⟩,by simp only[rG];omega,fun id h1 h2=>by simp[rW,h2];exact hf id h1 h2,by simp[rW]⟩
 .rintro s ⟨⟨h4,h5,h6,h7,-⟩,⟨h11,h42,h43,h44⟩,hcb,hf,gV⟩;unfold zyN g61;simp only[rU,C.l,C.r,C.b,C.o];dsimp only[cT,C.l,C.r,C.b,C.o];simp[rW,h11,h42,h43,h44];exact⟨by simp only[Rg];simp[rW,h4,h5,h6,h7],⟨by simp[rW,h11],by simp[rW,h42],by simp[rW,h43],by simp[rW,h44]⟩,by simp only[rG];omega,fun id h1 h2=>by simp[rW];exact hf id h1 h2,by simp[rW,gV]⟩
 .rintro e s ⟨rfl,hJ⟩;exact kx s hJ
def zCl{a i:Nat}(ha:a<64)(h0:a≠0)(hi:a.testBit i=true):i=tz a\/(Nat.land a (a - 1)).testBit i=true:=by
 have h6:i<6:=zem (n:=6) ha hi;have h1:i∈zhU a:=zin.2 ⟨h6,hi⟩;rw[znn ha h0,Z5]at h1;rcases h1 with h1|h1
 .exact .inl h1
 .exact .inr (zin.1 h1).2
def zGd:C:=g61.body.r.r.r.r.r.l.r.b.o
def Jp4(X:Mx)(R:List (Nat×D))(g f:Nat)(h:T Ob)(b cur:Nat)(s:St):Prop:=Rg R s/\(∃u:Nat,(s.tm.get 17=some (.f (.i .u64 u))/\s.tm.get 18=some (.f (.i .u64 cur)))/\u<2 ^ X.WP.length/\(∀i,u.testBit i=true->g.testBit i=true)/\(u≠0\/∃i q,cur.testBit i=true/\X.WP[i]? =some q/\Nat.land q.1.m f≠0))/\cur<64/\(∀i,cur.testBit i=true->g.testBit i=true)/\b<=s.c/\∀id,id<b->s.h.get id=h.get id
def Rp4(X:Mx)(R:List (Nat×D))(g f:Nat)(h:T Ob)(b:Nat)(e:Ex)(s:St):Prop:=e= .exit 4/\Jp4 X R g f h b 0 s
theorem pj_l4{L:List Rl}{h:T Ob}{c b c4 g f:Nat}{X:Mx}{σ:Asg}{D5 D6 D7:D}(H:MS L h c X σ)(hc:c<=b)(hgl:g<2 ^ X.WP.length)(hf64:f<64)(g4:h.get c4=some (.arr 1 0 [[.ptr X.M 7 0 0]]))(hc4:c4<b){s:St}{K:Ex->St->Prop}
  (hJ:Jp4 X [(4,.ptr c4 1 0 0),(5,D5),(6,D6),(7,D7),(8,.f (.i .u64 f))] g f h b g s)(kx:∀s,Jp4 X [(4,.ptr c4 1 0 0),(5,D5),(6,D6),(7,D7),(8,.f (.i .u64 f))] g f h b 0 s->K (.exit 4) s):WL pr zGd s K:=by
 have hPl:=H.o.Pl;have hm:=H.m.m;have ho:=H.m.o;have gP:=H.m.P.1;have hpd:(paD X.WP).length=X.WP.length:=by simp[paD]
 refine zcS (fun k s=>Jp4 X [(4,.ptr c4 1 0 0),(5,D5),(6,D6),(7,D7),(8,.f (.i .u64 f))] g f h b k s) (Rp4 X [(4,.ptr c4 1 0 0),(5,D5),(6,D6),(7,D7),(8,.f (.i .u64 f))] g f h b) ?_ g _ hJ ?_
 .rintro cur s ⟨⟨h4,h5,h6,h7,h8,-⟩,⟨u,⟨h17,h18⟩,hul,husub,hab⟩,hc64,hsub,hcb,hf⟩;unfold zGd g61;simp only[rU,C.l,C.r,C.b,C.o]
  by_cases hz:cur=0
  .subst hz;simp[rW,h4,h5,h6,h7,h8,h17,h18,zih];exact⟨rfl,by simp only[Rg];simp[rW,h4,h5,h6,h7,h8],⟨u,⟨by simp[rW,h17],by simp[rW,h18]⟩,hul,husub,hab⟩,hc64,hsub,by simp only[rG];omega,fun id hid=>by simp[rW];exact hf id hid⟩
  .obtain⟨tm1,tm2⟩ :=zkJ hc64 hz;have htr:=hsub _ tm1;have hti:=zem hgl htr;have hz2:(((cur:Nat):Int)==0)=false:=by simpa using hz
   obtain⟨lb1,lb2⟩ :=zyQ hc64 hz;have hll:=zu0 hc64 hz;have hlc:=fun i=>zCl (i:=i) hc64 hz
   generalize hi:tz cur=i at tm1 tm2 htr hti hlc;have hx:X.WP[i]? =some X.WP[i]:=Z0 hti;have hmem:=Z1 hti;generalize X.WP[i]=q at hx hmem;have hqm:q.1.m<64:=zkq (by rw[<-H.m.n];exact H.m.n6) (H.o.P q hmem).o;obtain⟨id,ro,e1,e2,e3,e4⟩ :=zes gP (n:=i) (by omega);rw[hpd]at e1;have hrow:(paD X.WP)[i]? =some [.f (.i .i64 q.1.r),q.2,.f (.i .u64 q.1.m)]:=by simp[paD,hx]
   have hA:=(Z8.1 hrow).2;have q1:=zyP hqm hf64;have q2:=zkO (i:=i) (by omega);have hu64:u<64:=Z15 hul (Z113 (by decide) hPl);have q3:=znl hu64 (zqN tm2);simp[rW,h4,h5,h6,h7,h8,h17,h18,zih,hz2];refine zbR [(4,.ptr c4 1 0 0),(5,D5),(6,D6),(7,D7),(8,.f (.i .u64 f)),(17,.f (.i .u64 u)),(18,.f (.i .u64 cur))] (zkw (ztw hc64 hz s.h s.c)) (by simp only[rG]) (by simp only[rG]) (by simp only[Rg];simp[rW,h4,h5,h6,h7,h8,h17,h18]) rfl ?_;rintro s1 d1 ⟨rfl,hh,hcc⟩ hc1 k87 ⟨k4,k5,k6,k7,k8,k17,k18,-⟩;rw[hi]at k87;refine⟨?_⟩;have hf1:∀id,id<b->s1.h.get id=h.get id:=fun id hid=>by rw[hh];exact hf id hid
   have hm':=(hf1 X.M (by omega)).trans hm;have e2':=(hf1 id (by omega)).trans e2;have g4':=(hf1 c4 hc4).trans g4;have hcur:∀i,(Nat.land cur (cur - 1)).testBit i=true->g.testBit i=true:=fun i hi=>hsub i (zoz hi)
   by_cases hn:Nat.land q.1.m f=0
   .rw[hn]at q1;simp[rW,k4,k5,k6,k7,k8,k17,k18,k87,g4',hm',e1,hti,e2',hrow,hA,hpd,q1,zih,lb1,lb2];refine⟨_,hll,by simp only[Rg];simp[rW,k4,k5,k6,k7,k8],⟨u,⟨by simp[rW,k17],by simp[rW]⟩,hul,husub,?_⟩,by omega,hcur,by simp only[rG];omega,fun id hid=>by simp[rW];exact hf1 id hid⟩;rcases hab with h|⟨i',q',a1,a2,a3⟩
    .exact .inl h
    .rcases hlc i' a1 with e|e
     .subst e;rw[hx]at a2;cases a2;exact absurd hn a3
     .exact .inr ⟨i',q',e,a2,a3⟩
   .have hn2:(((Nat.land q.1.m f:Nat):Int)==0)=false:=by simpa using hn
    obtain⟨w,hw⟩ :∃w,w=2 ^ i:=⟨_,rfl⟩
    rw[<-hw]at q2 q3;obtain⟨n0,hn0⟩ :∃n0,n0=Nat.land q.1.m f:=⟨_,rfl⟩
    rw[<-hn0]at q1 hn2;obtain⟨o0,ho0⟩ :∃o0,o0=Nat.lor u w:=⟨_,rfl⟩
    rw[<-ho0]at q3;simp[rW,k4,k5,k6,k7,k8,k17,k18,k87,g4',hm',e1,hti,e2',hrow,hA,hpd,q1,zih,hn2,lb1,lb2,q2,q3];refine⟨_,hll,by simp only[Rg];simp[rW,k4,k5,k6,k7,k8],⟨o0,⟨by simp[rW],by simp[rW]⟩,?_,?_,.inl ?_⟩,by omega,hcur,by simp only[rG];omega,fun id hid=>by simp[rW];exact hf1 id hid⟩
    .rw[ho0,hw];exact Nat.or_lt_two_pow hul (Nat.pow_lt_pow_right (by decide) hti)
    .intro j hj;have hj:(u|||w).testBit j=true:=by rw[ho0]at hj;exact hj
     rw[Nat.testBit_or,hw,Nat.testBit_two_pow,Z115,Z86]at hj;rcases hj with hj|hj
     .exact husub j hj
     .exact hj▸htr
    .intro e;rw[ho0]at e;have:(Nat.lor u w).testBit i=true:=by
      show(u|||w).testBit i=true;rw[Nat.testBit_or,hw,Nat.testBit_two_pow];simp
     rw[e,Nat.zero_testBit]at this;cases this
 .rintro e s ⟨rfl,hJ⟩;exact kx s hJ
structure zj8(V:List Int->Prop)(key:List Int->Str):Prop where
 a:∀v,V v->∃x,Ans pr 111 [.sl 3 (v.map Sm.vF)] x/\∀h c,opv h c (.b2s x.d)=some {d:= .f (.s (key v)),c}
 i:∀u v,V u->V v->key u=key v->u=v
def ztF(h:T Ob)(lo c:Nat)(d:D)(v:List Int):Prop:=∃id ro,d= .sl id 0 v.length 3 v.length true/\h.get id=some (.arr 3 ro (vRw v))/\lo<id/\id<c
def mpE(key:List Int->Str)(E:List Er):List (F×D):=E.map fun p=>(.s (key p.2),p.1)
structure FmA(V:List Int->Prop)(key:List Int->Str)(Mp:Nat)(E:List Er)(h:T Ob)(c:Nat):Prop where
 m:h.get Mp=some (.map (mpE key E))
 e:∀p∈E,ztF h Mp c p.1 p.2/\V p.2
 n:(E.map (·.2)).Nodup
 b:Mp<c
def FmA.up{V:List Int->Prop}{key:List Int->Str}{Mp:Nat}{E:List Er}{h h':T Ob}{c c':Nat}(H:FmA V key Mp E h c)(hf:∀id,Mp<=id->id<c->h'.get id=h.get id)(hc:c<=c'):FmA V key Mp E h' c':=
 ⟨by rw[hf _ (Z2 _) H.b];exact H.m,fun p hp=>by
  obtain⟨⟨id,ro,e,h1,h2,h3⟩,hv⟩ :=H.e p hp;exact⟨⟨id,ro,e,by rw[hf id (by omega) h3];exact h1,h2,by omega⟩,hv⟩,H.n,by have:=H.b;omega⟩
theorem zuF{key:List Int->Str}{k:Str}:∀{E:List Er} {i:Nat},(∀p∈E,key p.2≠k)->zc1 1 (.s k) (mpE key E) i=some none
 |[],_,_=>rfl
 |p::E,i,h=>by
  have h1:(k==key p.2)=false:=by
   have:=h p (by simp);simpa using fun e=>this e.symm
  simp only[mpE,Z10,zc1,ziU,h1];exact zuF (E:=E) fun q hq=>h q (by simp[hq])
theorem zsh{key:List Int->Str}{k:Str}:∀{E:List Er} {i:Nat},(∃p∈E,key p.2=k)->∃j d,zc1 1 (.s k) (mpE key E) i=some (some (j,d))
 |[],_,h=>by simp at h
 |p::E,i,h=>by
  simp only[mpE,Z10,zc1,ziU];cases h1:(k==key p.2)with
  |true=>exact⟨_,_,rfl⟩
  |false=>
   have h1:k≠key p.2:=by simpa using h1
   obtain⟨q,hq,e⟩ :=h;rcases Z5.1 hq with rfl|hq
   .exact absurd e.symm h1
   .exact zsh (E:=E) ⟨q,hq,e⟩
def Vr(Vz:Int->Prop)(n:Nat)(v:List Int):Prop:=v.length=n/\∀z∈v,Vz z
def zo5(Vz:Int->Prop)(σ:Asg):Prop:=∀(i:Nat) (z:Int),zaC σ (.var i)=some z->Vz z
def zOW{Vz:Int->Prop}{σ:Asg}{hs:List Nat}(H:zo5 Vz σ)(hb:∀i∈hs,(zaC σ (.var i)).isSome=true):Vr Vz hs.length (hrow hs σ):=by
 refine⟨by simp[hrow],fun z hz=> ?_⟩;obtain⟨i,hi,rfl⟩ :=Z12.1 hz;obtain⟨y,hy⟩ :=Z158.1 (hb i hi);rw[hy];exact H i y hy
def PjP(L:List Rl)(X:Mx)(V:List Int->Prop)(key:List Int->Str)(Mp:Nat)(E:List Er)(σ:Asg)(g:Nat)(hs:List Nat)(h:T Ob)(c:Nat)(_:D)(h':T Ob)(c':Nat):Prop:=MS L h' c' X σ/\(∃E',FmA V key Mp E' h' c'/\∀v,v∈E'.map (·.2)↔v∈E.map (·.2)\/PjS L X σ g hs v)/\Lft X (fun _ id=>id=Mp) h c h'
def PjAt(L:List Rl)(X:Mx)(Vz:Int->Prop)(key:List Int->Str)(Mp c0 e:Nat)(hs:List Nat)(dE:D)(g:Nat):Prop:=∀E σ h c,MS L h c X σ->zdk L X σ=true->zru X σ g hs->zo5 Vz σ->St0 h c0 X->c0<=Mp->Gro h (X.V+1) e 1 dE (hsD hs)->e<=Mp->FmA (Vr Vz hs.length) key Mp E h c->Eff pr 61 [.ptr X.M 7 0 0,.f (.i .u64 g),dE,.mp Mp] h c (PjP L X (Vr Vz hs.length) key Mp E σ g hs h c)
def zmA{V:List Int->Prop}{key:List Int->Str}(hK:zj8 V key){Mp:Nat}{E E':List Er}{h h':T Ob}{c c':Nat}(H:FmA V key Mp E h c)(H':FmA V key Mp E' h' c')(e:h'.get Mp=h.get Mp):E'=E:=by
 rw[H.m,H'.m]at e;simp only[Z45,Ob.map.injEq]at e;have h1:=H.e;have h2:=H'.e;clear H H'
 induction E generalizing E' with
 |nil=>simpa [mpE]using e
 |cons p E ih=>
  cases E' with
  |nil=>simp[mpE]at e
  |cons p' E'=>
   simp only[mpE,Z10,List.cons.injEq,Z66,F.s.injEq]at e;obtain⟨⟨e1,e2⟩,e3⟩ :=e;have e4:=hK.i _ _ (h2 p' (by simp)).2 (h1 p (by simp)).2 e1;rw[ih e3 (fun q hq=>h1 q (by simp[hq])) fun q hq=>h2 q (by simp[hq])]
   congr 1
   exact Prod.ext e2 e4
def zAG{dst:Option Nat}{l:List Go.Vse.Op}{x:A}{s:St}{Q:St->Prop}:wpO pr (⟨dst,none,.b2s x⟩ ::l) s Q↔oB (((O.b2s x).res (zae s.tm)).bind (opv s.h.get s.c)) fun r=>zas r.c r.wr=true/\wpO pr l (s.aft dst r.d r.wr r.c) Q:=zdK rfl
def zvD(f:A->Option D)(x:A):O.res f (.b2s x)=(f x).bind fun x=>some (.b2s x):=rfl
def zxm{h:T Ob}{c V es ro:Nat}{els:List (List D)}(hg:h.get V=some (.arr es ro els))(hV:V<c):∃W,roO h.get V [] (h.get V)=W/\zas c W=true/\(∀id,id≠V->(wrT h W).get id=h.get id)/\∃ro',(wrT h W).get V=some (.arr es ro' els):=by
 refine⟨_,rfl,?_⟩;rw[hg];simp only[roO];split
 .exact⟨rfl,fun _ _=>rfl,ro,hg⟩
 .refine⟨by simp[zas,zau,Z79,hV],fun id hid=> ?_,els.length,?_⟩
  .simp[wrT,zau,TG,hid]
  .simp[wrT,zau,TG]
def zJO{h:Nat->Option Ob}{id ro:Nat}{v:List Int}{b:Bool}(hg:h id=some (.arr 3 ro (vRw v))):frz h 12 (.sl id 0 v.length 3 v.length b)=some (.sl 3 (v.map Sm.vF),[id]):=by
 have e:((vRw v).drop 0).take v.length=vRw v:=by
  rw[Z34,Z11 (by simp[vRw])]
 have h2:=zmC h 10 (v.map Sm.vF);rw[zfw,hg];simp only[om,Z46,fzS];rw[Z51 (by simp[vRw]),e];unfold vRw;rw[h2];rfl
def zJC{L:List Rl}{X:Mx}{Vz:Int->Prop}{key:List Int->Str}{Mp c0 e g:Nat}{hs:List Nat}{dE:D}(hK:zj8 (Vr Vz hs.length) key)(hl:hs.length<1000)(h6:∀j∈hs,j<6)(hgl:g<2 ^ X.WP.length){E:List Er}{σ:Asg}{h:T Ob}{c:Nat}(H:MS L h c X σ)(hcn:zdk L X σ=true)(hV:zo5 Vz σ)(H0:St0 h c0 X)(hc0:c0<=Mp)(hE:Gro h (X.V+1) e 1 dE (hsD hs))(he:e<=Mp)(HF:FmA (Vr Vz hs.length) key Mp E h c)(h0:frH σ hs=0):Eff pr 61 [.ptr X.M 7 0 0,.f (.i .u64 g),dE,.mp Mp] h c (PjP L X (Vr Vz hs.length) key Mp E σ g hs h c):=by
 refine zb2 kps fn61 (fun d h' c' ⟨_,⟨E',w1,w2⟩,_⟩ _ hf=>⟨H,⟨E,HF,by rw[zmA hK HF w1 (hf Mp HF.b)]at w2;exact w2⟩,Lft.refl _ _ _ _⟩) ?_;have hσ:σ.length<=6:=H.m.n6;have hb:∀i∈hs,(zaC σ (.var i)).isSome=true:=(frH_0 hσ h6).1 h0
 have hdc:=zbY hE;have hmp:=HF.b;have hmo:=H.m.o;have hst:=H0.o;have hrl:(hrow hs σ).length=hs.length:=by simp[hrow]
 obtain⟨h1,hh1⟩ :∃h1,h1=(((h.set c (.arr 1 0 [[.ptr X.M 7 0 0]])).set (c+1) (.arr 1 0 [[.f (.i .u64 g)]])).set (c+1+1) (.arr 1 0 [[dE]])).set (c+1+1+1) (.arr 1 0 [[.mp Mp]]):=⟨_,rfl⟩
 have f1:∀id,id<c->h1.get id=h.get id:=fun id hid=>by rw[hh1,TG,Z49 (by omega),TG,Z49 (by omega),TG,Z49 (by omega),TG,Z49 (by omega)]
 have g4:h1.get c=some (.arr 1 0 [[.ptr X.M 7 0 0]]):=by rw[hh1,TG,Z49 (by omega),TG,Z49 (by omega),TG,Z49 (by omega),TG,Z51 rfl]
 have g5:h1.get (c+1)=some (.arr 1 0 [[.f (.i .u64 g)]]):=by rw[hh1,TG,Z49 (by omega),TG,Z49 (by omega),TG,Z51 rfl]
 have g6:h1.get (c+1+1)=some (.arr 1 0 [[dE]]):=by rw[hh1,TG,Z49 (by omega),TG,Z51 rfl]
 have g7:h1.get (c+1+1+1)=some (.arr 1 0 [[.mp Mp]]):=by rw[hh1,TG,Z51 rfl]
 have H1:MS L h1 (c+4) X σ:=H.up f1 (by omega);have hE1:Gro h1 (X.V+1) e 1 dE (hsD hs):=zaX hE (Z2 _) fun id _ h2=>f1 id (by omega)
 have m2:¬c+1+1=c+1+1+1:=by omega
 have hEl:zci dE=some hs.length:=by rw[zer hE];simp[hsD]
 simp only[g61,rU];simp[rW,st0,zak,hdc,m2,hEl];refine zGR (L:=L) (h:=h1) (c:=c+4) (lo:=X.V+1) (e:=e) (b:=c+4) (c4:=c) (X:=X) (σ:=σ) (hs:=hs) (dE:=dE) (D5:= .ptr (c+1) 1 0 0) (D6:= .ptr (c+1+1) 1 0 0) (D7:= .ptr (c+1+1+1) 1 0 0) H1 (Z2 _) hE1 (by omega) h6 hl g4 (by omega) ⟨by simp only[Rg];simp[rW],⟨by simp[rW,frH],by simp[rW],by simp[rW],by simp[rW]⟩,by simp only[rG];omega,fun id hid=>by simp only[rG];rw[<-hh1]⟩ ?_;rintro s1 ⟨⟨k4,k5,k6,k7,-⟩,⟨h8,-⟩,hc1,hf1⟩;rw[Z7,h0]at h8;have g6':=(hf1 (c+1+1) (by omega)).trans g6;have r1:¬c+1+1=s1.c:=by omega
 have mx1:hs.length<=zav:=by have:=zcL (n:=hs.length) (by omega);simpa using this
 have mx2:hs.length*32<=zav:=by have:=zcL (n:=hs.length*32) (by omega);simpa using this
 simp[rW,k4,k5,k6,k7,h8,u_eq,g6',hEl,r1,mx1,mx2];obtain⟨h2,hh2⟩ :∃h2,h2=s1.h.set s1.c (.arr 3 0 (List.replicate hs.length [.f (.i .i64 0),.f (.i .i64 0),.f (.s [])])):=⟨_,rfl⟩
 have f2:∀id,id<s1.c->h2.get id=s1.h.get id:=fun id hid=>by rw[hh2,TG,Z49 (by omega)]
 have f12:∀id,id<c+4->h2.get id=h1.get id:=fun id hid=>(f2 id (by omega)).trans (hf1 id hid)
 have H2:MS L h2 (c+4) X σ:=H1.up f12 (Z2 _);refine pj_l2 (L:=L) (h:=h2) (c:=c+4) (lo:=X.V+1) (e:=e) (b:=s1.c+1) (c4:=c) (V:=s1.c) (X:=X) (σ:=σ) (hs:=hs) (dE:=dE) (D5:= .ptr (c+1) 1 0 0) (D6:= .ptr (c+1+1) 1 0 0) (D7:= .ptr (c+1+1+1) 1 0 0) H2 (by omega) (zaX hE1 (Z2 _) fun id _ h2=>f12 id (by omega)) (by omega) hb hl ((f12 c (by omega)).trans g4) (by omega) (by omega) ⟨by simp only[Rg];simp[rW,k4,k5,k6,k7],⟨by simp[rW],by simp[rW],by simp[rW],by simp[rW]⟩,by simp only[rG];omega,fun id h1 h2=>by simp only[rG];rw[<-hh2],by simp only[rG];rw[zCG,hrl,TG,Z51 rfl];rfl⟩ ?_;rintro s2 ⟨⟨j4,j5,j6,j7,-⟩,⟨h11,-⟩,hc2,hf2,gV⟩;rw[<-hrl,zvu]at gV;obtain⟨v,hv⟩ :∃v,v=hrow hs σ:=⟨_,rfl⟩
 have hVv:=zOW hV hb;rw[<-hv]at gV hrl hVv;obtain⟨x,hx1,hx2⟩ :=hK.a v hVv;have q1:=fun k=>zad (k:=k) hx1
 have fz:=zJO (b:=true) gV;rw[hrl]at fz;obtain⟨W,hW1,hW2,hW3,ro',hW4⟩ :=zxm (c:=s2.c) gV (by omega);have f3:∀id,id<c->(wrT s2.h W).get id=h.get id:=fun id hid=>by
  rw[hW3 id (by omega),hf2 id (by omega) (by omega),f2 id (by omega),hf1 id (by omega)];exact f1 id hid
 have p7:(wrT s2.h W).get (c+1+1+1)=some (.arr 1 0 [[.mp Mp]]):=by
  rw[hW3 _ (by omega),hf2 _ (by omega) (by omega),f12 _ (by omega)];exact g7
 have p4:(wrT s2.h W).get c=some (.arr 1 0 [[.ptr X.M 7 0 0]]):=by
  rw[hW3 _ (by omega),hf2 _ (by omega) (by omega),f12 _ (by omega)];exact g4
 have p5:(wrT s2.h W).get (c+1)=some (.arr 1 0 [[.f (.i .u64 g)]]):=by
  rw[hW3 _ (by omega),hf2 _ (by omega) (by omega),f12 _ (by omega)];exact g5
 have HF3:FmA (Vr Vz hs.length) key Mp E (wrT s2.h W) s2.c:=HF.up (fun id _ h2=>f3 id h2) (by omega);have H3:MS L (wrT s2.h W) s2.c X σ:=H.up f3 (by omega);have gm:=HF3.m
 by_cases hin:∃p∈E,key p.2=key v
 .obtain⟨jj,dd,hfk⟩ :=zsh (i:=0) hin;simp[rW,j4,j5,j6,j7,h11,fz,zbU,zaT,q1,hx2,zAG,zvD,hW1,hW2,p7,gm,hfk,zaR];show PjP L X (Vr Vz hs.length) key Mp E σ g hs h c (.f .un) _ _;refine⟨H3,⟨E,HF3,fun w=>⟨.inl,fun hw=>hw.elim (fun h=>h) fun hw=> ?_⟩⟩,fun id h1 h2 h3 h4=>f3 id h1,fun id h=> .inl h⟩;obtain⟨p,hp,hpk⟩ :=hin;obtain⟨_,ew⟩ :=(zpz hb).1 hw;have:=hK.i _ _ (HF.e p hp).2 hVv hpk;rw[ew,<-hv,<-this];exact List.mem_map_of_mem hp
 .have hfk:=zuF (E:=E) (i:=0) fun p hp e=>hin ⟨p,hp,e⟩
  simp[rW,j4,j5,j6,j7,h11,fz,zbU,zaT,q1,hx2,zAG,zvD,hW1,hW2,p7,gm,hfk,p4,p5];refine zbR [(7,.ptr (c+1+1+1) 1 0 0),(71,.f (.b true)),(14,.f (.s (key v))),(11,.sl s1.c 0 hs.length 3 hs.length true)] (zGS L X g hgl _ _ σ H3 hcn) (by simp only[rG]) (by simp only[rG]) (by simp only[Rg];simp[rW,j4,j5,j6,j7,h11]) rfl ?_;rintro s3 d3 ⟨⟨b,rfl,hb'⟩,HM3,hF3⟩ hc3 i74 ⟨i7,i71,i14,i11,-⟩;have p7':=(hF3 (c+1+1+1) (by omega) (by omega) (by omega)).trans p7;have gm':=(hF3 Mp (by omega) (by omega) (by omega)).trans gm;have hmp3:Mp<s3.c:=by omega
  have HF4:FmA (Vr Vz hs.length) key Mp E s3.h s3.c:=HF3.up (fun id h1 h2=>hF3 id h2 (by omega) (by omega)) hc3;have hL4:Lft X (fun _ id=>id=Mp) h c s3.h:=⟨fun id h1 h2 h3 h4=>(hF3 id (by omega) h2 h3).trans (f3 id h1),fun id h=> .inl h⟩
  refine⟨?_⟩;cases b with
  |false=>
   simp[rW,i7,i71,i14,i11,i74,zaR];show PjP L X (Vr Vz hs.length) key Mp E σ g hs h c (.f .un) _ _;refine⟨HM3,⟨E,HF4,fun w=>⟨.inl,fun hw=>hw.elim (fun h=>h) fun hw=> ?_⟩⟩,hL4⟩;have:=hb'.2 ((zpz hb).1 hw).1;cases this
  |true=>
   simp[rW,i7,i71,i14,i11,i74,p7',gm',hfk,hmp3,zaR];show PjP L X (Vr Vz hs.length) key Mp E σ g hs h c (.f .un) _ _;obtain⟨G,hG⟩ :∃G,G=s3.h.set Mp (.map (mpE key E++[(.s (key v),.sl s1.c 0 hs.length 3 hs.length true)])):=⟨_,rfl⟩
   rw[<-hG];have fG:∀id,id≠Mp->G.get id=s3.h.get id:=fun id hid=>by rw[hG,TG,Z49 hid]
   have HMG:MS L G s3.c X σ:=HM3.far (c0:=c0) (H0.up fun id h1 h2=>(hF3 id (by omega) (by omega) (by omega)).trans (f3 id (by omega))) (fun id h1 h2=>fG id (by omega)) (by omega);refine⟨HMG,⟨E++[(.sl s1.c 0 hs.length 3 hs.length true,v)],⟨by rw[hG,TG,Z51 rfl];simp[mpE],fun p hp=> ?_,?_,hmp3⟩,fun w=> ?_⟩,fun id h1 h2 h3 h4=>(fG id h4).trans (hL4.1 id h1 h2 h3 h4),fun id h=> .inl h⟩
   .rcases Z4.1 hp with hp|hp
    .obtain⟨⟨id,ro,e1,e2,e3,e4⟩,e5⟩ :=HF4.e p hp;exact⟨⟨id,ro,e1,by rw[fG id (by omega)];exact e2,e3,e4⟩,e5⟩
    .rw[Z31]at hp;subst hp;refine⟨⟨s1.c,ro',by rw[hrl],?_,by omega,by omega⟩,hVv⟩;rw[fG _ (by omega),hF3 _ (by omega) (by omega) (by omega)];exact hW4
   .rw[Z20];refine Z90.2 ⟨HF4.n,by simp,fun a ha b hb e=> ?_⟩;obtain⟨p,hp,rfl⟩ :=Z12.1 ha;simp only[Z10,Z85,Z31]at hb;exact hin ⟨p,hp,by rw[e,hb]⟩
   .rw[Z20,Z4,zpz hb,<-hv];simp only[Z10,Z85,Z31];exact⟨fun h=>h.imp_right fun e=>⟨hb'.1 rfl,e⟩,fun h=>h.imp_right fun e=>e.2⟩
def zo8(a:Int)(m:Nat)(hm:m<2147483648):∃r:Nat,r<=m/\zaK .and (.i .i64 a) (.i .i64 m)=some (.i .i64 r):=by
 refine⟨(BitVec.ofInt 64 a&&& BitVec.ofInt 64 m).toNat,?_,?_⟩
 .rw[BitVec.toNat_and];refine Z3 Z203 ?_;rw[BitVec.toNat_ofInt];omega
 .have hle:(BitVec.ofInt 64 a&&& BitVec.ofInt 64 m).toNat<=m:=by
   rw[BitVec.toNat_and];refine Z3 Z203 ?_;rw[BitVec.toNat_ofInt];omega
  have e:zaK .and (.i .i64 a) (.i .i64 m)=some (.i .i64 (IntKind.i64.wrap ((BitVec.ofInt 64 a&&& BitVec.ofInt 64 m).toNat:Int))):=rfl;rw[e,wrap_i64 _ (by omega) (by omega)]
def zcG(x:F):Prop:=x= .nils\/∃zs:List Int,x= .sl 1 (zs.map fun z=>[.i .i64 z])
def zde(a b:Nat)(hb:b≠0):zaK .rem (.i .i64 a) (.i .i64 b)=some (.i .i64 ((a%b:Nat):Int)):=by
 rw[zHV _ _ (by omega)];rfl
def fn12:pr.fn 12=some g12:=by kernel_rfl
def fn18:pr.fn 18=some g18:=by kernel_rfl
def fn5:pr.fn 5=some g5:=by kernel_rfl
def zQJ(f:A->Option D)(x:A):(O.s2b x).res f=(f x).bind fun y=>some (.s2b y):=rfl
def o_s2b{pr:Pr}{s:St}{Q:St->Prop}{dst:Option Nat}{l:List Go.Vse.Op}{x:A}:wpO pr (⟨dst,none,.s2b x⟩ ::l) s Q↔oB (((O.s2b x).res (zae s.tm)).bind (opv s.h.get s.c)) fun r=>zas r.c r.wr=true/\wpO pr l (s.aft dst r.d r.wr r.c) Q:=zdK rfl
def byE(l:Str):List (List D):=l.map fun x=>[D.f (.i .u8 x.toNat)]
def v_s2b{h:Nat->Option Ob}{c:Nat}{l:Str}(hl:l≠[]):opv h c (.s2b (.f (.s l)))=some {d:= .sl c 0 l.length 1 l.length false,wr:=[(c,some (.arr 1 0 (byE l)))],c:=c+1}:=by
 simp[opv,hl,byE]
theorem zGk:∀l:Str,zdG (byE l)=some l
 |[]=>rfl
 |x::l=>by
  have:=zGk l;simp only[byE,Z10,zdG]at this|-;rw[this];simp
def v_b2s{h:Nat->Option Ob}{c id len lim:Nat}{ex:Bool}{l:Str}(hg:h id=some (.arr 1 0 (byE l)))(hl:l.length=len):opv h c (.b2s (.sl id 0 len 1 lim ex))=some {d:= .f (.s l),rd:=[id],c:=c}:=by
 have h1:(byE l).length=l.length:=by simp[byE]
 have h2:elemsOf 1 h (.sl id 0 len 1 lim ex)=some (byE l,[id]):=by
  rw[zGy,hg,zeu,zwN,Z51 ⟨rfl,rfl,by omega⟩,Z34,<-hl,<-h1,Z7]
 simp only[opv,h2,zGk]
def fn27:pr.fn 27=some g27:=by kernel_rfl
def zIr{a b:List Str}(hl:a.length=b.length)(h:∀i,i<a.length->a[i]? =b[i]?):a=b:=by
 apply Z107;intro i
 by_cases hi:i<a.length
 .exact h i hi
 .rw[Z97 (by omega),Z97 (by omega)]
def SQ40(a b:List Str)(k:Nat)(s:St):Prop:=∃n:Nat,(k=a.length - n/\n<=a.length/\∀i,i<n->a[i]? =b[i]?)/\(s.tm.get 0=some (.f (zah a))/\s.tm.get 1=some (.f (zah b))/\s.tm.get 12=some (.f (.i .i64 a.length))/\s.tm.get 13=some (.f (.i .i64 n)))
def zF9(a b:List Str)(hn:a.length<100000):Ans pr 27 [zah a,zah b] (.b (decide (a=b))):=by
 refine zcf fn27 ?_;simp only[g27,rU]
 by_cases hl:a.length=b.length
 .have hl':(a.length:Int)=b.length:=by omega
  simp[rW,st0,zak,zaL,zbz,hl,hl'];refine zcS (SQ40 a b) (fun x s=>(x= .exit 0/\a=b)\/(x= .ret/\a≠b/\s.tm.get 4=some (.f (.b false)))) ?_ a.length _ ?_ ?_
  .rintro k s ⟨n,⟨rfl,hn2,he⟩,⟨h0,h1,h12,h13⟩⟩
   by_cases hlt:n<a.length
   .have ha:a[n]? =some a[n]:=Z0 hlt;have hb:b[n]? =some b[n]:=Z0 (by omega);have hltb:n<b.length:=by omega
    have hw:=zao n (by omega);generalize hA:a[n]=A at ha;generalize hB:b[n]=B at hb
    by_cases hq:A=B
    .subst hq;simp[rW,h0,h1,h12,h13,zbz,hlt,hltb,hl];refine zaw ?_;simp[rW,h0,h1,h12,h13,zdf,ha,hb,hlt,hltb,hA,hB];rw[zdq];refine⟨a.length - (n+1),by omega,n+1,⟨rfl,by omega,fun i hi=> ?_⟩,?_⟩
     .by_cases hi2:i=n
      .subst hi2;rw[ha,hb]
      .exact he i (by omega)
     .simp[rW,h0,h1,h12,h13,hw]
    .have hne:a≠b:=fun e=>hq (by subst e;rw[ha]at hb;exact Z53 hb)
     simp[rW,h0,h1,h12,h13,zbz,hlt,hltb,hl];refine zaw ?_;simp[rW,h0,h1,h12,h13,zdf,ha,hb,hlt,hltb,hA,hB,hq,hne]
   .have e:a=b:=zIr hl fun i hi=>he i (by omega)
    have hltb:¬(n<b.length):=by omega
    simp[rW,h0,h1,h12,h13,zbz,hlt,hltb,hl];exact e
  .simp[rW,SQ40];exact⟨0,by simp,by simp[hl]⟩
  .rintro x s (⟨rfl,e⟩ |⟨rfl,e,h4⟩)
   .simp[rW,e]
   .simp[rW,h4,e]
 .have hl':¬((a.length:Int)=b.length):=by omega
  have hne:¬(a=b):=fun e=>hl (by rw[e])
  simp[rW,st0,zak,zaL,zbz,hl,hl',hne]
end Go.Proofs.YtdlcolcidohbkaaGreatDoor
end
