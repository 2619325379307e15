/- The matcher: group, the loop over the atoms. -/
import Derived.Test.YtdlcolcidohbkaaGreatDoorPp
import Derived.KernelRfl
import Derived.IntWalk
set_option linter.all false
set_option maxRecDepth 100000
set_option maxHeartbeats 4000000
noncomputable section
section
namespace Go.Proofs.YtdlcolcidohbkaaGreatDoor
open Go Go.Vse Go.Vse.Sm
def fmN(X:Mx)(σ:Asg)(i:Nat):Nat:=frN σ (match X.WP[i]? with|some q=>q.1.m|none=>0)
structure G6(X:Mx)(σ:Asg)(rest bef cur g r:Nat):Prop where
 g64:g<64
 gs:Sub g rest
 g0:g.testBit (tz rest)=true
 r64:r<64
 rb:bef<=r
 rs:Sub bef r
 gi:∀i,g.testBit i=true->Sub (fmN X σ i) r
 p:r=bef->(∀k∈X.cs,OkC r (frN σ k.m))/\(∀q∈X.WN,OkC r (frN σ q.1.m))/\∀i,rest.testBit i=true->g.testBit i=false->cur.testBit i=false->Dis (fmN X σ i) r
def zw1{a i:Nat}(ha:a<64)(h0:a≠0):a.testBit i=true↔i=tz a\/(Nat.land a (a - 1)).testBit i=true:=by
 constructor
 .intro h;have hi:i<6:=zem (n:=6) ha h;have:i∈zhU a:=zin.2 ⟨hi,h⟩;rw[znn ha h0]at this;rcases Z5.1 this with h1|h1
  .exact .inl h1
  .exact .inr (zin.1 h1).2
 .rintro (rfl|h)
  .exact (zkJ ha h0).1
  .exact zoz h
def zOG{X:Mx}{σ:Asg}{rest bef cur g r:Nat}(H:G6 X σ rest bef cur g r)(hc:cur<64)(h0:cur≠0)(hs:Sub cur rest)(hf:fmN X σ (tz cur)<64):G6 X σ rest bef (Nat.land cur (cur - 1)) (Nat.lor g (2 ^ tz cur)) (Nat.lor r (fmN X σ (tz cur))):=by
 have ht:=zkJ hc h0;have h2:2 ^ tz cur<64:=by
  have:2 ^ tz cur<=2 ^ 5:=Z113 (by decide) (by omega);omega
 refine⟨zuZ H.g64 h2,fun j hj=> ?_,by rw[zix,H.g0,Bool.true_or],zuZ H.r64 hf,Z3 H.rb Nat.left_le_or,fun j hj=>by rw[zix,H.rs j hj,Bool.true_or],fun i hi j hj=> ?_,fun e=> ?_⟩
 .rw[zix,Z115]at hj;rcases hj with h|h
  .exact H.gs j h
  .rw[Nat.testBit_two_pow]at h;have:tz cur=j:=by simpa using h
   exact this▸hs _ ht.1
 .rw[zix,Z115]at hi|-;rcases hi with h|h
  .exact .inl (H.gi i h j hj)
  .rw[Nat.testBit_two_pow]at h;have:tz cur=i:=by simpa using h
   exact .inr (this▸hj)
 .have hle:r<=Nat.lor r (fmN X σ (tz cur)):=Nat.left_le_or;have hb:=H.rb;have e1:r=bef:=by omega
  obtain⟨p1,p2,p3⟩ :=H.p e1;rw[e,<-e1];refine⟨p1,p2,fun i h1 h2 h3=> ?_⟩;rw[zix,Bool.or_eq_false_iff]at h2;refine p3 i h1 h2.1 ?_;cases hci:cur.testBit i with
  |false=>rfl
  |true=>
   rcases (zw1 hc h0).1 hci with rfl|h
   .have:=h2.2;rw[Nat.testBit_two_pow_self]at this;cases this
   .rw[h]at h3;cases h3
def zIA{X:Mx}{σ:Asg}{rest bef cur g r:Nat}(H:G6 X σ rest bef cur g r)(hc:cur<64)(h0:cur≠0)(hd:Dis (fmN X σ (tz cur)) r):G6 X σ rest bef (Nat.land cur (cur - 1)) g r:=by
 refine⟨H.g64,H.gs,H.g0,H.r64,H.rb,H.rs,H.gi,fun e=> ?_⟩;obtain⟨p1,p2,p3⟩ :=H.p e;refine⟨p1,p2,fun i h1 h2 h3=> ?_⟩;cases hci:cur.testBit i with
 |false=>exact p3 i h1 h2 hci
 |true=>
  rcases (zw1 hc h0).1 hci with rfl|h
  .exact hd
  .rw[h]at h3;cases h3
def J6(X:Mx)(σ:Asg)(rest bef:Nat)(h:T Ob)(c cur:Nat)(s:St):Prop:=Rg [(0,.ptr X.M 7 0 0),(1,.f (.i .u64 rest)),(8,.f (.i .u64 bef)),(13,.f (.i .u64 cur))] s/\cur<64/\Sub cur rest/\(∃g r:Nat,s.tm.get 6=some (.f (.i .u64 g))/\s.tm.get 7=some (.f (.i .u64 r))/\G6 X σ rest bef cur g r)/\c<=s.c/\∀id,id<c->s.h.get id=h.get id
def R6(X:Mx)(σ:Asg)(rest bef:Nat)(h:T Ob)(c:Nat)(e:Ex)(s:St):Prop:=e= .exit 6/\J6 X σ rest bef h c 0 s
theorem gr_l6{L:List Rl}{h:T Ob}{c:Nat}{X:Mx}{σ:Asg}(H:MS L h c X σ){rest bef cur:Nat}(hrl:rest<2 ^ X.WP.length){s:St}{K:Ex->St->Prop}
  (hJ:J6 X σ rest bef h c cur s)(kx:∀s,J6 X σ rest bef h c 0 s->K (.exit 6) s):WL pr zum s K:=by
 have hPl:=H.o.Pl;have hm:=H.m.m;have ho:=H.m.o;have gP:=H.m.P.1;have hpd:(paD X.WP).length=X.WP.length:=by simp[paD]
 have hb:zaQ σ<64:=Z15 (zet σ) (Z113 (by decide) H.m.n6);refine zcS (fun k s=>J6 X σ rest bef h c k s) (R6 X σ rest bef h c) ?_ cur _ hJ ?_
 .clear hJ;clear cur;rintro cur s ⟨⟨h0,h1,h8,h13,-⟩,hc64,hsub,⟨g,r,h6,h7,HG⟩,hc,hf⟩
  by_cases hz:cur=0
  .subst hz;unfold zum zgc zjl;simp only[rU,C.l,C.r,C.b,C.o];simp[rW,h0,h1,h6,h7,h8,h13,zih];exact⟨rfl,by simp only[Rg];simp[rW,h0,h1,h8,h13],hc64,hsub,⟨g,r,by simp[rW,h6],by simp[rW,h7],HG⟩,by simp only[rG];omega,fun id hid=>by simp[rW];exact hf id hid⟩
  .obtain⟨tm1,tm2⟩ :=zkJ hc64 hz;have hti:=zem hrl (hsub _ tm1);have hz2:(((cur:Nat):Int)==0)=false:=by simpa using hz
   obtain⟨lb1,lb2⟩ :=zyQ hc64 hz;have hll:=zu0 hc64 hz;have hx:X.WP[tz cur]? =some X.WP[tz cur]:=Z0 hti;have hmem:=Z1 hti;generalize X.WP[tz cur]=q at hx hmem;have hP:=H.o.P q hmem;have hm64:=zkq H.m.n6 (p:=q.1) (by rw[H.m.n];exact hP.o);have hfm:fmN X σ (tz cur)=frN σ q.1.m:=by simp[fmN,hx]
   have hf64:fmN X σ (tz cur)<64:=by rw[hfm];exact zmh hm64
   have ban:=zll hm64 hb;rw[show zdm q.1.m (zaQ σ)=fmN X σ (tz cur)from hfm.symm]at ban;obtain⟨id,ro,e1,e2,e3,e4⟩ :=zes gP (n:=tz cur) (by omega);rw[hpd]at e1;have hrow:(paD X.WP)[tz cur]? =some [.f (.i .i64 q.1.r),q.2,.f (.i .u64 q.1.m)]:=by simp[paD,hx]
   have hA:=(Z8.1 hrow).2;have hA6:=zyP hf64 HG.r64;have hO6:=znl HG.r64 hf64;have h26:2 ^ tz cur<64:=by
    have:2 ^ tz cur<=2 ^ 5:=Z113 (by decide) (by omega);omega
   have hO7:=znl HG.g64 h26;have hS:=zkO (i:=tz cur) (by omega);have hit:=zOG HG hc64 hz hsub hf64;have miss:=fun hd=>zIA HG hc64 hz hd
   have hsub':Sub (Nat.land cur (cur - 1)) rest:=fun i hi=>hsub i (zoz hi)
   have hld:=zuU (a:=fmN X σ (tz cur)) (b:=r);have hrt:=ztw hc64 hz s.h s.c;generalize 2 ^ tz cur=w2 at hS hO7 hit h26;generalize fmN X σ (tz cur)=fm at*;generalize tz cur=ti at*;generalize Nat.land cur (cur - 1)=cur' at*;unfold zum zgc zjl;simp only[rU,C.l,C.r,C.b,C.o];simp[rW,h0,h1,h6,h7,h8,h13,zih,hz2];refine zbR [(0,.ptr X.M 7 0 0),(1,.f (.i .u64 rest)),(8,.f (.i .u64 bef)),(13,.f (.i .u64 cur)),(6,.f (.i .u64 g)),(7,.f (.i .u64 r))] (zkw hrt) (by simp only[rG]) (by simp only[rG]) (by simp only[Rg];simp[rW,h0,h1,h6,h7,h8,h13]) rfl ?_;rintro s1 d1 ⟨rfl,hh,hcc⟩ hc1 k82 ⟨k0,k1,k8,k13,k6,k7,-⟩;refine⟨?_⟩;have hm':s1.h.get X.M=_:=(show s1.h.get X.M=h.get X.M by rw[hh];exact hf X.M (by omega)).trans hm;have e2':s1.h.get id=some (.arr 3 ro (paD X.WP)):=(show s1.h.get id=h.get id by rw[hh];exact hf id e4).trans e2;simp[rW,k0,k1,k6,k7,k8,k13,k82];refine zr3 (fun s'=>Rg [(0,.ptr X.M 7 0 0),(1,.f (.i .u64 rest)),(8,.f (.i .u64 bef)),(13,.f (.i .u64 cur)),(6,.f (.i .u64 g)),(7,.f (.i .u64 r)),(14,.f (.i .i64 ti)),(15,.f (.i .u64 fm))] s'/\s'.h=s1.h/\s1.c<=s'.c) (fun K hK=> ?_) ?_
   .refine zaw ?_;simp[rW,k0,k1,k6,k7,k8,k13,k82,hm',e1,hti,e2',hrow,hA,hpd,ban];exact hK _ ⟨by simp only[Rg];simp[rW,k0,k1,k6,k7,k8,k13],by simp only[rG],by simp only[rG];omega⟩
   .rintro s2 ⟨⟨j0,j1,j8,j13,j6,j7,j14,j15,-⟩,hh2,hc2⟩;have hf2:∀id,id<c->s2.h.get id=h.get id:=fun id hid=>by rw[hh2,hh];exact hf id hid
    by_cases hl:Nat.land fm r=0
    .have hd:=miss (hld.1 hl);rw[hl]at hA6;simp[rW,j0,j1,j6,j7,j8,j13,j14,j15,hA6,zih,lb1,lb2];exact⟨_,hll,by simp only[Rg];simp[rW,j0,j1,j8],by omega,hsub',⟨g,r,by simp[rW,j6],by simp[rW,j7],hd⟩,by simp only[rG];omega,fun id hid=>by simp[rW];exact hf2 id hid⟩
    .have hl2:(((Nat.land fm r:Nat):Int)==0)=false:=by simpa using hl
     generalize Nat.land fm r=w3 at hA6 hl2;simp[rW,j0,j1,j6,j7,j8,j13,j14,j15,hA6,hl2,zih,lb1,lb2,hS,hO7,hO6];exact⟨_,hll,by simp only[Rg];simp[rW,j0,j1,j8],by omega,hsub',⟨_,_,by simp[rW],by simp[rW],hit⟩,by simp only[rG];omega,fun id hid=>by simp[rW];exact hf2 id hid⟩
 .rintro e s ⟨rfl,hJ⟩;exact kx s hJ
structure zDq(X:Mx)(σ:Asg)(rest g r:Nat):Prop where
 gs:Sub g rest
 g0:g.testBit (tz rest)=true
 gi:∀i,g.testBit i=true->Sub (fmN X σ i) r
 pc:∀k∈X.cs,OkC r (frN σ k.m)
 pn:∀q∈X.WN,OkC r (frN σ q.1.m)
 pd:∀i,rest.testBit i=true->g.testBit i=false->Dis (fmN X σ i) r
def GrP(X:Mx)(σ:Asg)(rest:Nat)(h:T Ob)(c:Nat)(d:D)(h':T Ob)(_:Nat):Prop:=(∃g r,d= .f (.i .u64 (g:Nat))/\g<64/\zDq X σ rest g r)/\∀id,id<c->h'.get id=h.get id
def Jg0(X:Mx)(σ:Asg)(rest:Nat)(h:T Ob)(c k:Nat)(s:St):Prop:=∃g r:Nat,k=64 - r/\(s.tm.get 0=some (.ptr X.M 7 0 0)/\s.tm.get 1=some (.f (.i .u64 rest))/\s.tm.get 6=some (.f (.i .u64 g))/\s.tm.get 7=some (.f (.i .u64 r)))/\g<64/\Sub g rest/\g.testBit (tz rest)=true/\r<64/\(∀i,g.testBit i=true->Sub (fmN X σ i) r)/\c<=s.c/\∀id,id<c->s.h.get id=h.get id
def Rg0(X:Mx)(σ:Asg)(rest:Nat)(h:T Ob)(c:Nat)(e:Ex)(s:St):Prop:=e= .ret/\∃g r,s.tm.get 4=some (.f (.i .u64 (g:Nat)))/\g<64/\zDq X σ rest g r/\∀id,id<c->s.h.get id=h.get id
def gr_l0{L:List Rl}{h:T Ob}{c:Nat}{X:Mx}{σ:Asg}(H:MS L h c X σ){rest:Nat}(hr0:rest≠0)(hrl:rest<2 ^ X.WP.length){k:Nat}{s:St}{K:Ex->St->Prop}(hJ:Jg0 X σ rest h c k s)(hK:∀e s,Rg0 X σ rest h c e s->K e s):WL pr zgc s K:=by
 have hm:=H.m.m;have ho:=H.m.o;have lC:=zer H.m.C;have hcl:(cnD X.cs).length=X.cs.length:=by simp[cnD]
 rw[hcl]at lC;have lN:=zer H.m.N.1;have hnl:(paD X.WN).length=X.WN.length:=by simp[paD]
 rw[hnl]at lN;have hr64:rest<64:=Z15 hrl (Z113 (by decide) H.o.Pl);refine zcS (fun k s=>Jg0 X σ rest h c k s) (Rg0 X σ rest h c) ?_ k _ hJ hK;clear hJ;clear k;rintro k s ⟨g,bef,rfl,⟨h0,h1,h6,h7⟩,hg,hgs,hg0,hb64,hgi,hc,hf⟩;have hm':s.h.get X.M=_:=(hf X.M (by omega)).trans hm;unfold zgc zjl;simp only[rU,C.l,C.r,C.b,C.o];simp[rW,h0,h1,h6,h7,hm',lC];refine gr_l2 H (rest:= .f (.i .u64 rest)) (g:= .f (.i .u64 g)) (bef:=bef) ⟨by simp only[Rg];simp[rW,h0,h1,h6],⟨by simp[rW],by simp[rW],by simp[rW]⟩,⟨bef,by simp[rW,h7],hb64,Z2 _,fun _ h=>h,fun _=>by simp⟩,by simp only[rG];omega,fun id hid=>by simp[rW];exact hf id hid⟩ ?_;rintro s1 ⟨⟨k0,k1,k6,k8,-⟩,-,⟨r1,k7,a1,a2,a3,a4⟩,hc1,hf1⟩;have hm1:s1.h.get X.M=_:=(hf1 X.M (by omega)).trans hm;rw[Z7]at a4;simp[rW,k0,k1,k6,k7,k8,hm1,lN];refine gr_l4 H (rest:= .f (.i .u64 rest)) (g:= .f (.i .u64 g)) (bef:=bef) ⟨by simp only[Rg];simp[rW,k0,k1,k6,k8],⟨by simp[rW],by simp[rW],by simp[rW]⟩,⟨r1,by simp[rW,k7],a1,a2,a3,fun e=>⟨a4 e,by simp⟩⟩,by simp only[rG];omega,fun id hid=>by simp[rW];exact hf1 id hid⟩ ?_;rintro s2 ⟨⟨j0,j1,j6,j8,-⟩,-,⟨r2,j7,b1,b2,b3,b4⟩,hc2,hf2⟩;rw[Z7]at b4;have ban:=zll hr64 hg;have han:=zmh (b:=g) hr64;have hbits:=fun i=>zi3 (i:=i) hr64 hg
 simp[rW,j0,j1,j6,j7,j8,ban];refine gr_l6 H hrl (bef:=bef) (cur:=zdm rest g) ⟨by simp only[Rg];simp[rW,j0,j1,j8],han,fun i hi=> ?_,⟨g,r2,by simp[rW,j6],by simp[rW,j7],⟨hg,hgs,hg0,b1,b2,b3,fun i hi j hj=>b3 j (hgi i hi j hj),fun e=>⟨(b4 e).1,(b4 e).2,fun i h1 h2 h3=> ?_⟩⟩⟩,by simp only[rG];omega,fun id hid=>by simp[rW];exact hf2 id hid⟩ ?_
 .rw[hbits,Z14]at hi;exact hi.1
 .rw[hbits,h1,h2]at h3;cases h3
 rintro s3 ⟨⟨i0,i1,i8,i13,-⟩,-,-,⟨g3,r3,i6,i7,HG⟩,hc3,hf3⟩
 by_cases he:r3=bef
 .obtain⟨p1,p2,p3⟩ :=HG.p he;rw[he]at i7;simp[rW,i0,i1,i6,i7,i8,u_eq];exact⟨rfl,g3,r3,by simp[rW],HG.g64,⟨HG.gs,HG.g0,HG.gi,p1,p2,fun i h1 h2=>p3 i h1 h2 (Nat.zero_testBit i)⟩,fun id hid=>by simp[rW];exact hf3 id hid⟩
 .have hz:(((r3:Nat):Int)==((bef:Nat):Int))=false:=by
   simpa using fun e:((r3:Nat):Int)=((bef:Nat):Int)=>he (by omega)
  have hlt:64 - r3<64 - bef:=by have:=HG.rb;have:=HG.r64;omega
  simp[rW,i0,i1,i6,i7,i8,u_eq,hz];exact⟨_,hlt,g3,r3,rfl,⟨by simp[rW,i0],by simp[rW,i1],by simp[rW,i6],by simp[rW,i7]⟩,HG.g64,HG.gs,HG.g0,HG.r64,HG.gi,by simp only[rG];omega,fun id hid=>by simp[rW];exact hf3 id hid⟩
def zMv{L:List Rl}{h:T Ob}{c:Nat}{X:Mx}{σ:Asg}(H:MS L h c X σ){rest:Nat}(hr0:rest≠0)(hrl:rest<2 ^ X.WP.length):Eff pr 188 [.ptr X.M 7 0 0,.f (.i .u64 rest)] h c (GrP X σ rest h c):=by
 refine zb2 kps fn188 (fun d h' c' ⟨a,_⟩ _ _=>⟨a,fun _ _=>rfl⟩) ?_;have hm:=H.m.m;have ho:=H.m.o;have gP:=H.m.P.1;have hpd:(paD X.WP).length=X.WP.length:=by simp[paD]
 have hr64:rest<64:=Z15 hrl (Z113 (by decide) H.o.Pl);have hb:zaQ σ<64:=Z15 (zet σ) (Z113 (by decide) H.m.n6);obtain⟨tm1,tm2⟩ :=zkJ hr64 hr0;have hti:=zem hrl tm1;have hx:X.WP[tz rest]? =some X.WP[tz rest]:=Z0 hti;have hmem:=Z1 hti;generalize X.WP[tz rest]=q at hx hmem;have hP:=H.o.P q hmem;have hm64:=zkq H.m.n6 (p:=q.1) (by rw[H.m.n];exact hP.o);have hfm:fmN X σ (tz rest)=frN σ q.1.m:=by simp[fmN,hx]
 have hf64:fmN X σ (tz rest)<64:=by rw[hfm];exact zmh hm64
 have ban:=zll hm64 hb;rw[show zdm q.1.m (zaQ σ)=fmN X σ (tz rest)from hfm.symm]at ban;obtain⟨id,ro,e1,e2,e3,e4⟩ :=zes gP (n:=tz rest) (by omega);rw[hpd]at e1;have hrow:(paD X.WP)[tz rest]? =some [.f (.i .i64 q.1.r),q.2,.f (.i .u64 q.1.m)]:=by simp[paD,hx]
 have hA:=(Z8.1 hrow).2;have hS:=zkO (i:=tz rest) (by omega);have h26:2 ^ tz rest<64:=by
  have:2 ^ tz rest<=2 ^ 5:=Z113 (by decide) (by omega);omega
 have hw2:∀i,(2 ^ tz rest).testBit i=true->i=tz rest:=fun i hi=>by
  rw[Nat.testBit_two_pow]at hi;exact (of_decide_eq_true hi).symm
 have hw3:(2 ^ tz rest).testBit (tz rest)=true:=Nat.testBit_two_pow_self;have hfs:∀i,i=tz rest->Sub (fmN X σ i) (fmN X σ (tz rest)):=fun i e=>by subst e;exact fun _ h=>h
 generalize 2 ^ tz rest=w2 at hS h26 hw2 hw3;generalize hfe:fmN X σ (tz rest)=fm at ban hf64 hfs;simp only[zjl,rU];simp[rW,st0,zak];refine zbR [(0,.ptr X.M 7 0 0),(1,.f (.i .u64 rest))] (zkw (ztw hr64 hr0 h c)) (by simp only[rG]) (by simp only[rG]) (by simp only[Rg];simp[rW]) rfl ?_;rintro s1 d1 ⟨rfl,hh,hcc⟩ hc1 k17 ⟨k0,k1,-⟩;refine⟨?_⟩;have hm':s1.h.get X.M=_:=(show s1.h.get X.M=h.get X.M by rw[hh]).trans hm;have e2':s1.h.get id=some (.arr 3 ro (paD X.WP)):=(show s1.h.get id=h.get id by rw[hh]).trans e2;simp[rW,k0,k1,k17,hS];refine zr3 (fun s'=>Rg [(0,.ptr X.M 7 0 0),(1,.f (.i .u64 rest)),(6,.f (.i .u64 w2)),(7,.f (.i .u64 fm))] s'/\s'.h=s1.h/\s1.c<=s'.c) (fun K hK=> ?_) ?_
 .refine zaw ?_;simp[rW,k0,k1,k17,hm',e1,hti,e2',hrow,hA,hpd,ban];exact hK _ ⟨by simp only[Rg];simp[rW,k0,k1],by simp only[rG],by simp only[rG];omega⟩
 .rintro s2 ⟨⟨j0,j1,j6,j7,-⟩,hh2,hc2⟩;simp[rW,j0,j1,j6,j7];refine gr_l0 H hr0 hrl (k:=64 - fm) ⟨w2,fm,rfl,⟨by simp[rW,j0],by simp[rW,j1],by simp[rW,j6],by simp[rW,j7]⟩,h26,fun i hi=>hw2 i hi▸tm1,hw3,hf64,fun i hi=>hfs i (hw2 i hi),by omega,fun id hid=>by rw[hh2,hh]⟩ ?_;rintro e s3 ⟨rfl,g,r,i4,hg,HG,hf⟩;simp[rW,i4,zaR];exact⟨⟨g,r,rfl,hg,HG⟩,hf⟩
def fn114:pr.fn 114=some zpm:=by kernel_rfl
structure Vst(X:Mx)(F:T Ob->Nat->Prop)(A:Nat->Bool->T Ob->Nat->Prop):Prop where
 lt:∀k b h c id,A k b h c->F h id->id<c/\id≠X.M/\id≠X.V
 up:∀k b h c h' c',A k b h c->(∀id,id<c->id≠X.M->id≠X.V->h'.get id=h.get id)->c<=c'->A k b h' c'/\∀id,F h' id->F h id
def Lft(X:Mx)(F:T Ob->Nat->Prop)(h:T Ob)(c:Nat)(h':T Ob):Prop:=(∀id,id<c->id≠X.M->id≠X.V->¬F h id->h'.get id=h.get id)/\∀id,F h' id->F h id\/c<=id
def Lft.refl(X:Mx)(F:T Ob->Nat->Prop)(h:T Ob)(c:Nat):Lft X F h c h:=⟨fun _ _ _ _ _=>rfl,fun _ h=> .inl h⟩
def Lft.tr{X:Mx}{F:T Ob->Nat->Prop}{h h1 h2:T Ob}{c c1:Nat}(a:Lft X F h c h1)(b:Lft X F h1 c1 h2)(hc:c<=c1):Lft X F h c h2:=
 ⟨fun id k1 k2 k3 k4=>(b.1 id (by omega) k2 k3 fun hF=>(a.2 id hF).elim k4 fun h=>by omega).trans (a.1 id k1 k2 k3 k4),fun id k=>(b.2 id k).elim (a.2 id) fun h=> .inr (by omega)⟩
def zym(L:List Rl)(X:Mx)(F:T Ob->Nat->Prop)(A:Bool->T Ob->Nat->Prop)(τ:Asg)(h:T Ob)(c:Nat)(d:D)(h':T Ob)(c':Nat):Prop:=
 (∃τ',Ext τ τ'/\MS L h' c' X τ')/\(∃b,d= .f (.b b)/\A (!b) h' c')/\Lft X F h c h'
def EtP(L:List Rl)(X:Mx)(F:T Ob->Nat->Prop)(A:Nat->Bool->T Ob->Nat->Prop)(σ:Asg)(n:Nat)(h:T Ob)(c:Nat)(d:D)(h':T Ob)(c':Nat):Prop:=
 MS L h' c' X σ/\(∃b k,d= .f (.b b)/\A k (!b) h' c'/\(b=true->k=n))/\Lft X F h c h'
def zt9:C:=zpm.body.r.r.r.r.l.r.b.o
def Je(L:List Rl)(X:Mx)(F:T Ob->Nat->Prop)(A:Nat->Bool->T Ob->Nat->Prop)(σ:Asg)(q:Pat×D)(r:Rl)(vd pd:D)(h:T Ob)(c P7 n:Nat)(s:St):Prop:=(s.tm.get 0=some (.ptr X.M 7 0 0)/\s.tm.get 2=some (vd)/\s.tm.get 7=some (.ptr P7 3 0 0)/\s.tm.get 8=some (.f (.i .u64 (zaQ σ)))/\s.tm.get 9=some (.f (zbO r.tu))/\s.tm.get 46=some (pd)/\s.tm.get 47=some (.f (.i .i64 r.tu.length))/\s.tm.get 48=some (.f (.i .i64 n))/\s.h.get P7=some (.arr 3 0 [[.f (.i .i64 q.1.r),q.2,.f (.i .u64 q.1.m)]]))/\MS L s.h s.c X σ/\A n false s.h s.c/\c<=s.c/\c<=P7/\P7<s.c/\Lft X F h c s.h/\¬F s.h P7
def Re(L:List Rl)(X:Mx)(F:T Ob->Nat->Prop)(A:Nat->Bool->T Ob->Nat->Prop)(σ:Asg)(n:Nat)(h:T Ob)(c:Nat)(e:Ex)(s:St):Prop:=(e= .exit 0/\MS L s.h s.c X σ/\A n false s.h s.c/\Lft X F h c s.h)\/(e= .ret/\s.tm.get 6=some (.f (.b false))/\MS L s.h s.c X σ/\(∃k,A k true s.h s.c)/\Lft X F h c s.h)
theorem et_l0{L:List Rl}{h:T Ob}{c:Nat}{X:Mx}{σ:Asg}{F:T Ob->Nat->Prop}{A:Nat->Bool->T Ob->Nat->Prop}(hV:Vst X F A)(hcn:zdk L X σ=true){q:Pat×D}(hq:q∈X.WP){r:Rl}(hr:L[q.1.r]? =some r){f:Nat}{caps:List D}{pd:D}{P7:Nat}
  (hpl:zlF h X.S X.M pd r.tu.length)(hMc:X.V<c)
  (hv:∀(k:Nat) (t:List Int×List Vse.F) (τ:Asg) (h1:T Ob) (c1:Nat),r.tu[k]? =some t->zdg L X σ q.1 t.1=some τ->MS L h1 c1 X τ->A k false h1 c1->c<=c1->Eff pr f caps h1 c1 (zym L X F (A (k+1)) τ h1 c1))
  (hs:∀(k:Nat) (t:List Int×List Vse.F) (h1:T Ob) (c1:Nat),r.tu[k]? =some t->zdg L X σ q.1 t.1=none->A k false h1 c1->A (k+1) false h1 c1)
  (hFM:∀id,F h id->id+1<X.S\/X.M<=id)
  {s:St}{K:Ex->St->Prop}(hJ:Je L X F A σ q r (.fn f [] caps) pd h c P7 0 s)(hK:∀e s,Re L X F A σ r.tu.length h c e s->K e s):WL pr zt9 s K:=by
 refine zcS (fun k s=>∃n:Nat,n<=r.tu.length/\k=r.tu.length - n/\Je L X F A σ q r (.fn f [] caps) pd h c P7 n s) (Re L X F A σ r.tu.length h c) ?_ r.tu.length _ ⟨0,Z61 _,rfl,hJ⟩ hK;clear hJ;rintro k s ⟨n,hn,rfl,⟨h0,h2,h7,h8,h9,h46,h47,h48,g7⟩,HM,hA,hc,hP1,hP2,hL,hnF⟩;have ho:=HM.m.o;have hRO:=HM.o.L r (Z39 hr);have hP:=HM.o.P q hq;have h3:=hRO.n;have hw:=zao n (by omega)
 by_cases hlt:n<r.tu.length
 .have hx:r.tu[n]? =some r.tu[n]:=Z0 hlt;have hmem:=Z1 hlt;generalize r.tu[n]=t at hx hmem;have hxA:=(Z8.1 hx).2;have htl:t.1.length=q.1.ts.length:=hP.a r hr t hmem;obtain⟨ip,i1,i2⟩ :=hpl.ia;have hip:=i2 (by omega);have hipg:s.h.get ip=some (.arr 1 0 (zjm (List.range r.tu.length))):=by
   rw[hL.1 ip (by omega) (by omega) (by have:=HM.m.o;omega) fun hF=>by have:=hFM ip hF;omega];exact hip.1
  have hrow:=zqL r.tu.length n hlt;have hidx:=i1 n hlt;have hm:=HM.m.m;have ho:=HM.m.o;unfold zt9 zpm;simp only[rU,C.l,C.r,C.b,C.o];simp[rW,h0,h2,h7,h8,h9,h46,h47,h48,hlt,hidx,hipg,hrow];refine zgi ?_;simp[rW,h0,h2,h7,h8,h9,h46,h47,h48,g7,zkI,hx,hxA,hlt,tuF];obtain⟨mrow,hmr⟩ :∃mrow,mrow=Ob.arr 7 0 [[.ptr X.S 2 0 0,.f (zah X.ns),X.dP,X.dN,X.dC,.sl X.V 0 X.ns.length 3 X.ns.length true,.f (.i .u64 (zaQ σ))]]:=⟨_,rfl⟩
  have key:∀(h3:T Ob) (c3 c4:Nat) (τ':Asg) (b:Bool),MS L h3 c3 X τ'->Ext σ τ'->A (n+1) (!b) h3 c3->Lft X F h c h3->c<=c3->¬F h3 P7->h3.get P7=some (.arr 3 0 [[.f (.i .i64 q.1.r),q.2,.f (.i .u64 q.1.m)]])->c3<=c4->
    MS L (h3.set X.M mrow) c4 X σ/\A (n+1) (!b) (h3.set X.M mrow) c4/\Lft X F h c (h3.set X.M mrow)/\¬F (h3.set X.M mrow) P7/\(h3.set X.M mrow).get P7=some (.arr 3 0 [[.f (.i .i64 q.1.r),q.2,.f (.i .u64 q.1.m)]]):=by
   intro h3 c3 c4 τ' b HT he hAb hL3 hc3 hn3 hp3 hc4;have ho3:=HT.m.o;have hup:=hV.up _ _ _ _ (h3.set X.M mrow) c4 hAb (fun id _ k2 _=>by rw[TG,Z49 k2]) hc4;refine⟨⟨HT.m.back he (by rw[TG,Z51 rfl,hmr]) (fun id _ h2=>by rw[TG,Z49 h2]) hc4,HT.s.up fun id _ hid=>by rw[TG,Z49 (by omega)],HT.o⟩,hup.1,⟨fun id k1 k2 k3 k4=>by rw[TG,Z49 k2];exact hL3.1 id k1 k2 k3 k4,fun id hF=>hL3.2 id (hup.2 id hF)⟩,fun hF=>hn3 (hup.2 _ hF),by rw[TG,Z49 (by omega)];exact hp3⟩
  refine zm1 [(0,.ptr X.M 7 0 0),(2,.fn f [] caps),(7,.ptr P7 3 0 0),(8,.f (.i .u64 (zaQ σ))),(9,.f (zbO r.tu)),(46,pd),(47,.f (.i .i64 r.tu.length)),(48,.f (.i .i64 n))] (zMx (c:=s.c+1+1+1+1+1+1+1) (HM.up (fun _ _=>rfl) (by omega)) hcn hq htl) (by simp only[rG]) (by simp only[rG]) (by simp only[Rg];simp[rW,h0,h2,h7,h8,h9,h46,h47,h48,hidx]) rfl ?_;rintro s2 d1 c' ⟨τ,HT,hres⟩ hc1 hc2 j59 ⟨j0,j2,j7,j8,j9,j46,j47,j48,-⟩;have hT2:MS L s2.h s2.c X τ:=HT.m.up (fun _ _=>rfl) hc2;have hup:=hV.up _ _ _ _ s2.h s2.c hA (fun id h1 k2 k3=>HT.f id (by omega) k2 k3) (by omega);have hg7:s2.h.get P7=_:=(HT.f P7 (by omega) (by omega) (by omega)).trans g7;have hL2:Lft X F h c s2.h:=hL.tr ⟨fun id k1 k2 k3 _=>HT.f id (by omega) k2 k3,fun id hF=> .inl (hup.2 id hF)⟩ (Z2 c);refine⟨by simp[rW],⟨?_⟩⟩;have hn2:¬F s2.h P7:=fun hF=>hnF (hup.2 _ hF)
  rcases hres with⟨rfl,hb⟩ |⟨rfl,hb⟩
  .simp[rW,j0,j2,j7,j8,j9,j46,j47,j48,j59];have hA3:=(hV.up _ _ _ _ s2.h (s2.c+1+1+1) hup.1 (fun _ _ _ _=>rfl) (by omega)).1;refine zm1 [(0,.ptr X.M 7 0 0),(2,.fn f [] caps),(7,.ptr P7 3 0 0),(8,.f (.i .u64 (zaQ σ))),(9,.f (zbO r.tu)),(46,pd),(47,.f (.i .i64 r.tu.length)),(48,.f (.i .i64 n)),(61,.f (.b false))] (hv n t τ s2.h (s2.c+1+1+1) hx hb (hT2.up (fun _ _=>rfl) (by omega)) hA3 (by omega)) (by simp only[rG]) (by simp only[rG]) (by simp only[Rg];simp[rW,j0,j2,j7,j8,j9,j46,j47,j48]) rfl ?_;rintro s3 d3 c3 ⟨⟨τ',he',HM'⟩,⟨b,rfl,hAb⟩,hL'⟩ hc3 hc3' i63 ⟨i0,i2,i7,i8,i9,i46,i47,i48,i61,-⟩;have hm3:=HM'.m.m;have hp3:s3.h.get P7=_:=(hL'.1 P7 (by omega) (by omega) (by omega) hn2).trans hg7;have hn3:¬F s3.h P7:=fun hF=>(hL'.2 _ hF).elim hn2 fun h=>by omega
   have K3:=fun c4=>key s3.h c3 c4 τ' b HM' (HT.e.tr he') hAb (hL2.tr hL' (by omega)) (by omega) hn3 hp3
   rw[hmr]at K3;have n4:X.M<s3.c+1+1:=by omega
   refine⟨by simp[rW],⟨?_⟩⟩;cases b with
   |true=>
    simp[rW,i0,i2,i7,i8,i9,i46,i47,i48,i61,i63,hm3,n4,hw];obtain⟨a1,a2,a3,a4,a5⟩ :=K3 (s3.c+1+1) (by omega);exact⟨r.tu.length - (n+1),by omega,n+1,by omega,rfl,⟨⟨by simp[rW,i0],by simp[rW,i2],by simp[rW,i7],by simp[rW,i8],by simp[rW,i9],by simp[rW,i46],by simp[rW,i47],by simp[rW,hw],by simp only[rG];exact a5⟩,by simp only[rG];exact a1,by simp only[rG];exact a2,by simp only[rG];omega,hP1,by simp only[rG];omega,by simp only[rG];exact a3,by simp only[rG];exact a4⟩⟩
   |false=>
    simp[rW,i0,i2,i7,i8,i9,i46,i47,i48,i61,i63,hm3,n4,hw];obtain⟨a1,a2,a3,a4,a5⟩ :=K3 (s3.c+1+1) (by omega);exact .inr ⟨rfl,by simp[rW],by simp only[rG];exact a1,⟨n+1,by simp only[rG];exact a2⟩,by simp only[rG];exact a3⟩
  .simp[rW,j0,j2,j7,j8,j9,j46,j47,j48,j59,hT2.m.m,hw];obtain⟨a1,a2,a3,a4,a5⟩ :=key s2.h s2.c (s2.c+1+1+1+1) τ true hT2 HT.e (hs n t _ _ hx hb hup.1) hL2 (by omega) hn2 hg7 (by omega);rw[hmr]at a1 a2 a3 a4 a5;exact⟨by omega,r.tu.length - (n+1),by omega,n+1,by omega,rfl,⟨⟨by simp[rW,j0],by simp[rW,j2],by simp[rW,j7],by simp[rW,j8],by simp[rW,j9],by simp[rW,j46],by simp[rW,j47],by simp[rW,hw],by simp only[rG];exact a5⟩,by simp only[rG];exact a1,by simp only[rG];exact a2,by simp only[rG];omega,hP1,by simp only[rG];omega,by simp only[rG];exact a3,by simp only[rG];exact a4⟩⟩
 .have hen:n=r.tu.length:=by omega
  subst hen;unfold zt9 zpm;simp only[rU,C.l,C.r,C.b,C.o];simp[rW,h0,h2,h7,h8,h9,h46,h47,h48];exact .inl ⟨rfl,HM.up (fun _ _=>rfl) (by simp only[rG];omega),hA,hL⟩
theorem zBR{L:List Rl}{h:T Ob}{c:Nat}{X:Mx}{σ:Asg}(H:MS L h c X σ)(hcn:zdk L X σ=true){F:T Ob->Nat->Prop}{A:Nat->Bool->T Ob->Nat->Prop}(hV:Vst X F A){i:Nat}{q:Pat×D}(hi:X.WP[i]? =some q){r:Rl}(hr:L[q.1.r]? =some r){f:Nat}{caps:List D}
  (hA0:A 0 false h c)(hclo:∀k b h' c',A k b h' c'->(∀id,id<c->h'.get id=h.get id)->A k b h c)
  (hv:∀(k:Nat) (t:List Int×List Vse.F) (τ:Asg) (h1:T Ob) (c1:Nat),r.tu[k]? =some t->zdg L X σ q.1 t.1=some τ->MS L h1 c1 X τ->A k false h1 c1->c<=c1->Eff pr f caps h1 c1 (zym L X F (A (k+1)) τ h1 c1))
  (hs:∀(k:Nat) (t:List Int×List Vse.F) (h1:T Ob) (c1:Nat),r.tu[k]? =some t->zdg L X σ q.1 t.1=none->A k false h1 c1->A (k+1) false h1 c1)
  (hFM:∀id,F h id->id+1<X.S\/X.M<=id):Eff pr 114 [.ptr X.M 7 0 0,.f (.i .i64 i),.fn f [] caps] h c (EtP L X F A σ r.tu.length h c):=by
 refine zb2 kps fn114 (fun d h' c' ⟨_,⟨b,k,e1,e2,e3⟩,_⟩ _ hf=>⟨H,⟨b,k,e1,hclo _ _ _ _ e2 hf,e3⟩,Lft.refl _ _ _ _⟩) ?_;have hq:q∈X.WP:=Z39 hi;have hil:i<X.WP.length:=(Z8.1 hi).1;have hm:=H.m.m;have ho:=H.m.o;have gP:=H.m.P.1;have hpd:(paD X.WP).length=X.WP.length:=by simp[paD]
 obtain⟨id,ro,e1,e2,e3,e4⟩ :=zes gP (n:=i) (by omega);rw[hpd]at e1;have hrow:(paD X.WP)[i]? =some [.f (.i .i64 q.1.r),q.2,.f (.i .u64 q.1.m)]:=by simp[paD,hi]
 have hA:=(Z8.1 hrow).2;have hqc:q.2.cells=some [q.2]:=zbY (H.m.P.2 q hq);obtain⟨⟨PR,W,a1,a2,a3,a4,a5⟩,hl⟩ :=H.s;obtain⟨pd,b1,b2⟩ :=a5 q.1.r r hr;have hiL:q.1.r<L.length:=(Z8.1 hr).1;have hprow:(W.map fun d=>[d])[q.1.r]? =some [pd]:=by rw[Z36,b1];rfl
 have hLA:=(Z8.1 hr).2;have hB:=(Z8.1 b1).2;have lpd:=b2.len;have n1:¬id=c:=by omega
 have n2:¬X.M=c:=by omega
 have n3:¬X.S=c:=by omega
 have n4:¬PR=c:=by omega
 simp only[zpm,rU];simp[rW,st0,zak,hm,e1,hil,e2,hrow,hA,hpd,hqc,n1,n2];refine zr3 (fun s'=>Rg [(0,.ptr X.M 7 0 0),(2,.fn f [] caps),(7,.ptr c 3 0 0),(8,.f (.i .u64 (zaQ σ))),(9,.f (zbO r.tu))] s'/\s'.h=(h.set c (.arr 3 0 [[.f (.i .i64 0),.f .nils,.f (.i .u64 0)]])).set c (.arr 3 0 [[.f (.i .i64 q.1.r),q.2,.f (.i .u64 q.1.m)]])/\c+1<=s'.c) (fun K hK=> ?_) ?_
 .refine zaw ?_;simp[rW,hm,n2,n3,a1,znU,hr,hLA,hiL,rlE];exact hK _ ⟨by simp only[Rg];simp[rW],by simp only[rG],by simp only[rG];omega⟩
 rintro s1 ⟨⟨k0,k2,k7,k8,k9,-⟩,hh,hc1⟩;have f1:∀id,id≠c->s1.h.get id=h.get id:=fun id hne=>by rw[hh,TG,Z49 hne,TG,Z49 hne]
 have g7:s1.h.get c=some (.arr 3 0 [[.f (.i .i64 q.1.r),q.2,.f (.i .u64 q.1.m)]]):=by rw[hh,TG,Z51 rfl]
 have m1:=(f1 X.M n2).trans hm;have s1':=(f1 X.S n3).trans a1;have p1:=(f1 PR n4).trans a2;simp[rW,k0,k2,k7,k8,k9];refine zr3 (fun s'=>Rg [(0,.ptr X.M 7 0 0),(2,.fn f [] caps),(7,.ptr c 3 0 0),(8,.f (.i .u64 (zaQ σ))),(9,.f (zbO r.tu)),(46,pd),(47,.f (.i .i64 r.tu.length)),(48,.f (.i .i64 0))] s'/\s'.h=s1.h/\s1.c<=s'.c) (fun K hK=> ?_) ?_
 .refine zaw ?_;simp[rW,k0,k2,k7,k8,k9,m1,s1',p1,g7,hprow,hiL,a4,hB,lpd];exact hK _ ⟨by simp only[Rg];simp[rW,k0,k2,k7,k8,k9],by simp only[rG],by simp only[rG];omega⟩
 rintro s2 ⟨⟨j0,j2,j7,j8,j9,j46,j47,j48,-⟩,hh2,hc2⟩;have f2:∀id,id≠c->s2.h.get id=h.get id:=fun id hne=>by rw[hh2];exact f1 id hne
 have hup:=hV.up _ _ _ _ s2.h s2.c hA0 (fun id h1 _ _=>f2 id (by omega)) (by omega);simp[rW,j0,j2,j7,j8,j9,j46,j47,j48];refine et_l0 hV hcn hq hr b2 ho.2.2 hv hs hFM ⟨⟨by simp[rW,j0],by simp[rW,j2],by simp[rW,j7],by simp[rW,j8],by simp[rW,j9],by simp[rW,j46],by simp[rW,j47],by simp[rW,j48],by rw[hh2];exact g7⟩,H.up (fun id hid=>f2 id (by omega)) (by omega),hup.1,by omega,Z2 _,by omega,⟨fun id k1 _ _ _=>f2 id (by omega),fun id hF=> .inl (hup.2 id hF)⟩,fun hF=>by have:=hV.lt _ _ _ _ _ hA0 (hup.2 _ hF);omega⟩ ?_;rintro e s (⟨rfl,HM,hAn,hL⟩ |⟨rfl,h6,HM,⟨k,hAk⟩,hL⟩)
 .simp[rW,zaR];exact⟨HM.up (fun _ _=>rfl) (by first|(simp only[rG];omega)|omega),⟨true,r.tu.length,rfl,hAn,fun _=>rfl⟩,hL⟩
 .simp[rW,h6,zaR];exact⟨HM,⟨false,k,rfl,hAk,fun h=>by cases h⟩,hL⟩
def AtT(L:List Rl)(τ:Asg)(p:Pat):Prop:=∃v,zdd τ p.ts=some v/\hasB L p.r v=true
def Sat(L:List Rl)(X:Mx)(σ:Asg)(g:Nat):Prop:=∃τ,Ext σ τ/\(∀i q,g.testBit i=true->X.WP[i]? =some q->AtT L τ q.1)/\zdk L X τ=true
def zfb{σ τ:Asg}(h:Ext σ τ){t:Opn}{z:Int}(hz:zaC σ t=some z):zaC τ t=some z:=by
 cases t with
 |cst y=>exact hz
 |var i=>
  have hs:σ[i]? =some (some z):=by
   simp only[zaC]at hz;cases hh:σ[i]? with
   |none=>rw[hh]at hz;cases hz
   |some o=>rw[hh]at hz;exact congrArg some hz
  simp[zaC,h.2 i z hs]
theorem zmY{σ τ:Asg}(h:Ext σ τ):∀{ts:List Opn} {v:List Int},zdd σ ts=some v->zdd τ ts=some v
 |[],v,hv=>hv
 |t::l,v,hv=>by
  simp only[zdd]at hv|-;split at hv
  .rename_i z w hz hw;rw[zfb h hz,zmY h hw];exact hv
  .cases hv
def zmo{L:List Rl}{X:Mx}{σ τ:Asg}(h:Ext σ τ)(hc:zdk L X τ=true):zdk L X σ=true:=by
 unfold zdk at hc|-;rw[Z14]at hc|-;refine⟨Z50.2 fun k hk=> ?_,Z50.2 fun q hq=> ?_⟩
 .have:=Z50.1 hc.1 k hk;unfold zhW at this|-;split
  .rename_i a b ha hb;rw[zfb h ha,zfb h hb]at this;exact this
  .rfl
 .have:=Z50.1 hc.2 q hq;unfold zh5 at this|-;split
  .rename_i v hv;rw[zmY h hv]at this;exact this
  .rfl
theorem zoh:∀{ts:List Opn} {v:List Int} {σ τ:Asg} {n:Nat},(∀t∈ts,zex n t)->σ.length=n->Ext σ τ->zdd τ ts=some v->∃τ1,zea σ ts v=some τ1/\Ext τ1 τ
 |[],v,σ,τ,n,_,_,h,hv=>by cases hv;exact⟨σ,rfl,h⟩
 |t::l,v,σ,τ,n,ho,hn,h,hv=>by
  simp only[zdd]at hv;split at hv
  .rename_i z w hz hw;cases hv;simp only[zea];cases hs:zaC σ t with
   |some y=>
    have:y=z:=Z53 ((zfb h hs).symm.trans hz);simp only[this,Z60];exact zoh (fun x hx=>ho x (by simp[hx])) hn h hw
   |none=>
    cases t with
    |cst y=>cases hs
    |var i=>
     simp only;have hi:i<n:=ho (.var i) (by simp);refine zoh (n:=n) (fun x hx=>ho x (by simp[hx])) (by simpa using hn) ⟨by rw[List.length_set];exact h.1,fun j y hy=> ?_⟩ hw
     by_cases hij:i=j
     .subst hij;rw[Z140 (by omega)]at hy;cases hy;simp only[zaC]at hz;cases hh:τ[i]? with
      |none=>rw[hh]at hz;cases hz
      |some o=>rw[hh]at hz;exact congrArg some hz
     .rw[Z125 hij]at hy;exact h.2 j y hy
  .cases hv
theorem zkg:∀{ts:List Opn} {v:List Int} {σ τ:Asg} {n:Nat},(∀t∈ts,zex n t)->σ.length=n->v.length=ts.length->zea σ ts v=some τ->zdd τ ts=some v
 |[],v,σ,τ,n,_,_,hl,h=>by
  have:v=[]:=Z17.1 hl;rw[this];rfl
 |t::l,[],σ,τ,n,_,_,hl,h=>by simp at hl
 |t::l,z::zs,σ,τ,n,ho,hn,hl,h=>by
  simp only[zea]at h;split at h
  .rename_i y hy;split at h
   .rename_i e;subst e;have hv:=zkg (fun x hx=>ho x (by simp[hx])) hn (by simpa using hl) h;simp only[zdd,hv,zfb (zgd h) hy]
   .cases h
  .rename_i hy;split at h
   .rename_i i;have hi:i<n:=ho (.var i) (by simp);have hv:=zkg (n:=n) (fun x hx=>ho x (by simp[hx])) (by simpa using hn) (by simpa using hl) h;have:zaC (σ.set i (some z)) (.var i)=some z:=by simp[zaC,Z140 (show i<σ.length by omega)]
    simp only[zdd,hv,zfb (zgd h) this]
   .cases h
def zmD{L:List Rl}{i:Nat}{r:Rl}(hr:L[i]? =some r){v:List Int}:hasB L i v=true↔∃(k:Nat) (t:List Int×List Vse.F),r.tu[k]? =some t/\t.1=v:=by
 unfold hasB;rw[hr];simp only[Z30,beq_iff_eq];constructor
 .rintro⟨t,ht,e⟩;obtain⟨k,hk,rfl⟩ :=Z101.1 ht;exact⟨k,_,Z0 hk,e⟩
 .rintro⟨k,t,ht,e⟩;exact⟨t,Z39 ht,e⟩
theorem zFD{L:List Rl}{X:Mx}{σ:Asg}{g i:Nat}{q:Pat×D}{r:Rl}(hO:MxO X L)(hσ:σ.length=X.ns.length)(hi:g.testBit i=true)(hq:X.WP[i]? =some q)(hr:L[q.1.r]? =some r){g':Nat}(hg:∀j,g'.testBit j=true↔(g.testBit j=true/\j≠i)):
  Sat L X σ g↔∃(k:Nat) (t:List Int×List Vse.F) (τ:Asg),r.tu[k]? =some t/\zdg L X σ q.1 t.1=some τ/\Sat L X τ g':=by
 have hP:=hO.P q (Z39 hq);constructor
 .rintro⟨τ,he,ha,hc⟩;obtain⟨v,hv,hb⟩ :=ha i q hi hq;obtain⟨k,t,ht,rfl⟩ :=(zmD hr).1 hb;obtain⟨τ1,h1,h2⟩ :=zoh hP.o hσ he hv;refine⟨k,t,τ1,ht,?_,τ,h2,fun j q' hj hq'=>ha j q' ((hg j).1 hj).1 hq',hc⟩;unfold zdg;rw[h1];simp[zmo h2 hc]
 .rintro⟨k,t,τ,ht,hb,τ2,he,ha,hc⟩;unfold zdg at hb;cases h1:zea σ q.1.ts t.1 with
  |none=>rw[h1]at hb;cases hb
  |some τ1=>
   rw[h1]at hb;simp only[Option.filter_some]at hb;split at hb
   .cases hb;have htl:t.1.length=q.1.ts.length:=hP.a r hr t (Z39 ht);have hv:=zkg hP.o hσ htl h1;refine⟨τ2,(zgd h1).tr he,fun j q' hj hq'=> ?_,hc⟩
    by_cases hji:j=i
    .subst hji;rw[hq]at hq';cases hq';exact⟨t.1,zmY he hv,(zmD hr).2 ⟨k,t,ht,rfl⟩⟩
    .exact ha j q' ((hg j).2 ⟨hj,hji⟩) hq'
   .cases hb
def mix(σ τ1 τ2:Asg)(r:Nat):Asg:=(List.range σ.length).map fun j=>match zaC σ (.var j)with
 |some z=>some z
 |none=>if r.testBit j then zaC τ1 (.var j)else zaC τ2 (.var j)
def zJr(σ τ1 τ2:Asg)(r:Nat):(mix σ τ1 τ2 r).length=σ.length:=by simp[mix]
theorem zxb{σ τ1 τ2:Asg}{r j:Nat}(hj:j<σ.length):zaC (mix σ τ1 τ2 r) (.var j)=match zaC σ (.var j)with
 |some z=>some z
 |none=>if r.testBit j then zaC τ1 (.var j)else zaC τ2 (.var j):=by
 simp only[zaC,mix];rw[Z36,List.getElem?_range hj];rfl
def zJq{σ τ1 τ2:Asg}{r:Nat}:Ext σ (mix σ τ1 τ2 r):=by
 refine⟨zJr ..,fun i z hz=> ?_⟩;have hi:i<σ.length:=(Z8.1 hz).1;unfold mix;rw[Z36,List.getElem?_range hi];simp[zaC,hz]
def zB8{σ:Asg}{m:Nat}(hm:m<64)(hn:σ.length<=6)(j:Nat):(frN σ m).testBit j=(m.testBit j&& !(zaC σ (.var j)).isSome):=by
 have hb:zaQ σ<64:=Z15 (zet σ) (Z113 (by decide) hn);unfold frN;rw[zi3 hm hb,zew]
def zu3{σ τ1 τ2:Asg}{r:Nat}(h1:Ext σ τ1){t:Opn}(ho:zex σ.length t)(hs:∀j,t= .var j->zaC σ (.var j)=none->r.testBit j=true):zaC (mix σ τ1 τ2 r) t=zaC τ1 t:=by
 cases t with
 |cst y=>rfl
 |var j=>
  rw[zxb ho];cases hv:zaC σ (.var j)with
  |some z=>exact (zfb h1 hv).symm
  |none=>simp[hs j rfl hv]
def zrL{σ τ1 τ2:Asg}{r:Nat}(h2:Ext σ τ2){t:Opn}(ho:zex σ.length t)(hs:∀j,t= .var j->zaC σ (.var j)=none->r.testBit j=false):zaC (mix σ τ1 τ2 r) t=zaC τ2 t:=by
 cases t with
 |cst y=>rfl
 |var j=>
  rw[zxb ho];cases hv:zaC σ (.var j)with
  |some z=>exact (zfb h2 hv).symm
  |none=>simp[hs j rfl hv]
theorem zmX{σ τ:Asg}:∀{ts:List Opn},(∀t∈ts,zaC σ t=zaC τ t)->zdd σ ts=zdd τ ts
 |[],_=>rfl
 |t::l,h=>by
  simp only[zdd,h t (by simp),zmX (σ:=σ) (τ:=τ) (ts:=l) fun x hx=>h x (by simp[hx])]
def zwR{σ:Asg}{p:Pat}(ho:∀t∈p.ts,zex σ.length t)(hn:σ.length<=6){t:Opn}(ht:t∈p.ts){j:Nat}(e:t= .var j)(hv:zaC σ (.var j)=none):(frN σ p.m).testBit j=true:=by
 rw[zB8 (zkq hn ho) hn,ziz,hv];simp only[Option.isSome_none,Bool.not_false,Z187];exact Z30.2 ⟨t,ht,(zgu t j).2 e⟩
def zxa{σ τ1 τ2:Asg}{r:Nat}(hn:σ.length<=6)(h1:Ext σ τ1){p:Pat}(ho:∀t∈p.ts,zex σ.length t)(hs:Sub (frN σ p.m) r):zdd (mix σ τ1 τ2 r) p.ts=zdd τ1 p.ts:=
 zmX fun t ht=>zu3 h1 (ho t ht) fun j e hv=>hs j (zwR ho hn ht e hv)
def zu1{σ τ1 τ2:Asg}{r:Nat}(hn:σ.length<=6)(h2:Ext σ τ2){p:Pat}(ho:∀t∈p.ts,zex σ.length t)(hs:Dis (frN σ p.m) r):zdd (mix σ τ1 τ2 r) p.ts=zdd τ2 p.ts:=
 zmX fun t ht=>zrL h2 (ho t ht) fun j e hv=>hs j (zwR ho hn ht e hv)
def zmi{σ:Asg}{k:Cnd}(ho:zkL σ.length k)(hn:σ.length<=6){t:Opn}(ht:t=k.l\/t=k.r){j:Nat}(e:t= .var j)(hv:zaC σ (.var j)=none):(frN σ k.m).testBit j=true:=by
 rw[zB8 (zp9 ho hn) hn,hv];unfold Cnd.m;rw[Nat.testBit_or];simp only[Option.isSome_none,Bool.not_false,Z187,Z115];rcases ht with rfl|rfl
 .exact .inl ((zgu _ j).2 e)
 .exact .inr ((zgu _ j).2 e)
theorem zCU{L:List Rl}{X:Mx}{σ:Asg}{rest g r:Nat}(hO:MxO X L)(hσ:σ.length=X.ns.length)(hn:σ.length<=6)(HG:zDq X σ rest g r){rest':Nat}(hr':∀j,rest'.testBit j=true↔(rest.testBit j=true/\g.testBit j=false)):
  Sat L X σ rest↔Sat L X σ g/\Sat L X σ rest':=by
 constructor
 .rintro⟨τ,he,ha,hc⟩;exact⟨⟨τ,he,fun i q hi=>ha i q (HG.gs i hi),hc⟩,⟨τ,he,fun i q hi=>ha i q ((hr' i).1 hi).1,hc⟩⟩
 .rintro⟨⟨τ1,e1,a1,c1⟩,⟨τ2,e2,a2,c2⟩⟩;have hoP:∀q∈X.WP,∀t∈q.1.ts,zex σ.length t:=fun q hq=>by rw[hσ];exact (hO.P q hq).o
  have hoN:∀q∈X.WN,∀t∈q.1.ts,zex σ.length t:=fun q hq=>by rw[hσ];exact (hO.N q hq).o
  have hoC:∀k∈X.cs,zkL σ.length k:=fun k hk=>by rw[hσ];exact (hO.c k hk).1
  refine⟨mix σ τ1 τ2 r,zJq,fun i q hi hq=> ?_,?_⟩
  .have hm:fmN X σ i=frN σ q.1.m:=by simp[fmN,hq]
   have hqm:=Z39 hq;cases hg:g.testBit i with
   |true=>
    obtain⟨v,hv,hb⟩ :=a1 i q hg hq;exact⟨v,by rw[zxa hn e1 (hoP q hqm) (hm▸HG.gi i hg)];exact hv,hb⟩
   |false=>
    obtain⟨v,hv,hb⟩ :=a2 i q ((hr' i).2 ⟨hi,hg⟩) hq;exact⟨v,by rw[zu1 hn e2 (hoP q hqm) (hm▸HG.pd i hi hg)];exact hv,hb⟩
  .unfold zdk at c1 c2|-;rw[Z14]at c1 c2|-;refine⟨Z50.2 fun k hk=> ?_,Z50.2 fun q hq=> ?_⟩
   .rcases HG.pc k hk with hd|hs
    .have:=Z50.1 c2.1 k hk;unfold zhW at this|-;rw[zrL e2 (hoC k hk).1 fun j e hv=>hd j (zmi (hoC k hk) hn (.inl rfl) e hv),zrL e2 (hoC k hk).2 fun j e hv=>hd j (zmi (hoC k hk) hn (.inr rfl) e hv)];exact this
    .have:=Z50.1 c1.1 k hk;unfold zhW at this|-;rw[zu3 e1 (hoC k hk).1 fun j e hv=>hs j (zmi (hoC k hk) hn (.inl rfl) e hv),zu3 e1 (hoC k hk).2 fun j e hv=>hs j (zmi (hoC k hk) hn (.inr rfl) e hv)];exact this
   .rcases HG.pn q hq with hd|hs
    .have:=Z50.1 c2.2 q hq;unfold zh5 at this|-;rw[zu1 hn e2 (hoN q hq) hd];exact this
    .have:=Z50.1 c1.2 q hq;unfold zh5 at this|-;rw[zxa hn e1 (hoN q hq) hs];exact this
def sat_0{L:List Rl}{X:Mx}{σ:Asg}(hc:zdk L X σ=true):Sat L X σ 0:=⟨σ,Ext.rfl' σ,(fun i q hi=>by rw[Nat.zero_testBit]at hi;cases hi),hc⟩
def fn189:pr.fn 189=some zz7:=by kernel_rfl
def fn233:pr.fn 233=some zAj:=by kernel_rfl
def PoP(L:List Rl)(X:Mx)(σ:Asg)(P:Prop)(h:T Ob)(c:Nat)(d:D)(h':T Ob)(c':Nat):Prop:=(∃b:Bool,d= .f (.b b)/\(b=true↔P))/\MS L h' c' X σ/\Fr X c h h'
def PoP.clo{L:List Rl}{X:Mx}{σ:Asg}{P:Prop}{h:T Ob}{c:Nat}(H:MS L h c X σ)(d:D)(h':T Ob)(c':Nat)(hp:PoP L X σ P h c d h' c'):PoP L X σ P h c d h c:=⟨hp.1,H,Fr.refl _ _ _⟩
def zyh(L:List Rl)(X:Mx)(rest:Nat):Prop:=∀(h:T Ob) (c:Nat) (σ:Asg),MS L h c X σ->zdk L X σ=true->Eff pr 110 [.ptr X.M 7 0 0,.f (.i .u64 rest)] h c (PoP L X σ (Sat L X σ rest) h c)
def rmN(g i:Nat):Nat:=zdm g (2 ^ i)
def zvs{g i:Nat}(hg:g<64)(hi:i<6)(j:Nat):(rmN g i).testBit j=true↔(g.testBit j=true/\j≠i):=by
 have h2:2 ^ i<64:=by
  have:2 ^ i<=2 ^ 5:=Z113 (by decide) (by omega);omega
 unfold rmN;rw[zi3 hg h2,Nat.testBit_two_pow,Z14,Z80,Z65];exact⟨fun h=>⟨h.1,fun e=>h.2 e.symm⟩,fun h=>⟨h.1,fun e=>h.2 e.symm⟩⟩
def t_rm:((List.range 64).all fun g=>(List.range 6).all fun i=>!g.testBit i||Nat.blt (rmN g i) g)=true:=by kernel_rfl
def zAX{g i:Nat}(hg:g<64)(hi:g.testBit i=true):rmN g i<g:=by
 have h6:i<6:=zem (n:=6) hg hi;have h1:=Z50.1 (Z50.1 t_rm g (by simpa using hg)) i (by simpa using h6);rw[hi]at h1;simpa [Z79]using h1
def b_rm{g i:Nat}(hg:g<64)(hi:i<6):zaK .shl (.i .u64 1) (.i .i64 (i:Nat))=some (.i .u64 ((2 ^ i:Nat):Int))/\zaK .andNot (.i .u64 (g:Nat)) (.i .u64 ((2 ^ i:Nat):Int))=some (.i .u64 ((rmN g i:Nat):Int)):=by
 have h2:2 ^ i<64:=by
  have:2 ^ i<=2 ^ 5:=Z113 (by decide) (by omega);omega
 exact⟨zkO (by omega),zll hg h2⟩
structure St0(h:T Ob)(c0:Nat)(X:Mx):Prop where
 P:zjA h (X.V+1) c0 X.dP X.WP
 N:zjA h (X.V+1) c0 X.dN X.WN
 C:Gro h (X.V+1) c0 10 X.dC (cnD X.cs)
 o:X.S<X.M/\X.M<X.V/\X.V<c0
def St0.up{h h':T Ob}{c0:Nat}{X:Mx}(H:St0 h c0 X)(hf:∀id,X.V<id->id<c0->h'.get id=h.get id):St0 h' c0 X:=by
 have ho:=H.o;have key:∀id,X.V+1<=id->id<c0->h'.get id=h.get id:=fun id h1 h2=>hf id (by omega) h2
 exact⟨H.P.up key (Z2 _),H.N.up key (Z2 _),zaX H.C (Z2 _) key,ho⟩
def MS.st{L:List Rl}{h:T Ob}{c:Nat}{X:Mx}{σ:Asg}(H:MS L h c X σ):St0 h c X:=⟨H.m.P,H.m.N,H.m.C,H.m.o⟩
def MS.far{L:List Rl}{h h':T Ob}{c c' c0:Nat}{X:Mx}{σ:Asg}(H:MS L h c X σ)(H0:St0 h c0 X)(hf:∀id,X.S<=id+1->id<c0->h'.get id=h.get id)(hc:c0<=c'):MS L h' c' X σ:=by
 have ho:=H0.o;obtain⟨vs,v1,v2,v3,v4⟩ :=H.m.v;have key:∀id,X.V+1<=id->id<c0->h'.get id=h.get id:=fun id h1 h2=>hf id (by omega) h2
 exact⟨⟨by rw[hf _ (by omega) (by omega)];exact H.m.m,⟨vs,by rw[hf _ (by omega) (by omega)];exact v1,v2,v3,v4⟩,H.m.n,H.m.n6,H0.P.up key hc,H0.N.up key hc,zaX H0.C hc key,by omega⟩,H.s.up fun id h1 h2=>hf id h1 (by omega),H.o⟩
def Good(L:List Rl)(X:Mx)(σ:Asg)(p:Pat)(g':Nat)(t:List Int×List F):Prop:=∃τ,zdg L X σ p t.1=some τ/\Sat L X τ g'
structure SmA(L:List Rl)(X:Mx)(σ:Asg)(q:Pat)(r:Rl)(g g' i b2 b5:Nat)(k:Nat)(b:Bool)(h:T Ob)(c:Nat):Prop where
 a2:h.get b2=some (.arr 1 0 [[.ptr X.M 7 0 0]])
 a3:h.get (b2+1)=some (.arr 1 0 [[.f (.i .u64 g)]])
 a5:h.get b5=some (.arr 1 0 [[.f (.i .i64 i)]])
 a6:h.get (b5+1)=some (.arr 1 0 [[.f (.b b)]])
 s0:St0 h b2 X
 lt:b2+1<b5/\b5+1<c
 no:b=false->∀j t,j<k->r.tu[j]? =some t->¬Good L X σ q g' t
 yes:b=true->∃(j:Nat) (t:List Int×List F),r.tu[j]? =some t/\Good L X σ q g' t
def SmF(b2 b5:Nat)(_:T Ob)(id:Nat):Prop:=id=b2\/id=b2+1\/id=b5\/id=b5+1
theorem smV{L:List Rl}{X:Mx}{σ:Asg}{q:Pat}{r:Rl}{g g' i b2 b5:Nat}:Vst X (SmF b2 b5) (SmA L X σ q r g g' i b2 b5) where
 lt k b h c id HA hF:=by
  have:=HA.lt;have:=HA.s0.o;rcases hF with rfl|rfl|rfl|rfl<;>omega
 up k b h c h' c' HA hf hc:=by
  have hl:=HA.lt;have ho:=HA.s0.o;exact⟨⟨by rw[hf _ (by omega) (by omega) (by omega)];exact HA.a2,by rw[hf _ (by omega) (by omega) (by omega)];exact HA.a3,by rw[hf _ (by omega) (by omega) (by omega)];exact HA.a5,by rw[hf _ (by omega) (by omega) (by omega)];exact HA.a6,HA.s0.up fun id h1 h2=>hf id (by omega) (by omega) (by omega),by omega,HA.no,HA.yes⟩,fun _ h=>h⟩
theorem zMB{L:List Rl}{X:Mx}{σ τ:Asg}{q:Pat}{r:Rl}{g i b2 b5 k:Nat}(hg:g<64)(hi:g.testBit i=true)(hp:zyh L X (rmN g i)){t:List Int×List F}(ht:r.tu[k]? =some t)(hb:zdg L X σ q t.1=some τ){h:T Ob}{c:Nat}(H:MS L h c X τ)(HA:SmA L X σ q r g (rmN g i) i b2 b5 k false h c):
  Eff pr 233 [.ptr b2 1 0 0,.ptr (b2+1) 1 0 0,.ptr b5 1 0 0,.ptr (b5+1) 1 0 0] h c (zym L X (SmF b2 b5) (SmA L X σ q r g (rmN g i) i b2 b5 (k+1)) τ h c):=by
 have hcn:zdk L X τ=true:=by
  unfold zdg at hb;have:=Option.filter_eq_some_iff.1 hb;exact this.2
 have h6:i<6:=zem (n:=6) hg hi;obtain⟨c1,c2⟩ :=b_rm hg h6;have hl:=HA.lt;have h0o:=HA.s0.o;have ho:=H.m.o;have hno:=HA.no rfl;refine zb2 kps fn233 (fun d h' c' ⟨_,⟨b,e1,e2⟩,_⟩ _ hf=>⟨⟨τ,Ext.rfl' _,H⟩,⟨b,e1,⟨HA.a2,HA.a3,HA.a5,by rw[<-hf _ (by omega)];exact e2.a6,HA.s0,by omega,e2.no,e2.yes⟩⟩,Lft.refl _ _ _ _⟩) ?_;have a2:=HA.a2;have a3:=HA.a3;have a5:=HA.a5;have a6:=HA.a6;generalize 2 ^ i=w at c1 c2;simp only[zAj,rU];simp[rW,st0,zak];refine zgi ?_;simp[rW,a2,a3,a5,c1,c2];refine zm1 [(3,.ptr (b5+1) 1 0 0)] (hp h (c+1+1+1+1+1) τ (H.up (fun _ _=>rfl) (by omega)) hcn) (by simp only[rG]) (by simp only[rG]) (by simp only[Rg];simp[rW]) rfl ?_;rintro s1 d1 c' ⟨⟨b,rfl,hbP⟩,HM,hF⟩ hc1 hc2 k10 ⟨k3,-⟩;have f1:∀id,X.V<id->id<c->s1.h.get id=h.get id:=fun id h1 h2=>hF id (by omega) (by omega) (by omega)
 have s6:=(f1 (b5+1) (by omega) (by omega)).trans a6;have n6:b5+1<s1.c:=by omega
 refine⟨by simp[rW],⟨?_⟩⟩;simp[rW,k3,k10,s6,n6,zaR];have hs0:St0 s1.h b2 X:=HA.s0.up fun id h1 h2=>hF id (by omega) (by omega) (by omega)
 have hne:∀id,id≠b5+1->(s1.h.set (b5+1) (.arr 1 0 [[.f (.b b)]])).get id=s1.h.get id:=fun id hn=>by rw[TG,Z49 hn]
 refine⟨⟨τ,Ext.rfl' _,HM.far hs0 (fun id _ h2=>hne id (by omega)) (by omega)⟩,⟨!b,rfl,?_⟩,⟨fun id h1 h2 h3 h4=>(hne id fun e=>h4 (.inr (.inr (.inr e)))).trans (hF id (by omega) h2 h3),fun id hF=> .inl hF⟩⟩;rw[Bool.not_not];refine⟨by rw[hne _ (by omega),f1 _ (by omega) (by omega)];exact a2,by rw[hne _ (by omega),f1 _ (by omega) (by omega)];exact a3,by rw[hne _ (by omega),f1 _ (by omega) (by omega)];exact a5,by rw[TG,Z51 rfl],hs0.up fun id _ h1=>hne id (by omega),by omega,fun e j t' hj ht'=> ?_,fun e=>⟨k,t,ht,τ,hb,hbP.1 e⟩⟩;rcases Z145 j k with h1|h1
 .exact hno j t' h1 ht'
 .have:j=k:=by omega
  subst this;rw[ht]at ht';cases ht';rintro⟨τ',hb',hs'⟩;rw[hb]at hb';cases hb';rw[hbP.2 hs']at e;cases e
def zMw{L:List Rl}{h:T Ob}{c:Nat}{X:Mx}{σ:Asg}(H:MS L h c X σ)(hcn:zdk L X σ=true){g:Nat}(hg0:g≠0)(hgl:g<2 ^ X.WP.length)(hp:∀g',g'<g->zyh L X g'):Eff pr 189 [.ptr X.M 7 0 0,.f (.i .u64 g)] h c (PoP L X σ (Sat L X σ g) h c):=by
 refine zb2 kps fn189 (fun d h' c' hP _ _=>hP.clo H) ?_;have hm:=H.m.m;have ho:=H.m.o;have hg64:g<64:=Z15 hgl (Z113 (by decide) H.o.Pl);have n1:¬c=c+1:=by omega
 simp only[zz7,rU];simp[rW,st0,zak,n1];refine zbR [(2,.ptr c 1 0 0),(3,.ptr (c+1) 1 0 0)] (zBQ (c:=c+1+1) (H.up (h':=(h.set c (.arr 1 0 [[.ptr X.M 7 0 0]])).set (c+1) (.arr 1 0 [[.f (.i .u64 g)]])) (fun id hid=>by rw[TG,Z49 (by omega),TG,Z49 (by omega)]) (by omega)) hg0 hgl) (by simp only[rG]) (by simp only[rG]) (by simp only[Rg];simp[rW]) rfl ?_;rintro s1 d1 ⟨⟨i,rfl,hi⟩,hf⟩ hc1 k9 ⟨k2,k3,-⟩;have f1:∀id,id<c->s1.h.get id=h.get id:=fun id hid=>by rw[hf id (by omega),TG,Z49 (by omega),TG,Z49 (by omega)]
 have g2:s1.h.get c=some (.arr 1 0 [[.ptr X.M 7 0 0]]):=by rw[hf c (by omega),TG,Z49 (by omega),TG,Z51 rfl]
 have g3:s1.h.get (c+1)=some (.arr 1 0 [[.f (.i .u64 g)]]):=by rw[hf _ (by omega),TG,Z51 rfl]
 have hil:=zem hgl hi;have hi6:=zem (n:=6) hg64 hi;obtain⟨q,hq⟩ :∃q,X.WP[i]? =some q:=⟨X.WP[i],Z0 hil⟩
 have hPq:=H.o.P q (Z39 hq);obtain⟨r,hr⟩ :∃r,L[q.1.r]? =some r:=⟨L[q.1.r]'hPq.r,Z0 hPq.r⟩
 have hss:=zFD H.o H.m.n hi hq hr (zvs hg64 hi6);have n2:¬c=s1.c:=by omega
 have n3:¬c=s1.c+1:=by omega
 have n4:¬s1.c=s1.c+1:=by omega
 refine⟨?_⟩;simp[rW,k2,k3,k9,g2,g3,n2,n3,n4];obtain⟨h2,hh2⟩ :∃h2,h2=(((s1.h.set s1.c (.arr 1 0 [[.f (.i .i64 0)]])).set s1.c (.arr 1 0 [[.f (.i .i64 i)]])).set (s1.c+1) (.arr 1 0 [[.f (.b false)]])).set (s1.c+1) (.arr 1 0 [[.f (.b false)]]):=⟨_,rfl⟩
 have f2:∀id,id<s1.c->h2.get id=s1.h.get id:=fun id hid=>by rw[hh2,TG,Z49 (by omega),TG,Z49 (by omega),TG,Z49 (by omega),TG,Z49 (by omega)]
 have H2:MS L h2 (s1.c+1+1) X σ:=H.up (fun id hid=>(f2 id (by omega)).trans (f1 id hid)) (by omega);have HA:SmA L X σ q.1 r g (rmN g i) i c s1.c 0 false h2 (s1.c+1+1):=⟨(f2 _ (by omega)).trans g2,(f2 _ (by omega)).trans g3,by rw[hh2,TG,Z49 (by omega),TG,Z49 (by omega),TG,Z51 rfl],by rw[hh2,TG,Z51 rfl],H.st.up fun id _ h1=>(f2 id (by omega)).trans (f1 id h1),by omega,fun _ j t hj=>absurd hj (by omega),fun e=>by cases e⟩
 refine zbR [(6,.ptr (s1.c+1) 1 0 0)] (zBR H2 hcn smV hq hr HA (fun k b h' c' HA' hf'=> ?_) (fun k t τ h1 c1 ht hb HM HA' _=>zMB hg64 hi (hp _ (zAX hg64 hi)) ht hb HM HA') (fun k t h1 c1 ht hb HA'=> ?_) (fun id hF=> ?_)) (by simp only[rG];exact hh2.symm) (by simp only[rG]) (by simp only[Rg];simp[rW]) rfl ?_
 .exact⟨HA.a2,HA.a3,HA.a5,by rw[<-hf' _ (by omega)];exact HA'.a6,HA.s0,HA.lt,HA'.no,HA'.yes⟩
 .refine⟨HA'.a2,HA'.a3,HA'.a5,HA'.a6,HA'.s0,HA'.lt,fun _ j t' hj ht'=> ?_,fun e=>by cases e⟩;rcases Z145 j k with h1|h1
  .exact HA'.no rfl j t' h1 ht'
  .have:j=k:=by omega
   subst this;rw[ht]at ht';cases ht';rintro⟨τ',hb',_⟩;rw[hb]at hb';cases hb'
 .rcases hF with rfl|rfl|rfl|rfl<;>omega
 rintro s3 d3 ⟨HM3,⟨b,k,rfl,HA3,hbk⟩,hL⟩ hc3 - ⟨j6,-⟩;have g6:=HA3.a6;refine⟨?_⟩;simp[rW,j6,g6,zaR];refine⟨⟨!b,rfl,?_⟩,HM3,fun id h1 h2 h3=> ?_⟩
 .rw[hss];cases b with
  |true=>
   have hk:=hbk rfl;subst hk;have hno:=HA3.no rfl;refine⟨(fun e=>by cases e),?_⟩;rintro⟨j,t,τ,ht,hb,hs⟩;exact absurd ⟨τ,hb,hs⟩ (hno j t ((Z8.1 ht).1) ht)
  |false=>
   obtain⟨j,t,ht,τ,hb,hs⟩ :=HA3.yes rfl;exact⟨fun _=>⟨j,t,τ,ht,hb,hs⟩,fun _=>rfl⟩
 .rw[hL.1 id (by omega) h2 h3 (by unfold SmF;omega)];exact (f2 id (by omega)).trans (f1 id h1)
def fn110:pr.fn 110=some zzP:=by kernel_rfl
def fn109:pr.fn 109=some zzO:=by kernel_rfl
def fn62:pr.fn 62=some g62:=by kernel_rfl
def fn60:pr.fn 60=some g60:=by kernel_rfl
def sub_le{a b:Nat}(h:Sub a b):a<=b:=by
 have e:a&&& b=a:=Nat.eq_of_testBit_eq fun j=>by
  rw[Nat.testBit_and];cases ha:a.testBit j with
  |false=>rfl
  |true=>rw[h j ha];rfl
 rw[<-e];exact Z203
def Jp(L:List Rl)(X:Mx)(σ:Asg)(rest:Nat)(h:T Ob)(c k:Nat)(s:St):Prop:=(s.tm.get 0=some (.ptr X.M 7 0 0)/\s.tm.get 1=some (.f (.i .u64 k)))/\k<=rest/\(Sat L X σ rest↔Sat L X σ k)/\MS L s.h s.c X σ/\Fr X c h s.h/\c<=s.c
def Rp(L:List Rl)(X:Mx)(σ:Asg)(rest:Nat)(h:T Ob)(c:Nat)(e:Ex)(s:St):Prop:=(e= .exit 0/\Jp L X σ rest h c 0 s)\/(e= .ret/\s.tm.get 4=some (.f (.b false))/\¬Sat L X σ rest/\MS L s.h s.c X σ/\Fr X c h s.h)
def zGS(L:List Rl)(X:Mx):∀rest:Nat,rest<2 ^ X.WP.length->zyh L X rest:=by
 intro rest
 induction rest using Nat.strongRecOn with
 |ind rest ih=>
  intro hrl h c σ H hcn;refine zb2 kps fn110 (fun d h' c' hP _ _=>hP.clo H) ?_;have hPl:=H.o.Pl;have hr64:rest<64:=Z15 hrl (Z113 (by decide) hPl);simp only[zzP,rU];simp[rW,st0,zak];refine zcS (fun k s=>Jp L X σ rest h c k s) (Rp L X σ rest h c) ?_ rest _ ⟨⟨?_,?_⟩,Z2 _,Iff.rfl,H.up (fun _ _=>rfl) (by simp only[rG];omega),fun _ _ _ _=>rfl,by simp only[rG];omega⟩ ?_
  .rintro k s ⟨⟨h0,h1⟩,hk,hS,HM,hF,hc⟩
   by_cases hz:k=0
   .subst hz;simp[rW,h0,h1,zih];exact .inl ⟨rfl,⟨by simp[rW,h0],by simp[rW,h1]⟩,hk,hS,HM.up (fun _ _=>rfl) (by simp only[rG];omega),hF,by simp only[rG];omega⟩
   .have hz2:(((k:Nat):Int)==0)=false:=by simpa using hz
    have hkl:k<2 ^ X.WP.length:=by omega
    have hk64:k<64:=by omega
    simp[rW,h0,h1,zih,hz2];refine zbR [(0,.ptr X.M 7 0 0),(1,.f (.i .u64 k))] (zMv HM hz hkl) (by simp only[rG]) (by simp only[rG]) (by simp only[Rg];simp[rW,h0,h1]) rfl ?_;rintro s1 d1 ⟨⟨g,r,rfl,hg64,HG⟩,hf1⟩ hc1 k10 ⟨k0,k1,-⟩;have hgk:=sub_le HG.gs;have hg0:g≠0:=fun e=>by have:=HG.g0;rw[e,Nat.zero_testBit]at this;cases this
    have HM1:=HM.up hf1 hc1;refine⟨?_⟩;simp[rW,k0,k1,k10];refine zbR [(0,.ptr X.M 7 0 0),(1,.f (.i .u64 k)),(5,.f (.i .u64 g))] (zMw HM1 hcn hg0 (by omega) fun g' hg'=>ih g' (by omega) (by omega)) (by simp only[rG]) (by simp only[rG]) (by simp only[Rg];simp[rW,k0,k1,k10]) rfl ?_;rintro s2 d2 ⟨⟨b,rfl,hb⟩,HM2,hF2⟩ hc2 j13 ⟨j0,j1,j5,-⟩;have hF3:Fr X c h s2.h:=(hF.trans (fun id h1 _ _=>hf1 id (by omega)) hc).trans hF2 (by omega);have hgr:=zCU (rest':=zdm k g) H.o H.m.n H.m.n6 HG (fun j=>by
     rw[zi3 hk64 hg64,Z14,Z80])
    have ban:=zll hk64 hg64;have hlt:zdm k g<k:=by
     have h1:zdm k g<=k:=Nat.and_le_left;have h2:zdm k g≠k:=fun e=>by
      have:=zi3 (i:=tz k) hk64 hg64;rw[e,HG.g0,(zkJ hk64 hz).1]at this;cases this
     omega
    refine⟨?_⟩;cases b with
    |true=>
     simp[rW,j0,j1,j5,j13,ban];exact⟨_,hlt,⟨by simp[rW,j0],by simp[rW]⟩,by omega,by rw[hS,hgr];exact⟨fun h=>h.2,fun h=>⟨hb.1 rfl,h⟩⟩,HM2.up (fun _ _=>rfl) (by simp only[rG];omega),hF3,by simp only[rG];omega⟩
    |false=>
     simp[rW,j0,j1,j5,j13];exact .inr ⟨rfl,by simp[rW],(fun h=>by have:=hb.2 (hgr.1 (hS.1 h)).1;cases this),HM2.up (fun _ _=>rfl) (by simp only[rG];omega),hF3⟩
  .simp[rW]
  .simp[rW]
  .rintro e s (⟨rfl,⟨h0,h1⟩,hk,hS,HM,hF,hc⟩ |⟨rfl,h4,hS,HM,hF⟩)
   .simp[rW,h0,h1,zaR];exact⟨⟨true,rfl,fun _=>hS.2 (sat_0 hcn),fun _=>rfl⟩,HM.up (fun _ _=>rfl) (by first|(simp only[rG];omega)|omega),hF⟩
   .simp[rW,h4,zaR];exact⟨⟨false,rfl,(fun e=>by cases e),fun h=>absurd h hS⟩,HM,hF⟩
def e0(X:Mx):Asg:=List.replicate X.ns.length none
theorem zu6:∀n:Nat,zaQ (List.replicate n none)=0
 |0=>rfl
 |n+1=>by rw[Z181,zaQ,zu6 n];rfl
def zuu(X:Mx)(i:Nat)(z:Int):¬(e0 X)[i]? =some (some z):=by
 unfold e0;rw[Z160];split<;>simp
def zqd(X:Mx){σ:Asg}(h:σ.length=X.ns.length):Ext (e0 X) σ:=⟨by simp[e0,h],fun i z hz=>absurd hz (zuu X i z)⟩
def StP(L:List Rl)(X:Mx)(h:T Ob)(c:Nat)(d:D)(h':T Ob)(c':Nat):Prop:=d= .f (.b (zdk L X (e0 X)))/\MS L h' c' X (e0 X)/\Fr X c h h'
def zMn{L:List Rl}{h:T Ob}{c:Nat}{X:Mx}{σ:Asg}(H:MS L h c X σ):Eff pr 109 [.ptr X.M 7 0 0] h c (StP L X h c):=by
 have hm:=H.m.m;have ho:=H.m.o;have hn:=H.m.n;refine zb2 kps fn109 (fun d h' c' ⟨a,b,_⟩ _ hf=>⟨a,?_,Fr.refl _ _ _⟩) ?_
 .have hb:=b.m.m;rw[hf X.M (by omega)]at hb;exact⟨H.m.back (zqd X hn) hb (fun _ _ _=>rfl) (Z2 _),H.s,H.o⟩
 have n4:X.M<c:=by omega
 simp only[zzO,rU];simp[rW,st0,zak,hm,n4];obtain⟨h2,hh2⟩ :∃h2,h2=h.set X.M (.arr 7 0 [[.ptr X.S 2 0 0,.f (zah X.ns),X.dP,X.dN,X.dC,.sl X.V 0 X.ns.length 3 X.ns.length true,.f (.i .u64 0)]]):=⟨_,rfl⟩
 have hne:∀id,id≠X.M->h2.get id=h.get id:=fun id hn=>by rw[hh2,TG,Z49 hn]
 have H2:MS L h2 c X (e0 X):=⟨H.m.back (zqd X hn) (by rw[hh2,TG,Z51 rfl];unfold e0;rw[zu6];rfl) (fun id _ h2=>hne id h2) (Z2 _),H.s.up fun id _ h2=>hne id (by omega),H.o⟩
 refine zbR [] (zBS H2) (by simp only[rG];exact hh2.symm) (by simp only[rG]) trivial rfl ?_;rintro s1 d1 ⟨rfl,hf⟩ hc1 k7 -;refine⟨?_⟩;simp[rW,k7,zaR];exact⟨rfl,H2.up hf hc1,fun id h1 h3 h4=>(hf id h1).trans (hne id h3)⟩
theorem t_all:((List.range 7).all fun n=>match zaK .sub (.i .u64 ((2 ^ n:Nat):Int)) (.i .u64 1)with
 |some (.i .u64 z)=>z==((2 ^ n - 1:Nat):Int)
 |_=>false)=true:=by kernel_rfl
def zGv{L:List Rl}{h:T Ob}{c:Nat}{X:Mx}{σ:Asg}(H:MS L h c X σ):Eff pr 62 [.ptr X.M 7 0 0] h c (Same (.f (.i .u64 ((2 ^ X.WP.length - 1:Nat):Int))) h c):=by
 refine zb2 kps fn62 (fun d h' c' ⟨a,_⟩ _ _=>⟨a,fun _ _=>rfl⟩) ?_;have hm:=H.m.m;have hPl:=H.o.Pl;have lP:=zer H.m.P.1;have hpd:(paD X.WP).length=X.WP.length:=by simp[paD]
 rw[hpd]at lP;have hsh:=zkO (i:=X.WP.length) (by omega);have hsb:zaK .sub (.i .u64 ((2 ^ X.WP.length:Nat):Int)) (.i .u64 1)=some (.i .u64 ((2 ^ X.WP.length - 1:Nat):Int)):=by
  have h1:=Z50.1 t_all X.WP.length (by simp;omega);split at h1
  .rename_i z e;rw[e,eq_of_beq h1]
  .cases h1
 generalize 2 ^ X.WP.length - 1=w2 at hsb;generalize 2 ^ X.WP.length=w at hsh hsb;simp only[g62,rU];simp[rW,st0,zak,hm,lP,hsh,hsb,zaR];exact⟨rfl,fun _ _=>rfl⟩
def zF3(L:List Rl)(X:Mx):Prop:=Sat L X (e0 X) (2 ^ X.WP.length - 1)
def HoP(L:List Rl)(X:Mx)(h:T Ob)(c:Nat)(d:D)(h':T Ob)(c':Nat):Prop:=(∃b:Bool,d= .f (.b b)/\(b=true↔zF3 L X))/\MS L h' c' X (e0 X)/\Fr X c h h'
def eff60{L:List Rl}{h:T Ob}{c:Nat}{X:Mx}{σ:Asg}(H:MS L h c X σ):Eff pr 60 [.ptr X.M 7 0 0] h c (HoP L X h c):=by
 have hm:=H.m.m;have ho:=H.m.o;have hn:=H.m.n;refine zb2 kps fn60 (fun d h' c' ⟨a,b,_⟩ _ hf=>⟨a,?_,Fr.refl _ _ _⟩) ?_
 .have hb:=b.m.m;rw[hf X.M (by omega)]at hb;exact⟨H.m.back (zqd X hn) hb (fun _ _ _=>rfl) (Z2 _),H.s,H.o⟩
 simp only[g60,rU];simp[rW,st0,zak];refine zbR [(0,.ptr X.M 7 0 0)] (zMn H) (by simp only[rG]) (by simp only[rG]) (by simp only[Rg];simp[rW]) rfl ?_;rintro s1 d1 ⟨rfl,H1,hF1⟩ hc1 k4 ⟨k0,-⟩;refine⟨?_⟩;cases hcn:zdk L X (e0 X)with
 |false=>
  rw[hcn]at k4;simp[rW,k0,k4,zaR];refine⟨⟨false,rfl,(fun e=>by cases e),fun hs=> ?_⟩,H1,hF1⟩;obtain⟨τ,he,_,hc'⟩ :=hs;rw[zmo he hc']at hcn;cases hcn
 |true=>
  rw[hcn]at k4;simp[rW,k0,k4];refine zbR [(5,.f (.b true)),(7,.ptr X.M 7 0 0),(6,.ptr X.M 7 0 0)] (zGv H1) (by simp only[rG]) (by simp only[rG]) (by simp only[Rg];simp[rW,k0,k4]) rfl ?_;rintro s2 d2 ⟨rfl,hf2⟩ hc2 j8 ⟨j5,j7,j6,-⟩;refine⟨?_⟩;simp[rW,j5,j6,j7,j8];refine zbR [(5,.f (.b true))] (zGS L X _ (by have:=Nat.two_pow_pos X.WP.length;omega) s2.h s2.c (e0 X) (H1.up hf2 hc2) hcn) (by simp only[rG]) (by simp only[rG]) (by simp only[Rg];simp[rW,j5]) rfl ?_;rintro s3 d3 ⟨⟨b,rfl,hb⟩,HM,hF3⟩ hc3 i9 ⟨i5,-⟩;refine⟨?_⟩;simp[rW,i5,i9,zaR];exact⟨⟨b,rfl,hb⟩,HM,(hF1.trans (fun id h1 _ _=>hf2 id (by omega)) hc1).trans hF3 (by omega)⟩
def fn59:pr.fn 59=some g59:=by kernel_rfl
def fn107:pr.fn 107=some zzM:=by kernel_rfl
def fn186:pr.fn 186=some zz3:=by kernel_rfl
def fn185:pr.fn 185=some zz2:=by kernel_rfl
def fn108:pr.fn 108=some zzN:=by kernel_rfl
def zg7{α:Type}(p:α->Bool)(l:List α):Int:=match l.findIdx? p with
 |some i=>i
 |none=> -1
def zuM{α:Type}{p:α->Bool}{l:List α}{n:Nat}(h:n<l.length)(h1:p l[n]=true)(h2:∀m (h':m<n),p (l[m]'(by omega))=false):zg7 p l=n:=by
 have:l.findIdx? p=some n:=by
  rw[Z26];exact⟨h,h1,fun j hj=>by simp[h2 j hj]⟩
 simp[zg7,this]
def zwY{α:Type}{p:α->Bool}{l:List α}(h:∀a∈l,p a=false):zg7 p l= -1:=by
 have:l.findIdx? p=none:=by
  rw[Z43];exact h
 simp[zg7,this]
def Jix(l:List Str)(v:Str)(n:Nat)(s:St):Prop:=s.tm.get 0=some (.f (zah l))/\s.tm.get 1=some (.f (.s v))/\s.tm.get 7=some (.f (.i .i64 l.length))/\s.tm.get 8=some (.f (.i .i64 n))
def Rix(v:Int)(e:Ex)(s:St):Prop:=e= .ret/\s.tm.get 4=some (.f (.i .i64 v))
def zyw(l:List Str)(v:Str)(hl:l.length<1000):Ans pr 59 [zah l,.s v] (.i .i64 (zg7 (fun x=>v==x) l)):=by
 refine zcf fn59 ?_;simp only[g59,rU];simp[rW,st0,zak,zaL,zbz];refine zmy l (fun x=>v==x) (Jix l v) (fun e s=>e= .exit 0) (fun n=>Rix n) ?_ ?_ _ ⟨?_,?_,?_,?_⟩ ?_ ?_
 .rintro n s hlt ⟨h0,h1,h7,h8⟩;have hw:=zao n (by omega);have hx:l[n]? =some l[n]:=Z0 hlt;generalize hA:l[n]=a at hx
  by_cases hv:v=a
  .simp[rW,h0,h1,h7,h8,hlt,zdf,hx,hA,hv];exact⟨rfl,by simp[rW]⟩
  .simp[rW,h0,h1,h7,h8,hlt,zdf,hx,hA,hv,hw];exact⟨by simp[rW,h0],by simp[rW,h1],by simp[rW,h7],by simp[rW,hw]⟩
 .rintro s ⟨h0,h1,h7,h8⟩;simp[rW,h0,h1,h7,h8]
 .simp[rW]
 .simp[rW]
 .simp[rW]
 .simp[rW]
 .rintro h e s rfl;rw[zwY h];simp[rW]
 .rintro n hn h1 h2 e s ⟨rfl,h4⟩;rw[zuM hn h1 h2];simp[rW,h4]
def zMu{h:T Ob}{c C:Nat}{nm:Str}(hC:h.get C=some (.arr 1 0 [[.f (.s nm)]]))(hCc:C<c)(r:Rl)(hr:r.co.d= .f r.co)(hrc:(D.f r.co).cells=some [.f r.co]):Eff pr 186 [.ag ((rlF r).map D.f),.ptr C 1 0 0] h c (Same (.f (.b (r.nm==nm))) h c):=by
 refine zb2 kps fn186 (fun d h' c' ⟨a,_⟩ _ _=>⟨a,fun _ _=>rfl⟩) ?_;have n1:¬C=c:=by omega
 simp only[zz3,rU];simp[rW,st0,zak,rlE,hC,n1,zaR];exact⟨rfl,fun id hid=>by rw[TG,Z49 (by omega)]⟩
def Jixf(L:List Rl)(C:Nat)(h:T Ob)(c n:Nat)(s:St):Prop:=(s.tm.get 0=some (.f (zbt L))/\s.tm.get 1=some (.fn 186 [] [.ptr C 1 0 0])/\s.tm.get 7=some (.f (.i .i64 L.length))/\s.tm.get 8=some (.f (.i .i64 n)))/\c<=s.c/\∀id,id<c->s.h.get id=h.get id
def Rixf(h:T Ob)(c:Nat)(v:Int)(e:Ex)(s:St):Prop:=e= .ret/\s.tm.get 4=some (.f (.i .i64 v))/\∀id,id<c->s.h.get id=h.get id
def zMt{h:T Ob}{c C:Nat}{nm:Str}(hC:h.get C=some (.arr 1 0 [[.f (.s nm)]]))(hCc:C<c){L:List Rl}(hl:L.length<1000)(ho:∀r∈L,r.co.d= .f r.co/\(D.f r.co).cells=some [.f r.co]):Eff pr 185 [.f (zbt L),.fn 186 [] [.ptr C 1 0 0]] h c (Same (.f (.i .i64 (zg7 (fun r=>r.nm==nm) L))) h c):=by
 refine zb2 kps fn185 (fun d h' c' ⟨a,_⟩ _ _=>⟨a,fun _ _=>rfl⟩) ?_;simp only[zz2,rU];simp[rW,st0,zak,ziZ,zrT];refine zmy L (fun r=>r.nm==nm) (Jixf L C h c) (fun e s=>e= .exit 0/\∀id,id<c->s.h.get id=h.get id) (fun n=>Rixf h c n) ?_ ?_ _ ⟨⟨?_,?_,?_,?_⟩,?_,?_⟩ ?_ ?_
 .rintro n s hlt ⟨⟨h0,h1,h7,h8⟩,hc,hf⟩;have hw:=zao n (by omega);have hx:L[n]? =some L[n]:=Z0 hlt;obtain⟨o1,o2⟩ :=ho _ (Z1 hlt);have hA:∀h,(L[n]'h)=L[n]:=fun _=>rfl
  generalize hr:L[n]=r at hx o1 o2;have htd:(zbO r.tu).d= .f (zbO r.tu):=zoG _;simp[rW,h0,h1,h7,h8,hlt,znU,hx,hr,rlE,o1,htd];refine zbR [(0,.f (zbt L)),(1,.fn 186 [] [.ptr C 1 0 0]),(7,.f (.i .i64 L.length)),(8,.f (.i .i64 n)),(5,.f (.i .i64 n))] (zMu (h:=s.h) (c:=s.c) (nm:=nm) ((hf C hCc).trans hC) (by omega) r o1 o2) (by simp only[rG]) (by simp only[rG]) (by simp only[Rg];simp[rW,h0,h1,h7,h8]) rfl ?_;rintro s1 d1 ⟨rfl,hf1⟩ hc1 k16 ⟨k0,k1,k7,k8,k5,-⟩;have hf2:∀id,id<c->s1.h.get id=h.get id:=fun id hid=>(hf1 id (by omega)).trans (hf id hid)
  refine⟨?_⟩;cases hv:r.nm==nm with
  |true=>
   rw[hv]at k16;simp[rW,k0,k1,k7,k8,k5,k16];exact⟨by simpa using hv,rfl,by simp[rW],fun id hid=>by simp[rW];exact hf2 id hid⟩
  |false=>
   rw[hv]at k16;simp[rW,k0,k1,k7,k8,k5,k16,hw];exact⟨by simpa using hv,⟨by simp[rW,k0],by simp[rW,k1],by simp[rW,k7],by simp[rW,hw]⟩,by simp only[rG];omega,fun id hid=>by simp[rW];exact hf2 id hid⟩
 .rintro s ⟨⟨h0,h1,h7,h8⟩,hc,hf⟩;simp[rW,h0,h1,h7,h8];exact hf
 .simp[rW]
 .simp[rW]
 .simp[rW]
 .simp[rW]
 .simp only[rG];omega
 .intro id hid;simp[rW]
 .rintro h e s ⟨rfl,hf⟩;rw[zwY h];simp[rW,zaR];exact⟨rfl,hf⟩
 .rintro n hn h1 h2 e s ⟨rfl,h4,hf⟩;rw[zuM hn h1 h2];simp[rW,h4,zaR];exact⟨rfl,hf⟩
def zMl{h:T Ob}{c S lo:Nat}{L:List Rl}(HS:zdD h lo S L)(hlo:lo<=c)(hl:L.length<1000)(ho:∀r∈L,r.co.d= .f r.co/\(D.f r.co).cells=some [.f r.co])(nm:Str):Eff pr 107 [.ptr S 2 0 0,.f (.s nm)] h c (Same (.f (.i .i64 (zg7 (fun r=>r.nm==nm) L))) h c):=by
 refine zb2 kps fn107 (fun d h' c' ⟨a,_⟩ _ _=>⟨a,fun _ _=>rfl⟩) ?_;obtain⟨⟨PR,W,a1,-⟩,hS⟩ :=HS;have n1:¬S=c:=by omega
 simp only[zzM,rU];simp[rW,st0,zak,a1,n1];refine zbR [] (zMt (h:=h.set c (.arr 1 0 [[.f (.s nm)]])) (c:=c+1) (C:=c) (nm:=nm) (by rw[TG,Z51 rfl]) (by omega) hl ho) (by simp only[rG]) (by simp only[rG]) trivial rfl ?_;rintro s1 d1 ⟨rfl,hf1⟩ hc1 k10 -;refine⟨?_⟩;simp[rW,k10,zaR];exact⟨rfl,fun id hid=>(hf1 id (by omega)).trans (by rw[TG,Z49 (by omega)])⟩
def zb8(ns:List Str):Trm->Opn
 | .var v=> .var (ns.findIdx fun x=>v==x)
 | .cst n=> .cst n
def zi9(ns:List Str):Trm->Prop
 | .var v=>v≠[]/\v∈ns
 | .cst _=>True
def zhs{ns:List Str}{v:Str}(h:v∈ns):zg7 (fun x=>v==x) ns=((ns.findIdx fun x=>v==x:Nat):Int)/\(ns.findIdx fun x=>v==x)<ns.length:=by
 have hlt:(ns.findIdx fun x=>v==x)<ns.length:=List.findIdx_lt_length.2 ⟨v,h,by simp⟩;refine⟨?_,hlt⟩;have:ns.findIdx? (fun x=>v==x)=some (ns.findIdx fun x=>v==x):=by
  rw[Z26];refine⟨hlt,List.findIdx_getElem (w:=hlt),fun j hj=> ?_⟩;have:=List.not_of_lt_findIdx hj;simpa using this
 simp[zg7,this]
def zg8{ns:List Str}{t:Trm}(h:zi9 ns t):zex ns.length (zb8 ns t):=by
 cases t with
 |cst n=>trivial
 |var v=>exact (zhs h.2).2
def OpD(o:Opn):D:= .tu [.ag (o.c.map D.f),.f (.i .u64 (o.m:Nat))]
def zuv{h:T Ob}{c M:Nat}{ns:List Str}{r0 r2 r3 r4 r5 r6:D}(hM:h.get M=some (.arr 7 0 [[r0,.f (zah ns),r2,r3,r4,r5,r6]]))(hMc:M<c)(hn:ns.length<=6){t:Trm}(ht:zi9 ns t):Eff pr 108 [.ptr M 7 0 0,.ag ((tmF t).map D.f)] h c (Same (OpD (zb8 ns t)) h c):=by
 refine zb2 kps fn108 (fun d h' c' ⟨a,_⟩ _ _=>⟨a,fun _ _=>rfl⟩) ?_;have n1:¬c=c+1:=by omega
 have n2:¬M=c:=by omega
 have n3:¬M=c+1:=by omega
 simp only[zzN,rU];cases t with
 |cst z=>
  simp[rW,st0,zak,tmF,n1,zaR];refine⟨rfl,fun id hid=> ?_⟩;have a1:¬id=c:=by omega
  have a2:¬id=c+1:=by omega
  simp[rW,a1,a2]
 |var v=>
  obtain⟨e1,e2⟩ :=zhs ht.2;have q1:=fun k=>zad (k:=k) (zyw ns v (by omega))
  rw[e1]at q1;have hv:=ht.1;have hsh:=zkO (i:=ns.findIdx fun x=>v==x) (by omega);have hO:OpD (zb8 ns (.var v))= .tu [.ag [.f (.i .i64 ((ns.findIdx fun x=>v==x:Nat):Int)),.f (.i .i64 0),.f (.i .i64 0),.f (.s [])],.f (.i .u64 ((2 ^ (ns.findIdx fun x=>v==x):Nat):Int))]:=rfl;rw[hO];generalize 2 ^ (ns.findIdx fun x=>v==x)=w at hsh;generalize (ns.findIdx fun x=>v==x)=ii at*;have hsd:(zah ns).d= .f (zah ns):=zaL ns;simp[rW,st0,zak,tmF,n1,hv];refine zaw ?_;simp[rW,hM,n1,n2,n3,q1,hsd];refine zaw ?_;simp[rW,hsh,zaR];refine⟨rfl,fun id hid=> ?_⟩;have a1:¬id=c:=by omega
  have a2:¬id=c+1:=by omega
  simp[rW,a1,a2]
def fn58:pr.fn 58=some g58:=by kernel_rfl
def zoe:C:=g58.body.r.r.r.l.r.b.o
def zyK:C:=zoe.r.r.l.b.r.r.l.r.b.o
def tsO(ns:List Str)(l:List Trm):List Opn:=l.map (zb8 ns)
def mTs(l:List Opn):Nat:=l.foldl (fun b t=>b|||t.m) 0
def zEC(l:List Opn)(t:Opn):opD (l++[t])=opD l++[t.c.map D.f]:=by simp[opD]
def zEv(l:List Opn)(t:Opn):mTs (l++[t])=mTs l|||t.m:=by simp[mTs]
def Jn2(R:List (Nat×D))(ns:List Str)(ts:List Trm)(n:Int)(h:T Ob)(b8 P8 k:Nat)(s:St):Prop:=Rg R s/\(s.tm.get 46=some (.f (zgC ts))/\s.tm.get 47=some (.f (.i .i64 ts.length))/\s.tm.get 48=some (.f (.i .i64 k)))/\b8<=s.c/\(∀id,id<b8->id≠P8->s.h.get id=h.get id)/\∃dT,s.h.get P8=some (.arr 3 0 [[.f (.i .i64 n),dT,.f (.i .u64 (mTs ((tsO ns ts).take k):Nat))]])/\Gro s.h b8 s.c 4 dT (opD ((tsO ns ts).take k))
theorem nm_l2{h:T Ob}{b8 P8 M k0:Nat}{S3 dA dL:D}{ns:List Str}{ts:List Trm}{n:Int}{C3 P7:D}{r0 r2 r3 r4 r5 r6:D}(hM:h.get M=some (.arr 7 0 [[r0,.f (zah ns),r2,r3,r4,r5,r6]]))(hMb:M<b8)(hMP:M≠P8)(hP8:P8<b8)(hn:ns.length<=6)(ht:∀t∈ts,zi9 ns t)(hl:ts.length<1000){s:St}{K:Ex->St->Prop}
  (hJ:Jn2 [(0,S3),(3,C3),(5,.ptr M 7 0 0),(7,P7),(8,.ptr P8 3 0 0),(34,dA),(35,dL),(36,.f (.i .i64 k0))] ns ts n h b8 P8 0 s)(kx:∀s,Jn2 [(0,S3),(3,C3),(5,.ptr M 7 0 0),(7,P7),(8,.ptr P8 3 0 0),(34,dA),(35,dL),(36,.f (.i .i64 k0))] ns ts n h b8 P8 ts.length s->K (.exit 2) s):WL pr zyK s K:=by
 refine zbD ts.length (Jn2 [(0,S3),(3,C3),(5,.ptr M 7 0 0),(7,P7),(8,.ptr P8 3 0 0),(34,dA),(35,dL),(36,.f (.i .i64 k0))] ns ts n h b8 P8) (fun e s=>e= .exit 2/\Jn2 [(0,S3),(3,C3),(5,.ptr M 7 0 0),(7,P7),(8,.ptr P8 3 0 0),(34,dA),(35,dL),(36,.f (.i .i64 k0))] ns ts n h b8 P8 ts.length s) ?_ ?_ _ hJ ?_
 .rintro k s hlt ⟨⟨h0,h3,h5,h7,h8,h34,h35,h36,-⟩,⟨h46,h47,h48⟩,hc,hf,dT,gP,gT⟩;have hw:=zao k (by omega);have hx:ts[k]? =some ts[k]:=Z0 hlt;have hti:=ht _ (Z1 hlt);have hA:∀h,(ts[k]'h)=ts[k]:=fun _=>rfl
  generalize htt:ts[k]=t at hx hti;have htO:(tsO ns ts)[k]? =some (zb8 ns t):=by simp[tsO,hx]
  have hOk:=zg8 hti;obtain⟨u0,u1,u2,u3,eu⟩ :∃a b c d,tmF t=[a,b,c,d]:=by cases t<;>exact⟨_,_,_,_,rfl⟩
  obtain⟨o0,o1,o2,o3,eo⟩ :=zly (zb8 ns t);have hu:u0.d= .f u0/\u1.d= .f u1/\u2.d= .f u2/\u3.d= .f u3:=by
   cases t<;>(simp only[tmF,List.cons.injEq,and_true]at eu;obtain⟨rfl,rfl,rfl,rfl⟩ :=eu;exact⟨rfl,rfl,rfl,rfl⟩)
  obtain⟨hu0,hu1,hu2,hu3⟩ :=hu;have i1:¬P8=s.c:=by omega
  have i2:¬M=s.c:=by omega
  have hm':s.h.get M=_:=(hf M hMb hMP).trans hM;unfold zyK zoe g58;simp only[rU,C.l,C.r,C.b,C.o];simp[rW,h0,h3,h5,h7,h8,h34,h35,h36,h46,h47,h48,hlt,zra,hx,htt,eu,hu0,hu1,hu2,hu3,i1,i2];have hua:[D.f u0,D.f u1,D.f u2,D.f u3]=(tmF t).map D.f:=by rw[eu];rfl
  rw[hua];refine zbR [(0,S3),(3,C3),(5,.ptr M 7 0 0),(7,P7),(8,.ptr P8 3 0 0),(34,dA),(35,dL),(36,.f (.i .i64 k0)),(46,.f (zgC ts)),(47,.f (.i .i64 ts.length)),(48,.f (.i .i64 k))] (zuv (h:=(s.h.set s.c (.arr 4 0 [[.f (.s []),.f (.i .i64 0),.f (.i .i64 0),.f (.s [])]])).set s.c (.arr 4 0 [(tmF t).map D.f])) (c:=s.c+1) (by rw[TG,Z49 i2,TG,Z49 i2];exact hm') (by omega) hn hti) (by simp only[rG]) (by simp only[rG]) (by simp only[Rg];simp[rW,h0,h3,h5,h7,h8,h34,h35,h36,h46,h47,h48]) rfl ?_;rintro s1 d1 ⟨rfl,hf1⟩ hc1 k55 ⟨k0',k3,k5,k7,k8,k34,k35,k36,k46,k47,k48,-⟩;have f1:∀id,id<s.c->s1.h.get id=s.h.get id:=fun id hid=>by rw[hf1 id (by omega),TG,Z49 (by omega),TG,Z49 (by omega)]
  have gP1:=(f1 P8 (by omega)).trans gP;have gT1:Gro s1.h b8 (s1.c+1) 4 dT (opD ((tsO ns ts).take k)):=zaX gT (by omega) fun id _ h2=>f1 id h2
  have hom:=znl (a:=mTs ((tsO ns ts).take k)) (b:=(zb8 ns t).m) (zrS hn _ _ (by decide) fun x hx=>by
   obtain⟨y,hy,rfl⟩ :=Z12.1 (Z13 hx);exact zg8 (ht y hy)) (zlZ hOk hn)
  have htk:(tsO ns ts).take (k+1)=(tsO ns ts).take k++[zb8 ns t]:=by rw[Z105,htO];rfl
  have hms:Nat.lor (mTs ((tsO ns ts).take k)) (zb8 ns t).m=mTs ((tsO ns ts).take (k+1)):=by rw[htk,zEv];rfl
  rw[hms]at hom;have hOD:OpD (zb8 ns t)= .tu [.ag [.f o0,.f o1,.f o2,.f o3],.f (.i .u64 ((zb8 ns t).m:Nat))]:=by unfold OpD;rw[eo];rfl
  rw[hOD]at k55;generalize (zb8 ns t).m=om at k55 hom;have j1:¬P8=s1.c:=by omega
  refine⟨?_⟩;simp[rW,k0',k3,k5,k7,k8,k34,k35,k36,k46,k47,k48,k55,gP1,j1];have hH:∀id,id<s.c->((s1.h.set s1.c (.arr 4 0 [[.f (.i .i64 0),.f (.i .i64 0),.f (.i .i64 0),.f (.s [])]])).set s1.c (.arr 4 0 [[.f o0,.f o1,.f o2,.f o3]])).get id=s.h.get id:=fun id hid=>by
   rw[TG,Z49 (by omega),TG,Z49 (by omega)];exact f1 id hid
  have hlen:(opD ((tsO ns ts).take k)).length<=k:=by simp[opD];omega
  have gT2:=zaX (c':=s1.c+1) gT (by omega) fun id _ h2=>hH id h2
  refine zfl gT2 (by omega) (by simp only[Z23,Z170];omega) (by omega) ?_;intro r hr1 hr2 hr3 hr4 hr5;have hne:dT.oid≠some P8:=zh7 gT hP8;have gP2:=hr4 P8 (by omega) hne;rw[hH P8 (by omega),gP]at gP2;have hrc:=zbY hr2;have j3:P8<r.c:=by omega
  have hsn:opD ((tsO ns ts).take k)++[[D.f o0,D.f o1,D.f o2,D.f o3]]=opD ((tsO ns ts).take (k+1)):=by rw[htk,zEC,eo];rfl
  rw[hsn]at hr2;simp[rW,hr1,gP2,hrc,j3,hom,hw];refine⟨by simp only[Rg];simp[rW,k0',k3,k5,k7,k8,k34,k35,k36],⟨by simp[rW,k46],by simp[rW,k47],by simp[rW,hw]⟩,by simp only[rG];omega,fun id h1 h2=> ?_,r.d,by simp[rW],?_⟩
  .simp[rW,h2];rw[hr4 id (by omega) (zh7 gT h1),hH id (by omega)];exact hf id h1 h2
  .refine zaX hr2 (by simp only[rG];omega) fun id h1 _=> ?_
   have a:¬id=P8:=by omega
   simp[rW,a]
 .rintro s ⟨⟨h0,h3,h5,h7,h8,h34,h35,h36,-⟩,⟨h46,h47,h48⟩,hc,hf,dT,gP,gT⟩;unfold zyK zoe g58;simp only[rU,C.l,C.r,C.b,C.o];simp[rW,h46,h47,h48];exact⟨by simp only[Rg];simp[rW,h0,h3,h5,h7,h8,h34,h35,h36],⟨by simp[rW,h46],by simp[rW,h47],by simp[rW,h48]⟩,by simp only[rG];omega,fun id h1 h2=>by simp[rW];exact hf id h1 h2,dT,by simp[rW,gP],zaX gT (by simp only[rG];omega) (fun _ _ _=>rfl)⟩
 .rintro e s ⟨rfl,hJ⟩;exact kx s hJ
end Go.Proofs.YtdlcolcidohbkaaGreatDoor
end
