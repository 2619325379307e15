/- The matcher: group, the loops over the comparisons and the negated atoms. -/
import Derived.Test.YtbhholaillniiaaGreatDoorPq
import Derived.KernelRfl
import Derived.IntWalk
set_option linter.all false
set_option maxRecDepth 100000
set_option maxHeartbeats 4000000
noncomputable section
section
namespace Go.Proofs.YtbhholaillniiaaGreatDoor
open Go Go.Vse Go.Vse.Sm
def fn187:pr.fn 187=some ziu:=by kernel_rfl
def fn233:pr.fn 233=some zAj:=by kernel_rfl
def zjO(a b:Nat):Nat:=if Nat.land a b=0 then a else Nat.lor a b
def zBx{a b:Nat}(ha:a<64)(hb:b<64):Ans pr 233 [.i .u64 a,.i .u64 b] (.i .u64 (zjO a b:Nat)):=by
 refine zcx fn233 ?_;have h1:=zzk ha hb;have h2:=zl4 ha hb;simp only[zAj,rU];unfold zjO
 by_cases h:Nat.land a b=0
 .rw[h]at h1;rw[Z51 h];simp[rW,st0,zal,h1,u_eq]
 .have hz:(((Nat.land a b:Nat):Int)==0)=false:=by simpa using h
  generalize Nat.land a b=w at h1 hz h;rw[Z49 h];generalize Nat.lor a b=w2 at h2;simp[rW,st0,zal,h1,u_eq,hz,h2]
def Sub(a b:Nat):Prop:=∀j,a.testBit j=true->b.testBit j=true
def Dis(a b:Nat):Prop:=∀j,a.testBit j=true->b.testBit j=false
def OkC(b f:Nat):Prop:=Dis f b\/Sub f b
def zhJ(a b j:Nat):(Nat.lor a b).testBit j=(a.testBit j||b.testBit j):=Nat.testBit_or a b j
def zuF(a b j:Nat):(Nat.land a b).testBit j=(a.testBit j&&b.testBit j):=Nat.testBit_and a b j
def zuJ{a b:Nat}:Nat.land a b=0↔Dis a b:=by
 constructor
 .intro h j hj;have:=zuF a b j;rw[h,Nat.zero_testBit,hj,Z103]at this;exact this.symm
 .intro h;refine Nat.eq_of_testBit_eq fun j=> ?_
  rw[zuF,Nat.zero_testBit];cases ha:a.testBit j with
  |false=>rfl
  |true=>rw[h j ha];rfl
def Dis.comm{a b:Nat}(h:Dis a b):Dis b a:=fun j hj=>by
 cases ha:a.testBit j with
 |false=>rfl
 |true=>rw[h j ha]at hj;cases hj
def zuS{a b:Nat}(ha:a<64)(hb:b<64):Nat.lor a b<64:=zAF ha hb
def lor_eq{a b:Nat}(h:Nat.lor a b=a):Sub b a:=fun j hj=>by
 rw[<-h,zhJ,hj,Bool.or_true]
def zKs{r f:Nat}(hr:r<64)(hf:f<64):zjO r f<64/\r<=zjO r f/\Sub r (zjO r f)/\(zjO r f=r->OkC r f):=by
 unfold zjO
 by_cases h:Nat.land r f=0
 .rw[Z51 h];exact⟨hr,Z2 _,fun _ h=>h,fun _=> .inl (zuJ.1 h).comm⟩
 .rw[Z49 h];exact⟨zuS hr hf,Nat.left_le_or,fun j hj=>by rw[zhJ,hj,Bool.true_or],fun e=> .inr (lor_eq e)⟩
def frN(σ:Asg)(m:Nat):Nat:=zdf m (zaO σ)
def zfM:C:=ziu.body.r.r.r.r.b.o
def ztz:C:=zfM.b.r.l.r.b.o
def ztA:C:=zfM.b.r.r.l.r.b.o
def ztB:C:=zfM.b.r.r.r.l.r.b.o
def Gw(bef:Nat)(P:Nat->Prop)(s:St):Prop:=∃r:Nat,s.tm.get 7=some (.f (.i .u64 r))/\r<64/\bef<=r/\Sub bef r/\(r=bef->P r)
def Gw.step{bef f:Nat}{P P':Nat->Prop}{s':St}{r:Nat}(hs:s'.tm.get 7=some (.f (.i .u64 (zjO r f:Nat))))(h1:r<64)(h2:bef<=r)(h3:Sub bef r)(h4:r=bef->P r)(hf:f<64)(hP:P bef->OkC bef f->P' bef):Gw bef P' s':=by
 obtain⟨j1,j2,j3,j4⟩ :=zKs h1 hf;refine⟨_,hs,j1,by omega,fun j hj=>j3 j (h3 j hj),fun e=> ?_⟩;have e1:r=bef:=by omega
 subst e1;rw[e];exact hP (h4 rfl) (j4 e)
def Jg2(X:Mx)(σ:Asg)(R:List (Nat×D))(bef:Nat)(h:T Ob)(c n:Nat)(s:St):Prop:=Rg R s/\(s.tm.get 37=some (X.dC)/\s.tm.get 38=some (.f (.i .i64 X.cs.length))/\s.tm.get 39=some (.f (.i .i64 n)))/\Gw bef (fun r=>∀k∈X.cs.take n,OkC r (frN σ k.m)) s/\c<=s.c/\∀id,id<c->s.h.get id=h.get id
def zDZ{α:Type}{p:α->Prop}{l:List α}{n:Nat}{x:α}(hx:l[n]? =some x)(h:∀k∈l.take n,p k)(hp:p x):∀k∈l.take (n+1),p k:=by
 intro k hk;rw[Z105,hx]at hk;rcases Z4.1 hk with h1|h1
 .exact h k h1
 .simp at h1;rw[h1];exact hp
theorem gr_l2{L:List Rl}{h:T Ob}{c:Nat}{X:Mx}{σ:Asg}(H:MS L h c X σ){rest g:D}{bef:Nat}{s:St}{K:Ex->St->Prop}
  (hJ:Jg2 X σ [(0,.ptr X.M 7 0 0),(1,rest),(6,g),(8,.f (.i .u64 bef))] bef h c 0 s)(kx:∀s,Jg2 X σ [(0,.ptr X.M 7 0 0),(1,rest),(6,g),(8,.f (.i .u64 bef))] bef h c X.cs.length s->K (.exit 2) s):WL pr ztz s K:=by
 have hm:=H.m.m;have ho:=H.m.o;have gC:=H.m.C;have hcl:(cnD X.cs).length=X.cs.length:=by simp[cnD]
 have hb:zaO σ<64:=Z15 (zem σ) (Z113 (by decide) H.m.n6);have hl:=H.o.cl;have hk:∀k∈X.cs,zjw σ.length k:=by rw[H.m.n];exact fun k hk=>(H.o.c k hk).1
 refine zcA X.cs.length (Jg2 X σ [(0,.ptr X.M 7 0 0),(1,rest),(6,g),(8,.f (.i .u64 bef))] bef h c) (fun e s=>e= .exit 2/\Jg2 X σ [(0,.ptr X.M 7 0 0),(1,rest),(6,g),(8,.f (.i .u64 bef))] bef h c X.cs.length s) ?_ ?_ _ hJ ?_
 .rintro n s hlt ⟨⟨h0,h1,h6,h8,-⟩,⟨h37,h38,h39⟩,⟨r,h7,r1,r2,r3,r4⟩,hc,hf⟩;have hw:=zau n (by omega);have hx:X.cs[n]? =some X.cs[n]:=Z0 hlt;have hK:=hk _ (Z1 hlt);generalize X.cs[n]=q at hx hK;obtain⟨l0,l1,l2,l3,el⟩ :=zkq q.l;obtain⟨r0,r1',r2',r3',er⟩ :=zkq q.r;obtain⟨id,ro,e1,e2,e3,e4⟩ :=zej gC (n:=n) (by omega);have hrow:(cnD X.cs)[n]? =some [D.f (.i .i64 q.op),D.f l0,D.f l1,D.f l2,D.f l3,D.f r0,D.f r1',D.f r2',D.f r3',D.f (.i .u64 (q.m:Nat))]:=by simp[cnD,hx,el,er]
  have e2':s.h.get id=some (.arr 10 ro (cnD X.cs)):=(hf id e4).trans e2;have hm':s.h.get X.M=_:=(hf X.M (by omega)).trans hm;rw[hcl]at e1;have i1:¬id=s.c:=by omega
  have i2:¬X.M=s.c:=by omega
  have hm64:=zo6 hK H.m.n6;have ban:=zka hm64 hb;have hf64:frN σ q.m<64:=zla hm64;have q1:=fun k=>zad (k:=k) (zBx r1 hf64)
  have hfr:zdf q.m (zaO σ)=frN σ q.m:=rfl;rw[hfr]at ban;unfold ztz zfM ziu;simp only[rU,C.l,C.r,C.b,C.o];simp[rW,h0,h1,h6,h7,h8,h37,h38,h39,hlt,e1,e2',hrow,i1,i2];refine zay ?_;simp[rW,h0,h1,h6,h7,h8,h37,h38,h39,hm',i1,i2,ban,q1,hw];refine⟨by simp only[Rg];simp[rW,h0,h1,h6,h8],⟨by simp[rW,h37,e1],by simp[rW,h38],by simp[rW,hw]⟩,Gw.step (P:=fun r=>∀k∈X.cs.take n,OkC r (frN σ k.m)) (by simp[rW]) r1 r2 r3 r4 hf64 fun p o=>zDZ hx p o,by simp only[rG];omega,fun id hid=> ?_⟩;have a:¬id=s.c:=by omega
  simp[rW,a];exact hf id hid
 .rintro s ⟨⟨h0,h1,h6,h8,-⟩,⟨h37,h38,h39⟩,hG,hc,hf⟩;obtain⟨r,h7,hr⟩ :=hG;unfold ztz zfM ziu;simp only[rU,C.l,C.r,C.b,C.o];simp[rW,h37,h38,h39];exact⟨by simp only[Rg];simp[rW,h0,h1,h6,h8],⟨by simp[rW,h37],by simp[rW,h38],by simp[rW,h39]⟩,⟨r,by simp[rW,h7],hr⟩,by simp only[rG];omega,fun id hid=>by simp[rW];exact hf id hid⟩
 .rintro e s ⟨rfl,hJ⟩;exact kx s hJ
def Jg4(X:Mx)(σ:Asg)(R:List (Nat×D))(bef:Nat)(h:T Ob)(c n:Nat)(s:St):Prop:=Rg R s/\(s.tm.get 56=some (X.dN)/\s.tm.get 57=some (.f (.i .i64 X.WN.length))/\s.tm.get 58=some (.f (.i .i64 n)))/\Gw bef (fun r=>(∀k∈X.cs,OkC r (frN σ k.m))/\∀q∈X.WN.take n,OkC r (frN σ q.1.m)) s/\c<=s.c/\∀id,id<c->s.h.get id=h.get id
theorem gr_l4{L:List Rl}{h:T Ob}{c:Nat}{X:Mx}{σ:Asg}(H:MS L h c X σ){rest g:D}{bef:Nat}{s:St}{K:Ex->St->Prop}
  (hJ:Jg4 X σ [(0,.ptr X.M 7 0 0),(1,rest),(6,g),(8,.f (.i .u64 bef))] bef h c 0 s)(kx:∀s,Jg4 X σ [(0,.ptr X.M 7 0 0),(1,rest),(6,g),(8,.f (.i .u64 bef))] bef h c X.WN.length s->K (.exit 4) s):WL pr ztA s K:=by
 have hm:=H.m.m;have ho:=H.m.o;have gN:=H.m.N.1;have hcl:(paD X.WN).length=X.WN.length:=by simp[paD]
 have hb:zaO σ<64:=Z15 (zem σ) (Z113 (by decide) H.m.n6);have hl:=H.o.Nl;refine zcA X.WN.length (Jg4 X σ [(0,.ptr X.M 7 0 0),(1,rest),(6,g),(8,.f (.i .u64 bef))] bef h c) (fun e s=>e= .exit 4/\Jg4 X σ [(0,.ptr X.M 7 0 0),(1,rest),(6,g),(8,.f (.i .u64 bef))] bef h c X.WN.length s) ?_ ?_ _ hJ ?_
 .rintro n s hlt ⟨⟨h0,h1,h6,h8,-⟩,⟨h56,h57,h58⟩,⟨r,h7,r1,r2,r3,r4⟩,hc,hf⟩;have hw:=zau n (by omega);have hx:X.WN[n]? =some X.WN[n]:=Z0 hlt;have hmem:=Z1 hlt;generalize X.WN[n]=q at hx hmem;have hP:=H.o.N q hmem;obtain⟨id,ro,e1,e2,e3,e4⟩ :=zej gN (n:=n) (by omega);have hrow:(paD X.WN)[n]? =some [.f (.i .i64 q.1.r),q.2,.f (.i .u64 q.1.m)]:=by simp[paD,hx]
  have hA:=(Z8.1 hrow).2;have hqc:q.2.cells=some [q.2]:=zbu (H.m.N.2 q hmem);have e2':s.h.get id=some (.arr 3 ro (paD X.WN)):=(hf id e4).trans e2;have hm':s.h.get X.M=_:=(hf X.M (by omega)).trans hm;rw[hcl]at e1;have i1:¬id=s.c:=by omega
  have i2:¬X.M=s.c:=by omega
  have hm64:=zi9 H.m.n6 (p:=q.1) (by rw[H.m.n];exact hP.o);have ban:=zka hm64 hb;have hf64:frN σ q.1.m<64:=zla hm64;have q1:=fun k=>zad (k:=k) (zBx r1 hf64)
  have hfr:zdf q.1.m (zaO σ)=frN σ q.1.m:=rfl;rw[hfr]at ban;unfold ztA zfM ziu;simp only[rU,C.l,C.r,C.b,C.o];simp[rW,h0,h1,h6,h7,h8,h56,h57,h58,hlt,e1,e2',hrow,hA,hcl,hqc,i1,i2];refine zay ?_;simp[rW,h0,h1,h6,h7,h8,h56,h57,h58,hm',i1,i2,ban,q1,hw];refine⟨by simp only[Rg];simp[rW,h0,h1,h6,h8],⟨by simp[rW,h56,e1],by simp[rW,h57],by simp[rW,hw]⟩,Gw.step (P:=fun r=>(∀k∈X.cs,OkC r (frN σ k.m))/\∀q∈X.WN.take n,OkC r (frN σ q.1.m)) (by simp[rW]) r1 r2 r3 r4 hf64 fun p o=>⟨p.1,zDZ hx p.2 o⟩,by simp only[rG];omega,fun id hid=> ?_⟩;have a:¬id=s.c:=by omega
  simp[rW,a];exact hf id hid
 .rintro s ⟨⟨h0,h1,h6,h8,-⟩,⟨h56,h57,h58⟩,hG,hc,hf⟩;obtain⟨r,h7,hr⟩ :=hG;unfold ztA zfM ziu;simp only[rU,C.l,C.r,C.b,C.o];simp[rW,h56,h57,h58];exact⟨by simp only[Rg];simp[rW,h0,h1,h6,h8],⟨by simp[rW,h56],by simp[rW,h57],by simp[rW,h58]⟩,⟨r,by simp[rW,h7],hr⟩,by simp only[rG];omega,fun id hid=>by simp[rW];exact hf id hid⟩
 .rintro e s ⟨rfl,hJ⟩;exact kx s hJ
def fmN(X:Mx)(σ:Asg)(i:Nat):Nat:=frN σ (match X.WP[i]? with|some q=>q.1.m|none=>0)
structure G6(X:Mx)(σ:Asg)(rest bef cur g r:Nat):Prop where
 g64:g<64
 gs:Sub g rest
 g0:g.testBit (tz rest)=true
 r64:r<64
 rb:bef<=r
 rs:Sub bef r
 gi:∀i,g.testBit i=true->Sub (fmN X σ i) r
 p:r=bef->(∀k∈X.cs,OkC r (frN σ k.m))/\(∀q∈X.WN,OkC r (frN σ q.1.m))/\∀i,rest.testBit i=true->g.testBit i=false->cur.testBit i=false->Dis (fmN X σ i) r
def zxA{a i:Nat}(ha:a<64)(h0:a≠0):a.testBit i=true↔i=tz a\/(Nat.land a (a - 1)).testBit i=true:=by
 constructor
 .intro h;have hi:i<6:=zei (n:=6) ha h;have:i∈zhg a:=zhy.2 ⟨hi,h⟩;rw[zmb ha h0]at this;rcases Z5.1 this with h1|h1
  .exact .inl h1
  .exact .inr (zhy.1 h1).2
 .rintro (rfl|h)
  .exact (zju ha h0).1
  .exact zns h
def zOw{X:Mx}{σ:Asg}{rest bef cur g r:Nat}(H:G6 X σ rest bef cur g r)(hc:cur<64)(h0:cur≠0)(hs:Sub cur rest)(hf:fmN X σ (tz cur)<64):G6 X σ rest bef (Nat.land cur (cur - 1)) (Nat.lor g (2 ^ tz cur)) (Nat.lor r (fmN X σ (tz cur))):=by
 have ht:=zju hc h0;have h2:2 ^ tz cur<64:=by
  have:2 ^ tz cur<=2 ^ 5:=Z113 (by decide) (by omega);omega
 refine⟨zuS H.g64 h2,fun j hj=> ?_,by rw[zhJ,H.g0,Bool.true_or],zuS H.r64 hf,Z3 H.rb Nat.left_le_or,fun j hj=>by rw[zhJ,H.rs j hj,Bool.true_or],fun i hi j hj=> ?_,fun e=> ?_⟩
 .rw[zhJ,Z115]at hj;rcases hj with h|h
  .exact H.gs j h
  .rw[Nat.testBit_two_pow]at h;have:tz cur=j:=by simpa using h
   exact this▸hs _ ht.1
 .rw[zhJ,Z115]at hi|-;rcases hi with h|h
  .exact .inl (H.gi i h j hj)
  .rw[Nat.testBit_two_pow]at h;have:tz cur=i:=by simpa using h
   exact .inr (this▸hj)
 .have hle:r<=Nat.lor r (fmN X σ (tz cur)):=Nat.left_le_or;have hb:=H.rb;have e1:r=bef:=by omega
  obtain⟨p1,p2,p3⟩ :=H.p e1;rw[e,<-e1];refine⟨p1,p2,fun i h1 h2 h3=> ?_⟩;rw[zhJ,Bool.or_eq_false_iff]at h2;refine p3 i h1 h2.1 ?_;cases hci:cur.testBit i with
  |false=>rfl
  |true=>
   rcases (zxA hc h0).1 hci with rfl|h
   .have:=h2.2;rw[Nat.testBit_two_pow_self]at this;cases this
   .rw[h]at h3;cases h3
def zJ5{X:Mx}{σ:Asg}{rest bef cur g r:Nat}(H:G6 X σ rest bef cur g r)(hc:cur<64)(h0:cur≠0)(hd:Dis (fmN X σ (tz cur)) r):G6 X σ rest bef (Nat.land cur (cur - 1)) g r:=by
 refine⟨H.g64,H.gs,H.g0,H.r64,H.rb,H.rs,H.gi,fun e=> ?_⟩;obtain⟨p1,p2,p3⟩ :=H.p e;refine⟨p1,p2,fun i h1 h2 h3=> ?_⟩;cases hci:cur.testBit i with
 |false=>exact p3 i h1 h2 hci
 |true=>
  rcases (zxA hc h0).1 hci with rfl|h
  .exact hd
  .rw[h]at h3;cases h3
def J6(X:Mx)(σ:Asg)(rest bef:Nat)(h:T Ob)(c cur:Nat)(s:St):Prop:=Rg [(0,.ptr X.M 7 0 0),(1,.f (.i .u64 rest)),(8,.f (.i .u64 bef)),(13,.f (.i .u64 cur))] s/\cur<64/\Sub cur rest/\(∃g r:Nat,s.tm.get 6=some (.f (.i .u64 g))/\s.tm.get 7=some (.f (.i .u64 r))/\G6 X σ rest bef cur g r)/\c<=s.c/\∀id,id<c->s.h.get id=h.get id
def R6(X:Mx)(σ:Asg)(rest bef:Nat)(h:T Ob)(c:Nat)(e:Ex)(s:St):Prop:=e= .exit 6/\J6 X σ rest bef h c 0 s
theorem gr_l6{L:List Rl}{h:T Ob}{c:Nat}{X:Mx}{σ:Asg}(H:MS L h c X σ){rest bef cur:Nat}(hrl:rest<2 ^ X.WP.length){s:St}{K:Ex->St->Prop}
  (hJ:J6 X σ rest bef h c cur s)(kx:∀s,J6 X σ rest bef h c 0 s->K (.exit 6) s):WL pr ztB s K:=by
 have hPl:=H.o.Pl;have hm:=H.m.m;have ho:=H.m.o;have gP:=H.m.P.1;have hpd:(paD X.WP).length=X.WP.length:=by simp[paD]
 have hb:zaO σ<64:=Z15 (zem σ) (Z113 (by decide) H.m.n6);refine zcJ (fun k s=>J6 X σ rest bef h c k s) (R6 X σ rest bef h c) ?_ cur _ hJ ?_
 .clear hJ;clear cur;rintro cur s ⟨⟨h0,h1,h8,h13,-⟩,hc64,hsub,⟨g,r,h6,h7,HG⟩,hc,hf⟩
  by_cases hz:cur=0
  .subst hz;unfold ztB zfM ziu;simp only[rU,C.l,C.r,C.b,C.o];simp[rW,h0,h1,h6,h7,h8,h13,zhu];exact⟨rfl,by simp only[Rg];simp[rW,h0,h1,h8,h13],hc64,hsub,⟨g,r,by simp[rW,h6],by simp[rW,h7],HG⟩,by simp only[rG];omega,fun id hid=>by simp[rW];exact hf id hid⟩
  .obtain⟨tm1,tm2⟩ :=zju hc64 hz;have hti:=zei hrl (hsub _ tm1);have hz2:(((cur:Nat):Int)==0)=false:=by simpa using hz
   obtain⟨lb1,lb2⟩ :=zzm hc64 hz;have hll:=zuU hc64 hz;have hx:X.WP[tz cur]? =some X.WP[tz cur]:=Z0 hti;have hmem:=Z1 hti;generalize X.WP[tz cur]=q at hx hmem;have hP:=H.o.P q hmem;have hm64:=zi9 H.m.n6 (p:=q.1) (by rw[H.m.n];exact hP.o);have hfm:fmN X σ (tz cur)=frN σ q.1.m:=by simp[fmN,hx]
   have hf64:fmN X σ (tz cur)<64:=by rw[hfm];exact zla hm64
   have ban:=zka hm64 hb;rw[show zdf q.1.m (zaO σ)=fmN X σ (tz cur)from hfm.symm]at ban;obtain⟨id,ro,e1,e2,e3,e4⟩ :=zej gP (n:=tz cur) (by omega);rw[hpd]at e1;have hrow:(paD X.WP)[tz cur]? =some [.f (.i .i64 q.1.r),q.2,.f (.i .u64 q.1.m)]:=by simp[paD,hx]
   have hA:=(Z8.1 hrow).2;have hA6:=zzk hf64 HG.r64;have hO6:=zl4 HG.r64 hf64;have h26:2 ^ tz cur<64:=by
    have:2 ^ tz cur<=2 ^ 5:=Z113 (by decide) (by omega);omega
   have hO7:=zl4 HG.g64 h26;have hS:=zjE (i:=tz cur) (by omega);have hit:=zOw HG hc64 hz hsub hf64;have miss:=fun hd=>zJ5 HG hc64 hz hd
   have hsub':Sub (Nat.land cur (cur - 1)) rest:=fun i hi=>hsub i (zns hi)
   have hld:=zuJ (a:=fmN X σ (tz cur)) (b:=r);have hrt:=zsS hc64 hz s.h s.c;generalize 2 ^ tz cur=w2 at hS hO7 hit h26;generalize fmN X σ (tz cur)=fm at*;generalize tz cur=ti at*;generalize Nat.land cur (cur - 1)=cur' at*;unfold ztB zfM ziu;simp only[rU,C.l,C.r,C.b,C.o];simp[rW,h0,h1,h6,h7,h8,h13,zhu,hz2];refine zbO [(0,.ptr X.M 7 0 0),(1,.f (.i .u64 rest)),(8,.f (.i .u64 bef)),(13,.f (.i .u64 cur)),(6,.f (.i .u64 g)),(7,.f (.i .u64 r))] (zjl hrt) (by simp only[rG]) (by simp only[rG]) (by simp only[Rg];simp[rW,h0,h1,h6,h7,h8,h13]) rfl ?_;rintro s1 d1 ⟨rfl,hh,hcc⟩ hc1 k82 ⟨k0,k1,k8,k13,k6,k7,-⟩;refine⟨?_⟩;have hm':s1.h.get X.M=_:=(show s1.h.get X.M=h.get X.M by rw[hh];exact hf X.M (by omega)).trans hm;have e2':s1.h.get id=some (.arr 3 ro (paD X.WP)):=(show s1.h.get id=h.get id by rw[hh];exact hf id e4).trans e2;simp[rW,k0,k1,k6,k7,k8,k13,k82];refine zru (fun s'=>Rg [(0,.ptr X.M 7 0 0),(1,.f (.i .u64 rest)),(8,.f (.i .u64 bef)),(13,.f (.i .u64 cur)),(6,.f (.i .u64 g)),(7,.f (.i .u64 r)),(14,.f (.i .i64 ti)),(15,.f (.i .u64 fm))] s'/\s'.h=s1.h/\s1.c<=s'.c) (fun K hK=> ?_) ?_
   .refine zay ?_;simp[rW,k0,k1,k6,k7,k8,k13,k82,hm',e1,hti,e2',hrow,hA,hpd,ban];exact hK _ ⟨by simp only[Rg];simp[rW,k0,k1,k6,k7,k8,k13],by simp only[rG],by simp only[rG];omega⟩
   .rintro s2 ⟨⟨j0,j1,j8,j13,j6,j7,j14,j15,-⟩,hh2,hc2⟩;have hf2:∀id,id<c->s2.h.get id=h.get id:=fun id hid=>by rw[hh2,hh];exact hf id hid
    by_cases hl:Nat.land fm r=0
    .have hd:=miss (hld.1 hl);rw[hl]at hA6;simp[rW,j0,j1,j6,j7,j8,j13,j14,j15,hA6,zhu,lb1,lb2];exact⟨_,hll,by simp only[Rg];simp[rW,j0,j1,j8],by omega,hsub',⟨g,r,by simp[rW,j6],by simp[rW,j7],hd⟩,by simp only[rG];omega,fun id hid=>by simp[rW];exact hf2 id hid⟩
    .have hl2:(((Nat.land fm r:Nat):Int)==0)=false:=by simpa using hl
     generalize Nat.land fm r=w3 at hA6 hl2;simp[rW,j0,j1,j6,j7,j8,j13,j14,j15,hA6,hl2,zhu,lb1,lb2,hS,hO7,hO6];exact⟨_,hll,by simp only[Rg];simp[rW,j0,j1,j8],by omega,hsub',⟨_,_,by simp[rW],by simp[rW],hit⟩,by simp only[rG];omega,fun id hid=>by simp[rW];exact hf2 id hid⟩
 .rintro e s ⟨rfl,hJ⟩;exact kx s hJ
structure zEj(X:Mx)(σ:Asg)(rest g r:Nat):Prop where
 gs:Sub g rest
 g0:g.testBit (tz rest)=true
 gi:∀i,g.testBit i=true->Sub (fmN X σ i) r
 pc:∀k∈X.cs,OkC r (frN σ k.m)
 pn:∀q∈X.WN,OkC r (frN σ q.1.m)
 pd:∀i,rest.testBit i=true->g.testBit i=false->Dis (fmN X σ i) r
def GrP(X:Mx)(σ:Asg)(rest:Nat)(h:T Ob)(c:Nat)(d:D)(h':T Ob)(_:Nat):Prop:=(∃g r,d= .f (.i .u64 (g:Nat))/\g<64/\zEj X σ rest g r)/\∀id,id<c->h'.get id=h.get id
def Jg0(X:Mx)(σ:Asg)(rest:Nat)(h:T Ob)(c k:Nat)(s:St):Prop:=∃g r:Nat,k=64 - r/\(s.tm.get 0=some (.ptr X.M 7 0 0)/\s.tm.get 1=some (.f (.i .u64 rest))/\s.tm.get 6=some (.f (.i .u64 g))/\s.tm.get 7=some (.f (.i .u64 r)))/\g<64/\Sub g rest/\g.testBit (tz rest)=true/\r<64/\(∀i,g.testBit i=true->Sub (fmN X σ i) r)/\c<=s.c/\∀id,id<c->s.h.get id=h.get id
def Rg0(X:Mx)(σ:Asg)(rest:Nat)(h:T Ob)(c:Nat)(e:Ex)(s:St):Prop:=e= .ret/\∃g r,s.tm.get 4=some (.f (.i .u64 (g:Nat)))/\g<64/\zEj X σ rest g r/\∀id,id<c->s.h.get id=h.get id
def gr_l0{L:List Rl}{h:T Ob}{c:Nat}{X:Mx}{σ:Asg}(H:MS L h c X σ){rest:Nat}(hr0:rest≠0)(hrl:rest<2 ^ X.WP.length){k:Nat}{s:St}{K:Ex->St->Prop}(hJ:Jg0 X σ rest h c k s)(hK:∀e s,Rg0 X σ rest h c e s->K e s):WL pr zfM s K:=by
 have hm:=H.m.m;have ho:=H.m.o;have lC:=zdL H.m.C;have hcl:(cnD X.cs).length=X.cs.length:=by simp[cnD]
 rw[hcl]at lC;have lN:=zdL H.m.N.1;have hnl:(paD X.WN).length=X.WN.length:=by simp[paD]
 rw[hnl]at lN;have hr64:rest<64:=Z15 hrl (Z113 (by decide) H.o.Pl);refine zcJ (fun k s=>Jg0 X σ rest h c k s) (Rg0 X σ rest h c) ?_ k _ hJ hK;clear hJ;clear k;rintro k s ⟨g,bef,rfl,⟨h0,h1,h6,h7⟩,hg,hgs,hg0,hb64,hgi,hc,hf⟩;have hm':s.h.get X.M=_:=(hf X.M (by omega)).trans hm;unfold zfM ziu;simp only[rU,C.l,C.r,C.b,C.o];simp[rW,h0,h1,h6,h7,hm',lC];refine gr_l2 H (rest:= .f (.i .u64 rest)) (g:= .f (.i .u64 g)) (bef:=bef) ⟨by simp only[Rg];simp[rW,h0,h1,h6],⟨by simp[rW],by simp[rW],by simp[rW]⟩,⟨bef,by simp[rW,h7],hb64,Z2 _,fun _ h=>h,fun _=>by simp⟩,by simp only[rG];omega,fun id hid=>by simp[rW];exact hf id hid⟩ ?_;rintro s1 ⟨⟨k0,k1,k6,k8,-⟩,-,⟨r1,k7,a1,a2,a3,a4⟩,hc1,hf1⟩;have hm1:s1.h.get X.M=_:=(hf1 X.M (by omega)).trans hm;rw[Z7]at a4;simp[rW,k0,k1,k6,k7,k8,hm1,lN];refine gr_l4 H (rest:= .f (.i .u64 rest)) (g:= .f (.i .u64 g)) (bef:=bef) ⟨by simp only[Rg];simp[rW,k0,k1,k6,k8],⟨by simp[rW],by simp[rW],by simp[rW]⟩,⟨r1,by simp[rW,k7],a1,a2,a3,fun e=>⟨a4 e,by simp⟩⟩,by simp only[rG];omega,fun id hid=>by simp[rW];exact hf1 id hid⟩ ?_;rintro s2 ⟨⟨j0,j1,j6,j8,-⟩,-,⟨r2,j7,b1,b2,b3,b4⟩,hc2,hf2⟩;rw[Z7]at b4;have ban:=zka hr64 hg;have han:=zla (b:=g) hr64;have hbits:=fun i=>zid (i:=i) hr64 hg
 simp[rW,j0,j1,j6,j7,j8,ban];refine gr_l6 H hrl (bef:=bef) (cur:=zdf rest g) ⟨by simp only[Rg];simp[rW,j0,j1,j8],han,fun i hi=> ?_,⟨g,r2,by simp[rW,j6],by simp[rW,j7],⟨hg,hgs,hg0,b1,b2,b3,fun i hi j hj=>b3 j (hgi i hi j hj),fun e=>⟨(b4 e).1,(b4 e).2,fun i h1 h2 h3=> ?_⟩⟩⟩,by simp only[rG];omega,fun id hid=>by simp[rW];exact hf2 id hid⟩ ?_
 .rw[hbits,Z14]at hi;exact hi.1
 .rw[hbits,h1,h2]at h3;cases h3
 rintro s3 ⟨⟨i0,i1,i8,i13,-⟩,-,-,⟨g3,r3,i6,i7,HG⟩,hc3,hf3⟩
 by_cases he:r3=bef
 .obtain⟨p1,p2,p3⟩ :=HG.p he;rw[he]at i7;simp[rW,i0,i1,i6,i7,i8,u_eq];exact⟨rfl,g3,r3,by simp[rW],HG.g64,⟨HG.gs,HG.g0,HG.gi,p1,p2,fun i h1 h2=>p3 i h1 h2 (Nat.zero_testBit i)⟩,fun id hid=>by simp[rW];exact hf3 id hid⟩
 .have hz:(((r3:Nat):Int)==((bef:Nat):Int))=false:=by
   simpa using fun e:((r3:Nat):Int)=((bef:Nat):Int)=>he (by omega)
  have hlt:64 - r3<64 - bef:=by have:=HG.rb;have:=HG.r64;omega
  simp[rW,i0,i1,i6,i7,i8,u_eq,hz];exact⟨_,hlt,g3,r3,rfl,⟨by simp[rW,i0],by simp[rW,i1],by simp[rW,i6],by simp[rW,i7]⟩,HG.g64,HG.gs,HG.g0,HG.r64,HG.gi,by simp only[rG];omega,fun id hid=>by simp[rW];exact hf3 id hid⟩
def zNc{L:List Rl}{h:T Ob}{c:Nat}{X:Mx}{σ:Asg}(H:MS L h c X σ){rest:Nat}(hr0:rest≠0)(hrl:rest<2 ^ X.WP.length):Eff pr 187 [.ptr X.M 7 0 0,.f (.i .u64 rest)] h c (GrP X σ rest h c):=by
 refine zcm kps fn187 (fun d h' c' ⟨a,_⟩ _ _=>⟨a,fun _ _=>rfl⟩) ?_;have hm:=H.m.m;have ho:=H.m.o;have gP:=H.m.P.1;have hpd:(paD X.WP).length=X.WP.length:=by simp[paD]
 have hr64:rest<64:=Z15 hrl (Z113 (by decide) H.o.Pl);have hb:zaO σ<64:=Z15 (zem σ) (Z113 (by decide) H.m.n6);obtain⟨tm1,tm2⟩ :=zju hr64 hr0;have hti:=zei hrl tm1;have hx:X.WP[tz rest]? =some X.WP[tz rest]:=Z0 hti;have hmem:=Z1 hti;generalize X.WP[tz rest]=q at hx hmem;have hP:=H.o.P q hmem;have hm64:=zi9 H.m.n6 (p:=q.1) (by rw[H.m.n];exact hP.o);have hfm:fmN X σ (tz rest)=frN σ q.1.m:=by simp[fmN,hx]
 have hf64:fmN X σ (tz rest)<64:=by rw[hfm];exact zla hm64
 have ban:=zka hm64 hb;rw[show zdf q.1.m (zaO σ)=fmN X σ (tz rest)from hfm.symm]at ban;obtain⟨id,ro,e1,e2,e3,e4⟩ :=zej gP (n:=tz rest) (by omega);rw[hpd]at e1;have hrow:(paD X.WP)[tz rest]? =some [.f (.i .i64 q.1.r),q.2,.f (.i .u64 q.1.m)]:=by simp[paD,hx]
 have hA:=(Z8.1 hrow).2;have hS:=zjE (i:=tz rest) (by omega);have h26:2 ^ tz rest<64:=by
  have:2 ^ tz rest<=2 ^ 5:=Z113 (by decide) (by omega);omega
 have hw2:∀i,(2 ^ tz rest).testBit i=true->i=tz rest:=fun i hi=>by
  rw[Nat.testBit_two_pow]at hi;exact (of_decide_eq_true hi).symm
 have hw3:(2 ^ tz rest).testBit (tz rest)=true:=Nat.testBit_two_pow_self;have hfs:∀i,i=tz rest->Sub (fmN X σ i) (fmN X σ (tz rest)):=fun i e=>by subst e;exact fun _ h=>h
 generalize 2 ^ tz rest=w2 at hS h26 hw2 hw3;generalize hfe:fmN X σ (tz rest)=fm at ban hf64 hfs;simp only[ziu,rU];simp[rW,st0,zal];refine zbO [(0,.ptr X.M 7 0 0),(1,.f (.i .u64 rest))] (zjl (zsS hr64 hr0 h c)) (by simp only[rG]) (by simp only[rG]) (by simp only[Rg];simp[rW]) rfl ?_;rintro s1 d1 ⟨rfl,hh,hcc⟩ hc1 k17 ⟨k0,k1,-⟩;refine⟨?_⟩;have hm':s1.h.get X.M=_:=(show s1.h.get X.M=h.get X.M by rw[hh]).trans hm;have e2':s1.h.get id=some (.arr 3 ro (paD X.WP)):=(show s1.h.get id=h.get id by rw[hh]).trans e2;simp[rW,k0,k1,k17,hS];refine zru (fun s'=>Rg [(0,.ptr X.M 7 0 0),(1,.f (.i .u64 rest)),(6,.f (.i .u64 w2)),(7,.f (.i .u64 fm))] s'/\s'.h=s1.h/\s1.c<=s'.c) (fun K hK=> ?_) ?_
 .refine zay ?_;simp[rW,k0,k1,k17,hm',e1,hti,e2',hrow,hA,hpd,ban];exact hK _ ⟨by simp only[Rg];simp[rW,k0,k1],by simp only[rG],by simp only[rG];omega⟩
 .rintro s2 ⟨⟨j0,j1,j6,j7,-⟩,hh2,hc2⟩;simp[rW,j0,j1,j6,j7];refine gr_l0 H hr0 hrl (k:=64 - fm) ⟨w2,fm,rfl,⟨by simp[rW,j0],by simp[rW,j1],by simp[rW,j6],by simp[rW,j7]⟩,h26,fun i hi=>hw2 i hi▸tm1,hw3,hf64,fun i hi=>hfs i (hw2 i hi),by omega,fun id hid=>by rw[hh2,hh]⟩ ?_;rintro e s3 ⟨rfl,g,r,i4,hg,HG,hf⟩;simp[rW,i4,zaV];exact⟨⟨g,r,rfl,hg,HG⟩,hf⟩
def fn119:pr.fn 119=some zn4:=by kernel_rfl
structure Vst(X:Mx)(F:T Ob->Nat->Prop)(A:Nat->Bool->T Ob->Nat->Prop):Prop where
 lt:∀k b h c id,A k b h c->F h id->id<c/\id≠X.M/\id≠X.V
 up:∀k b h c h' c',A k b h c->(∀id,id<c->id≠X.M->id≠X.V->h'.get id=h.get id)->c<=c'->A k b h' c'/\∀id,F h' id->F h id
def Lft(X:Mx)(F:T Ob->Nat->Prop)(h:T Ob)(c:Nat)(h':T Ob):Prop:=(∀id,id<c->id≠X.M->id≠X.V->¬F h id->h'.get id=h.get id)/\∀id,F h' id->F h id\/c<=id
def Lft.refl(X:Mx)(F:T Ob->Nat->Prop)(h:T Ob)(c:Nat):Lft X F h c h:=⟨fun _ _ _ _ _=>rfl,fun _ h=> .inl h⟩
def Lft.tr{X:Mx}{F:T Ob->Nat->Prop}{h h1 h2:T Ob}{c c1:Nat}(a:Lft X F h c h1)(b:Lft X F h1 c1 h2)(hc:c<=c1):Lft X F h c h2:=
 ⟨fun id k1 k2 k3 k4=>(b.1 id (by omega) k2 k3 fun hF=>(a.2 id hF).elim k4 fun h=>by omega).trans (a.1 id k1 k2 k3 k4),fun id k=>(b.2 id k).elim (a.2 id) fun h=> .inr (by omega)⟩
def zyU(L:List Rl)(X:Mx)(F:T Ob->Nat->Prop)(A:Bool->T Ob->Nat->Prop)(τ:Asg)(h:T Ob)(c:Nat)(d:D)(h':T Ob)(c':Nat):Prop:=
 (∃τ',Ext τ τ'/\MS L h' c' X τ')/\(∃b,d= .f (.b b)/\A (!b) h' c')/\Lft X F h c h'
def EtP(L:List Rl)(X:Mx)(F:T Ob->Nat->Prop)(A:Nat->Bool->T Ob->Nat->Prop)(σ:Asg)(n:Nat)(h:T Ob)(c:Nat)(d:D)(h':T Ob)(c':Nat):Prop:=
 MS L h' c' X σ/\(∃b k,d= .f (.b b)/\A k (!b) h' c'/\(b=true->k=n))/\Lft X F h c h'
def ztv:C:=zn4.body.r.r.r.r.l.r.b.o
def Je(L:List Rl)(X:Mx)(F:T Ob->Nat->Prop)(A:Nat->Bool->T Ob->Nat->Prop)(σ:Asg)(q:Pat×D)(r:Rl)(vd pd:D)(h:T Ob)(c P7 n:Nat)(s:St):Prop:=(s.tm.get 0=some (.ptr X.M 7 0 0)/\s.tm.get 2=some (vd)/\s.tm.get 7=some (.ptr P7 3 0 0)/\s.tm.get 8=some (.f (.i .u64 (zaO σ)))/\s.tm.get 9=some (.f (zbB r.tu))/\s.tm.get 46=some (pd)/\s.tm.get 47=some (.f (.i .i64 r.tu.length))/\s.tm.get 48=some (.f (.i .i64 n))/\s.h.get P7=some (.arr 3 0 [[.f (.i .i64 q.1.r),q.2,.f (.i .u64 q.1.m)]]))/\MS L s.h s.c X σ/\A n false s.h s.c/\c<=s.c/\c<=P7/\P7<s.c/\Lft X F h c s.h/\¬F s.h P7
def Re(L:List Rl)(X:Mx)(F:T Ob->Nat->Prop)(A:Nat->Bool->T Ob->Nat->Prop)(σ:Asg)(n:Nat)(h:T Ob)(c:Nat)(e:Ex)(s:St):Prop:=(e= .exit 0/\MS L s.h s.c X σ/\A n false s.h s.c/\Lft X F h c s.h)\/(e= .ret/\s.tm.get 6=some (.f (.b false))/\MS L s.h s.c X σ/\(∃k,A k true s.h s.c)/\Lft X F h c s.h)
theorem et_l0{L:List Rl}{h:T Ob}{c:Nat}{X:Mx}{σ:Asg}{F:T Ob->Nat->Prop}{A:Nat->Bool->T Ob->Nat->Prop}(hV:Vst X F A)(hcn:zde L X σ=true){q:Pat×D}(hq:q∈X.WP){r:Rl}(hr:L[q.1.r]? =some r){f:Nat}{caps:List D}{pd:D}{P7:Nat}
  (hpl:zkC h X.S X.M pd r.tu.length)(hMc:X.V<c)
  (hv:∀(k:Nat) (t:List Int×List Vse.F) (τ:Asg) (h1:T Ob) (c1:Nat),r.tu[k]? =some t->zda L X σ q.1 t.1=some τ->MS L h1 c1 X τ->A k false h1 c1->c<=c1->Eff pr f caps h1 c1 (zyU L X F (A (k+1)) τ h1 c1))
  (hs:∀(k:Nat) (t:List Int×List Vse.F) (h1:T Ob) (c1:Nat),r.tu[k]? =some t->zda L X σ q.1 t.1=none->A k false h1 c1->A (k+1) false h1 c1)
  (hFM:∀id,F h id->id+1<X.S\/X.M<=id)
  {s:St}{K:Ex->St->Prop}(hJ:Je L X F A σ q r (.fn f [] caps) pd h c P7 0 s)(hK:∀e s,Re L X F A σ r.tu.length h c e s->K e s):WL pr ztv s K:=by
 refine zcJ (fun k s=>∃n:Nat,n<=r.tu.length/\k=r.tu.length - n/\Je L X F A σ q r (.fn f [] caps) pd h c P7 n s) (Re L X F A σ r.tu.length h c) ?_ r.tu.length _ ⟨0,Z61 _,rfl,hJ⟩ hK;clear hJ;rintro k s ⟨n,hn,rfl,⟨h0,h2,h7,h8,h9,h46,h47,h48,g7⟩,HM,hA,hc,hP1,hP2,hL,hnF⟩;have ho:=HM.m.o;have hRO:=HM.o.L r (Z39 hr);have hP:=HM.o.P q hq;have h3:=hRO.n;have hw:=zau n (by omega)
 by_cases hlt:n<r.tu.length
 .have hx:r.tu[n]? =some r.tu[n]:=Z0 hlt;have hmem:=Z1 hlt;generalize r.tu[n]=t at hx hmem;have hxA:=(Z8.1 hx).2;have htl:t.1.length=q.1.ts.length:=hP.a r hr t hmem;obtain⟨ip,i1,i2⟩ :=hpl.ia;have hip:=i2 (by omega);have hipg:s.h.get ip=some (.arr 1 0 (ziw (List.range r.tu.length))):=by
   rw[hL.1 ip (by omega) (by omega) (by have:=HM.m.o;omega) fun hF=>by have:=hFM ip hF;omega];exact hip.1
  have hrow:=zpJ r.tu.length n hlt;have hidx:=i1 n hlt;have hm:=HM.m.m;have ho:=HM.m.o;unfold ztv zn4;simp only[rU,C.l,C.r,C.b,C.o];simp[rW,h0,h2,h7,h8,h9,h46,h47,h48,hlt,hidx,hipg,hrow];refine zfS ?_;simp[rW,h0,h2,h7,h8,h9,h46,h47,h48,g7,zjt,hx,hxA,hlt,tuF];obtain⟨mrow,hmr⟩ :∃mrow,mrow=Ob.arr 7 0 [[.ptr X.S 2 0 0,.f (zah X.ns),X.dP,X.dN,X.dC,.sl X.V 0 X.ns.length 3 X.ns.length true,.f (.i .u64 (zaO σ))]]:=⟨_,rfl⟩
  have key:∀(h3:T Ob) (c3 c4:Nat) (τ':Asg) (b:Bool),MS L h3 c3 X τ'->Ext σ τ'->A (n+1) (!b) h3 c3->Lft X F h c h3->c<=c3->¬F h3 P7->h3.get P7=some (.arr 3 0 [[.f (.i .i64 q.1.r),q.2,.f (.i .u64 q.1.m)]])->c3<=c4->
    MS L (h3.set X.M mrow) c4 X σ/\A (n+1) (!b) (h3.set X.M mrow) c4/\Lft X F h c (h3.set X.M mrow)/\¬F (h3.set X.M mrow) P7/\(h3.set X.M mrow).get P7=some (.arr 3 0 [[.f (.i .i64 q.1.r),q.2,.f (.i .u64 q.1.m)]]):=by
   intro h3 c3 c4 τ' b HT he hAb hL3 hc3 hn3 hp3 hc4;have ho3:=HT.m.o;have hup:=hV.up _ _ _ _ (h3.set X.M mrow) c4 hAb (fun id _ k2 _=>by rw[TG,Z49 k2]) hc4;refine⟨⟨HT.m.back he (by rw[TG,Z51 rfl,hmr]) (fun id _ h2=>by rw[TG,Z49 h2]) hc4,HT.s.up fun id _ hid=>by rw[TG,Z49 (by omega)],HT.o⟩,hup.1,⟨fun id k1 k2 k3 k4=>by rw[TG,Z49 k2];exact hL3.1 id k1 k2 k3 k4,fun id hF=>hL3.2 id (hup.2 id hF)⟩,fun hF=>hn3 (hup.2 _ hF),by rw[TG,Z49 (by omega)];exact hp3⟩
  refine zlQ [(0,.ptr X.M 7 0 0),(2,.fn f [] caps),(7,.ptr P7 3 0 0),(8,.f (.i .u64 (zaO σ))),(9,.f (zbB r.tu)),(46,pd),(47,.f (.i .i64 r.tu.length)),(48,.f (.i .i64 n))] (zNg (c:=s.c+1+1+1+1+1+1+1) (HM.up (fun _ _=>rfl) (by omega)) hcn hq htl) (by simp only[rG]) (by simp only[rG]) (by simp only[Rg];simp[rW,h0,h2,h7,h8,h9,h46,h47,h48,hidx]) rfl ?_;rintro s2 d1 c' ⟨τ,HT,hres⟩ hc1 hc2 j59 ⟨j0,j2,j7,j8,j9,j46,j47,j48,-⟩;have hT2:MS L s2.h s2.c X τ:=HT.m.up (fun _ _=>rfl) hc2;have hup:=hV.up _ _ _ _ s2.h s2.c hA (fun id h1 k2 k3=>HT.f id (by omega) k2 k3) (by omega);have hg7:s2.h.get P7=_:=(HT.f P7 (by omega) (by omega) (by omega)).trans g7;have hL2:Lft X F h c s2.h:=hL.tr ⟨fun id k1 k2 k3 _=>HT.f id (by omega) k2 k3,fun id hF=> .inl (hup.2 id hF)⟩ (Z2 c);refine⟨by simp[rW],⟨?_⟩⟩;have hn2:¬F s2.h P7:=fun hF=>hnF (hup.2 _ hF)
  rcases hres with⟨rfl,hb⟩ |⟨rfl,hb⟩
  .simp[rW,j0,j2,j7,j8,j9,j46,j47,j48,j59];have hA3:=(hV.up _ _ _ _ s2.h (s2.c+1+1+1) hup.1 (fun _ _ _ _=>rfl) (by omega)).1;refine zlQ [(0,.ptr X.M 7 0 0),(2,.fn f [] caps),(7,.ptr P7 3 0 0),(8,.f (.i .u64 (zaO σ))),(9,.f (zbB r.tu)),(46,pd),(47,.f (.i .i64 r.tu.length)),(48,.f (.i .i64 n)),(61,.f (.b false))] (hv n t τ s2.h (s2.c+1+1+1) hx hb (hT2.up (fun _ _=>rfl) (by omega)) hA3 (by omega)) (by simp only[rG]) (by simp only[rG]) (by simp only[Rg];simp[rW,j0,j2,j7,j8,j9,j46,j47,j48]) rfl ?_;rintro s3 d3 c3 ⟨⟨τ',he',HM'⟩,⟨b,rfl,hAb⟩,hL'⟩ hc3 hc3' i63 ⟨i0,i2,i7,i8,i9,i46,i47,i48,i61,-⟩;have hm3:=HM'.m.m;have hp3:s3.h.get P7=_:=(hL'.1 P7 (by omega) (by omega) (by omega) hn2).trans hg7;have hn3:¬F s3.h P7:=fun hF=>(hL'.2 _ hF).elim hn2 fun h=>by omega
   have K3:=fun c4=>key s3.h c3 c4 τ' b HM' (HT.e.tr he') hAb (hL2.tr hL' (by omega)) (by omega) hn3 hp3
   rw[hmr]at K3;have n4:X.M<s3.c+1+1:=by omega
   refine⟨by simp[rW],⟨?_⟩⟩;cases b with
   |true=>
    simp[rW,i0,i2,i7,i8,i9,i46,i47,i48,i61,i63,hm3,n4,hw];obtain⟨a1,a2,a3,a4,a5⟩ :=K3 (s3.c+1+1) (by omega);exact⟨r.tu.length - (n+1),by omega,n+1,by omega,rfl,⟨⟨by simp[rW,i0],by simp[rW,i2],by simp[rW,i7],by simp[rW,i8],by simp[rW,i9],by simp[rW,i46],by simp[rW,i47],by simp[rW,hw],by simp only[rG];exact a5⟩,by simp only[rG];exact a1,by simp only[rG];exact a2,by simp only[rG];omega,hP1,by simp only[rG];omega,by simp only[rG];exact a3,by simp only[rG];exact a4⟩⟩
   |false=>
    simp[rW,i0,i2,i7,i8,i9,i46,i47,i48,i61,i63,hm3,n4,hw];obtain⟨a1,a2,a3,a4,a5⟩ :=K3 (s3.c+1+1) (by omega);exact .inr ⟨rfl,by simp[rW],by simp only[rG];exact a1,⟨n+1,by simp only[rG];exact a2⟩,by simp only[rG];exact a3⟩
  .simp[rW,j0,j2,j7,j8,j9,j46,j47,j48,j59,hT2.m.m,hw];obtain⟨a1,a2,a3,a4,a5⟩ :=key s2.h s2.c (s2.c+1+1+1+1) τ true hT2 HT.e (hs n t _ _ hx hb hup.1) hL2 (by omega) hn2 hg7 (by omega);rw[hmr]at a1 a2 a3 a4 a5;exact⟨by omega,r.tu.length - (n+1),by omega,n+1,by omega,rfl,⟨⟨by simp[rW,j0],by simp[rW,j2],by simp[rW,j7],by simp[rW,j8],by simp[rW,j9],by simp[rW,j46],by simp[rW,j47],by simp[rW,hw],by simp only[rG];exact a5⟩,by simp only[rG];exact a1,by simp only[rG];exact a2,by simp only[rG];omega,hP1,by simp only[rG];omega,by simp only[rG];exact a3,by simp only[rG];exact a4⟩⟩
 .have hen:n=r.tu.length:=by omega
  subst hen;unfold ztv zn4;simp only[rU,C.l,C.r,C.b,C.o];simp[rW,h0,h2,h7,h8,h9,h46,h47,h48];exact .inl ⟨rfl,HM.up (fun _ _=>rfl) (by simp only[rG];omega),hA,hL⟩
theorem zB3{L:List Rl}{h:T Ob}{c:Nat}{X:Mx}{σ:Asg}(H:MS L h c X σ)(hcn:zde L X σ=true){F:T Ob->Nat->Prop}{A:Nat->Bool->T Ob->Nat->Prop}(hV:Vst X F A){i:Nat}{q:Pat×D}(hi:X.WP[i]? =some q){r:Rl}(hr:L[q.1.r]? =some r){f:Nat}{caps:List D}
  (hA0:A 0 false h c)(hclo:∀k b h' c',A k b h' c'->(∀id,id<c->h'.get id=h.get id)->A k b h c)
  (hv:∀(k:Nat) (t:List Int×List Vse.F) (τ:Asg) (h1:T Ob) (c1:Nat),r.tu[k]? =some t->zda L X σ q.1 t.1=some τ->MS L h1 c1 X τ->A k false h1 c1->c<=c1->Eff pr f caps h1 c1 (zyU L X F (A (k+1)) τ h1 c1))
  (hs:∀(k:Nat) (t:List Int×List Vse.F) (h1:T Ob) (c1:Nat),r.tu[k]? =some t->zda L X σ q.1 t.1=none->A k false h1 c1->A (k+1) false h1 c1)
  (hFM:∀id,F h id->id+1<X.S\/X.M<=id):Eff pr 119 [.ptr X.M 7 0 0,.f (.i .i64 i),.fn f [] caps] h c (EtP L X F A σ r.tu.length h c):=by
 refine zcm kps fn119 (fun d h' c' ⟨_,⟨b,k,e1,e2,e3⟩,_⟩ _ hf=>⟨H,⟨b,k,e1,hclo _ _ _ _ e2 hf,e3⟩,Lft.refl _ _ _ _⟩) ?_;have hq:q∈X.WP:=Z39 hi;have hil:i<X.WP.length:=(Z8.1 hi).1;have hm:=H.m.m;have ho:=H.m.o;have gP:=H.m.P.1;have hpd:(paD X.WP).length=X.WP.length:=by simp[paD]
 obtain⟨id,ro,e1,e2,e3,e4⟩ :=zej gP (n:=i) (by omega);rw[hpd]at e1;have hrow:(paD X.WP)[i]? =some [.f (.i .i64 q.1.r),q.2,.f (.i .u64 q.1.m)]:=by simp[paD,hi]
 have hA:=(Z8.1 hrow).2;have hqc:q.2.cells=some [q.2]:=zbu (H.m.P.2 q hq);obtain⟨⟨PR,W,a1,a2,a3,a4,a5⟩,hl⟩ :=H.s;obtain⟨pd,b1,b2⟩ :=a5 q.1.r r hr;have hiL:q.1.r<L.length:=(Z8.1 hr).1;have hprow:(W.map fun d=>[d])[q.1.r]? =some [pd]:=by rw[Z36,b1];rfl
 have hLA:=(Z8.1 hr).2;have hB:=(Z8.1 b1).2;have lpd:=b2.len;have n1:¬id=c:=by omega
 have n2:¬X.M=c:=by omega
 have n3:¬X.S=c:=by omega
 have n4:¬PR=c:=by omega
 simp only[zn4,rU];simp[rW,st0,zal,hm,e1,hil,e2,hrow,hA,hpd,hqc,n1,n2];refine zru (fun s'=>Rg [(0,.ptr X.M 7 0 0),(2,.fn f [] caps),(7,.ptr c 3 0 0),(8,.f (.i .u64 (zaO σ))),(9,.f (zbB r.tu))] s'/\s'.h=(h.set c (.arr 3 0 [[.f (.i .i64 0),.f .nils,.f (.i .u64 0)]])).set c (.arr 3 0 [[.f (.i .i64 q.1.r),q.2,.f (.i .u64 q.1.m)]])/\c+1<=s'.c) (fun K hK=> ?_) ?_
 .refine zay ?_;simp[rW,hm,n2,n3,a1,zmR,hr,hLA,hiL,rlE];exact hK _ ⟨by simp only[Rg];simp[rW],by simp only[rG],by simp only[rG];omega⟩
 rintro s1 ⟨⟨k0,k2,k7,k8,k9,-⟩,hh,hc1⟩;have f1:∀id,id≠c->s1.h.get id=h.get id:=fun id hne=>by rw[hh,TG,Z49 hne,TG,Z49 hne]
 have g7:s1.h.get c=some (.arr 3 0 [[.f (.i .i64 q.1.r),q.2,.f (.i .u64 q.1.m)]]):=by rw[hh,TG,Z51 rfl]
 have m1:=(f1 X.M n2).trans hm;have s1':=(f1 X.S n3).trans a1;have p1:=(f1 PR n4).trans a2;simp[rW,k0,k2,k7,k8,k9];refine zru (fun s'=>Rg [(0,.ptr X.M 7 0 0),(2,.fn f [] caps),(7,.ptr c 3 0 0),(8,.f (.i .u64 (zaO σ))),(9,.f (zbB r.tu)),(46,pd),(47,.f (.i .i64 r.tu.length)),(48,.f (.i .i64 0))] s'/\s'.h=s1.h/\s1.c<=s'.c) (fun K hK=> ?_) ?_
 .refine zay ?_;simp[rW,k0,k2,k7,k8,k9,m1,s1',p1,g7,hprow,hiL,a4,hB,lpd];exact hK _ ⟨by simp only[Rg];simp[rW,k0,k2,k7,k8,k9],by simp only[rG],by simp only[rG];omega⟩
 rintro s2 ⟨⟨j0,j2,j7,j8,j9,j46,j47,j48,-⟩,hh2,hc2⟩;have f2:∀id,id≠c->s2.h.get id=h.get id:=fun id hne=>by rw[hh2];exact f1 id hne
 have hup:=hV.up _ _ _ _ s2.h s2.c hA0 (fun id h1 _ _=>f2 id (by omega)) (by omega);simp[rW,j0,j2,j7,j8,j9,j46,j47,j48];refine et_l0 hV hcn hq hr b2 ho.2.2 hv hs hFM ⟨⟨by simp[rW,j0],by simp[rW,j2],by simp[rW,j7],by simp[rW,j8],by simp[rW,j9],by simp[rW,j46],by simp[rW,j47],by simp[rW,j48],by rw[hh2];exact g7⟩,H.up (fun id hid=>f2 id (by omega)) (by omega),hup.1,by omega,Z2 _,by omega,⟨fun id k1 _ _ _=>f2 id (by omega),fun id hF=> .inl (hup.2 id hF)⟩,fun hF=>by have:=hV.lt _ _ _ _ _ hA0 (hup.2 _ hF);omega⟩ ?_;rintro e s (⟨rfl,HM,hAn,hL⟩ |⟨rfl,h6,HM,⟨k,hAk⟩,hL⟩)
 .simp[rW,zaV];exact⟨HM.up (fun _ _=>rfl) (by first|(simp only[rG];omega)|omega),⟨true,r.tu.length,rfl,hAn,fun _=>rfl⟩,hL⟩
 .simp[rW,h6,zaV];exact⟨HM,⟨false,k,rfl,hAk,fun h=>by cases h⟩,hL⟩
def AtT(L:List Rl)(τ:Asg)(p:Pat):Prop:=∃v,zc3 τ p.ts=some v/\hasB L p.r v=true
def Sat(L:List Rl)(X:Mx)(σ:Asg)(g:Nat):Prop:=∃τ,Ext σ τ/\(∀i q,g.testBit i=true->X.WP[i]? =some q->AtT L τ q.1)/\zde L X τ=true
def zeU{σ τ:Asg}(h:Ext σ τ){t:Opn}{z:Int}(hz:zaF σ t=some z):zaF τ t=some z:=by
 cases t with
 |cst y=>exact hz
 |var i=>
  have hs:σ[i]? =some (some z):=by
   simp only[zaF]at hz;cases hh:σ[i]? with
   |none=>rw[hh]at hz;cases hz
   |some o=>rw[hh]at hz;exact congrArg some hz
  simp[zaF,h.2 i z hs]
theorem zlP{σ τ:Asg}(h:Ext σ τ):∀{ts:List Opn} {v:List Int},zc3 σ ts=some v->zc3 τ ts=some v
 |[],v,hv=>hv
 |t::l,v,hv=>by
  simp only[zc3]at hv|-;split at hv
  .rename_i z w hz hw;rw[zeU h hz,zlP h hw];exact hv
  .cases hv
def zlh{L:List Rl}{X:Mx}{σ τ:Asg}(h:Ext σ τ)(hc:zde L X τ=true):zde L X σ=true:=by
 unfold zde at hc|-;rw[Z14]at hc|-;refine⟨Z50.2 fun k hk=> ?_,Z50.2 fun q hq=> ?_⟩
 .have:=Z50.1 hc.1 k hk;unfold zhh at this|-;split
  .rename_i a b ha hb;rw[zeU h ha,zeU h hb]at this;exact this
  .rfl
 .have:=Z50.1 hc.2 q hq;unfold zhs at this|-;split
  .rename_i v hv;rw[zlP h hv]at this;exact this
  .rfl
theorem zni:∀{ts:List Opn} {v:List Int} {σ τ:Asg} {n:Nat},(∀t∈ts,zet n t)->σ.length=n->Ext σ τ->zc3 τ ts=some v->∃τ1,zd8 σ ts v=some τ1/\Ext τ1 τ
 |[],v,σ,τ,n,_,_,h,hv=>by cases hv;exact⟨σ,rfl,h⟩
 |t::l,v,σ,τ,n,ho,hn,h,hv=>by
  simp only[zc3]at hv;split at hv
  .rename_i z w hz hw;cases hv;simp only[zd8];cases hs:zaF σ t with
   |some y=>
    have:y=z:=Z53 ((zeU h hs).symm.trans hz);simp only[this,Z60];exact zni (fun x hx=>ho x (by simp[hx])) hn h hw
   |none=>
    cases t with
    |cst y=>cases hs
    |var i=>
     simp only;have hi:i<n:=ho (.var i) (by simp);refine zni (n:=n) (fun x hx=>ho x (by simp[hx])) (by simpa using hn) ⟨by rw[List.length_set];exact h.1,fun j y hy=> ?_⟩ hw
     by_cases hij:i=j
     .subst hij;rw[Z140 (by omega)]at hy;cases hy;simp only[zaF]at hz;cases hh:τ[i]? with
      |none=>rw[hh]at hz;cases hz
      |some o=>rw[hh]at hz;exact congrArg some hz
     .rw[Z125 hij]at hy;exact h.2 j y hy
  .cases hv
theorem zi5:∀{ts:List Opn} {v:List Int} {σ τ:Asg} {n:Nat},(∀t∈ts,zet n t)->σ.length=n->v.length=ts.length->zd8 σ ts v=some τ->zc3 τ ts=some v
 |[],v,σ,τ,n,_,_,hl,h=>by
  have:v=[]:=Z17.1 hl;rw[this];rfl
 |t::l,[],σ,τ,n,_,_,hl,h=>by simp at hl
 |t::l,z::zs,σ,τ,n,ho,hn,hl,h=>by
  simp only[zd8]at h;split at h
  .rename_i y hy;split at h
   .rename_i e;subst e;have hv:=zi5 (fun x hx=>ho x (by simp[hx])) hn (by simpa using hl) h;simp only[zc3,hv,zeU (zfN h) hy]
   .cases h
  .rename_i hy;split at h
   .rename_i i;have hi:i<n:=ho (.var i) (by simp);have hv:=zi5 (n:=n) (fun x hx=>ho x (by simp[hx])) (by simpa using hn) (by simpa using hl) h;have:zaF (σ.set i (some z)) (.var i)=some z:=by simp[zaF,Z140 (show i<σ.length by omega)]
    simp only[zc3,hv,zeU (zfN h) this]
   .cases h
def zlB{L:List Rl}{i:Nat}{r:Rl}(hr:L[i]? =some r){v:List Int}:hasB L i v=true↔∃(k:Nat) (t:List Int×List Vse.F),r.tu[k]? =some t/\t.1=v:=by
 unfold hasB;rw[hr];simp only[Z30,beq_iff_eq];constructor
 .rintro⟨t,ht,e⟩;obtain⟨k,hk,rfl⟩ :=Z101.1 ht;exact⟨k,_,Z0 hk,e⟩
 .rintro⟨k,t,ht,e⟩;exact⟨t,Z39 ht,e⟩
theorem zGd{L:List Rl}{X:Mx}{σ:Asg}{g i:Nat}{q:Pat×D}{r:Rl}(hO:MxO X L)(hσ:σ.length=X.ns.length)(hi:g.testBit i=true)(hq:X.WP[i]? =some q)(hr:L[q.1.r]? =some r){g':Nat}(hg:∀j,g'.testBit j=true↔(g.testBit j=true/\j≠i)):
  Sat L X σ g↔∃(k:Nat) (t:List Int×List Vse.F) (τ:Asg),r.tu[k]? =some t/\zda L X σ q.1 t.1=some τ/\Sat L X τ g':=by
 have hP:=hO.P q (Z39 hq);constructor
 .rintro⟨τ,he,ha,hc⟩;obtain⟨v,hv,hb⟩ :=ha i q hi hq;obtain⟨k,t,ht,rfl⟩ :=(zlB hr).1 hb;obtain⟨τ1,h1,h2⟩ :=zni hP.o hσ he hv;refine⟨k,t,τ1,ht,?_,τ,h2,fun j q' hj hq'=>ha j q' ((hg j).1 hj).1 hq',hc⟩;unfold zda;rw[h1];simp[zlh h2 hc]
 .rintro⟨k,t,τ,ht,hb,τ2,he,ha,hc⟩;unfold zda at hb;cases h1:zd8 σ q.1.ts t.1 with
  |none=>rw[h1]at hb;cases hb
  |some τ1=>
   rw[h1]at hb;simp only[Option.filter_some]at hb;split at hb
   .cases hb;have htl:t.1.length=q.1.ts.length:=hP.a r hr t (Z39 ht);have hv:=zi5 hP.o hσ htl h1;refine⟨τ2,(zfN h1).tr he,fun j q' hj hq'=> ?_,hc⟩
    by_cases hji:j=i
    .subst hji;rw[hq]at hq';cases hq';exact⟨t.1,zlP he hv,(zlB hr).2 ⟨k,t,ht,rfl⟩⟩
    .exact ha j q' ((hg j).2 ⟨hj,hji⟩) hq'
   .cases hb
def mix(σ τ1 τ2:Asg)(r:Nat):Asg:=(List.range σ.length).map fun j=>match zaF σ (.var j)with
 |some z=>some z
 |none=>if r.testBit j then zaF τ1 (.var j)else zaF τ2 (.var j)
def zKA(σ τ1 τ2:Asg)(r:Nat):(mix σ τ1 τ2 r).length=σ.length:=by simp[mix]
theorem zxI{σ τ1 τ2:Asg}{r j:Nat}(hj:j<σ.length):zaF (mix σ τ1 τ2 r) (.var j)=match zaF σ (.var j)with
 |some z=>some z
 |none=>if r.testBit j then zaF τ1 (.var j)else zaF τ2 (.var j):=by
 simp only[zaF,mix];rw[Z36,List.getElem?_range hj];rfl
def zKz{σ τ1 τ2:Asg}{r:Nat}:Ext σ (mix σ τ1 τ2 r):=by
 refine⟨zKA ..,fun i z hz=> ?_⟩;have hi:i<σ.length:=(Z8.1 hz).1;unfold mix;rw[Z36,List.getElem?_range hi];simp[zaF,hz]
def zCn{σ:Asg}{m:Nat}(hm:m<64)(hn:σ.length<=6)(j:Nat):(frN σ m).testBit j=(m.testBit j&& !(zaF σ (.var j)).isSome):=by
 have hb:zaO σ<64:=Z15 (zem σ) (Z113 (by decide) hn);unfold frN;rw[zid hm hb,zes]
def zuW{σ τ1 τ2:Asg}{r:Nat}(h1:Ext σ τ1){t:Opn}(ho:zet σ.length t)(hs:∀j,t= .var j->zaF σ (.var j)=none->r.testBit j=true):zaF (mix σ τ1 τ2 r) t=zaF τ1 t:=by
 cases t with
 |cst y=>rfl
 |var j=>
  rw[zxI ho];cases hv:zaF σ (.var j)with
  |some z=>exact (zeU h1 hv).symm
  |none=>simp[hs j rfl hv]
def zqZ{σ τ1 τ2:Asg}{r:Nat}(h2:Ext σ τ2){t:Opn}(ho:zet σ.length t)(hs:∀j,t= .var j->zaF σ (.var j)=none->r.testBit j=false):zaF (mix σ τ1 τ2 r) t=zaF τ2 t:=by
 cases t with
 |cst y=>rfl
 |var j=>
  rw[zxI ho];cases hv:zaF σ (.var j)with
  |some z=>exact (zeU h2 hv).symm
  |none=>simp[hs j rfl hv]
theorem zlO{σ τ:Asg}:∀{ts:List Opn},(∀t∈ts,zaF σ t=zaF τ t)->zc3 σ ts=zc3 τ ts
 |[],_=>rfl
 |t::l,h=>by
  simp only[zc3,h t (by simp),zlO (σ:=σ) (τ:=τ) (ts:=l) fun x hx=>h x (by simp[hx])]
def zxc{σ:Asg}{p:Pat}(ho:∀t∈p.ts,zet σ.length t)(hn:σ.length<=6){t:Opn}(ht:t∈p.ts){j:Nat}(e:t= .var j)(hv:zaF σ (.var j)=none):(frN σ p.m).testBit j=true:=by
 rw[zCn (zi9 hn ho) hn,zhK,hv];simp only[Option.isSome_none,Bool.not_false,Z187];exact Z30.2 ⟨t,ht,(zf5 t j).2 e⟩
def zxG{σ τ1 τ2:Asg}{r:Nat}(hn:σ.length<=6)(h1:Ext σ τ1){p:Pat}(ho:∀t∈p.ts,zet σ.length t)(hs:Sub (frN σ p.m) r):zc3 (mix σ τ1 τ2 r) p.ts=zc3 τ1 p.ts:=
 zlO fun t ht=>zuW h1 (ho t ht) fun j e hv=>hs j (zxc ho hn ht e hv)
def zuV{σ τ1 τ2:Asg}{r:Nat}(hn:σ.length<=6)(h2:Ext σ τ2){p:Pat}(ho:∀t∈p.ts,zet σ.length t)(hs:Dis (frN σ p.m) r):zc3 (mix σ τ1 τ2 r) p.ts=zc3 τ2 p.ts:=
 zlO fun t ht=>zqZ h2 (ho t ht) fun j e hv=>hs j (zxc ho hn ht e hv)
def zlc{σ:Asg}{k:Cnd}(ho:zjw σ.length k)(hn:σ.length<=6){t:Opn}(ht:t=k.l\/t=k.r){j:Nat}(e:t= .var j)(hv:zaF σ (.var j)=none):(frN σ k.m).testBit j=true:=by
 rw[zCn (zo6 ho hn) hn,hv];unfold Cnd.m;rw[Nat.testBit_or];simp only[Option.isSome_none,Bool.not_false,Z187,Z115];rcases ht with rfl|rfl
 .exact .inl ((zf5 _ j).2 e)
 .exact .inr ((zf5 _ j).2 e)
theorem zDG{L:List Rl}{X:Mx}{σ:Asg}{rest g r:Nat}(hO:MxO X L)(hσ:σ.length=X.ns.length)(hn:σ.length<=6)(HG:zEj X σ rest g r){rest':Nat}(hr':∀j,rest'.testBit j=true↔(rest.testBit j=true/\g.testBit j=false)):
  Sat L X σ rest↔Sat L X σ g/\Sat L X σ rest':=by
 constructor
 .rintro⟨τ,he,ha,hc⟩;exact⟨⟨τ,he,fun i q hi=>ha i q (HG.gs i hi),hc⟩,⟨τ,he,fun i q hi=>ha i q ((hr' i).1 hi).1,hc⟩⟩
 .rintro⟨⟨τ1,e1,a1,c1⟩,⟨τ2,e2,a2,c2⟩⟩;have hoP:∀q∈X.WP,∀t∈q.1.ts,zet σ.length t:=fun q hq=>by rw[hσ];exact (hO.P q hq).o
  have hoN:∀q∈X.WN,∀t∈q.1.ts,zet σ.length t:=fun q hq=>by rw[hσ];exact (hO.N q hq).o
  have hoC:∀k∈X.cs,zjw σ.length k:=fun k hk=>by rw[hσ];exact (hO.c k hk).1
  refine⟨mix σ τ1 τ2 r,zKz,fun i q hi hq=> ?_,?_⟩
  .have hm:fmN X σ i=frN σ q.1.m:=by simp[fmN,hq]
   have hqm:=Z39 hq;cases hg:g.testBit i with
   |true=>
    obtain⟨v,hv,hb⟩ :=a1 i q hg hq;exact⟨v,by rw[zxG hn e1 (hoP q hqm) (hm▸HG.gi i hg)];exact hv,hb⟩
   |false=>
    obtain⟨v,hv,hb⟩ :=a2 i q ((hr' i).2 ⟨hi,hg⟩) hq;exact⟨v,by rw[zuV hn e2 (hoP q hqm) (hm▸HG.pd i hi hg)];exact hv,hb⟩
  .unfold zde at c1 c2|-;rw[Z14]at c1 c2|-;refine⟨Z50.2 fun k hk=> ?_,Z50.2 fun q hq=> ?_⟩
   .rcases HG.pc k hk with hd|hs
    .have:=Z50.1 c2.1 k hk;unfold zhh at this|-;rw[zqZ e2 (hoC k hk).1 fun j e hv=>hd j (zlc (hoC k hk) hn (.inl rfl) e hv),zqZ e2 (hoC k hk).2 fun j e hv=>hd j (zlc (hoC k hk) hn (.inr rfl) e hv)];exact this
    .have:=Z50.1 c1.1 k hk;unfold zhh at this|-;rw[zuW e1 (hoC k hk).1 fun j e hv=>hs j (zlc (hoC k hk) hn (.inl rfl) e hv),zuW e1 (hoC k hk).2 fun j e hv=>hs j (zlc (hoC k hk) hn (.inr rfl) e hv)];exact this
   .rcases HG.pn q hq with hd|hs
    .have:=Z50.1 c2.2 q hq;unfold zhs at this|-;rw[zuV hn e2 (hoN q hq) hd];exact this
    .have:=Z50.1 c1.2 q hq;unfold zhs at this|-;rw[zxG hn e1 (hoN q hq) hs];exact this
def sat_0{L:List Rl}{X:Mx}{σ:Asg}(hc:zde L X σ=true):Sat L X σ 0:=⟨σ,Ext.rfl' σ,(fun i q hi=>by rw[Nat.zero_testBit]at hi;cases hi),hc⟩
end Go.Proofs.YtbhholaillniiaaGreatDoor
end
