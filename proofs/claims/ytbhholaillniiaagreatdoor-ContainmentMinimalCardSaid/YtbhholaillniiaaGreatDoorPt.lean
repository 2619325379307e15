/- The matcher: some, given possible for smaller sets. -/
import Derived.Test.YtbhholaillniiaaGreatDoorPs
import Derived.KernelRfl
import Derived.IntWalk
set_option linter.all false
set_option maxRecDepth 100000
set_option maxHeartbeats 4000000
noncomputable section
section
namespace Go.Proofs.YtbhholaillniiaaGreatDoor
open Go Go.Vse Go.Vse.Sm
def fn188:pr.fn 188=some zz8:=by kernel_rfl
def fn234:pr.fn 234=some zAk:=by kernel_rfl
def PoP(L:List Rl)(X:Mx)(σ:Asg)(P:Prop)(h:T Ob)(c:Nat)(d:D)(h':T Ob)(c':Nat):Prop:=(∃b:Bool,d= .f (.b b)/\(b=true↔P))/\MS L h' c' X σ/\Fr X c h h'
def PoP.clo{L:List Rl}{X:Mx}{σ:Asg}{P:Prop}{h:T Ob}{c:Nat}(H:MS L h c X σ)(d:D)(h':T Ob)(c':Nat)(hp:PoP L X σ P h c d h' c'):PoP L X σ P h c d h c:=⟨hp.1,H,Fr.refl _ _ _⟩
def zyS(L:List Rl)(X:Mx)(rest:Nat):Prop:=∀(h:T Ob) (c:Nat) (σ:Asg),MS L h c X σ->zde L X σ=true->Eff pr 115 [.ptr X.M 7 0 0,.f (.i .u64 rest)] h c (PoP L X σ (Sat L X σ rest) h c)
def rmN(g i:Nat):Nat:=zdf g (2 ^ i)
def zvh{g i:Nat}(hg:g<64)(hi:i<6)(j:Nat):(rmN g i).testBit j=true↔(g.testBit j=true/\j≠i):=by
 have h2:2 ^ i<64:=by
  have:2 ^ i<=2 ^ 5:=Z113 (by decide) (by omega);omega
 unfold rmN;rw[zid hg h2,Nat.testBit_two_pow,Z14,Z80,Z65];exact⟨fun h=>⟨h.1,fun e=>h.2 e.symm⟩,fun h=>⟨h.1,fun e=>h.2 e.symm⟩⟩
def t_rm:((List.range 64).all fun g=>(List.range 6).all fun i=>!g.testBit i||Nat.blt (rmN g i) g)=true:=by kernel_rfl
def zAS{g i:Nat}(hg:g<64)(hi:g.testBit i=true):rmN g i<g:=by
 have h6:i<6:=zei (n:=6) hg hi;have h1:=Z50.1 (Z50.1 t_rm g (by simpa using hg)) i (by simpa using h6);rw[hi]at h1;simpa [Z79]using h1
def b_rm{g i:Nat}(hg:g<64)(hi:i<6):zaH .shl (.i .u64 1) (.i .i64 (i:Nat))=some (.i .u64 ((2 ^ i:Nat):Int))/\zaH .andNot (.i .u64 (g:Nat)) (.i .u64 ((2 ^ i:Nat):Int))=some (.i .u64 ((rmN g i:Nat):Int)):=by
 have h2:2 ^ i<64:=by
  have:2 ^ i<=2 ^ 5:=Z113 (by decide) (by omega);omega
 exact⟨zjE (by omega),zka hg h2⟩
structure St0(h:T Ob)(c0:Nat)(X:Mx):Prop where
 P:ziK h (X.V+1) c0 X.dP X.WP
 N:ziK h (X.V+1) c0 X.dN X.WN
 C:Gro h (X.V+1) c0 10 X.dC (cnD X.cs)
 o:X.S<X.M/\X.M<X.V/\X.V<c0
def St0.up{h h':T Ob}{c0:Nat}{X:Mx}(H:St0 h c0 X)(hf:∀id,X.V<id->id<c0->h'.get id=h.get id):St0 h' c0 X:=by
 have ho:=H.o;have key:∀id,X.V+1<=id->id<c0->h'.get id=h.get id:=fun id h1 h2=>hf id (by omega) h2
 exact⟨H.P.up key (Z2 _),H.N.up key (Z2 _),zaS H.C (Z2 _) key,ho⟩
def MS.st{L:List Rl}{h:T Ob}{c:Nat}{X:Mx}{σ:Asg}(H:MS L h c X σ):St0 h c X:=⟨H.m.P,H.m.N,H.m.C,H.m.o⟩
def MS.far{L:List Rl}{h h':T Ob}{c c' c0:Nat}{X:Mx}{σ:Asg}(H:MS L h c X σ)(H0:St0 h c0 X)(hf:∀id,X.S<=id+1->id<c0->h'.get id=h.get id)(hc:c0<=c'):MS L h' c' X σ:=by
 have ho:=H0.o;obtain⟨vs,v1,v2,v3,v4⟩ :=H.m.v;have key:∀id,X.V+1<=id->id<c0->h'.get id=h.get id:=fun id h1 h2=>hf id (by omega) h2
 exact⟨⟨by rw[hf _ (by omega) (by omega)];exact H.m.m,⟨vs,by rw[hf _ (by omega) (by omega)];exact v1,v2,v3,v4⟩,H.m.n,H.m.n6,H0.P.up key hc,H0.N.up key hc,zaS H0.C hc key,by omega⟩,H.s.up fun id h1 h2=>hf id h1 (by omega),H.o⟩
def Good(L:List Rl)(X:Mx)(σ:Asg)(p:Pat)(g':Nat)(t:List Int×List F):Prop:=∃τ,zda L X σ p t.1=some τ/\Sat L X τ g'
structure SmA(L:List Rl)(X:Mx)(σ:Asg)(q:Pat)(r:Rl)(g g' i b2 b5:Nat)(k:Nat)(b:Bool)(h:T Ob)(c:Nat):Prop where
 a2:h.get b2=some (.arr 1 0 [[.ptr X.M 7 0 0]])
 a3:h.get (b2+1)=some (.arr 1 0 [[.f (.i .u64 g)]])
 a5:h.get b5=some (.arr 1 0 [[.f (.i .i64 i)]])
 a6:h.get (b5+1)=some (.arr 1 0 [[.f (.b b)]])
 s0:St0 h b2 X
 lt:b2+1<b5/\b5+1<c
 no:b=false->∀j t,j<k->r.tu[j]? =some t->¬Good L X σ q g' t
 yes:b=true->∃(j:Nat) (t:List Int×List F),r.tu[j]? =some t/\Good L X σ q g' t
def SmF(b2 b5:Nat)(_:T Ob)(id:Nat):Prop:=id=b2\/id=b2+1\/id=b5\/id=b5+1
theorem smV{L:List Rl}{X:Mx}{σ:Asg}{q:Pat}{r:Rl}{g g' i b2 b5:Nat}:Vst X (SmF b2 b5) (SmA L X σ q r g g' i b2 b5) where
 lt k b h c id HA hF:=by
  have:=HA.lt;have:=HA.s0.o;rcases hF with rfl|rfl|rfl|rfl<;>omega
 up k b h c h' c' HA hf hc:=by
  have hl:=HA.lt;have ho:=HA.s0.o;exact⟨⟨by rw[hf _ (by omega) (by omega) (by omega)];exact HA.a2,by rw[hf _ (by omega) (by omega) (by omega)];exact HA.a3,by rw[hf _ (by omega) (by omega) (by omega)];exact HA.a5,by rw[hf _ (by omega) (by omega) (by omega)];exact HA.a6,HA.s0.up fun id h1 h2=>hf id (by omega) (by omega) (by omega),by omega,HA.no,HA.yes⟩,fun _ h=>h⟩
theorem zNl{L:List Rl}{X:Mx}{σ τ:Asg}{q:Pat}{r:Rl}{g i b2 b5 k:Nat}(hg:g<64)(hi:g.testBit i=true)(hp:zyS L X (rmN g i)){t:List Int×List F}(ht:r.tu[k]? =some t)(hb:zda L X σ q t.1=some τ){h:T Ob}{c:Nat}(H:MS L h c X τ)(HA:SmA L X σ q r g (rmN g i) i b2 b5 k false h c):
  Eff pr 234 [.ptr b2 1 0 0,.ptr (b2+1) 1 0 0,.ptr b5 1 0 0,.ptr (b5+1) 1 0 0] h c (zyU L X (SmF b2 b5) (SmA L X σ q r g (rmN g i) i b2 b5 (k+1)) τ h c):=by
 have hcn:zde L X τ=true:=by
  unfold zda at hb;have:=Option.filter_eq_some_iff.1 hb;exact this.2
 have h6:i<6:=zei (n:=6) hg hi;obtain⟨c1,c2⟩ :=b_rm hg h6;have hl:=HA.lt;have h0o:=HA.s0.o;have ho:=H.m.o;have hno:=HA.no rfl;refine zcm kps fn234 (fun d h' c' ⟨_,⟨b,e1,e2⟩,_⟩ _ hf=>⟨⟨τ,Ext.rfl' _,H⟩,⟨b,e1,⟨HA.a2,HA.a3,HA.a5,by rw[<-hf _ (by omega)];exact e2.a6,HA.s0,by omega,e2.no,e2.yes⟩⟩,Lft.refl _ _ _ _⟩) ?_;have a2:=HA.a2;have a3:=HA.a3;have a5:=HA.a5;have a6:=HA.a6;generalize 2 ^ i=w at c1 c2;simp only[zAk,rU];simp[rW,st0,zal];refine zfS ?_;simp[rW,a2,a3,a5,c1,c2];refine zlQ [(3,.ptr (b5+1) 1 0 0)] (hp h (c+1+1+1+1+1) τ (H.up (fun _ _=>rfl) (by omega)) hcn) (by simp only[rG]) (by simp only[rG]) (by simp only[Rg];simp[rW]) rfl ?_;rintro s1 d1 c' ⟨⟨b,rfl,hbP⟩,HM,hF⟩ hc1 hc2 k10 ⟨k3,-⟩;have f1:∀id,X.V<id->id<c->s1.h.get id=h.get id:=fun id h1 h2=>hF id (by omega) (by omega) (by omega)
 have s6:=(f1 (b5+1) (by omega) (by omega)).trans a6;have n6:b5+1<s1.c:=by omega
 refine⟨by simp[rW],⟨?_⟩⟩;simp[rW,k3,k10,s6,n6,zaV];have hs0:St0 s1.h b2 X:=HA.s0.up fun id h1 h2=>hF id (by omega) (by omega) (by omega)
 have hne:∀id,id≠b5+1->(s1.h.set (b5+1) (.arr 1 0 [[.f (.b b)]])).get id=s1.h.get id:=fun id hn=>by rw[TG,Z49 hn]
 refine⟨⟨τ,Ext.rfl' _,HM.far hs0 (fun id _ h2=>hne id (by omega)) (by omega)⟩,⟨!b,rfl,?_⟩,⟨fun id h1 h2 h3 h4=>(hne id fun e=>h4 (.inr (.inr (.inr e)))).trans (hF id (by omega) h2 h3),fun id hF=> .inl hF⟩⟩;rw[Bool.not_not];refine⟨by rw[hne _ (by omega),f1 _ (by omega) (by omega)];exact a2,by rw[hne _ (by omega),f1 _ (by omega) (by omega)];exact a3,by rw[hne _ (by omega),f1 _ (by omega) (by omega)];exact a5,by rw[TG,Z51 rfl],hs0.up fun id _ h1=>hne id (by omega),by omega,fun e j t' hj ht'=> ?_,fun e=>⟨k,t,ht,τ,hb,hbP.1 e⟩⟩;rcases Z145 j k with h1|h1
 .exact hno j t' h1 ht'
 .have:j=k:=by omega
  subst this;rw[ht]at ht';cases ht';rintro⟨τ',hb',hs'⟩;rw[hb]at hb';cases hb';rw[hbP.2 hs']at e;cases e
def zNd{L:List Rl}{h:T Ob}{c:Nat}{X:Mx}{σ:Asg}(H:MS L h c X σ)(hcn:zde L X σ=true){g:Nat}(hg0:g≠0)(hgl:g<2 ^ X.WP.length)(hp:∀g',g'<g->zyS L X g'):Eff pr 188 [.ptr X.M 7 0 0,.f (.i .u64 g)] h c (PoP L X σ (Sat L X σ g) h c):=by
 refine zcm kps fn188 (fun d h' c' hP _ _=>hP.clo H) ?_;have hm:=H.m.m;have ho:=H.m.o;have hg64:g<64:=Z15 hgl (Z113 (by decide) H.o.Pl);have n1:¬c=c+1:=by omega
 simp only[zz8,rU];simp[rW,st0,zal,n1];refine zbO [(2,.ptr c 1 0 0),(3,.ptr (c+1) 1 0 0)] (zB2 (c:=c+1+1) (H.up (h':=(h.set c (.arr 1 0 [[.ptr X.M 7 0 0]])).set (c+1) (.arr 1 0 [[.f (.i .u64 g)]])) (fun id hid=>by rw[TG,Z49 (by omega),TG,Z49 (by omega)]) (by omega)) hg0 hgl) (by simp only[rG]) (by simp only[rG]) (by simp only[Rg];simp[rW]) rfl ?_;rintro s1 d1 ⟨⟨i,rfl,hi⟩,hf⟩ hc1 k9 ⟨k2,k3,-⟩;have f1:∀id,id<c->s1.h.get id=h.get id:=fun id hid=>by rw[hf id (by omega),TG,Z49 (by omega),TG,Z49 (by omega)]
 have g2:s1.h.get c=some (.arr 1 0 [[.ptr X.M 7 0 0]]):=by rw[hf c (by omega),TG,Z49 (by omega),TG,Z51 rfl]
 have g3:s1.h.get (c+1)=some (.arr 1 0 [[.f (.i .u64 g)]]):=by rw[hf _ (by omega),TG,Z51 rfl]
 have hil:=zei hgl hi;have hi6:=zei (n:=6) hg64 hi;obtain⟨q,hq⟩ :∃q,X.WP[i]? =some q:=⟨X.WP[i],Z0 hil⟩
 have hPq:=H.o.P q (Z39 hq);obtain⟨r,hr⟩ :∃r,L[q.1.r]? =some r:=⟨L[q.1.r]'hPq.r,Z0 hPq.r⟩
 have hss:=zGd H.o H.m.n hi hq hr (zvh hg64 hi6);have n2:¬c=s1.c:=by omega
 have n3:¬c=s1.c+1:=by omega
 have n4:¬s1.c=s1.c+1:=by omega
 refine⟨?_⟩;simp[rW,k2,k3,k9,g2,g3,n2,n3,n4];obtain⟨h2,hh2⟩ :∃h2,h2=(((s1.h.set s1.c (.arr 1 0 [[.f (.i .i64 0)]])).set s1.c (.arr 1 0 [[.f (.i .i64 i)]])).set (s1.c+1) (.arr 1 0 [[.f (.b false)]])).set (s1.c+1) (.arr 1 0 [[.f (.b false)]]):=⟨_,rfl⟩
 have f2:∀id,id<s1.c->h2.get id=s1.h.get id:=fun id hid=>by rw[hh2,TG,Z49 (by omega),TG,Z49 (by omega),TG,Z49 (by omega),TG,Z49 (by omega)]
 have H2:MS L h2 (s1.c+1+1) X σ:=H.up (fun id hid=>(f2 id (by omega)).trans (f1 id hid)) (by omega);have HA:SmA L X σ q.1 r g (rmN g i) i c s1.c 0 false h2 (s1.c+1+1):=⟨(f2 _ (by omega)).trans g2,(f2 _ (by omega)).trans g3,by rw[hh2,TG,Z49 (by omega),TG,Z49 (by omega),TG,Z51 rfl],by rw[hh2,TG,Z51 rfl],H.st.up fun id _ h1=>(f2 id (by omega)).trans (f1 id h1),by omega,fun _ j t hj=>absurd hj (by omega),fun e=>by cases e⟩
 refine zbO [(6,.ptr (s1.c+1) 1 0 0)] (zB3 H2 hcn smV hq hr HA (fun k b h' c' HA' hf'=> ?_) (fun k t τ h1 c1 ht hb HM HA' _=>zNl hg64 hi (hp _ (zAS hg64 hi)) ht hb HM HA') (fun k t h1 c1 ht hb HA'=> ?_) (fun id hF=> ?_)) (by simp only[rG];exact hh2.symm) (by simp only[rG]) (by simp only[Rg];simp[rW]) rfl ?_
 .exact⟨HA.a2,HA.a3,HA.a5,by rw[<-hf' _ (by omega)];exact HA'.a6,HA.s0,HA.lt,HA'.no,HA'.yes⟩
 .refine⟨HA'.a2,HA'.a3,HA'.a5,HA'.a6,HA'.s0,HA'.lt,fun _ j t' hj ht'=> ?_,fun e=>by cases e⟩;rcases Z145 j k with h1|h1
  .exact HA'.no rfl j t' h1 ht'
  .have:j=k:=by omega
   subst this;rw[ht]at ht';cases ht';rintro⟨τ',hb',_⟩;rw[hb]at hb';cases hb'
 .rcases hF with rfl|rfl|rfl|rfl<;>omega
 rintro s3 d3 ⟨HM3,⟨b,k,rfl,HA3,hbk⟩,hL⟩ hc3 - ⟨j6,-⟩;have g6:=HA3.a6;refine⟨?_⟩;simp[rW,j6,g6,zaV];refine⟨⟨!b,rfl,?_⟩,HM3,fun id h1 h2 h3=> ?_⟩
 .rw[hss];cases b with
  |true=>
   have hk:=hbk rfl;subst hk;have hno:=HA3.no rfl;refine⟨(fun e=>by cases e),?_⟩;rintro⟨j,t,τ,ht,hb,hs⟩;exact absurd ⟨τ,hb,hs⟩ (hno j t ((Z8.1 ht).1) ht)
  |false=>
   obtain⟨j,t,ht,τ,hb,hs⟩ :=HA3.yes rfl;exact⟨fun _=>⟨j,t,τ,ht,hb,hs⟩,fun _=>rfl⟩
 .rw[hL.1 id (by omega) h2 h3 (by unfold SmF;omega)];exact (f2 id (by omega)).trans (f1 id h1)
def fn115:pr.fn 115=some zzQ:=by kernel_rfl
def fn114:pr.fn 114=some zzP:=by kernel_rfl
def fn68:pr.fn 68=some g68:=by kernel_rfl
def fn66:pr.fn 66=some g66:=by kernel_rfl
def sub_le{a b:Nat}(h:Sub a b):a<=b:=by
 have e:a&&& b=a:=Nat.eq_of_testBit_eq fun j=>by
  rw[Nat.testBit_and];cases ha:a.testBit j with
  |false=>rfl
  |true=>rw[h j ha];rfl
 rw[<-e];exact Z203
def Jp(L:List Rl)(X:Mx)(σ:Asg)(rest:Nat)(h:T Ob)(c k:Nat)(s:St):Prop:=(s.tm.get 0=some (.ptr X.M 7 0 0)/\s.tm.get 1=some (.f (.i .u64 k)))/\k<=rest/\(Sat L X σ rest↔Sat L X σ k)/\MS L s.h s.c X σ/\Fr X c h s.h/\c<=s.c
def Rp(L:List Rl)(X:Mx)(σ:Asg)(rest:Nat)(h:T Ob)(c:Nat)(e:Ex)(s:St):Prop:=(e= .exit 0/\Jp L X σ rest h c 0 s)\/(e= .ret/\s.tm.get 4=some (.f (.b false))/\¬Sat L X σ rest/\MS L s.h s.c X σ/\Fr X c h s.h)
def zIj(L:List Rl)(X:Mx):∀rest:Nat,rest<2 ^ X.WP.length->zyS L X rest:=by
 intro rest
 induction rest using Nat.strongRecOn with
 |ind rest ih=>
  intro hrl h c σ H hcn;refine zcm kps fn115 (fun d h' c' hP _ _=>hP.clo H) ?_;have hPl:=H.o.Pl;have hr64:rest<64:=Z15 hrl (Z113 (by decide) hPl);simp only[zzQ,rU];simp[rW,st0,zal];refine zcJ (fun k s=>Jp L X σ rest h c k s) (Rp L X σ rest h c) ?_ rest _ ⟨⟨?_,?_⟩,Z2 _,Iff.rfl,H.up (fun _ _=>rfl) (by simp only[rG];omega),fun _ _ _ _=>rfl,by simp only[rG];omega⟩ ?_
  .rintro k s ⟨⟨h0,h1⟩,hk,hS,HM,hF,hc⟩
   by_cases hz:k=0
   .subst hz;simp[rW,h0,h1,zhu];exact .inl ⟨rfl,⟨by simp[rW,h0],by simp[rW,h1]⟩,hk,hS,HM.up (fun _ _=>rfl) (by simp only[rG];omega),hF,by simp only[rG];omega⟩
   .have hz2:(((k:Nat):Int)==0)=false:=by simpa using hz
    have hkl:k<2 ^ X.WP.length:=by omega
    have hk64:k<64:=by omega
    simp[rW,h0,h1,zhu,hz2];refine zbO [(0,.ptr X.M 7 0 0),(1,.f (.i .u64 k))] (zNc HM hz hkl) (by simp only[rG]) (by simp only[rG]) (by simp only[Rg];simp[rW,h0,h1]) rfl ?_;rintro s1 d1 ⟨⟨g,r,rfl,hg64,HG⟩,hf1⟩ hc1 k10 ⟨k0,k1,-⟩;have hgk:=sub_le HG.gs;have hg0:g≠0:=fun e=>by have:=HG.g0;rw[e,Nat.zero_testBit]at this;cases this
    have HM1:=HM.up hf1 hc1;refine⟨?_⟩;simp[rW,k0,k1,k10];refine zbO [(0,.ptr X.M 7 0 0),(1,.f (.i .u64 k)),(5,.f (.i .u64 g))] (zNd HM1 hcn hg0 (by omega) fun g' hg'=>ih g' (by omega) (by omega)) (by simp only[rG]) (by simp only[rG]) (by simp only[Rg];simp[rW,k0,k1,k10]) rfl ?_;rintro s2 d2 ⟨⟨b,rfl,hb⟩,HM2,hF2⟩ hc2 j13 ⟨j0,j1,j5,-⟩;have hF3:Fr X c h s2.h:=(hF.trans (fun id h1 _ _=>hf1 id (by omega)) hc).trans hF2 (by omega);have hgr:=zDG (rest':=zdf k g) H.o H.m.n H.m.n6 HG (fun j=>by
     rw[zid hk64 hg64,Z14,Z80])
    have ban:=zka hk64 hg64;have hlt:zdf k g<k:=by
     have h1:zdf k g<=k:=Nat.and_le_left;have h2:zdf k g≠k:=fun e=>by
      have:=zid (i:=tz k) hk64 hg64;rw[e,HG.g0,(zju hk64 hz).1]at this;cases this
     omega
    refine⟨?_⟩;cases b with
    |true=>
     simp[rW,j0,j1,j5,j13,ban];exact⟨_,hlt,⟨by simp[rW,j0],by simp[rW]⟩,by omega,by rw[hS,hgr];exact⟨fun h=>h.2,fun h=>⟨hb.1 rfl,h⟩⟩,HM2.up (fun _ _=>rfl) (by simp only[rG];omega),hF3,by simp only[rG];omega⟩
    |false=>
     simp[rW,j0,j1,j5,j13];exact .inr ⟨rfl,by simp[rW],(fun h=>by have:=hb.2 (hgr.1 (hS.1 h)).1;cases this),HM2.up (fun _ _=>rfl) (by simp only[rG];omega),hF3⟩
  .simp[rW]
  .simp[rW]
  .rintro e s (⟨rfl,⟨h0,h1⟩,hk,hS,HM,hF,hc⟩ |⟨rfl,h4,hS,HM,hF⟩)
   .simp[rW,h0,h1,zaV];exact⟨⟨true,rfl,fun _=>hS.2 (sat_0 hcn),fun _=>rfl⟩,HM.up (fun _ _=>rfl) (by first|(simp only[rG];omega)|omega),hF⟩
   .simp[rW,h4,zaV];exact⟨⟨false,rfl,(fun e=>by cases e),fun h=>absurd h hS⟩,HM,hF⟩
def e0(X:Mx):Asg:=List.replicate X.ns.length none
theorem zuY:∀n:Nat,zaO (List.replicate n none)=0
 |0=>rfl
 |n+1=>by rw[Z181,zaO,zuY n];rfl
def zuh(X:Mx)(i:Nat)(z:Int):¬(e0 X)[i]? =some (some z):=by
 unfold e0;rw[Z160];split<;>simp
def zpc(X:Mx){σ:Asg}(h:σ.length=X.ns.length):Ext (e0 X) σ:=⟨by simp[e0,h],fun i z hz=>absurd hz (zuh X i z)⟩
def StP(L:List Rl)(X:Mx)(h:T Ob)(c:Nat)(d:D)(h':T Ob)(c':Nat):Prop:=d= .f (.b (zde L X (e0 X)))/\MS L h' c' X (e0 X)/\Fr X c h h'
def zM3{L:List Rl}{h:T Ob}{c:Nat}{X:Mx}{σ:Asg}(H:MS L h c X σ):Eff pr 114 [.ptr X.M 7 0 0] h c (StP L X h c):=by
 have hm:=H.m.m;have ho:=H.m.o;have hn:=H.m.n;refine zcm kps fn114 (fun d h' c' ⟨a,b,_⟩ _ hf=>⟨a,?_,Fr.refl _ _ _⟩) ?_
 .have hb:=b.m.m;rw[hf X.M (by omega)]at hb;exact⟨H.m.back (zpc X hn) hb (fun _ _ _=>rfl) (Z2 _),H.s,H.o⟩
 have n4:X.M<c:=by omega
 simp only[zzP,rU];simp[rW,st0,zal,hm,n4];obtain⟨h2,hh2⟩ :∃h2,h2=h.set X.M (.arr 7 0 [[.ptr X.S 2 0 0,.f (zah X.ns),X.dP,X.dN,X.dC,.sl X.V 0 X.ns.length 3 X.ns.length true,.f (.i .u64 0)]]):=⟨_,rfl⟩
 have hne:∀id,id≠X.M->h2.get id=h.get id:=fun id hn=>by rw[hh2,TG,Z49 hn]
 have H2:MS L h2 c X (e0 X):=⟨H.m.back (zpc X hn) (by rw[hh2,TG,Z51 rfl];unfold e0;rw[zuY];rfl) (fun id _ h2=>hne id h2) (Z2 _),H.s.up fun id _ h2=>hne id (by omega),H.o⟩
 refine zbO [] (zB4 H2) (by simp only[rG];exact hh2.symm) (by simp only[rG]) trivial rfl ?_;rintro s1 d1 ⟨rfl,hf⟩ hc1 k7 -;refine⟨?_⟩;simp[rW,k7,zaV];exact⟨rfl,H2.up hf hc1,fun id h1 h3 h4=>(hf id h1).trans (hne id h3)⟩
theorem t_all:((List.range 7).all fun n=>match zaH .sub (.i .u64 ((2 ^ n:Nat):Int)) (.i .u64 1)with
 |some (.i .u64 z)=>z==((2 ^ n - 1:Nat):Int)
 |_=>false)=true:=by kernel_rfl
def zHz{L:List Rl}{h:T Ob}{c:Nat}{X:Mx}{σ:Asg}(H:MS L h c X σ):Eff pr 68 [.ptr X.M 7 0 0] h c (Same (.f (.i .u64 ((2 ^ X.WP.length - 1:Nat):Int))) h c):=by
 refine zcm kps fn68 (fun d h' c' ⟨a,_⟩ _ _=>⟨a,fun _ _=>rfl⟩) ?_;have hm:=H.m.m;have hPl:=H.o.Pl;have lP:=zdL H.m.P.1;have hpd:(paD X.WP).length=X.WP.length:=by simp[paD]
 rw[hpd]at lP;have hsh:=zjE (i:=X.WP.length) (by omega);have hsb:zaH .sub (.i .u64 ((2 ^ X.WP.length:Nat):Int)) (.i .u64 1)=some (.i .u64 ((2 ^ X.WP.length - 1:Nat):Int)):=by
  have h1:=Z50.1 t_all X.WP.length (by simp;omega);split at h1
  .rename_i z e;rw[e,eq_of_beq h1]
  .cases h1
 generalize 2 ^ X.WP.length - 1=w2 at hsb;generalize 2 ^ X.WP.length=w at hsh hsb;simp only[g68,rU];simp[rW,st0,zal,hm,lP,hsh,hsb,zaV];exact⟨rfl,fun _ _=>rfl⟩
def zGI(L:List Rl)(X:Mx):Prop:=Sat L X (e0 X) (2 ^ X.WP.length - 1)
def HoP(L:List Rl)(X:Mx)(h:T Ob)(c:Nat)(d:D)(h':T Ob)(c':Nat):Prop:=(∃b:Bool,d= .f (.b b)/\(b=true↔zGI L X))/\MS L h' c' X (e0 X)/\Fr X c h h'
def eff66{L:List Rl}{h:T Ob}{c:Nat}{X:Mx}{σ:Asg}(H:MS L h c X σ):Eff pr 66 [.ptr X.M 7 0 0] h c (HoP L X h c):=by
 have hm:=H.m.m;have ho:=H.m.o;have hn:=H.m.n;refine zcm kps fn66 (fun d h' c' ⟨a,b,_⟩ _ hf=>⟨a,?_,Fr.refl _ _ _⟩) ?_
 .have hb:=b.m.m;rw[hf X.M (by omega)]at hb;exact⟨H.m.back (zpc X hn) hb (fun _ _ _=>rfl) (Z2 _),H.s,H.o⟩
 simp only[g66,rU];simp[rW,st0,zal];refine zbO [(0,.ptr X.M 7 0 0)] (zM3 H) (by simp only[rG]) (by simp only[rG]) (by simp only[Rg];simp[rW]) rfl ?_;rintro s1 d1 ⟨rfl,H1,hF1⟩ hc1 k4 ⟨k0,-⟩;refine⟨?_⟩;cases hcn:zde L X (e0 X)with
 |false=>
  rw[hcn]at k4;simp[rW,k0,k4,zaV];refine⟨⟨false,rfl,(fun e=>by cases e),fun hs=> ?_⟩,H1,hF1⟩;obtain⟨τ,he,_,hc'⟩ :=hs;rw[zlh he hc']at hcn;cases hcn
 |true=>
  rw[hcn]at k4;simp[rW,k0,k4];refine zbO [(5,.f (.b true)),(7,.ptr X.M 7 0 0),(6,.ptr X.M 7 0 0)] (zHz H1) (by simp only[rG]) (by simp only[rG]) (by simp only[Rg];simp[rW,k0,k4]) rfl ?_;rintro s2 d2 ⟨rfl,hf2⟩ hc2 j8 ⟨j5,j7,j6,-⟩;refine⟨?_⟩;simp[rW,j5,j6,j7,j8];refine zbO [(5,.f (.b true))] (zIj L X _ (by have:=Nat.two_pow_pos X.WP.length;omega) s2.h s2.c (e0 X) (H1.up hf2 hc2) hcn) (by simp only[rG]) (by simp only[rG]) (by simp only[Rg];simp[rW,j5]) rfl ?_;rintro s3 d3 ⟨⟨b,rfl,hb⟩,HM,hF3⟩ hc3 i9 ⟨i5,-⟩;refine⟨?_⟩;simp[rW,i5,i9,zaV];exact⟨⟨b,rfl,hb⟩,HM,(hF1.trans (fun id h1 _ _=>hf2 id (by omega)) hc1).trans hF3 (by omega)⟩
def fn65:pr.fn 65=some g65:=by kernel_rfl
def fn112:pr.fn 112=some zzN:=by kernel_rfl
def fn185:pr.fn 185=some zz7:=by kernel_rfl
def fn184:pr.fn 184=some zz3:=by kernel_rfl
def fn113:pr.fn 113=some zzO:=by kernel_rfl
def zgz{α:Type}(p:α->Bool)(l:List α):Int:=match l.findIdx? p with
 |some i=>i
 |none=> -1
def zuC{α:Type}{p:α->Bool}{l:List α}{n:Nat}(h:n<l.length)(h1:p l[n]=true)(h2:∀m (h':m<n),p (l[m]'(by omega))=false):zgz p l=n:=by
 have:l.findIdx? p=some n:=by
  rw[Z26];exact⟨h,h1,fun j hj=>by simp[h2 j hj]⟩
 simp[zgz,this]
def zxq{α:Type}{p:α->Bool}{l:List α}(h:∀a∈l,p a=false):zgz p l= -1:=by
 have:l.findIdx? p=none:=by
  rw[Z43];exact h
 simp[zgz,this]
def Jix(l:List Str)(v:Str)(n:Nat)(s:St):Prop:=s.tm.get 0=some (.f (zah l))/\s.tm.get 1=some (.f (.s v))/\s.tm.get 7=some (.f (.i .i64 l.length))/\s.tm.get 8=some (.f (.i .i64 n))
def Rix(v:Int)(e:Ex)(s:St):Prop:=e= .ret/\s.tm.get 4=some (.f (.i .i64 v))
def zy2(l:List Str)(v:Str)(hl:l.length<1000):Ans pr 65 [zah l,.s v] (.i .i64 (zgz (fun x=>v==x) l)):=by
 refine zcx fn65 ?_;simp only[g65,rU];simp[rW,st0,zal,za4,zdw];refine zsA l (fun x=>v==x) (Jix l v) (fun e s=>e= .exit 0) (fun n=>Rix n) ?_ ?_ _ ⟨?_,?_,?_,?_⟩ ?_ ?_
 .rintro n s hlt ⟨h0,h1,h7,h8⟩;have hw:=zau n (by omega);have hx:l[n]? =some l[n]:=Z0 hlt;generalize hA:l[n]=a at hx
  by_cases hv:v=a
  .simp[rW,h0,h1,h7,h8,hlt,zfz,hx,hA,hv];exact⟨rfl,by simp[rW]⟩
  .simp[rW,h0,h1,h7,h8,hlt,zfz,hx,hA,hv,hw];exact⟨by simp[rW,h0],by simp[rW,h1],by simp[rW,h7],by simp[rW,hw]⟩
 .rintro s ⟨h0,h1,h7,h8⟩;simp[rW,h0,h1,h7,h8]
 .simp[rW]
 .simp[rW]
 .simp[rW]
 .simp[rW]
 .rintro h e s rfl;rw[zxq h];simp[rW]
 .rintro n hn h1 h2 e s ⟨rfl,h4⟩;rw[zuC hn h1 h2];simp[rW,h4]
def zNa{h:T Ob}{c C:Nat}{nm:Str}(hC:h.get C=some (.arr 1 0 [[.f (.s nm)]]))(hCc:C<c)(r:Rl)(hr:r.co.d= .f r.co)(hrc:(D.f r.co).cells=some [.f r.co]):Eff pr 185 [.ag ((rlF r).map D.f),.ptr C 1 0 0] h c (Same (.f (.b (r.nm==nm))) h c):=by
 refine zcm kps fn185 (fun d h' c' ⟨a,_⟩ _ _=>⟨a,fun _ _=>rfl⟩) ?_;have n1:¬C=c:=by omega
 simp only[zz7,rU];simp[rW,st0,zal,rlE,hC,n1,zaV];exact⟨rfl,fun id hid=>by rw[TG,Z49 (by omega)]⟩
def Jixf(L:List Rl)(C:Nat)(h:T Ob)(c n:Nat)(s:St):Prop:=(s.tm.get 0=some (.f (zbS L))/\s.tm.get 1=some (.fn 185 [] [.ptr C 1 0 0])/\s.tm.get 7=some (.f (.i .i64 L.length))/\s.tm.get 8=some (.f (.i .i64 n)))/\c<=s.c/\∀id,id<c->s.h.get id=h.get id
def Rixf(h:T Ob)(c:Nat)(v:Int)(e:Ex)(s:St):Prop:=e= .ret/\s.tm.get 4=some (.f (.i .i64 v))/\∀id,id<c->s.h.get id=h.get id
def zM8{h:T Ob}{c C:Nat}{nm:Str}(hC:h.get C=some (.arr 1 0 [[.f (.s nm)]]))(hCc:C<c){L:List Rl}(hl:L.length<1000)(ho:∀r∈L,r.co.d= .f r.co/\(D.f r.co).cells=some [.f r.co]):Eff pr 184 [.f (zbS L),.fn 185 [] [.ptr C 1 0 0]] h c (Same (.f (.i .i64 (zgz (fun r=>r.nm==nm) L))) h c):=by
 refine zcm kps fn184 (fun d h' c' ⟨a,_⟩ _ _=>⟨a,fun _ _=>rfl⟩) ?_;simp only[zz3,rU];simp[rW,st0,zal,zlH,zra];refine zsA L (fun r=>r.nm==nm) (Jixf L C h c) (fun e s=>e= .exit 0/\∀id,id<c->s.h.get id=h.get id) (fun n=>Rixf h c n) ?_ ?_ _ ⟨⟨?_,?_,?_,?_⟩,?_,?_⟩ ?_ ?_
 .rintro n s hlt ⟨⟨h0,h1,h7,h8⟩,hc,hf⟩;have hw:=zau n (by omega);have hx:L[n]? =some L[n]:=Z0 hlt;obtain⟨o1,o2⟩ :=ho _ (Z1 hlt);have hA:∀h,(L[n]'h)=L[n]:=fun _=>rfl
  generalize hr:L[n]=r at hx o1 o2;have htd:(zbB r.tu).d= .f (zbB r.tu):=znD _;simp[rW,h0,h1,h7,h8,hlt,zmR,hx,hr,rlE,o1,htd];refine zbO [(0,.f (zbS L)),(1,.fn 185 [] [.ptr C 1 0 0]),(7,.f (.i .i64 L.length)),(8,.f (.i .i64 n)),(5,.f (.i .i64 n))] (zNa (h:=s.h) (c:=s.c) (nm:=nm) ((hf C hCc).trans hC) (by omega) r o1 o2) (by simp only[rG]) (by simp only[rG]) (by simp only[Rg];simp[rW,h0,h1,h7,h8]) rfl ?_;rintro s1 d1 ⟨rfl,hf1⟩ hc1 k16 ⟨k0,k1,k7,k8,k5,-⟩;have hf2:∀id,id<c->s1.h.get id=h.get id:=fun id hid=>(hf1 id (by omega)).trans (hf id hid)
  refine⟨?_⟩;cases hv:r.nm==nm with
  |true=>
   rw[hv]at k16;simp[rW,k0,k1,k7,k8,k5,k16];exact⟨by simpa using hv,rfl,by simp[rW],fun id hid=>by simp[rW];exact hf2 id hid⟩
  |false=>
   rw[hv]at k16;simp[rW,k0,k1,k7,k8,k5,k16,hw];exact⟨by simpa using hv,⟨by simp[rW,k0],by simp[rW,k1],by simp[rW,k7],by simp[rW,hw]⟩,by simp only[rG];omega,fun id hid=>by simp[rW];exact hf2 id hid⟩
 .rintro s ⟨⟨h0,h1,h7,h8⟩,hc,hf⟩;simp[rW,h0,h1,h7,h8];exact hf
 .simp[rW]
 .simp[rW]
 .simp[rW]
 .simp[rW]
 .simp only[rG];omega
 .intro id hid;simp[rW]
 .rintro h e s ⟨rfl,hf⟩;rw[zxq h];simp[rW,zaV];exact⟨rfl,hf⟩
 .rintro n hn h1 h2 e s ⟨rfl,h4,hf⟩;rw[zuC hn h1 h2];simp[rW,h4,zaV];exact⟨rfl,hf⟩
def zM1{h:T Ob}{c S lo:Nat}{L:List Rl}(HS:zdx h lo S L)(hlo:lo<=c)(hl:L.length<1000)(ho:∀r∈L,r.co.d= .f r.co/\(D.f r.co).cells=some [.f r.co])(nm:Str):Eff pr 112 [.ptr S 2 0 0,.f (.s nm)] h c (Same (.f (.i .i64 (zgz (fun r=>r.nm==nm) L))) h c):=by
 refine zcm kps fn112 (fun d h' c' ⟨a,_⟩ _ _=>⟨a,fun _ _=>rfl⟩) ?_;obtain⟨⟨PR,W,a1,-⟩,hS⟩ :=HS;have n1:¬S=c:=by omega
 simp only[zzN,rU];simp[rW,st0,zal,a1,n1];refine zbO [] (zM8 (h:=h.set c (.arr 1 0 [[.f (.s nm)]])) (c:=c+1) (C:=c) (nm:=nm) (by rw[TG,Z51 rfl]) (by omega) hl ho) (by simp only[rG]) (by simp only[rG]) trivial rfl ?_;rintro s1 d1 ⟨rfl,hf1⟩ hc1 k10 -;refine⟨?_⟩;simp[rW,k10,zaV];exact⟨rfl,fun id hid=>(hf1 id (by omega)).trans (by rw[TG,Z49 (by omega)])⟩
def zcn(ns:List Str):Trm->Opn
 | .var v=> .var (ns.findIdx fun x=>v==x)
 | .cst n=> .cst n
def ziq(ns:List Str):Trm->Prop
 | .var v=>v≠[]/\v∈ns
 | .cst _=>True
def zgQ{ns:List Str}{v:Str}(h:v∈ns):zgz (fun x=>v==x) ns=((ns.findIdx fun x=>v==x:Nat):Int)/\(ns.findIdx fun x=>v==x)<ns.length:=by
 have hlt:(ns.findIdx fun x=>v==x)<ns.length:=List.findIdx_lt_length.2 ⟨v,h,by simp⟩;refine⟨?_,hlt⟩;have:ns.findIdx? (fun x=>v==x)=some (ns.findIdx fun x=>v==x):=by
  rw[Z26];refine⟨hlt,List.findIdx_getElem (w:=hlt),fun j hj=> ?_⟩;have:=List.not_of_lt_findIdx hj;simpa using this
 simp[zgz,this]
def zgC{ns:List Str}{t:Trm}(h:ziq ns t):zet ns.length (zcn ns t):=by
 cases t with
 |cst n=>trivial
 |var v=>exact (zgQ h.2).2
def OpD(o:Opn):D:= .tu [.ag (o.c.map D.f),.f (.i .u64 (o.m:Nat))]
def zuj{h:T Ob}{c M:Nat}{ns:List Str}{r0 r2 r3 r4 r5 r6:D}(hM:h.get M=some (.arr 7 0 [[r0,.f (zah ns),r2,r3,r4,r5,r6]]))(hMc:M<c)(hn:ns.length<=6){t:Trm}(ht:ziq ns t):Eff pr 113 [.ptr M 7 0 0,.ag ((tmF t).map D.f)] h c (Same (OpD (zcn ns t)) h c):=by
 refine zcm kps fn113 (fun d h' c' ⟨a,_⟩ _ _=>⟨a,fun _ _=>rfl⟩) ?_;have n1:¬c=c+1:=by omega
 have n2:¬M=c:=by omega
 have n3:¬M=c+1:=by omega
 simp only[zzO,rU];cases t with
 |cst z=>
  simp[rW,st0,zal,tmF,n1,zaV];refine⟨rfl,fun id hid=> ?_⟩;have a1:¬id=c:=by omega
  have a2:¬id=c+1:=by omega
  simp[rW,a1,a2]
 |var v=>
  obtain⟨e1,e2⟩ :=zgQ ht.2;have q1:=fun k=>zad (k:=k) (zy2 ns v (by omega))
  rw[e1]at q1;have hv:=ht.1;have hsh:=zjE (i:=ns.findIdx fun x=>v==x) (by omega);have hO:OpD (zcn ns (.var v))= .tu [.ag [.f (.i .i64 ((ns.findIdx fun x=>v==x:Nat):Int)),.f (.i .i64 0),.f (.i .i64 0),.f (.s [])],.f (.i .u64 ((2 ^ (ns.findIdx fun x=>v==x):Nat):Int))]:=rfl;rw[hO];generalize 2 ^ (ns.findIdx fun x=>v==x)=w at hsh;generalize (ns.findIdx fun x=>v==x)=ii at*;have hsd:(zah ns).d= .f (zah ns):=za4 ns;simp[rW,st0,zal,tmF,n1,hv];refine zay ?_;simp[rW,hM,n1,n2,n3,q1,hsd];refine zay ?_;simp[rW,hsh,zaV];refine⟨rfl,fun id hid=> ?_⟩;have a1:¬id=c:=by omega
  have a2:¬id=c+1:=by omega
  simp[rW,a1,a2]
def fn64:pr.fn 64=some g64:=by kernel_rfl
def znh:C:=g64.body.r.r.r.l.r.b.o
def zzg:C:=znh.r.r.l.b.r.r.l.r.b.o
def tsO(ns:List Str)(l:List Trm):List Opn:=l.map (zcn ns)
def mTs(l:List Opn):Nat:=l.foldl (fun b t=>b|||t.m) 0
def zFx(l:List Opn)(t:Opn):opD (l++[t])=opD l++[t.c.map D.f]:=by simp[opD]
def zFk(l:List Opn)(t:Opn):mTs (l++[t])=mTs l|||t.m:=by simp[mTs]
def Jn2(R:List (Nat×D))(ns:List Str)(ts:List Trm)(n:Int)(h:T Ob)(b8 P8 k:Nat)(s:St):Prop:=Rg R s/\(s.tm.get 46=some (.f (zgd ts))/\s.tm.get 47=some (.f (.i .i64 ts.length))/\s.tm.get 48=some (.f (.i .i64 k)))/\b8<=s.c/\(∀id,id<b8->id≠P8->s.h.get id=h.get id)/\∃dT,s.h.get P8=some (.arr 3 0 [[.f (.i .i64 n),dT,.f (.i .u64 (mTs ((tsO ns ts).take k):Nat))]])/\Gro s.h b8 s.c 4 dT (opD ((tsO ns ts).take k))
theorem nm_l2{h:T Ob}{b8 P8 M k0:Nat}{S3 dA dL:D}{ns:List Str}{ts:List Trm}{n:Int}{C3 P7:D}{r0 r2 r3 r4 r5 r6:D}(hM:h.get M=some (.arr 7 0 [[r0,.f (zah ns),r2,r3,r4,r5,r6]]))(hMb:M<b8)(hMP:M≠P8)(hP8:P8<b8)(hn:ns.length<=6)(ht:∀t∈ts,ziq ns t)(hl:ts.length<1000){s:St}{K:Ex->St->Prop}
  (hJ:Jn2 [(0,S3),(3,C3),(5,.ptr M 7 0 0),(7,P7),(8,.ptr P8 3 0 0),(34,dA),(35,dL),(36,.f (.i .i64 k0))] ns ts n h b8 P8 0 s)(kx:∀s,Jn2 [(0,S3),(3,C3),(5,.ptr M 7 0 0),(7,P7),(8,.ptr P8 3 0 0),(34,dA),(35,dL),(36,.f (.i .i64 k0))] ns ts n h b8 P8 ts.length s->K (.exit 2) s):WL pr zzg s K:=by
 refine zcA ts.length (Jn2 [(0,S3),(3,C3),(5,.ptr M 7 0 0),(7,P7),(8,.ptr P8 3 0 0),(34,dA),(35,dL),(36,.f (.i .i64 k0))] ns ts n h b8 P8) (fun e s=>e= .exit 2/\Jn2 [(0,S3),(3,C3),(5,.ptr M 7 0 0),(7,P7),(8,.ptr P8 3 0 0),(34,dA),(35,dL),(36,.f (.i .i64 k0))] ns ts n h b8 P8 ts.length s) ?_ ?_ _ hJ ?_
 .rintro k s hlt ⟨⟨h0,h3,h5,h7,h8,h34,h35,h36,-⟩,⟨h46,h47,h48⟩,hc,hf,dT,gP,gT⟩;have hw:=zau k (by omega);have hx:ts[k]? =some ts[k]:=Z0 hlt;have hti:=ht _ (Z1 hlt);have hA:∀h,(ts[k]'h)=ts[k]:=fun _=>rfl
  generalize htt:ts[k]=t at hx hti;have htO:(tsO ns ts)[k]? =some (zcn ns t):=by simp[tsO,hx]
  have hOk:=zgC hti;obtain⟨u0,u1,u2,u3,eu⟩ :∃a b c d,tmF t=[a,b,c,d]:=by cases t<;>exact⟨_,_,_,_,rfl⟩
  obtain⟨o0,o1,o2,o3,eo⟩ :=zkq (zcn ns t);have hu:u0.d= .f u0/\u1.d= .f u1/\u2.d= .f u2/\u3.d= .f u3:=by
   cases t<;>(simp only[tmF,List.cons.injEq,and_true]at eu;obtain⟨rfl,rfl,rfl,rfl⟩ :=eu;exact⟨rfl,rfl,rfl,rfl⟩)
  obtain⟨hu0,hu1,hu2,hu3⟩ :=hu;have i1:¬P8=s.c:=by omega
  have i2:¬M=s.c:=by omega
  have hm':s.h.get M=_:=(hf M hMb hMP).trans hM;unfold zzg znh g64;simp only[rU,C.l,C.r,C.b,C.o];simp[rW,h0,h3,h5,h7,h8,h34,h35,h36,h46,h47,h48,hlt,zqo,hx,htt,eu,hu0,hu1,hu2,hu3,i1,i2];have hua:[D.f u0,D.f u1,D.f u2,D.f u3]=(tmF t).map D.f:=by rw[eu];rfl
  rw[hua];refine zbO [(0,S3),(3,C3),(5,.ptr M 7 0 0),(7,P7),(8,.ptr P8 3 0 0),(34,dA),(35,dL),(36,.f (.i .i64 k0)),(46,.f (zgd ts)),(47,.f (.i .i64 ts.length)),(48,.f (.i .i64 k))] (zuj (h:=(s.h.set s.c (.arr 4 0 [[.f (.s []),.f (.i .i64 0),.f (.i .i64 0),.f (.s [])]])).set s.c (.arr 4 0 [(tmF t).map D.f])) (c:=s.c+1) (by rw[TG,Z49 i2,TG,Z49 i2];exact hm') (by omega) hn hti) (by simp only[rG]) (by simp only[rG]) (by simp only[Rg];simp[rW,h0,h3,h5,h7,h8,h34,h35,h36,h46,h47,h48]) rfl ?_;rintro s1 d1 ⟨rfl,hf1⟩ hc1 k55 ⟨k0',k3,k5,k7,k8,k34,k35,k36,k46,k47,k48,-⟩;have f1:∀id,id<s.c->s1.h.get id=s.h.get id:=fun id hid=>by rw[hf1 id (by omega),TG,Z49 (by omega),TG,Z49 (by omega)]
  have gP1:=(f1 P8 (by omega)).trans gP;have gT1:Gro s1.h b8 (s1.c+1) 4 dT (opD ((tsO ns ts).take k)):=zaS gT (by omega) fun id _ h2=>f1 id h2
  have hom:=zl4 (a:=mTs ((tsO ns ts).take k)) (b:=(zcn ns t).m) (zq9 hn _ _ (by decide) fun x hx=>by
   obtain⟨y,hy,rfl⟩ :=Z12.1 (Z13 hx);exact zgC (ht y hy)) (zk0 hOk hn)
  have htk:(tsO ns ts).take (k+1)=(tsO ns ts).take k++[zcn ns t]:=by rw[Z105,htO];rfl
  have hms:Nat.lor (mTs ((tsO ns ts).take k)) (zcn ns t).m=mTs ((tsO ns ts).take (k+1)):=by rw[htk,zFk];rfl
  rw[hms]at hom;have hOD:OpD (zcn ns t)= .tu [.ag [.f o0,.f o1,.f o2,.f o3],.f (.i .u64 ((zcn ns t).m:Nat))]:=by unfold OpD;rw[eo];rfl
  rw[hOD]at k55;generalize (zcn ns t).m=om at k55 hom;have j1:¬P8=s1.c:=by omega
  refine⟨?_⟩;simp[rW,k0',k3,k5,k7,k8,k34,k35,k36,k46,k47,k48,k55,gP1,j1];have hH:∀id,id<s.c->((s1.h.set s1.c (.arr 4 0 [[.f (.i .i64 0),.f (.i .i64 0),.f (.i .i64 0),.f (.s [])]])).set s1.c (.arr 4 0 [[.f o0,.f o1,.f o2,.f o3]])).get id=s.h.get id:=fun id hid=>by
   rw[TG,Z49 (by omega),TG,Z49 (by omega)];exact f1 id hid
  have hlen:(opD ((tsO ns ts).take k)).length<=k:=by simp[opD];omega
  have gT2:=zaS (c':=s1.c+1) gT (by omega) fun id _ h2=>hH id h2
  refine zfb gT2 (by omega) (by simp only[Z23,Z170];omega) (by omega) ?_;intro r hr1 hr2 hr3 hr4 hr5;have hne:dT.oid≠some P8:=zfd gT hP8;have gP2:=hr4 P8 (by omega) hne;rw[hH P8 (by omega),gP]at gP2;have hrc:=zbu hr2;have j3:P8<r.c:=by omega
  have hsn:opD ((tsO ns ts).take k)++[[D.f o0,D.f o1,D.f o2,D.f o3]]=opD ((tsO ns ts).take (k+1)):=by rw[htk,zFx,eo];rfl
  rw[hsn]at hr2;simp[rW,hr1,gP2,hrc,j3,hom,hw];refine⟨by simp only[Rg];simp[rW,k0',k3,k5,k7,k8,k34,k35,k36],⟨by simp[rW,k46],by simp[rW,k47],by simp[rW,hw]⟩,by simp only[rG];omega,fun id h1 h2=> ?_,r.d,by simp[rW],?_⟩
  .simp[rW,h2];rw[hr4 id (by omega) (zfd gT h1),hH id (by omega)];exact hf id h1 h2
  .refine zaS hr2 (by simp only[rG];omega) fun id h1 _=> ?_
   have a:¬id=P8:=by omega
   simp[rW,a]
 .rintro s ⟨⟨h0,h3,h5,h7,h8,h34,h35,h36,-⟩,⟨h46,h47,h48⟩,hc,hf,dT,gP,gT⟩;unfold zzg znh g64;simp only[rU,C.l,C.r,C.b,C.o];simp[rW,h46,h47,h48];exact⟨by simp only[Rg];simp[rW,h0,h3,h5,h7,h8,h34,h35,h36],⟨by simp[rW,h46],by simp[rW,h47],by simp[rW,h48]⟩,by simp only[rG];omega,fun id h1 h2=>by simp[rW];exact hf id h1 h2,dT,by simp[rW,gP],zaS gT (by simp only[rG];omega) (fun _ _ _=>rfl)⟩
 .rintro e s ⟨rfl,hJ⟩;exact kx s hJ
end Go.Proofs.YtbhholaillniiaaGreatDoor
end
