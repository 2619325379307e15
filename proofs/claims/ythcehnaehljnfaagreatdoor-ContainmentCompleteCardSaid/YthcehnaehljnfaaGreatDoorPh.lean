/- The matcher: project, where all of the head is known. -/
import Derived.Test.YthcehnaehljnfaaGreatDoorPg
import Derived.KernelRfl
import Derived.IntWalk
import Derived.Test.YthcehnaehljnfaaGreatDoorPb
import Derived.Test.YthcehnaehljnfaaGreatDoorPf
import Derived.Test.YthcehnaehljnfaaGreatDoorHb
import Derived.Test.YthcehnaehljnfaaGreatDoorProg
set_option linter.all false
set_option maxRecDepth 100000
set_option maxHeartbeats 4000000
noncomputable section
section
namespace Go.Proofs.YthcehnaehljnfaaGreatDoor
open Go Go.Vse Go.Vse.Sm
def zlR{V:List Int->Prop}{key:List Int->Str}(hK:ziZ V key){Mp:Nat}{E E':List Er}{h h':T Ob}{c c':Nat}(H:FmA V key Mp E h c)(H':FmA V key Mp E' h' c')(e:h'.get Mp=h.get Mp):E'=E:=by
 rw[H.m,H'.m]at e;simp only[Z45,Ob.map.injEq]at e;have h1:=H.e;have h2:=H'.e;clear H H'
 induction E generalizing E' with
 |nil=>simpa [mpE]using e
 |cons p E ih=>
  cases E' with
  |nil=>simp[mpE]at e
  |cons p' E'=>
   simp only[mpE,Z10,List.cons.injEq,Z66,F.s.injEq]at e;obtain⟨⟨e1,e2⟩,e3⟩ :=e;have e4:=hK.i _ _ (h2 p' (by simp)).2 (h1 p (by simp)).2 e1;rw[ih e3 (fun q hq=>h1 q (by simp[hq])) fun q hq=>h2 q (by simp[hq])]
   congr 1
   exact Prod.ext e2 e4
def zD3{dst:Option Nat}{l:List Go.Vse.Op}{x:A}{s:St}{Q:St->Prop}:wpO pr (⟨dst,none,.b2s x⟩ ::l) s Q↔oB (((O.b2s x).res (zah s.tm)).bind (opv s.h.get s.c)) fun r=>zau r.c r.wr=true/\wpO pr l (s.aft dst r.d r.wr r.c) Q:=zdp rfl
def zzm(f:A->Option D)(x:A):O.res f (.b2s x)=(f x).bind fun x=>some (.b2s x):=rfl
def zBh{h:T Ob}{c V es ro:Nat}{els:List (List D)}(hg:h.get V=some (.arr es ro els))(hV:V<c):∃W,roO h.get V [] (h.get V)=W/\zau c W=true/\(∀id,id≠V->(wrT h W).get id=h.get id)/\∃ro',(wrT h W).get V=some (.arr es ro' els):=by
 refine⟨_,rfl,?_⟩;rw[hg];simp only[roO];split
 .exact⟨rfl,fun _ _=>rfl,ro,hg⟩
 .refine⟨by simp[zau,zav,Z79,hV],fun id hid=> ?_,els.length,?_⟩
  .simp[wrT,zav,TG,hid]
  .simp[wrT,zav,TG]
def zTt{h:Nat->Option Ob}{id ro:Nat}{v:List Int}{b:Bool}(hg:h id=some (.arr 3 ro (vRw v))):frz h 12 (.sl id 0 v.length 3 v.length b)=some (.sl 3 (v.map Sm.vF),[id]):=by
 have e:((vRw v).drop 0).take v.length=vRw v:=by
  rw[Z34,Z11 (by simp[vRw])]
 have h2:=zok h 10 (v.map Sm.vF);rw[zfw,hg];simp only[om,Z46,fzS];rw[Z51 (by simp[vRw]),e];unfold vRw;rw[h2];rfl
def zS9{L:List Rl}{X:Mx}{Vz:Int->Prop}{key:List Int->Str}{Mp c0 e g:Nat}{hs:List Nat}{dE:D}(hK:ziZ (Vr Vz hs.length) key)(hl:hs.length<1000)(h6:∀j∈hs,j<6)(hgl:g<2 ^ X.WP.length){E:List Er}{σ:Asg}{h:T Ob}{c:Nat}(H:MS L h c X σ)(hcn:zcW L X σ=true)(hV:zo2 Vz σ)(H0:St0 h c0 X)(hc0:c0<=Mp)(hE:Gro h (X.V+1) e 1 dE (hsD hs))(he:e<=Mp)(HF:FmA (Vr Vz hs.length) key Mp E h c)(h0:frH σ hs=0):Eff pr 59 [.ptr X.M 7 0 0,.f (.i .u64 g),dE,.mp Mp] h c (PjP L X (Vr Vz hs.length) key Mp E σ g hs h c):=by
 refine zb2 kps fn59 (fun d h' c' ⟨_,⟨E',w1,w2⟩,_⟩ _ hf=>⟨H,⟨E,HF,by rw[zlR hK HF w1 (hf Mp HF.b)]at w2;exact w2⟩,Lft.refl _ _ _ _⟩) ?_;have hσ:σ.length<=6:=H.m.n6;have hb:∀i∈hs,(zaF σ (.var i)).isSome=true:=(frH_0 hσ h6).1 h0
 have hdc:=zbU hE;have hmp:=HF.b;have hmo:=H.m.o;have hst:=H0.o;have hrl:(hrow hs σ).length=hs.length:=by simp[hrow]
 obtain⟨h1,hh1⟩ :∃h1,h1=(((h.set c (.arr 1 0 [[.ptr X.M 7 0 0]])).set (c+1) (.arr 1 0 [[.f (.i .u64 g)]])).set (c+1+1) (.arr 1 0 [[dE]])).set (c+1+1+1) (.arr 1 0 [[.mp Mp]]):=⟨_,rfl⟩
 have f1:∀id,id<c->h1.get id=h.get id:=fun id hid=>by rw[hh1,TG,Z49 (by omega),TG,Z49 (by omega),TG,Z49 (by omega),TG,Z49 (by omega)]
 have g4:h1.get c=some (.arr 1 0 [[.ptr X.M 7 0 0]]):=by rw[hh1,TG,Z49 (by omega),TG,Z49 (by omega),TG,Z49 (by omega),TG,Z51 rfl]
 have g5:h1.get (c+1)=some (.arr 1 0 [[.f (.i .u64 g)]]):=by rw[hh1,TG,Z49 (by omega),TG,Z49 (by omega),TG,Z51 rfl]
 have g6:h1.get (c+1+1)=some (.arr 1 0 [[dE]]):=by rw[hh1,TG,Z49 (by omega),TG,Z51 rfl]
 have g7:h1.get (c+1+1+1)=some (.arr 1 0 [[.mp Mp]]):=by rw[hh1,TG,Z51 rfl]
 have H1:MS L h1 (c+4) X σ:=H.up f1 (by omega);have hE1:Gro h1 (X.V+1) e 1 dE (hsD hs):=zaV hE (Z2 _) fun id _ h2=>f1 id (by omega)
 have m2:¬c+1+1=c+1+1+1:=by omega
 have hEl:zco dE=some hs.length:=by rw[zd2 hE];simp[hsD]
 simp only[g59,rU];simp[rW,st0,zay,hdc,m2,hEl];refine zQA (L:=L) (h:=h1) (c:=c+4) (lo:=X.V+1) (e:=e) (b:=c+4) (c4:=c) (X:=X) (σ:=σ) (hs:=hs) (dE:=dE) (D5:= .ptr (c+1) 1 0 0) (D6:= .ptr (c+1+1) 1 0 0) (D7:= .ptr (c+1+1+1) 1 0 0) H1 (Z2 _) hE1 (by omega) h6 hl g4 (by omega) ⟨by simp only[Rg];simp[rW],⟨by simp[rW,frH],by simp[rW],by simp[rW],by simp[rW]⟩,by simp only[rG];omega,fun id hid=>by simp only[rG];rw[<-hh1]⟩ ?_;rintro s1 ⟨⟨k4,k5,k6,k7,-⟩,⟨h8,-⟩,hc1,hf1⟩;rw[Z7,h0]at h8;have g6':=(hf1 (c+1+1) (by omega)).trans g6;have r1:¬c+1+1=s1.c:=by omega
 have mx1:hs.length<=zaB:=by have:=zfW (n:=hs.length) (by omega);simpa using this
 have mx2:hs.length*32<=zaB:=by have:=zfW (n:=hs.length*32) (by omega);simpa using this
 simp[rW,k4,k5,k6,k7,h8,u_eq,g6',hEl,r1,mx1,mx2];obtain⟨h2,hh2⟩ :∃h2,h2=s1.h.set s1.c (.arr 3 0 (List.replicate hs.length [.f (.i .i64 0),.f (.i .i64 0),.f (.s [])])):=⟨_,rfl⟩
 have f2:∀id,id<s1.c->h2.get id=s1.h.get id:=fun id hid=>by rw[hh2,TG,Z49 (by omega)]
 have f12:∀id,id<c+4->h2.get id=h1.get id:=fun id hid=>(f2 id (by omega)).trans (hf1 id hid)
 have H2:MS L h2 (c+4) X σ:=H1.up f12 (Z2 _);refine pj_l2 (L:=L) (h:=h2) (c:=c+4) (lo:=X.V+1) (e:=e) (b:=s1.c+1) (c4:=c) (V:=s1.c) (X:=X) (σ:=σ) (hs:=hs) (dE:=dE) (D5:= .ptr (c+1) 1 0 0) (D6:= .ptr (c+1+1) 1 0 0) (D7:= .ptr (c+1+1+1) 1 0 0) H2 (by omega) (zaV hE1 (Z2 _) fun id _ h2=>f12 id (by omega)) (by omega) hb hl ((f12 c (by omega)).trans g4) (by omega) (by omega) ⟨by simp only[Rg];simp[rW,k4,k5,k6,k7],⟨by simp[rW],by simp[rW],by simp[rW],by simp[rW]⟩,by simp only[rG];omega,fun id h1 h2=>by simp only[rG];rw[<-hh2],by simp only[rG];rw[zH0,hrl,TG,Z51 rfl];rfl⟩ ?_;rintro s2 ⟨⟨j4,j5,j6,j7,-⟩,⟨h11,-⟩,hc2,hf2,gV⟩;rw[<-hrl,zze]at gV;obtain⟨v,hv⟩ :∃v,v=hrow hs σ:=⟨_,rfl⟩
 have hVv:=z1O hV hb;rw[<-hv]at gV hrl hVv;obtain⟨x,hx1,hx2⟩ :=hK.a v hVv;have q1:=fun k=>zaC (k:=k) hx1
 have fz:=zTt (b:=true) gV;rw[hrl]at fz;obtain⟨W,hW1,hW2,hW3,ro',hW4⟩ :=zBh (c:=s2.c) gV (by omega);have f3:∀id,id<c->(wrT s2.h W).get id=h.get id:=fun id hid=>by
  rw[hW3 id (by omega),hf2 id (by omega) (by omega),f2 id (by omega),hf1 id (by omega)];exact f1 id hid
 have p7:(wrT s2.h W).get (c+1+1+1)=some (.arr 1 0 [[.mp Mp]]):=by
  rw[hW3 _ (by omega),hf2 _ (by omega) (by omega),f12 _ (by omega)];exact g7
 have p4:(wrT s2.h W).get c=some (.arr 1 0 [[.ptr X.M 7 0 0]]):=by
  rw[hW3 _ (by omega),hf2 _ (by omega) (by omega),f12 _ (by omega)];exact g4
 have p5:(wrT s2.h W).get (c+1)=some (.arr 1 0 [[.f (.i .u64 g)]]):=by
  rw[hW3 _ (by omega),hf2 _ (by omega) (by omega),f12 _ (by omega)];exact g5
 have HF3:FmA (Vr Vz hs.length) key Mp E (wrT s2.h W) s2.c:=HF.up (fun id _ h2=>f3 id h2) (by omega);have H3:MS L (wrT s2.h W) s2.c X σ:=H.up f3 (by omega);have gm:=HF3.m
 by_cases hin:∃p∈E,key p.2=key v
 .obtain⟨jj,dd,hfk⟩ :=zsM (i:=0) hin;simp[rW,j4,j5,j6,j7,h11,fz,zcj,za2,q1,hx2,zD3,zzm,hW1,hW2,p7,gm,hfk,zaU];show PjP L X (Vr Vz hs.length) key Mp E σ g hs h c (.f .un) _ _;refine⟨H3,⟨E,HF3,fun w=>⟨.inl,fun hw=>hw.elim (fun h=>h) fun hw=> ?_⟩⟩,fun id h1 h2 h3 h4=>f3 id h1,fun id h=> .inl h⟩;obtain⟨p,hp,hpk⟩ :=hin;obtain⟨_,ew⟩ :=(zpq hb).1 hw;have:=hK.i _ _ (HF.e p hp).2 hVv hpk;rw[ew,<-hv,<-this];exact List.mem_map_of_mem hp
 .have hfk:=zyC (E:=E) (i:=0) fun p hp e=>hin ⟨p,hp,e⟩
  simp[rW,j4,j5,j6,j7,h11,fz,zcj,za2,q1,hx2,zD3,zzm,hW1,hW2,p7,gm,hfk,p4,p5];refine zbQ [(7,.ptr (c+1+1+1) 1 0 0),(71,.f (.b true)),(14,.f (.s (key v))),(11,.sl s1.c 0 hs.length 3 hs.length true)] (zQC L X g hgl _ _ σ H3 hcn) (by simp only[rG]) (by simp only[rG]) (by simp only[Rg];simp[rW,j4,j5,j6,j7,h11]) rfl ?_;rintro s3 d3 ⟨⟨b,rfl,hb'⟩,HM3,hF3⟩ hc3 i74 ⟨i7,i71,i14,i11,-⟩;have p7':=(hF3 (c+1+1+1) (by omega) (by omega) (by omega)).trans p7;have gm':=(hF3 Mp (by omega) (by omega) (by omega)).trans gm;have hmp3:Mp<s3.c:=by omega
  have HF4:FmA (Vr Vz hs.length) key Mp E s3.h s3.c:=HF3.up (fun id h1 h2=>hF3 id h2 (by omega) (by omega)) hc3;have hL4:Lft X (fun _ id=>id=Mp) h c s3.h:=⟨fun id h1 h2 h3 h4=>(hF3 id (by omega) h2 h3).trans (f3 id h1),fun id h=> .inl h⟩
  refine⟨?_⟩;cases b with
  |false=>
   simp[rW,i7,i71,i14,i11,i74,zaU];show PjP L X (Vr Vz hs.length) key Mp E σ g hs h c (.f .un) _ _;refine⟨HM3,⟨E,HF4,fun w=>⟨.inl,fun hw=>hw.elim (fun h=>h) fun hw=> ?_⟩⟩,hL4⟩;have:=hb'.2 ((zpq hb).1 hw).1;cases this
  |true=>
   simp[rW,i7,i71,i14,i11,i74,p7',gm',hfk,hmp3,zaU];show PjP L X (Vr Vz hs.length) key Mp E σ g hs h c (.f .un) _ _;obtain⟨G,hG⟩ :∃G,G=s3.h.set Mp (.map (mpE key E++[(.s (key v),.sl s1.c 0 hs.length 3 hs.length true)])):=⟨_,rfl⟩
   rw[<-hG];have fG:∀id,id≠Mp->G.get id=s3.h.get id:=fun id hid=>by rw[hG,TG,Z49 hid]
   have HMG:MS L G s3.c X σ:=HM3.far (c0:=c0) (H0.up fun id h1 h2=>(hF3 id (by omega) (by omega) (by omega)).trans (f3 id (by omega))) (fun id h1 h2=>fG id (by omega)) (by omega);refine⟨HMG,⟨E++[(.sl s1.c 0 hs.length 3 hs.length true,v)],⟨by rw[hG,TG,Z51 rfl];simp[mpE],fun p hp=> ?_,?_,hmp3⟩,fun w=> ?_⟩,fun id h1 h2 h3 h4=>(fG id h4).trans (hL4.1 id h1 h2 h3 h4),fun id h=> .inl h⟩
   .rcases Z4.1 hp with hp|hp
    .obtain⟨⟨id,ro,e1,e2,e3,e4⟩,e5⟩ :=HF4.e p hp;exact⟨⟨id,ro,e1,by rw[fG id (by omega)];exact e2,e3,e4⟩,e5⟩
    .rw[Z31]at hp;subst hp;refine⟨⟨s1.c,ro',by rw[hrl],?_,by omega,by omega⟩,hVv⟩;rw[fG _ (by omega),hF3 _ (by omega) (by omega) (by omega)];exact hW4
   .rw[Z20];refine Z90.2 ⟨HF4.n,by simp,fun a ha b hb e=> ?_⟩;obtain⟨p,hp,rfl⟩ :=Z12.1 ha;simp only[Z10,Z85,Z31]at hb;exact hin ⟨p,hp,by rw[e,hb]⟩
   .rw[Z20,Z4,zpq hb,<-hv];simp only[Z10,Z85,Z31];exact⟨fun h=>h.imp_right fun e=>⟨hb'.1 rfl,e⟩,fun h=>h.imp_right fun e=>e.2⟩
theorem znP{Vz:Int->Prop}:∀{ts:List Opn} {v:List Int} {σ τ:Asg},zo2 Vz σ->(∀z∈v,Vz z)->zdL σ ts v=some τ->zo2 Vz τ
 |[],v,σ,τ,h,hv,e=>by cases v<;>(cases e;exact h)
 |t::ts,[],σ,τ,h,hv,e=>by cases e;exact h
 |t::ts,z::zs,σ,τ,h,hv,e=>by
  simp only[zdL]at e;split at e
  .split at e
   .exact znP h (fun y hy=>hv y (by simp[hy])) e
   .cases e
  .rename_i hno;split at e
   .rename_i i;refine znP (fun j y hy=> ?_) (fun y hy=>hv y (by simp[hy])) e
    by_cases hij:i=j
    .subst hij;simp only[zaF,Z87]at hy;split at hy
     .split at hy
      .cases hy;exact hv z (by simp)
      .cases hy
     .exact h i y hy
    .simp only[zaF]at hy;rw[Z125 hij]at hy;exact h j y hy
   .cases e
def PjT(L:List Rl)(X:Mx)(σ:Asg)(q:Pat)(r:Rl)(g':Nat)(hs:List Nat)(E E':List Er)(k:Nat):Prop:=∀v,v∈E'.map (·.2)↔v∈E.map (·.2)\/∃(j:Nat) (t:List Int×List F) (τ:Asg),j<k/\r.tu[j]? =some t/\zcQ L X σ q t.1=some τ/\PjS L X τ g' hs v
def zKg{L:List Rl}{X:Mx}{σ:Asg}{q:Pat}{r:Rl}{g' k:Nat}{hs:List Nat}{E E':List Er}(H:PjT L X σ q r g' hs E E' k){t:List Int×List F}(ht:r.tu[k]? =some t)(hb:zcQ L X σ q t.1=none):PjT L X σ q r g' hs E E' (k+1):=by
 refine fun v=>(H v).trans (or_congr_right ⟨fun⟨j,t',τ,h1,h2⟩ =>⟨j,t',τ,by omega,h2⟩,fun⟨j,t',τ,h1,h2,h3,h4⟩ =>⟨j,t',τ,?_,h2,h3,h4⟩⟩)
 rcases Z145 j k with h|h
 .exact h
 .have:j=k:=by omega
  subst this;rw[ht]at h2;cases h2;rw[hb]at h3;cases h3
def zS5{L:List Rl}{X:Mx}{σ τ:Asg}{q:Pat}{r:Rl}{g' k:Nat}{hs:List Nat}{E E1 E2:List Er}(H:PjT L X σ q r g' hs E E1 k){t:List Int×List F}(ht:r.tu[k]? =some t)(hb:zcQ L X σ q t.1=some τ)(h2:∀v,v∈E2.map (·.2)↔v∈E1.map (·.2)\/PjS L X τ g' hs v):PjT L X σ q r g' hs E E2 (k+1):=by
  intro v;rw[h2,H];constructor
  . rintro ((h|⟨j,t',τ1,k1,k2⟩)|k5)
    . exact .inl h
    . exact .inr ⟨j,t',τ1,by omega,k2⟩
    . exact .inr ⟨k,t,τ,by omega,ht,hb,k5⟩
  . rintro (h|⟨j,t',τ1,k1,k2,k3,k4⟩)
    . exact .inl (.inl h)
    . rcases Z145 j k with h|h
      . exact .inl (.inr ⟨j,t',τ1,h,k2,k3,k4⟩)
      . have:j=k:=by omega
        subst this;rw[ht]at k2;cases k2;rw[hb]at k3;cases k3;exact .inr k4
structure PaA(L:List Rl)(X:Mx)(Vz:Int->Prop)(key:List Int->Str)(Mp c0 e:Nat)(hs:List Nat)(dE:D)(E:List Er)(σ:Asg)(q:Pat)(r:Rl)(g g' i b4 b20:Nat)(k:Nat)(b:Bool)(h:T Ob)(c:Nat):Prop where
 a4:h.get b4=some (.arr 1 0 [[.ptr X.M 7 0 0]])
 a5:h.get (b4+1)=some (.arr 1 0 [[.f (.i .u64 g)]])
 a6:h.get (b4+2)=some (.arr 1 0 [[dE]])
 a7:h.get (b4+3)=some (.arr 1 0 [[.mp Mp]])
 a20:h.get b20=some (.arr 1 0 [[.f (.i .i64 i)]])
 lt:Mp<b4/\b4+3<b20/\b20<c
 b:b=false
 s:St0 h c0 X
 d:Gro h (X.V+1) e 1 dE (hsD hs)
 w:∃E',FmA (Vr Vz hs.length) key Mp E' h c/\PjT L X σ q r g' hs E E' k
theorem paV{L:List Rl}{X:Mx}{Vz:Int->Prop}{key:List Int->Str}{Mp c0 e:Nat}{hs:List Nat}{dE:D}{E:List Er}{σ:Asg}{q:Pat}{r:Rl}{g g' i b4 b20:Nat}(hc0:c0<=Mp)(he:e<=Mp):Vst X (fun _ id=>id=Mp) (PaA L X Vz key Mp c0 e hs dE E σ q r g g' i b4 b20) where
 lt k b h c id HA hF:=by
  have:=HA.lt;have:=HA.s.o;subst hF;omega
 up k b h c h' c' HA hf hc:=by
  have hl:=HA.lt;have ho:=HA.s.o;obtain⟨E',w1,w2⟩ :=HA.w;exact⟨⟨by rw[hf _ (by omega) (by omega) (by omega)];exact HA.a4,by rw[hf _ (by omega) (by omega) (by omega)];exact HA.a5,by rw[hf _ (by omega) (by omega) (by omega)];exact HA.a6,by rw[hf _ (by omega) (by omega) (by omega)];exact HA.a7,by rw[hf _ (by omega) (by omega) (by omega)];exact HA.a20,by omega,HA.b,HA.s.up fun id h1 h2=>hf id (by omega) (by omega) (by omega),zaV HA.d (Z2 _) fun id h1 h2=>hf id (by omega) (by omega) (by omega),E',w1.up (fun id h1 h2=>hf id h2 (by omega) (by omega)) hc,w2⟩,fun _ h=>h⟩
theorem zZ4{L:List Rl}{X:Mx}{Vz:Int->Prop}{key:List Int->Str}{Mp c0 e:Nat}{hs:List Nat}{dE:D}{E:List Er}{σ τ:Asg}{q:Pat×D}{r:Rl}{g i b4 b20 k:Nat}(hK:ziZ (Vr Vz hs.length) key)(hO:MxO X L)(hσ:σ.length=X.ns.length)(hq:X.WP[i]? =some q)(hr:L[q.1.r]? =some r)(hg:g<64)(hi:g.testBit i=true)(hp:PjAt L X Vz key Mp c0 e hs dE (rmN g i))(hc0:c0<=Mp)(he:e<=Mp)(hH:zrW X σ g hs)(hV:zo2 Vz σ)(hR:∀t∈r.tu,∀z∈t.1,Vz z){t:List Int×List F}(ht:r.tu[k]? =some t)(hb:zcQ L X σ q.1 t.1=some τ){h:T Ob}{c:Nat}(H:MS L h c X τ)(HA:PaA L X Vz key Mp c0 e hs dE E σ q.1 r g (rmN g i) i b4 b20 k false h c):
  Eff pr 125 [.ptr b4 1 0 0,.ptr (b4+1) 1 0 0,.ptr b20 1 0 0,.ptr (b4+2) 1 0 0,.ptr (b4+3) 1 0 0] h c (zCx L X (fun _ id=>id=Mp) (PaA L X Vz key Mp c0 e hs dE E σ q.1 r g (rmN g i) i b4 b20 (k+1)) τ h c):=by
 have hcn:zcW L X τ=true:=(zhg.1 hb).2;have h6:i<6:=zdZ (n:=6) hg hi;obtain⟨c1,c2⟩ :=b_rm hg h6;have hlt:=HA.lt;have hom:=H.m.o;have hst:=HA.s.o;obtain⟨E1,w1,w2⟩ :=HA.w;have htm:=Z39 ht;have hH':=zHH hO hσ hq hr htm hb (zzd hg h6) hH;have hV':=znP hV (hR t htm) (zhg.1 hb).1;have hdc:=zbU HA.d;refine zb2 kps fn125 (fun d h' c' ⟨_,⟨b,e1,e2⟩,_⟩ _ hf=>⟨⟨τ,Ext.rfl' _,H⟩,⟨b,e1,⟨HA.a4,HA.a5,HA.a6,HA.a7,HA.a20,HA.lt,e2.b,HA.s,HA.d,?_⟩⟩,Lft.refl _ _ _ _⟩) ?_
 .obtain⟨E2,x1,x2⟩ :=e2.w;rw[zlR hK w1 x1 (hf Mp w1.b)]at x2;exact⟨E1,w1,x2⟩
 have a4:=HA.a4;have a5:=HA.a5;have a6:=HA.a6;have a7:=HA.a7;have a20:=HA.a20;generalize 2 ^ i=w at c1 c2;simp only[zDn,rU];simp[rW,st0,zay];refine zfJ ?_;simp[rW,a4,a5,a6,a7,a20,c1,c2,hdc];refine zmb [] (hp E1 τ h (c+1+1+1+1+1+1+1) (H.up (fun _ _=>rfl) (by omega)) hcn hH' hV' HA.s hc0 HA.d he (w1.up (fun _ _ _=>rfl) (by omega))) (by simp only[rG]) (by simp only[rG]) trivial rfl ?_;rintro s1 d1 c' ⟨HM,⟨E2,x1,x2⟩,hL⟩ hc1 hc2 k13 -;refine⟨by simp[rW],⟨?_⟩⟩;simp[rW,k13,zaU];have hf1:∀id,id<c->id≠X.M->id≠X.V->id≠Mp->s1.h.get id=h.get id:=fun id h1 h2 h3 h4=>hL.1 id (by omega) h2 h3 h4
 refine⟨⟨τ,Ext.rfl' _,HM.up (fun _ _=>rfl) (by omega)⟩,⟨true,rfl,⟨?_,?_,?_,?_,?_,by omega,rfl,HA.s.up fun id h1 h2=>hf1 id (by omega) (by omega) (by omega) (by omega),zaV HA.d (Z2 _) fun id h1 h2=>hf1 id (by omega) (by omega) (by omega) (by omega),E2,x1.up (fun _ _ _=>rfl) (by omega),zS5 w2 ht hb x2⟩⟩,⟨hf1,fun id h1=> .inl h1⟩⟩
 .exact (hf1 _ (by omega) (by omega) (by omega) (by omega)).trans a4
 .exact (hf1 _ (by omega) (by omega) (by omega) (by omega)).trans a5
 .exact (hf1 _ (by omega) (by omega) (by omega) (by omega)).trans a6
 .exact (hf1 _ (by omega) (by omega) (by omega) (by omega)).trans a7
 .exact (hf1 _ (by omega) (by omega) (by omega) (by omega)).trans a20
def pjAt{L:List Rl}{X:Mx}{Vz:Int->Prop}{key:List Int->Str}{Mp c0 e:Nat}{hs:List Nat}{dE:D}(hK:ziZ (Vr Vz hs.length) key)(hl:hs.length<1000)(h6:∀j∈hs,j<6)(hR:∀r∈L,∀t∈r.tu,∀z∈t.1,Vz z):∀g:Nat,g<2 ^ X.WP.length->PjAt L X Vz key Mp c0 e hs dE g:=by
 intro g
 induction g using Nat.strongRecOn with
 |ind g ih=>
  intro hgl E σ h c H hcn hH hV H0 hc0 hE he HF
  by_cases hz:frH σ hs=0
  .exact zS9 hK hl h6 hgl H hcn hV H0 hc0 hE he HF hz
  refine zb2 kps fn59 (fun d h' c' ⟨_,⟨E',w1,w2⟩,_⟩ _ hf=>⟨H,⟨E,HF,by rw[zlR hK HF w1 (hf Mp HF.b)]at w2;exact w2⟩,Lft.refl _ _ _ _⟩) ?_;have hσ:σ.length<=6:=H.m.n6;have hPl:=H.o.Pl;have hg64:g<64:=Z15 hgl (Z113 (by decide) hPl);have hdc:=zbU hE;have hmp:=HF.b;have hmo:=H.m.o;have hst:=H0.o;obtain⟨h1,hh1⟩ :∃h1,h1=(((h.set c (.arr 1 0 [[.ptr X.M 7 0 0]])).set (c+1) (.arr 1 0 [[.f (.i .u64 g)]])).set (c+1+1) (.arr 1 0 [[dE]])).set (c+1+1+1) (.arr 1 0 [[.mp Mp]]):=⟨_,rfl⟩
  have f1:∀id,id<c->h1.get id=h.get id:=fun id hid=>by rw[hh1,TG,Z49 (by omega),TG,Z49 (by omega),TG,Z49 (by omega),TG,Z49 (by omega)]
  have g4:h1.get c=some (.arr 1 0 [[.ptr X.M 7 0 0]]):=by rw[hh1,TG,Z49 (by omega),TG,Z49 (by omega),TG,Z49 (by omega),TG,Z51 rfl]
  have g5:h1.get (c+1)=some (.arr 1 0 [[.f (.i .u64 g)]]):=by rw[hh1,TG,Z49 (by omega),TG,Z49 (by omega),TG,Z51 rfl]
  have g6:h1.get (c+1+1)=some (.arr 1 0 [[dE]]):=by rw[hh1,TG,Z49 (by omega),TG,Z51 rfl]
  have g7:h1.get (c+1+1+1)=some (.arr 1 0 [[.mp Mp]]):=by rw[hh1,TG,Z51 rfl]
  have H1:MS L h1 (c+4) X σ:=H.up f1 (by omega);have hE1:Gro h1 (X.V+1) e 1 dE (hsD hs):=zaV hE (Z2 _) fun id _ h2=>f1 id (by omega)
  have m2:¬c+1+1=c+1+1+1:=by omega
  have hEl:zco dE=some hs.length:=by rw[zd2 hE];simp[hsD]
  have hf64:=zHu (hs:=hs) hσ h6;have hus:=z4q hσ hH h6 hz;simp only[g59,rU];simp[rW,st0,zay,hdc,m2,hEl];refine zQA (L:=L) (h:=h1) (c:=c+4) (lo:=X.V+1) (e:=e) (b:=c+4) (c4:=c) (X:=X) (σ:=σ) (hs:=hs) (dE:=dE) (D5:= .ptr (c+1) 1 0 0) (D6:= .ptr (c+1+1) 1 0 0) (D7:= .ptr (c+1+1+1) 1 0 0) H1 (Z2 _) hE1 (by omega) h6 hl g4 (by omega) ⟨by simp only[Rg];simp[rW],⟨by simp[rW,frH],by simp[rW],by simp[rW],by simp[rW]⟩,by simp only[rG];omega,fun id hid=>by simp only[rG];rw[<-hh1]⟩ ?_;rintro s1 ⟨⟨k4,k5,k6,k7,-⟩,⟨h8,-⟩,hc1,hf1⟩;rw[Z7]at h8;have g5':=(hf1 (c+1) (by omega)).trans g5;generalize frH σ hs=f at h8 hz hf64 hus;have hz2:(((f:Nat):Int)==0)=false:=by simpa using hz
  simp[rW,k4,k5,k6,k7,h8,u_eq,hz2,g5'];refine pj_l4 (L:=L) (h:=h1) (c:=c+4) (b:=c+4) (c4:=c) (g:=g) (f:=f) (X:=X) (σ:=σ) (D5:= .ptr (c+1) 1 0 0) (D6:= .ptr (c+1+1) 1 0 0) (D7:= .ptr (c+1+1+1) 1 0 0) H1 (Z2 _) hgl hf64 g4 (by omega) ⟨by simp only[Rg];simp[rW,k4,k5,k6,k7,h8],⟨0,⟨by simp[rW],by simp[rW]⟩,Nat.two_pow_pos _,(fun i hi=>by rw[Nat.zero_testBit]at hi;cases hi),.inr hus⟩,hg64,fun _ h=>h,by simp only[rG];omega,fun id hid=>by simp only[rG];exact hf1 id hid⟩ ?_;rintro s2 ⟨⟨j4,j5,j6,j7,j8,-⟩,⟨u,⟨h17,-⟩,hul,husub,hab⟩,-,-,hc2,hf2⟩;have hu0:u≠0:=by
   rcases hab with h|⟨i,q,h,_⟩
   .exact h
   .rw[Nat.zero_testBit]at h;cases h
  have g4':=(hf2 c (by omega)).trans g4;have H2:MS L s2.h s2.c X σ:=H1.up hf2 (by omega);simp[rW,j4,j5,j6,j7,j8,h17,g4'];refine zbQ [(4,.ptr c 1 0 0),(5,.ptr (c+1) 1 0 0),(6,.ptr (c+1+1) 1 0 0),(7,.ptr (c+1+1+1) 1 0 0)] (zHb H2 hu0 hul) (by simp only[rG]) (by simp only[rG]) (by simp only[Rg];simp[rW,j4,j5,j6,j7]) rfl ?_;rintro s3 d3 ⟨⟨i,rfl,hiu⟩,hf3⟩ hc3 i105 ⟨i4,i5,i6,i7,-⟩;have hi:=husub i hiu;have hil:=zdZ hgl hi;have hi6:=zdZ (n:=6) hg64 hi;obtain⟨q,hq⟩ :∃q,X.WP[i]? =some q:=⟨X.WP[i],Z0 hil⟩
  have hPq:=H.o.P q (Z39 hq);obtain⟨r,hr⟩ :∃r,L[q.1.r]? =some r:=⟨L[q.1.r]'hPq.r,Z0 hPq.r⟩
  have f13:∀id,id<c+4->s3.h.get id=h1.get id:=fun id hid=>(hf3 id (by omega)).trans (hf2 id hid)
  have g4'':=(f13 c (by omega)).trans g4;have m3:¬c=s3.c:=by omega
  refine⟨?_⟩;simp[rW,i4,i5,i6,i7,i105,g4'',m3];obtain⟨h2,hh2⟩ :∃h2,h2=(s3.h.set s3.c (.arr 1 0 [[.f (.i .i64 0)]])).set s3.c (.arr 1 0 [[.f (.i .i64 i)]]):=⟨_,rfl⟩
  have f2:∀id,id<c+4->h2.get id=h1.get id:=fun id hid=>by rw[hh2,TG,Z49 (by omega),TG,Z49 (by omega)];exact f13 id hid
  have f02:∀id,id<c->h2.get id=h.get id:=fun id hid=>(f2 id (by omega)).trans (f1 id hid)
  have HM2:MS L h2 (s3.c+1) X σ:=H1.up f2 (by omega);have PA:PaA L X Vz key Mp c0 e hs dE E σ q.1 r g (rmN g i) i c s3.c 0 false h2 (s3.c+1):=⟨(f2 _ (by omega)).trans g4,(f2 _ (by omega)).trans g5,(f2 _ (by omega)).trans g6,(f2 _ (by omega)).trans g7,by rw[hh2,TG,Z51 rfl],by omega,rfl,H0.up fun id h1 h2=>f02 id (by omega),zaV hE (Z2 _) fun id h1 h2=>f02 id (by omega),E,HF.up (fun id h1 h2=>f02 id h2) (by omega),fun v=>⟨.inl,fun h=>h.elim (fun h=>h) fun⟨j,_,_,h,_⟩ =>absurd h (by omega)⟩⟩
  refine zbQ [] (zHc HM2 hcn (paV hc0 he) hq hr PA (fun k b h' c' HA' hf'=> ?_) (fun k t τ h1 c1 ht hb HM HA' _=>zZ4 hK H.o H.m.n hq hr hg64 hi (ih _ (zEr hg64 hi) (by have:=zEr hg64 hi;omega)) hc0 he hH hV (hR r (Z39 hr)) ht hb HM HA') (fun k t h1 c1 ht hb HA'=> ?_) (fun id hF=>by subst hF;omega)) (by simp only[rG];exact hh2.symm) (by simp only[rG]) trivial rfl ?_
  .obtain⟨E2,x1,x2⟩ :=HA'.w;have HF2:FmA (Vr Vz hs.length) key Mp E h2 (s3.c+1):=HF.up (fun id h1 h2=>f02 id h2) (by omega);rw[zlR hK HF2 x1 (hf' Mp HF2.b)]at x2;exact⟨PA.a4,PA.a5,PA.a6,PA.a7,PA.a20,PA.lt,HA'.b,PA.s,PA.d,E,HF2,x2⟩
  .obtain⟨E2,x1,x2⟩ :=HA'.w;exact⟨HA'.a4,HA'.a5,HA'.a6,HA'.a7,HA'.a20,HA'.lt,rfl,HA'.s,HA'.d,E2,x1,zKg x2 ht hb⟩
  rintro s4 d4 ⟨HM4,⟨b,k,rfl,PA4,hbk⟩,hL⟩ hc4 j109 -;obtain⟨E2,x1,x2⟩ :=PA4.w;have hb:=PA4.b;cases b with
  |false=>cases hb
  |true=>
   have hk:=hbk rfl;subst hk;refine⟨?_⟩;simp[rW,znd];show PjP L X (Vr Vz hs.length) key Mp E σ g hs h c (.f .un) _ _;refine⟨HM4,⟨E2,x1,fun v=>(x2 v).trans (or_congr_right ?_)⟩,⟨fun id k1 k2 k3 k4=>(hL.1 id (by omega) k2 k3 k4).trans (f02 id k1),fun id h=> .inl h⟩⟩;rw[zS7 H.o H.m.n hi hq hr (zzd hg64 hi6)];constructor
   .rintro⟨j,t,τ,_,h2,h3⟩;exact⟨j,t,τ,h2,h3⟩
   .rintro⟨j,t,τ,h2,h3⟩;exact⟨j,t,τ,(Z8.1 h2).1,h2,h3⟩
def hsI(ns hd:List Str):List Nat:=hd.map fun s=>ns.findIdx fun x=>s==x
def hvl(ns hd:List Str)(w:List Int):List Int:=hd.map fun s=>zfQ ns w (.var s)
def z1P{ns hd:List Str}(h:∀s∈hd,s∈ns):hdD (hdL ns hd)=hsD (hsI ns hd):=by
 simp only[hdD,hdL,hsD,hsI,Z33];refine Z68 fun s hs=> ?_
 simp only[Function.comp_apply,List.cons.injEq,and_true,D.f.injEq,F.i.injEq,true_and];exact (zgM (h s hs)).1
def zyH{ns hd:List Str}{τ:Asg}(ha:zoU τ)(hl:τ.length=ns.length)(h:∀s∈hd,s∈ns):hrow (hsI ns hd) τ=hvl ns hd (rowOf τ):=by
 simp only[hrow,hsI,hvl,Z33];refine Z68 fun s hs=> ?_
 simp only[Function.comp_apply];have h2:=(zgM (h s hs)).2;rw[zzj ha (by omega)];rfl
def zxP{L:List Rl}{ns:List Str}{c:CQ}{X:Mx}(hX:zkg L ns c X)(hB:CqB ns c){j:Nat}(hjl:j<ns.length):∃i q,(2 ^ X.WP.length - 1).testBit i=true/\X.WP[i]? =some q/\q.1.m.testBit j=true:=by
 obtain⟨a,ha,hneg,hts⟩ :=hB.b ns[j] (Z1 hjl);have hm:zdA L ns a∈X.WP.map (·.1):=by
  rw[hX.P];exact List.mem_map_of_mem (Z57.2 ⟨ha,by simp[hneg]⟩)
 obtain⟨q,hq,e⟩ :=Z12.1 hm;obtain⟨i,hi,rfl⟩ :=Z101.1 hq;refine⟨i,_,by rw[zkP];simpa using hi,Z0 hi,?_⟩;rw[e,zhN];refine Z30.2 ⟨.var j,Z12.2 ⟨_,hts,?_⟩,(zfZ _ j).2 rfl⟩;simp only[zb6];rw[zhq hB.n hjl]
def full_of{L:List Rl}{ns:List Str}{c:CQ}{X:Mx}(hX:zkg L ns c X)(hB:CqB ns c){τ:Asg}(he:Ext (e0 X) τ)(ha:∀i q,(2 ^ X.WP.length - 1).testBit i=true->X.WP[i]? =some q->AtT L τ q.1)(hc:zcW L X τ=true):Full L X (e0 X) (2 ^ X.WP.length - 1) τ:=by
 have hl:τ.length=ns.length:=by rw[he.1];simp[e0,hX.nE]
 refine⟨he,ha,hc,fun j hj=> .inr (zxP hX hB ?_)⟩;rcases Z145 j ns.length with h|h
 .exact h
 .simp only[zaF]at hj;rw[Z97 (by omega)]at hj;cases hj
def zKh{L:List Rl}{ns hd:List Str}{c:CQ}{X:Mx}(hX:zkg L ns c X)(hC:zlc L ns c)(hB:CqB ns c)(hh:∀s∈hd,s∈ns)(v:List Int):PjS L X (e0 X) (2 ^ X.WP.length - 1) (hsI ns hd) v↔∃w,zkI L ns c w/\v=hvl ns hd w:=by
 constructor
 .rintro⟨τ,he,ha,hc,rfl⟩;obtain⟨h1,h2⟩ :=(ziD hX hC hB τ).1 (full_of hX hB he ha hc);refine⟨_,h2,zyH h1 ?_ hh⟩;have:=h2.l;simpa [rowOf]using this
 .rintro⟨w,hw,rfl⟩;obtain⟨e1,e2⟩ :=zzk w;have H:=(ziD hX hC hB (w.map some)).2 ⟨e2,by rw[e1];exact hw⟩;exact⟨_,H.e,H.a,H.c,by rw[zyH e2 (by simpa using hw.l) hh,e1]⟩
def z1N{L:List Rl}{ns hd:List Str}{c:CQ}{X:Mx}(hX:zkg L ns c X)(hB:CqB ns c)(hh:∀s∈hd,s∈ns):zrW X (e0 X) (2 ^ X.WP.length - 1) (hsI ns hd):=by
 intro j hj;obtain⟨s,hs,rfl⟩ :=Z12.1 hj;have h2:=(zgM (hh s hs)).2;exact⟨by rw[hX.nE];exact h2,.inr (zxP hX hB h2)⟩
def z4F{Vz:Int->Prop}(X:Mx):zo2 Vz (e0 X):=by
 intro i z hz;simp only[zaF]at hz;cases hh:(e0 X)[i]? with
 |none=>rw[hh]at hz;cases hz
 |some o=>
  rw[hh]at hz;have hz:o=some z:=hz;subst hz;exact absurd hh (zyq X i z)
def zCQ:C:=g28.body.r.r.l.r.b.o
def AnK(L:List Rl)(hd:List Str)(qs:List (List Str×CQ))(k:Nat)(E:List Er):Prop:=∀v,v∈E.map (·.2)↔∃i q,i<k/\qs[i]? =some q/\∃w,zkI L q.1 q.2 w/\v=hvl q.1 hd w
def Ja(L:List Rl)(Vz:Int->Prop)(key:List Int->Str)(S c1 U:Nat)(hd:List Str)(qs:List (List Str×CQ))(Z:List UZ)(dd dh:D)(Mp k:Nat)(s:St):Prop:=(s.tm.get 0=some (.ptr U 2 0 0)/\s.tm.get 3=some (.mp Mp)/\s.tm.get 10=some (dd)/\s.tm.get 11=some (.f (.i .i64 Z.length))/\s.tm.get 12=some (.f (.i .i64 k)))/\UnA L S c1 U hd qs s.h Mp Z dd dh/\∃E,FmA (Vr Vz hd.length) key Mp E s.h s.c/\AnK L hd qs k E
structure zoW(L:List Rl)(Vz:Int->Prop)(hd:List Str)(qs:List (List Str×CQ)):Prop where
 v:VqOk L hd qs
 h:∀q∈qs,∀s∈hd,s∈q.1
 r:∀r∈L,∀t∈r.tu,∀z∈t.1,Vz z
def zZj{L:List Rl}{Vz:Int->Prop}{key:List Int->Str}{S c1 U:Nat}{hd:List Str}{qs:List (List Str×CQ)}{Z:List UZ}{dd dh:D}{Mp:Nat}(hK:ziZ (Vr Vz hd.length) key)(HQ:zoW L Vz hd qs){s:St}{K:Ex->St->Prop}(hJ:Ja L Vz key S c1 U hd qs Z dd dh Mp 0 s)(kx:∀s,Ja L Vz key S c1 U hd qs Z dd dh Mp Z.length s->K (.exit 0) s):WL pr zCQ s K:=by
 have hql:=HQ.v.u.ql;refine zc0 Z.length (Ja L Vz key S c1 U hd qs Z dd dh Mp) (fun e s=>e= .exit 0/\Ja L Vz key S c1 U hd qs Z dd dh Mp Z.length s) ?_ ?_ _ hJ ?_
 .rintro k s hlt ⟨⟨h0,h3,h10,h11,h12⟩,HA,E,HF,hAn⟩;have hZ:=HA.n;have hw:=zaH k (by omega);have hMc:=HF.b;have hU:=HA.u;have hUo:=HA.o;have hx:Z[k]? =some Z[k]:=Z0 hlt;have hkq:k<qs.length:=by omega
  have hxq:qs[k]? =some qs[k]:=Z0 hkq;have hqm:=Z1 hkq;obtain⟨HCq,HVq⟩ :=HQ.v.u.q _ hqm;have HBq:=HQ.v.b _ hqm;have hhd:=HQ.h _ hqm;obtain⟨e1,e2,e3,e4⟩ :=HA.z k _ _ hx hxq;generalize qs[k]=q at hxq hqm HCq HVq HBq hhd e1;obtain⟨⟨σ,HM⟩,hIs,hXS,hXM,hGE⟩ :=e1;have HM':=HM.up (c':=s.c) (fun _ _=>rfl) (by omega);rcases HA.d with⟨_,e⟩ |⟨id,ro,rfl,g1,g2,g3,g4,g5⟩
  .rw[Z182]at e;rw[e]at hlt;simp at hlt
  generalize hzz:Z[k]=z at hx HM HM' e2 e3 e4 hIs hXS hXM hGE;have hxe:(Z.map fun z:UZ=>[D.ptr z.2.2.1.M 7 0 0])[k]? =some [D.ptr z.2.2.1.M 7 0 0]:=by rw[Z36,hx];rfl
  unfold zCQ g28;simp only[rU,C.l,C.r,C.b,C.o];simp[rW,h0,h3,h10,h11,h12,hlt,g2,hxe,Z18,hzz];rw[Z18]at HA;refine zbQ [(0,.ptr U 2 0 0),(3,.mp Mp),(4,.f (.i .i64 k)),(5,.ptr z.2.2.1.M 7 0 0),(10,.sl id 0 Z.length 1 Z.length false),(11,.f (.i .i64 Z.length)),(12,.f (.i .i64 k))] (eff58 HM') (by simp only[rG]) (by simp only[rG]) (by simp only[Rg];simp[rW,h0,h3,h10,h11,h12,Z18]) rfl ?_;rintro s1 d1 ⟨⟨b,rfl,hb⟩,HM1,hF⟩ hc1 k18 ⟨k0,k3,k4,k5,k10,k11,k12,-⟩;have HA1:=zsr HA hx (fun id h1 h2 h3=>hF id (by omega) h2 h3) HM1 (Z2 _);have hMo:=HM.m.o;have HF1:FmA (Vr Vz hd.length) key Mp E s1.h s1.c:=HF.up (fun id h1 h2=>hF id h2 (by omega) (by omega)) hc1;have hMc1:Mp<s1.c:=by omega
  refine⟨?_⟩;cases b with
  |false=>
   simp[rW,k0,k3,k10,k11,k12,k18,hw];refine⟨⟨by simp[rW,k0],by simp[rW,k3],by simp[rW,k10,Z18],by simp[rW,k11],by simp[rW]⟩,by simp only[rG];exact HA1,E,by simp only[rG];exact HF1,fun v=>(hAn v).trans ⟨fun⟨i,q',h1,h2⟩ =>⟨i,q',by omega,h2⟩,fun⟨i,q',h1,h2,w,h3,h4⟩ =>⟨i,q',?_,h2,w,h3,h4⟩⟩⟩;rcases Z145 i k with h|h
   .exact h
   .have:i=k:=by omega
    subst this;rw[hxq]at h2;cases h2;have:=hb.2 ((zSE hIs HCq HBq).2 ⟨w,h3⟩);cases this
  |true=>
   simp[rW,k0,k3,k4,k5,k10,k11,k12,k18];refine zfJ ?_;simp[rW,k0,k3,k4,k5,k10,k11,k12,k18];refine zmb [(0,.ptr U 2 0 0),(3,.mp Mp),(4,.f (.i .i64 k)),(10,.sl id 0 Z.length 1 Z.length false),(11,.f (.i .i64 Z.length)),(12,.f (.i .i64 k)),(19,.ptr z.2.2.1.M 7 0 0)] (zPk (HM1.up (c':=s1.c+1+1) (fun _ _=>rfl) (by omega))) (by simp only[rG]) (by simp only[rG]) (by simp only[Rg];simp[rW,k0,k3,k4,k10,k11,k12]) rfl ?_;rintro s2 d2 c2 ⟨rfl,hf2⟩ hc2 hc2' j21 ⟨j0,j3,j4,j10,j11,j12,j19,-⟩;have f2:∀id,id<s1.c->s2.h.get id=s1.h.get id:=fun id hid=>hf2 id (by omega)
   have HA2:UnA L S c1 U hd qs s2.h Mp Z (.sl id 0 Z.length 1 Z.length false) dh:=zsr HA1 hx (fun id h1 _ _=>f2 id (by omega)) (HM1.up (c':=s2.c) f2 (by omega)) (Z2 _);have HM2:MS L s2.h s2.c z.2.2.1 (e0 z.2.2.1):=HM1.up f2 (by omega);have HF2:FmA (Vr Vz hd.length) key Mp E s2.h s2.c:=HF1.up (fun id h1 h2=>f2 id h2) (by omega);have hU2:=HA2.u;have hU1:s1.h.get U=s2.h.get U:=(f2 U (by omega)).symm;rcases HA2.e with⟨_,e⟩ |⟨ie,re,rfl,x1,x2,x3,x4,x5⟩
   .rw[Z182]at e;rw[e]at hlt;simp at hlt
   rw[Z18]at HA2 HA1 HA;have hye:(Z.map fun z:UZ=>[z.2.2.2])[k]? =some [z.2.2.2]:=by rw[Z36,hx];rfl
   have hyA:=(Z8.1 hye).2;have hie:s1.h.get ie=s2.h.get ie:=(f2 ie (by omega)).symm;refine⟨by simp[rW],⟨?_⟩⟩;simp[rW,j0,j3,j4,j10,j11,j12,j19,j21,hU2,hU1,x2,hie,hlt,hyA,hye,Z18];obtain⟨⟨⟨σ2,HMc⟩,-,-,-,hG2⟩,-⟩ :=HA2.z k z q hx hxq;rw[z1P hhd]at hG2;have hlen:(hsI q.1 hd).length=hd.length:=by simp[hsI]
   have hhl:=HQ.v.u.hl;have hns:=HCq.n;have h64:2 ^ z.2.2.1.WP.length - 1<2 ^ z.2.2.1.WP.length:=by have:=Nat.two_pow_pos z.2.2.1.WP.length;omega
   have hcn:zcW L z.2.2.1 (e0 z.2.2.1)=true:=by
    obtain⟨τ,he,_,hc⟩ :=hb.1 rfl;exact zly he hc
   refine zmb [(0,.ptr U 2 0 0),(3,.mp Mp),(10,.sl id 0 Z.length 1 Z.length false),(11,.f (.i .i64 Z.length)),(12,.f (.i .i64 k))] (pjAt (L:=L) (X:=z.2.2.1) (Vz:=Vz) (key:=key) (Mp:=Mp) (c0:=z.2.1) (e:=z.2.1) (hs:=hsI q.1 hd) (dE:=z.2.2.2) (by rw[hlen];exact hK) (by rw[hlen];exact hhl) (fun j hj=>by
    obtain⟨s,hs,rfl⟩ :=Z12.1 hj;have:=(zgM (hhd s hs)).2;omega) HQ.r _ h64 E (e0 z.2.2.1) s2.h (s2.c+1+1+1+1+1+1+1+1) (HM2.up (fun _ _=>rfl) (by omega)) hcn (z1N hIs HBq hhd) (z4F _) HMc.st e3 hG2 e3 (by rw[hlen];exact HF2.up (fun _ _ _=>rfl) (by omega))) (by simp only[rG]) (by simp only[rG]) (by simp only[Rg];simp[rW,j0,j3,j10,j11,j12]) rfl ?_
   rintro s3 d3 c3 ⟨HM3,⟨E3,y1,y2⟩,hL3⟩ hc3 hc3' i30 ⟨i0,i3,i10,i11,i12,-⟩;rw[hlen]at y1;have HA3:=zsr HA2 hx (fun id h1 h2 h3=>hL3.1 id (by omega) h2 h3 (by omega)) HM3 (Z2 _);refine⟨by simp[rW],⟨?_⟩⟩;simp[rW,i0,i3,i10,i11,i12,hw];refine⟨⟨by simp[rW,i0],by simp[rW,i3],by simp[rW,i10,Z18],by simp[rW,i11],by simp[rW]⟩,by simp only[rG];exact HA3,E3,by simp only[rG];exact y1.up (fun _ _ _=>rfl) hc3',fun v=> ?_⟩;rw[y2,hAn,zKh hIs HCq HBq hhd];constructor
   .rintro (⟨i,q',h1,h2⟩ |⟨w,h1,h2⟩)
    .exact⟨i,q',by omega,h2⟩
    .exact⟨k,q,by omega,hxq,w,h1,h2⟩
   .rintro⟨i,q',h1,h2,w,h3,h4⟩;rcases Z145 i k with h|h
    .exact .inl ⟨i,q',h,h2,w,h3,h4⟩
    .have:i=k:=by omega
     subst this;rw[hxq]at h2;cases h2;exact .inr ⟨w,h3,h4⟩
 .rintro s ⟨⟨h0,h3,h10,h11,h12⟩,HA,E,HF,hAn⟩;unfold zCQ g28;simp only[rU,C.l,C.r,C.b,C.o];simp[rW,h0,h3,h10,h11,h12];exact⟨⟨by simp[rW,h0],by simp[rW,h3],by simp[rW,h10],by simp[rW,h11],by simp[rW,h12]⟩,by simp only[rG];exact HA,E,by simp only[rG];exact HF,hAn⟩
 .rintro e s ⟨rfl,hJ⟩;exact kx s hJ
def UnA.hp{L:List Rl}{S c1 U:Nat}{hd:List Str}{qs:List (List Str×CQ)}{h h':T Ob}{c:Nat}{Z:List UZ}{dd dh:D}(HA:UnA L S c1 U hd qs h c Z dd dh)(hf:∀id,id<c->h'.get id=h.get id):UnA L S c1 U hd qs h' c Z dd dh:=by
 have ho:=HA.o;have hs:zdm h' c1 S L:=HA.s.up fun id _ h4=>hf id (by omega)
 refine⟨hs,by rw[hf _ (by omega)];exact HA.u,ho,zhH HA.d (Z2 _) fun id hid=>hf id (zbr HA.d hid).2,zhH HA.e (Z2 _) fun id hid=>hf id (zbr HA.e hid).2,HA.n,fun i w q hw hq=> ?_,HA.p,HA.ne⟩;obtain⟨e1,e2,e3,e4⟩ :=HA.z i w q hw hq;exact⟨e1.up (hs.lo (by omega)) fun id h1 h2=>hf id (by omega),e2,e3,e4⟩
def AnP(L:List Rl)(Vz:Int->Prop)(key:List Int->Str)(hd:List Str)(qs:List (List Str×CQ))(d:D)(h':T Ob)(c':Nat):Prop:=∃Mp E,d= .mp Mp/\FmA (Vr Vz hd.length) key Mp E h' c'/\AnK L hd qs qs.length E
def eff28{L:List Rl}{Vz:Int->Prop}{key:List Int->Str}{S c1 U:Nat}{hd:List Str}{qs:List (List Str×CQ)}{Z:List UZ}{dd dh:D}{h:T Ob}{c:Nat}(hK:ziZ (Vr Vz hd.length) key)(HQ:zoW L Vz hd qs)(HA:UnA L S c1 U hd qs h c Z dd dh):Eff pr 28 [.ptr U 2 0 0] h c (AnP L Vz key hd qs):=by
 refine zb2 kps fn28 (fun d h' c' ⟨_,_,e,_⟩ hd _=>by rw[e]at hd;cases hd) ?_;have hu:=HA.u;have hUo:=HA.o;have n1:¬U=c:=by omega
 simp only[g28,rU];simp[rW,st0,zay,hu,n1];rw[zd2 HA.d,Z18];simp[rW];refine zZj (L:=L) (Vz:=Vz) (key:=key) (S:=S) (c1:=c1) (U:=U) (hd:=hd) (qs:=qs) (Z:=Z) (dd:=dd) (dh:=dh) (Mp:=c) hK HQ ⟨⟨by simp[rW],by simp[rW],by simp[rW],by simp[rW],by simp[rW]⟩,?_,[],⟨by simp[rW,mpE],by simp,by simp,by simp only[rG];omega⟩,fun v=>⟨fun h=>by simp at h,fun⟨i,_,h,_⟩ =>absurd h (by omega)⟩⟩ ?_
 .simp only[rG];exact HA.hp fun id hid=>by rw[TG,Z49 (by omega)]
 rintro s1 ⟨⟨h0,h3,-⟩,HA1,E,HF,hAn⟩;rw[HA.n]at hAn;simp[rW,h3,zaU];exact⟨c,E,rfl,HF,hAn⟩
def cdl:Code->Code
 | .seq a _=>a
 | .block _ c=>c
 | .loop c=>c
 |c=>c
def cdr:Code->Code
 | .seq _ b=>b
 |c=>c
def opsOf:Code->Array Oper
 | .region _ ops _=>ops
 |_=> #[]
def evB:Code:=(Tryz.f8.body).getD .skip
def evR:Code:=cdl (cdl (cdr (cdr (cdr evB))))
def evL:Code:=cdl (cdl (cdr (cdl (cdr (cdr (cdr evB))))))
def z0s:Tryz.f8.body=some evB:=by kernel_rfl
def z0u:evB= .seq (cdl evB) (.seq (cdl (cdr evB)) (.seq (cdl (cdr (cdr evB))) (.seq (.seq evR (.block 0 (.loop evL))) (cdr (cdr (cdr (cdr evB))))))):=by kernel_rfl
def z0w:evL= .seq (cdl evL) (.seq (.cond (.tmp 19) .skip (.exit 0)) (.block 1 (.seq (cdl (cdl (cdr (cdr evL)))) (cdr (cdl (cdr (cdr evL))))))):=by kernel_rfl
def ck0:zcS Tryz.prog pur 29 (cdl evB)=some g8.body.l:=by kernel_rfl
def ck1:zcS Tryz.prog pur 29 (cdl (cdr evB))=some g8.body.r.l:=by kernel_rfl
def ck2:zcS Tryz.prog pur 29 (cdl (cdr (cdr evB)))=some g8.body.r.r.l:=by kernel_rfl
def ck4:zcS Tryz.prog pur 29 (cdr (cdr (cdr (cdr evB))))=some g8.body.r.r.r.r:=by kernel_rfl
def CS(t:T D)(h:T Ob)(c:Nat):St:=⟨t,h,c,c,c⟩
def zGU{amb:Mu}{w0:World}{nt:Nat}{s:St}{ρ:Nat->Option Nat}{a:Act}{w:World}(hA:AtS amb w0 nt s ρ a w){t:T D}(ht:∀i d,t.get i=some d->s.tm.get i=some d):AtS amb w0 nt (CS t s.h s.c) ρ a w:=
 ⟨⟨hA.ss.sim,fun i d hi=>hA.ss.tmr i d (ht i d hi),hA.ss.nt,hA.ss.df⟩,Z2 _,hA.b,hA.z,hA.o,hA.r⟩
def z2C(R:List Er)(p:Er):rE (R++[p])=rE R++[[p.1]]:=by simp[rE]
theorem zSz{h:T Ob}{lo c es byt:Nat}{d:D}{els new:List (List D)}{rd:List Nat}{K:Rs->Prop}(hg:Gro h lo c es d els)(hz:GZ h d)(hlo:lo<=c)(hlen:els.length+new.length<=1000000)(hb:byt<=1000)
  (hK:∀r:Rs,zau r.c r.wr=true->Gro (wrT h r.wr) lo r.c es r.d (els++new)->c<=r.c->(∀id,id<c->d.oid≠some id->(wrT h r.wr).get id=h.get id)->(∀x,x∈r.wr.map (·.1)->x=c\/d.oid=some x)->GZ (wrT h r.wr) r.d->K r):oB (zbv es byt h.get c d new rd) K:=by
 obtain⟨r,h1,h2,h3,h4,h5,h6,h7,h8⟩ :=zr8 (byt:=byt) (rd:=rd) hg hlo hlen hb;have hz':oB (zbv es byt h.get c d new rd) (fun r=>GZ (wrT h r.wr) r.d):=zSx hg hz hlo hlen hb fun r _ _ _ _ _ h=>h
 rw[h1]at hz'|-;exact hK r h2 h3 h4 h5 h6 hz'
theorem zIV{h:T Ob}{lo c Mp i m:Nat}{ex:Bool}{d:D}{R:List Er}{v:List Int}(hG:Gro h lo c 1 d (rE R))(hZ:GZ h d)(hM:Mp<lo)(hlo:lo<=c)(hn:R.length<1000):
  wpC pr (.reg [⟨some 22,none,.mv (.t 5)⟩,⟨some 23,none,.mv (.t 7)⟩,⟨some 24,none,.bsf 1 [.nils] 1 [(0,.t 23)]⟩,⟨some 25,none,.app 1 24 (.t 22) (.t 24)⟩,⟨some 5,none,.mv (.t 25)⟩]) (CS ((T.e.set 5 d).set 7 (.sl i 0 m 3 m ex)) h c)
   fun e s=>e= .nrm/\c<=s.c/\Mp<s.lw/\∃d',s.tm.get 5=some d'/\Gro s.h lo s.c 1 d' (rE (R++[(.sl i 0 m 3 m ex,v)]))/\GZ s.h d'/\∀id,id<c->d.oid≠some id->s.h.get id=h.get id:=by
 unfold CS;simp[rW,zD5];refine zSz (zaV hG (Z128 c) fun id h1 h2=>by rw[TG,Z49 (by omega)]) (fun x es ro els e hx=>by
  have:=zbr hG e;rw[TG,Z49 (by omega)]at hx;exact hZ x es ro els e hx) (by omega) (by simp[rE];omega) (by omega) ?_
 intro r hr1 hr2 hr3 hr4 hr5 hr6;simp[rW,hr1];refine⟨by omega,zIy _ _ (by rw[ziO (Z2 _),zjE];omega) fun x hx=> ?_,by rw[z2C];exact hr2,hr6,fun id h1 h2=> ?_⟩
 .rcases hr5 x hx with rfl|e
  .omega
  .have:=zbr hG e;omega
 .rw[hr4 id (by omega) h2,TG,Z49 (by omega)]
def o5(i:Nat):Oper:=(opsOf (cdl evL)).getD i default
def o6(i:Nat):Oper:=(opsOf (cdl (cdl (cdr (cdr evL))))).getD i default
def ev5:∃id,cdl evL= .region id (opsOf (cdl evL)) false:=⟨5,by kernel_rfl⟩
def ev6:∃id,cdl (cdl (cdr (cdr evL)))= .region id (opsOf (cdl (cdl (cdr (cdr evL))))) false:=⟨6,by kernel_rfl⟩
def ev7:∃id,cdr (cdl (cdr (cdr evL)))= .region id (opsOf (cdr (cdl (cdr (cdr evL))))) false:=⟨7,by kernel_rfl⟩
def o5_n:List.range (opsOf (cdl evL)).size=[0,1]:=by kernel_rfl
def o6_n:List.range (opsOf (cdl (cdl (cdr (cdr evL))))).size=[0,1,2]:=by kernel_rfl
def o50:(opsOf (cdl evL))[0]? =some (o5 0)/\(o5 0).op= .next (.tmp 17) false/\(o5 0).guard=none/\(o5 0).dst=some 18:=⟨by kernel_rfl,by kernel_rfl,by kernel_rfl,by kernel_rfl⟩
def o51:(opsOf (cdl evL))[1]? =some (o5 1)/\(o5 1).op= .extract (.tmp 18) 0/\(o5 1).guard=none/\(o5 1).dst=some 19:=⟨by kernel_rfl,by kernel_rfl,by kernel_rfl,by kernel_rfl⟩
def o60:(opsOf (cdl (cdl (cdr (cdr evL)))))[0]? =some (o6 0)/\(o6 0).op= .entry (.tmp 17)/\(o6 0).guard=none/\(o6 0).dst=some 20:=⟨by kernel_rfl,by kernel_rfl,by kernel_rfl,by kernel_rfl⟩
def o61:(opsOf (cdl (cdl (cdr (cdr evL)))))[1]? =some (o6 1)/\(o6 1).op= .extract (.tmp 20) 1/\(o6 1).guard=none/\(o6 1).dst=some 21:=⟨by kernel_rfl,by kernel_rfl,by kernel_rfl,by kernel_rfl⟩
def o62:(opsOf (cdl (cdl (cdr (cdr evL)))))[2]? =some (o6 2)/\(o6 2).op= .assign (.tmp 21)/\(o6 2).guard=none/\(o6 2).dst=some 7:=⟨by kernel_rfl,by kernel_rfl,by kernel_rfl,by kernel_rfl⟩
def o7c:zat (zbO Tryz.prog pur 29 (opsOf (cdr (cdl (cdr (cdr evL)))))) (opsOf (cdr (cdl (cdr (cdr evL))))).toList=some [⟨some 22,none,.mv (.t 5)⟩,⟨some 23,none,.mv (.t 7)⟩,⟨some 24,none,.bsf 1 [.nils] 1 [(0,.t 23)]⟩,⟨some 25,none,.app 1 24 (.t 22) (.t 24)⟩,⟨some 5,none,.mv (.t 25)⟩]:=by kernel_rfl
def o7d:∀o∈(opsOf (cdr (cdl (cdr (cdr evL))))).toList,o.dst≠some 17:=by
 have e:(opsOf (cdr (cdl (cdr (cdr evL))))).toList.map (·.dst)=[some 22,some 23,some 24,some 25,some 5]:=by kernel_rfl
 intro o ho h;have:o.dst∈(opsOf (cdr (cdl (cdr (cdr evL))))).toList.map (·.dst):=List.mem_map_of_mem ho;rw[e,h]at this;simp at this
def zRs{amb:Mu}{w0:World}{nt c j:Nat}{t:T D}{h:T Ob}{ρ:Nat->Option Nat}{a:Act}{w:World}(hA:AtS amb w0 nt (CS t h c) ρ a w)(hj:j<nt){d:D}{v:Value}(hr:Rel w.heap (zaq amb h.get ρ) ρ (fun id=>id<c) d v):AtS amb w0 nt (CS (t.set j d) h c) ρ (a.put (some j) v) w:=by
 refine⟨?_,Z2 _,hA.b,hA.z,hA.o,hA.r⟩;have:=hA.ss.next (Keep.refl _ _ _ _) hA.ss.sim (dst:=some j) (fun i hi=>by cases hi;exact hj) hr;refine⟨this.sim,fun i d hi=>this.tmr i d ?_,this.nt,this.df⟩;simpa [CS,TG,zem,upd]using hi
theorem zHj{H:Array Obj}{μ:Mu}{ρ:Nat->Option Nat}{c:Nat->Prop}:∀{l:List (F×D)} {es:List MapEntry} {j:Nat} {e:MapEntry},za5 H μ ρ c l es->es[j]? =some e->∃p,l[j]? =some p/\Rel H μ ρ c p.2 e.val
 |[],es,j,e,h,he=>by simp only[za5]at h;subst h;simp at he
 |(k,d)::l,es,j,e,h,he=>by
  simp only[za5]at h;obtain⟨e1,m,rfl,_,h2,h3⟩ :=h;cases j with
  |zero=>simp at he;subst he;exact⟨(k,d),rfl,h2⟩
  |succ j=>exact zHj (j:=j) h3 (by simpa using he)
structure LJ(amb:Mu)(w0:World)(key:List Int->Str)(E:List Er)(Mp lo:Nat)(idx:List Nat)(a:Act)(w:World)(ρ:Nat->Option Nat)(h:T Ob)(c:Nat)(d:D)(r bm:Nat)(es:Array MapEntry)(cl:Nat)(seen:Array Nat):Prop where
 A:AtS amb w0 29 (CS (T.e.set 5 d) h c) ρ a w
 I:ItR w0 w ρ r Mp bm es cl cl seen cl
 t:a.tmps[17]? =some (.pointer (some ⟨r,0,none⟩))
 m:h.get Mp=some (.map (mpE key E))
 e:∀p∈E,zuM h Mp lo p.1 p.2
 g:Gro h lo c 1 d (rE (idx.filterMap (E[·]?)))
 z:GZ h d
 l:Mp<lo/\lo<=c
 n:idx.Nodup
 b:∀j∈idx,j<E.length
 s:seen.toList=idx.filterMap fun j=>(es[j]?).map (·.born)
end Go.Proofs.YthcehnaehljnfaaGreatDoor
end
