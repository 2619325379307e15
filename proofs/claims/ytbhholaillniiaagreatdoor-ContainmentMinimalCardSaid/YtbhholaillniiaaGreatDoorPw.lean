/- The matcher: project, where all of the head is known. -/
import Derived.Test.YtbhholaillniiaaGreatDoorPv
import Derived.KernelRfl
import Derived.IntWalk
import Derived.Test.YtbhholaillniiaaGreatDoorPk
import Derived.Test.YtbhholaillniiaaGreatDoorPo
set_option linter.all false
set_option maxRecDepth 100000
set_option maxHeartbeats 4000000
section
namespace Go.Proofs.YtbhholaillniiaaGreatDoor
open Go Go.Vse Go.Vse.Sm
def zlx{V:List Int->Prop}{key:List Int->Str}(hK:zi0 V key){Mp:Nat}{E E':List Er}{h h':T Ob}{c c':Nat}(H:FmA V key Mp E h c)(H':FmA V key Mp E' h' c')(e:h'.get Mp=h.get Mp):E'=E:=by
 rw[H.m,H'.m]at e;simp only[Z45,Ob.map.injEq]at e;have h1:=H.e;have h2:=H'.e;clear H H'
 induction E generalizing E' with
 |nil=>simpa [mpE]using e
 |cons p E ih=>
  cases E' with
  |nil=>simp[mpE]at e
  |cons p' E'=>
   simp only[mpE,Z10,List.cons.injEq,Z66,F.s.injEq]at e;obtain⟨⟨e1,e2⟩,e3⟩ :=e;have e4:=hK.i _ _ (h2 p' (by simp)).2 (h1 p (by simp)).2 e1;rw[ih e3 (fun q hq=>h1 q (by simp[hq])) fun q hq=>h2 q (by simp[hq])]
   congr 1
   exact Prod.ext e2 e4
def zAC{dst:Option Nat}{l:List Go.Vse.Op}{x:A}{s:St}{Q:St->Prop}:wpO pr (⟨dst,none,.b2s x⟩ ::l) s Q↔oB (((O.b2s x).res (zae s.tm)).bind (opv s.h.get s.c)) fun r=>zaq r.c r.wr=true/\wpO pr l (s.aft dst r.d r.wr r.c) Q:=zdD rfl
def zvu(f:A->Option D)(x:A):O.res f (.b2s x)=(f x).bind fun x=>some (.b2s x):=rfl
def zx0{h:T Ob}{c V es ro:Nat}{els:List (List D)}(hg:h.get V=some (.arr es ro els))(hV:V<c):∃W,roO h.get V [] (h.get V)=W/\zaq c W=true/\(∀id,id≠V->(wrT h W).get id=h.get id)/\∃ro',(wrT h W).get V=some (.arr es ro' els):=by
 refine⟨_,rfl,?_⟩;rw[hg];simp only[roO];split
 .exact⟨rfl,fun _ _=>rfl,ro,hg⟩
 .refine⟨by simp[zaq,zav,Z79,hV],fun id hid=> ?_,els.length,?_⟩
  .simp[wrT,zav,TG,hid]
  .simp[wrT,zav,TG]
def zKS{h:Nat->Option Ob}{id ro:Nat}{v:List Int}{b:Bool}(hg:h id=some (.arr 3 ro (vRw v))):frz h 12 (.sl id 0 v.length 3 v.length b)=some (.sl 3 (v.map Sm.vF),[id]):=by
 have e:((vRw v).drop 0).take v.length=vRw v:=by
  rw[Z34,Z11 (by simp[vRw])]
 have h2:=zlA h 10 (v.map Sm.vF);rw[zfm,hg];simp only[om,Z46,fzS];rw[Z51 (by simp[vRw]),e];unfold vRw;rw[h2];rfl
def zKK{L:List Rl}{X:Mx}{Vz:Int->Prop}{key:List Int->Str}{Mp c0 e g:Nat}{hs:List Nat}{dE:D}(hK:zi0 (Vr Vz hs.length) key)(hl:hs.length<1000)(h6:∀j∈hs,j<6)(hgl:g<2 ^ X.WP.length){E:List Er}{σ:Asg}{h:T Ob}{c:Nat}(H:MS L h c X σ)(hcn:zde L X σ=true)(hV:znU Vz σ)(H0:St0 h c0 X)(hc0:c0<=Mp)(hE:Gro h (X.V+1) e 1 dE (hsD hs))(he:e<=Mp)(HF:FmA (Vr Vz hs.length) key Mp E h c)(h0:frH σ hs=0):Eff pr 67 [.ptr X.M 7 0 0,.f (.i .u64 g),dE,.mp Mp] h c (PjP L X (Vr Vz hs.length) key Mp E σ g hs h c):=by
 refine zcm kps fn67 (fun d h' c' ⟨_,⟨E',w1,w2⟩,_⟩ _ hf=>⟨H,⟨E,HF,by rw[zlx hK HF w1 (hf Mp HF.b)]at w2;exact w2⟩,Lft.refl _ _ _ _⟩) ?_;have hσ:σ.length<=6:=H.m.n6;have hb:∀i∈hs,(zaF σ (.var i)).isSome=true:=(frH_0 hσ h6).1 h0
 have hdc:=zbu hE;have hmp:=HF.b;have hmo:=H.m.o;have hst:=H0.o;have hrl:(hrow hs σ).length=hs.length:=by simp[hrow]
 obtain⟨h1,hh1⟩ :∃h1,h1=(((h.set c (.arr 1 0 [[.ptr X.M 7 0 0]])).set (c+1) (.arr 1 0 [[.f (.i .u64 g)]])).set (c+1+1) (.arr 1 0 [[dE]])).set (c+1+1+1) (.arr 1 0 [[.mp Mp]]):=⟨_,rfl⟩
 have f1:∀id,id<c->h1.get id=h.get id:=fun id hid=>by rw[hh1,TG,Z49 (by omega),TG,Z49 (by omega),TG,Z49 (by omega),TG,Z49 (by omega)]
 have g4:h1.get c=some (.arr 1 0 [[.ptr X.M 7 0 0]]):=by rw[hh1,TG,Z49 (by omega),TG,Z49 (by omega),TG,Z49 (by omega),TG,Z51 rfl]
 have g5:h1.get (c+1)=some (.arr 1 0 [[.f (.i .u64 g)]]):=by rw[hh1,TG,Z49 (by omega),TG,Z49 (by omega),TG,Z51 rfl]
 have g6:h1.get (c+1+1)=some (.arr 1 0 [[dE]]):=by rw[hh1,TG,Z49 (by omega),TG,Z51 rfl]
 have g7:h1.get (c+1+1+1)=some (.arr 1 0 [[.mp Mp]]):=by rw[hh1,TG,Z51 rfl]
 have H1:MS L h1 (c+4) X σ:=H.up f1 (by omega);have hE1:Gro h1 (X.V+1) e 1 dE (hsD hs):=zaS hE (Z2 _) fun id _ h2=>f1 id (by omega)
 have m2:¬c+1+1=c+1+1+1:=by omega
 have hEl:zcp dE=some hs.length:=by rw[zdL hE];simp[hsD]
 simp only[g67,rU];simp[rW,st0,zal,hdc,m2,hEl];refine zIi (L:=L) (h:=h1) (c:=c+4) (lo:=X.V+1) (e:=e) (b:=c+4) (c4:=c) (X:=X) (σ:=σ) (hs:=hs) (dE:=dE) (D5:= .ptr (c+1) 1 0 0) (D6:= .ptr (c+1+1) 1 0 0) (D7:= .ptr (c+1+1+1) 1 0 0) H1 (Z2 _) hE1 (by omega) h6 hl g4 (by omega) ⟨by simp only[Rg];simp[rW],⟨by simp[rW,frH],by simp[rW],by simp[rW],by simp[rW]⟩,by simp only[rG];omega,fun id hid=>by simp only[rG];rw[<-hh1]⟩ ?_;rintro s1 ⟨⟨k4,k5,k6,k7,-⟩,⟨h8,-⟩,hc1,hf1⟩;rw[Z7,h0]at h8;have g6':=(hf1 (c+1+1) (by omega)).trans g6;have r1:¬c+1+1=s1.c:=by omega
 have mx1:hs.length<=zaB:=by have:=zcZ (n:=hs.length) (by omega);simpa using this
 have mx2:hs.length*32<=zaB:=by have:=zcZ (n:=hs.length*32) (by omega);simpa using this
 simp[rW,k4,k5,k6,k7,h8,u_eq,g6',hEl,r1,mx1,mx2];obtain⟨h2,hh2⟩ :∃h2,h2=s1.h.set s1.c (.arr 3 0 (List.replicate hs.length [.f (.i .i64 0),.f (.i .i64 0),.f (.s [])])):=⟨_,rfl⟩
 have f2:∀id,id<s1.c->h2.get id=s1.h.get id:=fun id hid=>by rw[hh2,TG,Z49 (by omega)]
 have f12:∀id,id<c+4->h2.get id=h1.get id:=fun id hid=>(f2 id (by omega)).trans (hf1 id hid)
 have H2:MS L h2 (c+4) X σ:=H1.up f12 (Z2 _);refine pj_l2 (L:=L) (h:=h2) (c:=c+4) (lo:=X.V+1) (e:=e) (b:=s1.c+1) (c4:=c) (V:=s1.c) (X:=X) (σ:=σ) (hs:=hs) (dE:=dE) (D5:= .ptr (c+1) 1 0 0) (D6:= .ptr (c+1+1) 1 0 0) (D7:= .ptr (c+1+1+1) 1 0 0) H2 (by omega) (zaS hE1 (Z2 _) fun id _ h2=>f12 id (by omega)) (by omega) hb hl ((f12 c (by omega)).trans g4) (by omega) (by omega) ⟨by simp only[Rg];simp[rW,k4,k5,k6,k7],⟨by simp[rW],by simp[rW],by simp[rW],by simp[rW]⟩,by simp only[rG];omega,fun id h1 h2=>by simp only[rG];rw[<-hh2],by simp only[rG];rw[zDi,hrl,TG,Z51 rfl];rfl⟩ ?_;rintro s2 ⟨⟨j4,j5,j6,j7,-⟩,⟨h11,-⟩,hc2,hf2,gV⟩;rw[<-hrl,zvi]at gV;obtain⟨v,hv⟩ :∃v,v=hrow hs σ:=⟨_,rfl⟩
 have hVv:=zOG hV hb;rw[<-hv]at gV hrl hVv;obtain⟨x,hx1,hx2⟩ :=hK.a v hVv;have q1:=fun k=>zad (k:=k) hx1
 have fz:=zKS (b:=true) gV;rw[hrl]at fz;obtain⟨W,hW1,hW2,hW3,ro',hW4⟩ :=zx0 (c:=s2.c) gV (by omega);have f3:∀id,id<c->(wrT s2.h W).get id=h.get id:=fun id hid=>by
  rw[hW3 id (by omega),hf2 id (by omega) (by omega),f2 id (by omega),hf1 id (by omega)];exact f1 id hid
 have p7:(wrT s2.h W).get (c+1+1+1)=some (.arr 1 0 [[.mp Mp]]):=by
  rw[hW3 _ (by omega),hf2 _ (by omega) (by omega),f12 _ (by omega)];exact g7
 have p4:(wrT s2.h W).get c=some (.arr 1 0 [[.ptr X.M 7 0 0]]):=by
  rw[hW3 _ (by omega),hf2 _ (by omega) (by omega),f12 _ (by omega)];exact g4
 have p5:(wrT s2.h W).get (c+1)=some (.arr 1 0 [[.f (.i .u64 g)]]):=by
  rw[hW3 _ (by omega),hf2 _ (by omega) (by omega),f12 _ (by omega)];exact g5
 have HF3:FmA (Vr Vz hs.length) key Mp E (wrT s2.h W) s2.c:=HF.up (fun id _ h2=>f3 id h2) (by omega);have H3:MS L (wrT s2.h W) s2.c X σ:=H.up f3 (by omega);have gm:=HF3.m
 by_cases hin:∃p∈E,key p.2=key v
 .obtain⟨jj,dd,hfk⟩ :=zrO (i:=0) hin;simp[rW,j4,j5,j6,j7,h11,fz,zcC,zaX,q1,hx2,zAC,zvu,hW1,hW2,p7,gm,hfk,zaV];show PjP L X (Vr Vz hs.length) key Mp E σ g hs h c (.f .un) _ _;refine⟨H3,⟨E,HF3,fun w=>⟨.inl,fun hw=>hw.elim (fun h=>h) fun hw=> ?_⟩⟩,fun id h1 h2 h3 h4=>f3 id h1,fun id h=> .inl h⟩;obtain⟨p,hp,hpk⟩ :=hin;obtain⟨_,ew⟩ :=(zoj hb).1 hw;have:=hK.i _ _ (HF.e p hp).2 hVv hpk;rw[ew,<-hv,<-this];exact List.mem_map_of_mem hp
 .have hfk:=zuw (E:=E) (i:=0) fun p hp e=>hin ⟨p,hp,e⟩
  simp[rW,j4,j5,j6,j7,h11,fz,zcC,zaX,q1,hx2,zAC,zvu,hW1,hW2,p7,gm,hfk,p4,p5];refine zbO [(7,.ptr (c+1+1+1) 1 0 0),(71,.f (.b true)),(14,.f (.s (key v))),(11,.sl s1.c 0 hs.length 3 hs.length true)] (zIj L X g hgl _ _ σ H3 hcn) (by simp only[rG]) (by simp only[rG]) (by simp only[Rg];simp[rW,j4,j5,j6,j7,h11]) rfl ?_;rintro s3 d3 ⟨⟨b,rfl,hb'⟩,HM3,hF3⟩ hc3 i74 ⟨i7,i71,i14,i11,-⟩;have p7':=(hF3 (c+1+1+1) (by omega) (by omega) (by omega)).trans p7;have gm':=(hF3 Mp (by omega) (by omega) (by omega)).trans gm;have hmp3:Mp<s3.c:=by omega
  have HF4:FmA (Vr Vz hs.length) key Mp E s3.h s3.c:=HF3.up (fun id h1 h2=>hF3 id h2 (by omega) (by omega)) hc3;have hL4:Lft X (fun _ id=>id=Mp) h c s3.h:=⟨fun id h1 h2 h3 h4=>(hF3 id (by omega) h2 h3).trans (f3 id h1),fun id h=> .inl h⟩
  refine⟨?_⟩;cases b with
  |false=>
   simp[rW,i7,i71,i14,i11,i74,zaV];show PjP L X (Vr Vz hs.length) key Mp E σ g hs h c (.f .un) _ _;refine⟨HM3,⟨E,HF4,fun w=>⟨.inl,fun hw=>hw.elim (fun h=>h) fun hw=> ?_⟩⟩,hL4⟩;have:=hb'.2 ((zoj hb).1 hw).1;cases this
  |true=>
   simp[rW,i7,i71,i14,i11,i74,p7',gm',hfk,hmp3,zaV];show PjP L X (Vr Vz hs.length) key Mp E σ g hs h c (.f .un) _ _;obtain⟨G,hG⟩ :∃G,G=s3.h.set Mp (.map (mpE key E++[(.s (key v),.sl s1.c 0 hs.length 3 hs.length true)])):=⟨_,rfl⟩
   rw[<-hG];have fG:∀id,id≠Mp->G.get id=s3.h.get id:=fun id hid=>by rw[hG,TG,Z49 hid]
   have HMG:MS L G s3.c X σ:=HM3.far (c0:=c0) (H0.up fun id h1 h2=>(hF3 id (by omega) (by omega) (by omega)).trans (f3 id (by omega))) (fun id h1 h2=>fG id (by omega)) (by omega);refine⟨HMG,⟨E++[(.sl s1.c 0 hs.length 3 hs.length true,v)],⟨by rw[hG,TG,Z51 rfl];simp[mpE],fun p hp=> ?_,?_,hmp3⟩,fun w=> ?_⟩,fun id h1 h2 h3 h4=>(fG id h4).trans (hL4.1 id h1 h2 h3 h4),fun id h=> .inl h⟩
   .rcases Z4.1 hp with hp|hp
    .obtain⟨⟨id,ro,e1,e2,e3,e4⟩,e5⟩ :=HF4.e p hp;exact⟨⟨id,ro,e1,by rw[fG id (by omega)];exact e2,e3,e4⟩,e5⟩
    .rw[Z31]at hp;subst hp;refine⟨⟨s1.c,ro',by rw[hrl],?_,by omega,by omega⟩,hVv⟩;rw[fG _ (by omega),hF3 _ (by omega) (by omega) (by omega)];exact hW4
   .rw[Z20];refine Z90.2 ⟨HF4.n,by simp,fun a ha b hb e=> ?_⟩;obtain⟨p,hp,rfl⟩ :=Z12.1 ha;simp only[Z10,Z85,Z31]at hb;exact hin ⟨p,hp,by rw[e,hb]⟩
   .rw[Z20,Z4,zoj hb,<-hv];simp only[Z10,Z85,Z31];exact⟨fun h=>h.imp_right fun e=>⟨hb'.1 rfl,e⟩,fun h=>h.imp_right fun e=>e.2⟩
def zi2(a:Int)(m:Nat)(hm:m<2147483648):∃r:Nat,r<=m/\zaH .and (.i .i64 a) (.i .i64 m)=some (.i .i64 r):=by
 refine⟨(BitVec.ofInt 64 a&&& BitVec.ofInt 64 m).toNat,?_,?_⟩
 .rw[BitVec.toNat_and];refine Z3 Z203 ?_;rw[BitVec.toNat_ofInt];omega
 .have hle:(BitVec.ofInt 64 a&&& BitVec.ofInt 64 m).toNat<=m:=by
   rw[BitVec.toNat_and];refine Z3 Z203 ?_;rw[BitVec.toNat_ofInt];omega
  have e:zaH .and (.i .i64 a) (.i .i64 m)=some (.i .i64 (IntKind.i64.wrap ((BitVec.ofInt 64 a&&& BitVec.ofInt 64 m).toNat:Int))):=rfl;rw[e,wrap_i64 _ (by omega) (by omega)]
def zdg(x:F):Prop:=x= .nils\/∃zs:List Int,x= .sl 1 (zs.map fun z=>[.i .i64 z])
def zc7(a b:Nat)(hb:b≠0):zaH .rem (.i .i64 a) (.i .i64 b)=some (.i .i64 ((a%b:Nat):Int)):=by
 rw[zJD _ _ (by omega)];rfl
def fn15:pr.fn 15=some g15:=by kernel_rfl
def fn46:pr.fn 46=some g46:=by kernel_rfl
def fn4:pr.fn 4=some g4:=by kernel_rfl
def zPN(f:A->Option D)(x:A):(O.s2b x).res f=(f x).bind fun y=>some (.s2b y):=rfl
def o_s2b{pr:Pr}{s:St}{Q:St->Prop}{dst:Option Nat}{l:List Go.Vse.Op}{x:A}:wpO pr (⟨dst,none,.s2b x⟩ ::l) s Q↔oB (((O.s2b x).res (zae s.tm)).bind (opv s.h.get s.c)) fun r=>zaq r.c r.wr=true/\wpO pr l (s.aft dst r.d r.wr r.c) Q:=zdD rfl
def byE(l:Str):List (List D):=l.map fun x=>[D.f (.i .u8 x.toNat)]
def v_s2b{h:Nat->Option Ob}{c:Nat}{l:Str}(hl:l≠[]):opv h c (.s2b (.f (.s l)))=some {d:= .sl c 0 l.length 1 l.length false,wr:=[(c,some (.arr 1 0 (byE l)))],c:=c+1}:=by
 simp[opv,hl,byE]
theorem zGZ:∀l:Str,zdz (byE l)=some l
 |[]=>rfl
 |x::l=>by
  have:=zGZ l;simp only[byE,Z10,zdz]at this|-;rw[this];simp
def v_b2s{h:Nat->Option Ob}{c id len lim:Nat}{ex:Bool}{l:Str}(hg:h id=some (.arr 1 0 (byE l)))(hl:l.length=len):opv h c (.b2s (.sl id 0 len 1 lim ex))=some {d:= .f (.s l),rd:=[id],c:=c}:=by
 have h1:(byE l).length=l.length:=by simp[byE]
 have h2:elemsOf 1 h (.sl id 0 len 1 lim ex)=some (byE l,[id]):=by
  rw[zzF,hg,zdQ,zqP,Z51 ⟨rfl,rfl,by omega⟩,Z34,<-hl,<-h1,Z7]
 simp only[opv,h2,zGZ]
def fn25:pr.fn 25=some g25:=by kernel_rfl
def zJY{a b:List Str}(hl:a.length=b.length)(h:∀i,i<a.length->a[i]? =b[i]?):a=b:=by
 apply Z107;intro i
 by_cases hi:i<a.length
 .exact h i hi
 .rw[Z97 (by omega),Z97 (by omega)]
def SQ40(a b:List Str)(k:Nat)(s:St):Prop:=∃n:Nat,(k=a.length - n/\n<=a.length/\∀i,i<n->a[i]? =b[i]?)/\(s.tm.get 0=some (.f (zah a))/\s.tm.get 1=some (.f (zah b))/\s.tm.get 12=some (.f (.i .i64 a.length))/\s.tm.get 13=some (.f (.i .i64 n)))
def ans25(a b:List Str)(hn:a.length<100000):Ans pr 25 [zah a,zah b] (.b (decide (a=b))):=by
 refine zcx fn25 ?_;simp only[g25,rU]
 by_cases hl:a.length=b.length
 .have hl':(a.length:Int)=b.length:=by omega
  simp[rW,st0,zal,za4,zdw,hl,hl'];refine zcJ (SQ40 a b) (fun x s=>(x= .exit 0/\a=b)\/(x= .ret/\a≠b/\s.tm.get 4=some (.f (.b false)))) ?_ a.length _ ?_ ?_
  .rintro k s ⟨n,⟨rfl,hn2,he⟩,⟨h0,h1,h12,h13⟩⟩
   by_cases hlt:n<a.length
   .have ha:a[n]? =some a[n]:=Z0 hlt;have hb:b[n]? =some b[n]:=Z0 (by omega);have hltb:n<b.length:=by omega
    have hw:=zau n (by omega);generalize hA:a[n]=A at ha;generalize hB:b[n]=B at hb
    by_cases hq:A=B
    .subst hq;simp[rW,h0,h1,h12,h13,zdw,hlt,hltb,hl];refine zay ?_;simp[rW,h0,h1,h12,h13,zfz,ha,hb,hlt,hltb,hA,hB];rw[zdi];refine⟨a.length - (n+1),by omega,n+1,⟨rfl,by omega,fun i hi=> ?_⟩,?_⟩
     .by_cases hi2:i=n
      .subst hi2;rw[ha,hb]
      .exact he i (by omega)
     .simp[rW,h0,h1,h12,h13,hw]
    .have hne:a≠b:=fun e=>hq (by subst e;rw[ha]at hb;exact Z53 hb)
     simp[rW,h0,h1,h12,h13,zdw,hlt,hltb,hl];refine zay ?_;simp[rW,h0,h1,h12,h13,zfz,ha,hb,hlt,hltb,hA,hB,hq,hne]
   .have e:a=b:=zJY hl fun i hi=>he i (by omega)
    have hltb:¬(n<b.length):=by omega
    simp[rW,h0,h1,h12,h13,zdw,hlt,hltb,hl];exact e
  .simp[rW,SQ40];exact⟨0,by simp,by simp[hl]⟩
  .rintro x s (⟨rfl,e⟩ |⟨rfl,e,h4⟩)
   .simp[rW,e]
   .simp[rW,h4,e]
 .have hl':¬((a.length:Int)=b.length):=by omega
  have hne:¬(a=b):=fun e=>hl (by rw[e])
  simp[rW,st0,zal,za4,zdw,hl,hl',hne]
end Go.Proofs.YtbhholaillniiaaGreatDoor
end
