/- Plain: what is left of queries by minimizing. -/
import Derived.Test.YtbhholaillniiaaGreatDoorPzb
import Derived.KernelRfl
import Derived.IntWalk
import Derived.Test.YtbhholaillniiaaGreatDoorPw
import Derived.Test.YtbhholaillniiaaGreatDoorPp
import Derived.Test.YtbhholaillniiaaGreatDoorPu
import Derived.Test.YtbhholaillniiaaGreatDoorHb
import Derived.Test.YtbhholaillniiaaGreatDoorProg
set_option linter.all false
set_option maxRecDepth 100000
set_option maxHeartbeats 4000000
noncomputable section
section
namespace Go.Proofs.YtbhholaillniiaaGreatDoor
open Go Go.Vse Go.Vse.Sm
theorem exT:∀b,((ixL b).all fun i=>(ixL b).all fun j=>!exI b i j||(ixL b).all fun k=>!exI b j k||exI b i k)=true
 |false=>by kernel_rfl
 |true=>by kernel_rfl
theorem coF:∀b,((ixL b).all fun i=>exI b i i&&(exI b i (coI b i)&&(exI b (coI b i) i&&decide (coI b (coI b i)=coI b i))))=true
 |false=>by kernel_rfl
 |true=>by kernel_rfl
def zfl{b:Bool}{i:Nat}(h:i<nH b):exI b i i=true/\exI b i (coI b i)=true/\exI b (coI b i) i=true/\coI b (coI b i)=coI b i:=by
 have:=Z50.1 (coF b) i (Z174.2 h);simpa only[Z14,Z86]using this
def zlq{b:Bool}{i j k:Nat}(hi:i<nH b)(hj:j<nH b)(hk:k<nH b)(h1:exI b i j=true)(h2:exI b j k=true):exI b i k=true:=by
 have:=Z50.1 (Z50.1 (exT b) i (Z174.2 hi)) j (Z174.2 hj);rw[h1,Z89,Bool.false_or]at this;have:=Z50.1 this k (Z174.2 hk)
 rwa[h2,Z89,Bool.false_or]at this
def Apt(b:Bool)(x y:Nat):Prop:=exI b x y=false/\exI b y x=false
structure MinOk(b:Bool)(L m:List Nat):Prop where
 ne:m≠[]
 le:m.length<=L.length
 sub:∀x∈m,x∈L
 cov:∀d∈L,∃c∈m,exI b c d=true
 pw:m.Pairwise (Apt b)
theorem zO2{b:Bool}:∀{L:List Nat},Q3 b L->L≠[]->MinOk b L (minL b L.length L)
  |[],_,h=>absurd rfl h
  | [x],hQ,_=>by
    have hx:=(zfl (hQ.1 x (by simp))).1;have e:minL b [x].length [x]=[x]:=by simp[minL,min1,oth]
    rw[e];exact⟨by simp,by simp,by simp,by simpa using hx,by simp⟩
  | [x,y],hQ,_=>by
    have hx:=(zfl (hQ.1 x (by simp))).1;have hy:=(zfl (hQ.1 y (by simp))).1;cases h1:exI b x y<;>cases h2:exI b y x
    . have e:minL b [x,y].length [x,y]=[x,y]:=by simp[minL,min1,oth,h1,h2]
      rw[e];exact⟨by simp,by simp,by simp,by simp[hx,hy],by simp[Apt,h1,h2]⟩
    . have e:minL b [x,y].length [x,y]=[y]:=by simp[minL,min1,oth,h1,h2]
      rw[e];exact⟨by simp,by simp,by simp,by simp[hx,hy,h2],by simp⟩
    all_goals
      have e:minL b [x,y].length [x,y]=[x]:=by simp[minL,min1,oth,h1,h2]
      rw[e];exact⟨by simp,by simp,by simp,by simp[hx,hy,h1],by simp⟩
  | [x,y,z],hQ,_=>by
    have lx:=hQ.1 x (by simp);have ly:=hQ.1 y (by simp);have lz:=hQ.1 z (by simp);have hx:=(zfl lx).1;have hy:=(zfl ly).1;have hz:=(zfl lz).1;have t1:=zlq lx ly lz;have t2:=zlq lx lz ly;have t3:=zlq ly lx lz;have t4:=zlq ly lz lx;have t5:=zlq lz lx ly;have t6:=zlq lz ly lx;clear lx ly lz hQ;cases h1:exI b x y<;>cases h2:exI b y x<;>cases h3:exI b x z<;>cases h4:exI b z x<;>cases h5:exI b y z<;>cases h6:exI b z y<;>first
      |exact absurd ((t1 h1 h5).symm.trans h3) Bool.noConfusion
      |exact absurd ((t2 h3 h6).symm.trans h1) Bool.noConfusion
      |exact absurd ((t3 h2 h3).symm.trans h5) Bool.noConfusion
      |exact absurd ((t4 h5 h4).symm.trans h2) Bool.noConfusion
      |exact absurd ((t5 h4 h1).symm.trans h6) Bool.noConfusion
      |exact absurd ((t6 h6 h2).symm.trans h4) Bool.noConfusion
      | (clear t1 t2 t3 t4 t5 t6
         refine⟨?_,?_,?_,?_,?_⟩ <;>simp[minL,min1,oth,Apt,hx,hy,hz,h1,h2,h3,h4,h5,h6])
  |_::_::_::_::_,hQ,_=>absurd hQ.2 (by simp only[Z23];omega)
theorem zKx{b:Bool}:∀{m:List Nat},m.length<=3->m.Pairwise (Apt b)->minL b m.length m=m
 |[],_,_=>rfl
 |[x],_,_=>by simp[minL,min1,oth]
 |[x,y],_,h=>by
  simp only[Z56,Z31,forall_eq]at h;simp[minL,min1,oth,h.1.1,h.1.2]
 |[x,y,z],_,h=>by
  simp only[Z56,Z5,Z164,or_false,forall_eq_or_imp,forall_eq]at h;obtain⟨⟨h1,h2⟩,h3,-⟩ :=h;simp[minL,min1,oth,h1.1,h1.2,h2.1,h2.2,h3.1,h3.2]
 |_::_::_::_::_,h,_=>absurd h (by simp only[Z23];omega)
structure Mn(b:Bool)(l m:List Nat):Prop where
 q:Q3 b m
 ne:m≠[]
 le:m.length<=l.length
 fx:zmA b m=m
 ap:∀i k (hi:i<m.length) (hk:k<m.length),i≠k->exI b m[k] m[i]=false
 lm:zi6 b l m=true
 ml:zi6 b m l=true
def mn_ok{b:Bool}{l:List Nat}(hl:Q3 b l)(h0:l≠[]):Mn b l (zmA b l):=by
 have hQ:Q3 b (l.map (coI b)):=⟨fun c hc=>by
  obtain⟨i,hi,rfl⟩ :=Z12.1 hc;exact ztJ (hl.1 i hi),by simpa using hl.2⟩
 have H:=zO2 hQ (by simpa using h0);have e:minL b (l.map (coI b)).length (l.map (coI b))=zmA b l:=by rw[Z18];rfl
 rw[e]at H;generalize zmA b l=m at H;have hle:m.length<=l.length:=by simpa using H.le
 have hq:Q3 b m:=⟨fun i hi=>hQ.1 i (H.sub i hi),by have:=hl.2;omega⟩
 have hco:m.map (coI b)=m:=(Z68 fun i hi=>by
  obtain⟨j,hj,rfl⟩ :=Z12.1 (H.sub i hi);exact (zfl (hl.1 j hj)).2.2.2).trans (List.map_id m)
 have pw:=Z126.1 H.pw;refine⟨hq,H.ne,hle,?_,fun i k hi hk hik=> ?_,?_,?_⟩
 .unfold zmA;rw[hco];exact zKx hq.2 H.pw
 .rcases Nat.lt_or_gt_of_ne hik with h|h
  .exact (pw i k hi hk h).2
  .exact (pw k i hk hi h).1
 .refine Z50.2 fun d hd=> ?_
  obtain⟨c,hc,h⟩ :=H.cov (coI b d) (List.mem_map_of_mem hd);have hd':=hl.1 d hd;exact Z30.2 ⟨c,hc,zlq (hq.1 c hc) (ztJ hd') hd' h (zfl hd').2.2.1⟩
 .refine Z50.2 fun c hc=> ?_
  obtain⟨d,hd,rfl⟩ :=Z12.1 (H.sub c hc);exact Z30.2 ⟨d,hd,(zfl (hl.1 d hd)).2.1⟩
def fn7:pr.fn 7=some g7:=by kernel_rfl
def fn23:pr.fn 23=some g23:=by kernel_rfl
def tbN{b:Bool}{i:Nat}(h:i<nH b):∃t∈TB,t.1=cqN i:=by
 have hl:i<TB.length:=Nat.lt_of_lt_of_eq (zh7 h) (by kernel_rfl);exact⟨TB[i],Z1 hl,by simp[cqN,Z0 hl]⟩
def JEx(b:Bool)(m:List Nat)(n:Nat)(s:St):Prop:=(s.tm.get 2=some (.ptr 0 2 0 0)/\s.tm.get 3=some (.ptr 1 2 0 0)/\s.tm.get 5=some (.f (.i .i64 n))/\s.h.get 0=some (.arr 2 0 [[.f (zah (hdC b)),.f (qsF (cqs m))]])/\s.h.get 1=some (.arr 2 0 [[.f (zah (hdC b)),.f (qsF (cqs m))]]))/\2<=s.c
def ans23{b:Bool}{m:List Nat}(hm:Q3 b m):Ans pr 23 [.ag [zah (hdC b),qsF (cqs m)],.ag [zah (hdC b),qsF (cqs m)]] (.b true):=by
 refine zcx fn23 ?_;simp only[g23,rU];have q52:=fun k=>zad (k:=k) (shA b)
 simp[rW,st0,zal,za4,zd5,q52,zcS,zbY];refine zcA m.length (JEx b m) (fun x s=>x= .exit 0) ?_ ?_ _ ?_ ?_
 .rintro n s hn ⟨⟨h2,h3,h5,g0,g1⟩,hc⟩;have hw:=zau n (by have:=hm.2;omega);have hsd:=hm.1 _ (Z1 hn);generalize hA:m[n]=A at hsd;have hA':(cqs m)[n]? =some (cqN A):=by rw[zgN,Z0 hn,hA];rfl
  obtain⟨t,ht,e⟩ :=tbN hsd;have q53:=fun k=>zad (k:=k) (bnA t ht).cm
  rw[e]at q53;simp only[cqE]at q53;simp[rW,h2,h3,h5,g0,g1,zcS,zbY,hn];refine zay ?_;simp[rW,h2,h3,h5,g0,g1,zgu,hA',hA,cqE,zfZ,zf1,q53,hw];exact⟨⟨by simp[rW,h2],by simp[rW,h3],by simp[rW],by simp[rW,g0],by simp[rW,g1]⟩,by simp only[rG];omega⟩
 .rintro s ⟨⟨h2,h3,h5,g0,g1⟩,hc⟩;simp[rW,h2,h3,h5,g0,g1,zcS,zbY]
 .exact⟨⟨by simp[rW],by simp[rW],by simp[rW],by simp[rW],by simp[rW]⟩,by simp only[rG];omega⟩
 .rintro x s rfl;simp[rW]
def ans7{b:Bool}{m:List Nat}(hm:Q3 b m):Ans pr 7 [.ag [zah (hdC b),qsF (cqs m)],.ag [zah (hdC b),qsF (cqs m)]] (.b true):=by
 refine zcx fn7 ?_;simp only[g7,rU];have q23:=fun k=>zad (k:=k) (ans23 hm)
 simp[rW,st0,zal,za4,zd5,q23];refine zcA m.length (JEx b m) (fun x s=>x= .exit 0) ?_ ?_ _ ?_ ?_
 .rintro n s hn ⟨⟨h2,h3,h5,g0,g1⟩,hc⟩;have hw:=zau n (by have:=hm.2;omega);have hsd:=hm.1 _ (Z1 hn);generalize hA:m[n]=A at hsd;have hA':(cqs m)[n]? =some (cqN A):=by rw[zgN,Z0 hn,hA];rfl
  obtain⟨t,ht,e⟩ :=tbN hsd;have q24:=fun k=>zad (k:=k) (bnA t ht).eq
  rw[e]at q24;simp only[cqE]at q24;simp[rW,h2,h3,h5,g0,g1,zcS,zbY,hn];refine zay ?_;simp[rW,h2,h3,h5,g0,g1,zgu,hA',hA,cqE,zfZ,zf1,q24,hw];exact⟨⟨by simp[rW,h2],by simp[rW,h3],by simp[rW],by simp[rW,g0],by simp[rW,g1]⟩,by simp only[rG];omega⟩
 .rintro s ⟨⟨h2,h3,h5,g0,g1⟩,hc⟩;simp[rW,h2,h3,h5,g0,g1,zcS,zbY]
 .exact⟨⟨by simp[rW],by simp[rW],by simp[rW],by simp[rW],by simp[rW]⟩,by simp only[rG];omega⟩
 .rintro x s rfl;simp[rW]
theorem zm1{Vz:Int->Prop}:∀{ts:List Opn} {v:List Int} {σ τ:Asg},znU Vz σ->(∀z∈v,Vz z)->zd8 σ ts v=some τ->znU Vz τ
 |[],v,σ,τ,h,hv,e=>by cases v<;>(cases e;exact h)
 |t::ts,[],σ,τ,h,hv,e=>by cases e;exact h
 |t::ts,z::zs,σ,τ,h,hv,e=>by
  simp only[zd8]at e;split at e
  .split at e
   .exact zm1 h (fun y hy=>hv y (by simp[hy])) e
   .cases e
  .rename_i hno;split at e
   .rename_i i;refine zm1 (fun j y hy=> ?_) (fun y hy=>hv y (by simp[hy])) e
    by_cases hij:i=j
    .subst hij;simp only[zaF,Z87]at hy;split at hy
     .split at hy
      .cases hy;exact hv z (by simp)
      .cases hy
     .exact h i y hy
    .simp only[zaF]at hy;rw[Z125 hij]at hy;exact h j y hy
   .cases e
def PjT(L:List Rl)(X:Mx)(σ:Asg)(q:Pat)(r:Rl)(g':Nat)(hs:List Nat)(E E':List Er)(k:Nat):Prop:=∀v,v∈E'.map (·.2)↔v∈E.map (·.2)\/∃(j:Nat) (t:List Int×List F) (τ:Asg),j<k/\r.tu[j]? =some t/\zda L X σ q t.1=some τ/\PjS L X τ g' hs v
def zFR{L:List Rl}{X:Mx}{σ:Asg}{q:Pat}{r:Rl}{g' k:Nat}{hs:List Nat}{E E':List Er}(H:PjT L X σ q r g' hs E E' k){t:List Int×List F}(ht:r.tu[k]? =some t)(hb:zda L X σ q t.1=none):PjT L X σ q r g' hs E E' (k+1):=by
 refine fun v=>(H v).trans (or_congr_right ⟨fun⟨j,t',τ,h1,h2⟩ =>⟨j,t',τ,by omega,h2⟩,fun⟨j,t',τ,h1,h2,h3,h4⟩ =>⟨j,t',τ,?_,h2,h3,h4⟩⟩)
 rcases Z145 j k with h|h
 .exact h
 .have:j=k:=by omega
  subst this;rw[ht]at h2;cases h2;rw[hb]at h3;cases h3
def zKI{L:List Rl}{X:Mx}{σ τ:Asg}{q:Pat}{r:Rl}{g' k:Nat}{hs:List Nat}{E E1 E2:List Er}(H:PjT L X σ q r g' hs E E1 k){t:List Int×List F}(ht:r.tu[k]? =some t)(hb:zda L X σ q t.1=some τ)(h2:∀v,v∈E2.map (·.2)↔v∈E1.map (·.2)\/PjS L X τ g' hs v):PjT L X σ q r g' hs E E2 (k+1):=by
  intro v;rw[h2,H];constructor
  . rintro ((h|⟨j,t',τ1,k1,k2⟩)|k5)
    . exact .inl h
    . exact .inr ⟨j,t',τ1,by omega,k2⟩
    . exact .inr ⟨k,t,τ,by omega,ht,hb,k5⟩
  . rintro (h|⟨j,t',τ1,k1,k2,k3,k4⟩)
    . exact .inl (.inl h)
    . rcases Z145 j k with h|h
      . exact .inl (.inr ⟨j,t',τ1,h,k2,k3,k4⟩)
      . have:j=k:=by omega
        subst this;rw[ht]at k2;cases k2;rw[hb]at k3;cases k3;exact .inr k4
structure PaA(L:List Rl)(X:Mx)(Vz:Int->Prop)(key:List Int->Str)(Mp c0 e:Nat)(hs:List Nat)(dE:D)(E:List Er)(σ:Asg)(q:Pat)(r:Rl)(g g' i b4 b20:Nat)(k:Nat)(b:Bool)(h:T Ob)(c:Nat):Prop where
 a4:h.get b4=some (.arr 1 0 [[.ptr X.M 7 0 0]])
 a5:h.get (b4+1)=some (.arr 1 0 [[.f (.i .u64 g)]])
 a6:h.get (b4+2)=some (.arr 1 0 [[dE]])
 a7:h.get (b4+3)=some (.arr 1 0 [[.mp Mp]])
 a20:h.get b20=some (.arr 1 0 [[.f (.i .i64 i)]])
 lt:Mp<b4/\b4+3<b20/\b20<c
 b:b=false
 s:St0 h c0 X
 d:Gro h (X.V+1) e 1 dE (hsD hs)
 w:∃E',FmA (Vr Vz hs.length) key Mp E' h c/\PjT L X σ q r g' hs E E' k
theorem paV{L:List Rl}{X:Mx}{Vz:Int->Prop}{key:List Int->Str}{Mp c0 e:Nat}{hs:List Nat}{dE:D}{E:List Er}{σ:Asg}{q:Pat}{r:Rl}{g g' i b4 b20:Nat}(hc0:c0<=Mp)(he:e<=Mp):Vst X (fun _ id=>id=Mp) (PaA L X Vz key Mp c0 e hs dE E σ q r g g' i b4 b20) where
 lt k b h c id HA hF:=by
  have:=HA.lt;have:=HA.s.o;subst hF;omega
 up k b h c h' c' HA hf hc:=by
  have hl:=HA.lt;have ho:=HA.s.o;obtain⟨E',w1,w2⟩ :=HA.w;exact⟨⟨by rw[hf _ (by omega) (by omega) (by omega)];exact HA.a4,by rw[hf _ (by omega) (by omega) (by omega)];exact HA.a5,by rw[hf _ (by omega) (by omega) (by omega)];exact HA.a6,by rw[hf _ (by omega) (by omega) (by omega)];exact HA.a7,by rw[hf _ (by omega) (by omega) (by omega)];exact HA.a20,by omega,HA.b,HA.s.up fun id h1 h2=>hf id (by omega) (by omega) (by omega),zaS HA.d (Z2 _) fun id h1 h2=>hf id (by omega) (by omega) (by omega),E',w1.up (fun id h1 h2=>hf id h2 (by omega) (by omega)) hc,w2⟩,fun _ h=>h⟩
theorem zM5{L:List Rl}{X:Mx}{Vz:Int->Prop}{key:List Int->Str}{Mp c0 e:Nat}{hs:List Nat}{dE:D}{E:List Er}{σ τ:Asg}{q:Pat×D}{r:Rl}{g i b4 b20 k:Nat}(hK:zi0 (Vr Vz hs.length) key)(hO:MxO X L)(hσ:σ.length=X.ns.length)(hq:X.WP[i]? =some q)(hr:L[q.1.r]? =some r)(hg:g<64)(hi:g.testBit i=true)(hp:PjAt L X Vz key Mp c0 e hs dE (rmN g i))(hc0:c0<=Mp)(he:e<=Mp)(hH:zqH X σ g hs)(hV:znU Vz σ)(hR:∀t∈r.tu,∀z∈t.1,Vz z){t:List Int×List F}(ht:r.tu[k]? =some t)(hb:zda L X σ q.1 t.1=some τ){h:T Ob}{c:Nat}(H:MS L h c X τ)(HA:PaA L X Vz key Mp c0 e hs dE E σ q.1 r g (rmN g i) i b4 b20 k false h c):
  Eff pr 120 [.ptr b4 1 0 0,.ptr (b4+1) 1 0 0,.ptr b20 1 0 0,.ptr (b4+2) 1 0 0,.ptr (b4+3) 1 0 0] h c (zyU L X (fun _ id=>id=Mp) (PaA L X Vz key Mp c0 e hs dE E σ q.1 r g (rmN g i) i b4 b20 (k+1)) τ h c):=by
 have hcn:zde L X τ=true:=(zhb.1 hb).2;have h6:i<6:=zei (n:=6) hg hi;obtain⟨c1,c2⟩ :=b_rm hg h6;have hlt:=HA.lt;have hom:=H.m.o;have hst:=HA.s.o;obtain⟨E1,w1,w2⟩ :=HA.w;have htm:=Z39 ht;have hH':=zCB hO hσ hq hr htm hb (zvh hg h6) hH;have hV':=zm1 hV (hR t htm) (zhb.1 hb).1;have hdc:=zbu HA.d;refine zcm kps fn120 (fun d h' c' ⟨_,⟨b,e1,e2⟩,_⟩ _ hf=>⟨⟨τ,Ext.rfl' _,H⟩,⟨b,e1,⟨HA.a4,HA.a5,HA.a6,HA.a7,HA.a20,HA.lt,e2.b,HA.s,HA.d,?_⟩⟩,Lft.refl _ _ _ _⟩) ?_
 .obtain⟨E2,x1,x2⟩ :=e2.w;rw[zlx hK w1 x1 (hf Mp w1.b)]at x2;exact⟨E1,w1,x2⟩
 have a4:=HA.a4;have a5:=HA.a5;have a6:=HA.a6;have a7:=HA.a7;have a20:=HA.a20;generalize 2 ^ i=w at c1 c2;simp only[zzT,rU];simp[rW,st0,zal];refine zfS ?_;simp[rW,a4,a5,a6,a7,a20,c1,c2,hdc];refine zlQ [] (hp E1 τ h (c+1+1+1+1+1+1+1) (H.up (fun _ _=>rfl) (by omega)) hcn hH' hV' HA.s hc0 HA.d he (w1.up (fun _ _ _=>rfl) (by omega))) (by simp only[rG]) (by simp only[rG]) trivial rfl ?_;rintro s1 d1 c' ⟨HM,⟨E2,x1,x2⟩,hL⟩ hc1 hc2 k13 -;refine⟨by simp[rW],⟨?_⟩⟩;simp[rW,k13,zaV];have hf1:∀id,id<c->id≠X.M->id≠X.V->id≠Mp->s1.h.get id=h.get id:=fun id h1 h2 h3 h4=>hL.1 id (by omega) h2 h3 h4
 refine⟨⟨τ,Ext.rfl' _,HM.up (fun _ _=>rfl) (by omega)⟩,⟨true,rfl,⟨?_,?_,?_,?_,?_,by omega,rfl,HA.s.up fun id h1 h2=>hf1 id (by omega) (by omega) (by omega) (by omega),zaS HA.d (Z2 _) fun id h1 h2=>hf1 id (by omega) (by omega) (by omega) (by omega),E2,x1.up (fun _ _ _=>rfl) (by omega),zKI w2 ht hb x2⟩⟩,⟨hf1,fun id h1=> .inl h1⟩⟩
 .exact (hf1 _ (by omega) (by omega) (by omega) (by omega)).trans a4
 .exact (hf1 _ (by omega) (by omega) (by omega) (by omega)).trans a5
 .exact (hf1 _ (by omega) (by omega) (by omega) (by omega)).trans a6
 .exact (hf1 _ (by omega) (by omega) (by omega) (by omega)).trans a7
 .exact (hf1 _ (by omega) (by omega) (by omega) (by omega)).trans a20
def pjAt{L:List Rl}{X:Mx}{Vz:Int->Prop}{key:List Int->Str}{Mp c0 e:Nat}{hs:List Nat}{dE:D}(hK:zi0 (Vr Vz hs.length) key)(hl:hs.length<1000)(h6:∀j∈hs,j<6)(hR:∀r∈L,∀t∈r.tu,∀z∈t.1,Vz z):∀g:Nat,g<2 ^ X.WP.length->PjAt L X Vz key Mp c0 e hs dE g:=by
 intro g
 induction g using Nat.strongRecOn with
 |ind g ih=>
  intro hgl E σ h c H hcn hH hV H0 hc0 hE he HF
  by_cases hz:frH σ hs=0
  .exact zKK hK hl h6 hgl H hcn hV H0 hc0 hE he HF hz
  refine zcm kps fn67 (fun d h' c' ⟨_,⟨E',w1,w2⟩,_⟩ _ hf=>⟨H,⟨E,HF,by rw[zlx hK HF w1 (hf Mp HF.b)]at w2;exact w2⟩,Lft.refl _ _ _ _⟩) ?_;have hσ:σ.length<=6:=H.m.n6;have hPl:=H.o.Pl;have hg64:g<64:=Z15 hgl (Z113 (by decide) hPl);have hdc:=zbu hE;have hmp:=HF.b;have hmo:=H.m.o;have hst:=H0.o;obtain⟨h1,hh1⟩ :∃h1,h1=(((h.set c (.arr 1 0 [[.ptr X.M 7 0 0]])).set (c+1) (.arr 1 0 [[.f (.i .u64 g)]])).set (c+1+1) (.arr 1 0 [[dE]])).set (c+1+1+1) (.arr 1 0 [[.mp Mp]]):=⟨_,rfl⟩
  have f1:∀id,id<c->h1.get id=h.get id:=fun id hid=>by rw[hh1,TG,Z49 (by omega),TG,Z49 (by omega),TG,Z49 (by omega),TG,Z49 (by omega)]
  have g4:h1.get c=some (.arr 1 0 [[.ptr X.M 7 0 0]]):=by rw[hh1,TG,Z49 (by omega),TG,Z49 (by omega),TG,Z49 (by omega),TG,Z51 rfl]
  have g5:h1.get (c+1)=some (.arr 1 0 [[.f (.i .u64 g)]]):=by rw[hh1,TG,Z49 (by omega),TG,Z49 (by omega),TG,Z51 rfl]
  have g6:h1.get (c+1+1)=some (.arr 1 0 [[dE]]):=by rw[hh1,TG,Z49 (by omega),TG,Z51 rfl]
  have g7:h1.get (c+1+1+1)=some (.arr 1 0 [[.mp Mp]]):=by rw[hh1,TG,Z51 rfl]
  have H1:MS L h1 (c+4) X σ:=H.up f1 (by omega);have hE1:Gro h1 (X.V+1) e 1 dE (hsD hs):=zaS hE (Z2 _) fun id _ h2=>f1 id (by omega)
  have m2:¬c+1+1=c+1+1+1:=by omega
  have hEl:zcp dE=some hs.length:=by rw[zdL hE];simp[hsD]
  have hf64:=zCl (hs:=hs) hσ h6;have hus:=zQa hσ hH h6 hz;simp only[g67,rU];simp[rW,st0,zal,hdc,m2,hEl];refine zIi (L:=L) (h:=h1) (c:=c+4) (lo:=X.V+1) (e:=e) (b:=c+4) (c4:=c) (X:=X) (σ:=σ) (hs:=hs) (dE:=dE) (D5:= .ptr (c+1) 1 0 0) (D6:= .ptr (c+1+1) 1 0 0) (D7:= .ptr (c+1+1+1) 1 0 0) H1 (Z2 _) hE1 (by omega) h6 hl g4 (by omega) ⟨by simp only[Rg];simp[rW],⟨by simp[rW,frH],by simp[rW],by simp[rW],by simp[rW]⟩,by simp only[rG];omega,fun id hid=>by simp only[rG];rw[<-hh1]⟩ ?_;rintro s1 ⟨⟨k4,k5,k6,k7,-⟩,⟨h8,-⟩,hc1,hf1⟩;rw[Z7]at h8;have g5':=(hf1 (c+1) (by omega)).trans g5;generalize frH σ hs=f at h8 hz hf64 hus;have hz2:(((f:Nat):Int)==0)=false:=by simpa using hz
  simp[rW,k4,k5,k6,k7,h8,u_eq,hz2,g5'];refine pj_l4 (L:=L) (h:=h1) (c:=c+4) (b:=c+4) (c4:=c) (g:=g) (f:=f) (X:=X) (σ:=σ) (D5:= .ptr (c+1) 1 0 0) (D6:= .ptr (c+1+1) 1 0 0) (D7:= .ptr (c+1+1+1) 1 0 0) H1 (Z2 _) hgl hf64 g4 (by omega) ⟨by simp only[Rg];simp[rW,k4,k5,k6,k7,h8],⟨0,⟨by simp[rW],by simp[rW]⟩,Nat.two_pow_pos _,(fun i hi=>by rw[Nat.zero_testBit]at hi;cases hi),.inr hus⟩,hg64,fun _ h=>h,by simp only[rG];omega,fun id hid=>by simp only[rG];exact hf1 id hid⟩ ?_;rintro s2 ⟨⟨j4,j5,j6,j7,j8,-⟩,⟨u,⟨h17,-⟩,hul,husub,hab⟩,-,-,hc2,hf2⟩;have hu0:u≠0:=by
   rcases hab with h|⟨i,q,h,_⟩
   .exact h
   .rw[Nat.zero_testBit]at h;cases h
  have g4':=(hf2 c (by omega)).trans g4;have H2:MS L s2.h s2.c X σ:=H1.up hf2 (by omega);simp[rW,j4,j5,j6,j7,j8,h17,g4'];refine zbO [(4,.ptr c 1 0 0),(5,.ptr (c+1) 1 0 0),(6,.ptr (c+1+1) 1 0 0),(7,.ptr (c+1+1+1) 1 0 0)] (zB2 H2 hu0 hul) (by simp only[rG]) (by simp only[rG]) (by simp only[Rg];simp[rW,j4,j5,j6,j7]) rfl ?_;rintro s3 d3 ⟨⟨i,rfl,hiu⟩,hf3⟩ hc3 i105 ⟨i4,i5,i6,i7,-⟩;have hi:=husub i hiu;have hil:=zei hgl hi;have hi6:=zei (n:=6) hg64 hi;obtain⟨q,hq⟩ :∃q,X.WP[i]? =some q:=⟨X.WP[i],Z0 hil⟩
  have hPq:=H.o.P q (Z39 hq);obtain⟨r,hr⟩ :∃r,L[q.1.r]? =some r:=⟨L[q.1.r]'hPq.r,Z0 hPq.r⟩
  have f13:∀id,id<c+4->s3.h.get id=h1.get id:=fun id hid=>(hf3 id (by omega)).trans (hf2 id hid)
  have g4'':=(f13 c (by omega)).trans g4;have m3:¬c=s3.c:=by omega
  refine⟨?_⟩;simp[rW,i4,i5,i6,i7,i105,g4'',m3];obtain⟨h2,hh2⟩ :∃h2,h2=(s3.h.set s3.c (.arr 1 0 [[.f (.i .i64 0)]])).set s3.c (.arr 1 0 [[.f (.i .i64 i)]]):=⟨_,rfl⟩
  have f2:∀id,id<c+4->h2.get id=h1.get id:=fun id hid=>by rw[hh2,TG,Z49 (by omega),TG,Z49 (by omega)];exact f13 id hid
  have f02:∀id,id<c->h2.get id=h.get id:=fun id hid=>(f2 id (by omega)).trans (f1 id hid)
  have HM2:MS L h2 (s3.c+1) X σ:=H1.up f2 (by omega);have PA:PaA L X Vz key Mp c0 e hs dE E σ q.1 r g (rmN g i) i c s3.c 0 false h2 (s3.c+1):=⟨(f2 _ (by omega)).trans g4,(f2 _ (by omega)).trans g5,(f2 _ (by omega)).trans g6,(f2 _ (by omega)).trans g7,by rw[hh2,TG,Z51 rfl],by omega,rfl,H0.up fun id h1 h2=>f02 id (by omega),zaS hE (Z2 _) fun id h1 h2=>f02 id (by omega),E,HF.up (fun id h1 h2=>f02 id h2) (by omega),fun v=>⟨.inl,fun h=>h.elim (fun h=>h) fun⟨j,_,_,h,_⟩ =>absurd h (by omega)⟩⟩
  refine zbO [] (zB3 HM2 hcn (paV hc0 he) hq hr PA (fun k b h' c' HA' hf'=> ?_) (fun k t τ h1 c1 ht hb HM HA' _=>zM5 hK H.o H.m.n hq hr hg64 hi (ih _ (zAS hg64 hi) (by have:=zAS hg64 hi;omega)) hc0 he hH hV (hR r (Z39 hr)) ht hb HM HA') (fun k t h1 c1 ht hb HA'=> ?_) (fun id hF=>by subst hF;omega)) (by simp only[rG];exact hh2.symm) (by simp only[rG]) trivial rfl ?_
  .obtain⟨E2,x1,x2⟩ :=HA'.w;have HF2:FmA (Vr Vz hs.length) key Mp E h2 (s3.c+1):=HF.up (fun id h1 h2=>f02 id h2) (by omega);rw[zlx hK HF2 x1 (hf' Mp HF2.b)]at x2;exact⟨PA.a4,PA.a5,PA.a6,PA.a7,PA.a20,PA.lt,HA'.b,PA.s,PA.d,E,HF2,x2⟩
  .obtain⟨E2,x1,x2⟩ :=HA'.w;exact⟨HA'.a4,HA'.a5,HA'.a6,HA'.a7,HA'.a20,HA'.lt,rfl,HA'.s,HA'.d,E2,x1,zFR x2 ht hb⟩
  rintro s4 d4 ⟨HM4,⟨b,k,rfl,PA4,hbk⟩,hL⟩ hc4 j109 -;obtain⟨E2,x1,x2⟩ :=PA4.w;have hb:=PA4.b;cases b with
  |false=>cases hb
  |true=>
   have hk:=hbk rfl;subst hk;refine⟨?_⟩;simp[rW,zmi];show PjP L X (Vr Vz hs.length) key Mp E σ g hs h c (.f .un) _ _;refine⟨HM4,⟨E2,x1,fun v=>(x2 v).trans (or_congr_right ?_)⟩,⟨fun id k1 k2 k3 k4=>(hL.1 id (by omega) k2 k3 k4).trans (f02 id k1),fun id h=> .inl h⟩⟩;rw[zKJ H.o H.m.n hi hq hr (zvh hg64 hi6)];constructor
   .rintro⟨j,t,τ,_,h2,h3⟩;exact⟨j,t,τ,h2,h3⟩
   .rintro⟨j,t,τ,h2,h3⟩;exact⟨j,t,τ,(Z8.1 h2).1,h2,h3⟩
def hsI(ns hd:List Str):List Nat:=hd.map fun s=>ns.findIdx fun x=>s==x
def hvl(ns hd:List Str)(w:List Int):List Int:=hd.map fun s=>zfX ns w (.var s)
def zOH{ns hd:List Str}(h:∀s∈hd,s∈ns):hdD (hdL ns hd)=hsD (hsI ns hd):=by
 simp only[hdD,hdL,hsD,hsI,Z33];refine Z68 fun s hs=> ?_
 simp only[Function.comp_apply,List.cons.injEq,and_true,D.f.injEq,F.i.injEq,true_and];exact (zgQ (h s hs)).1
def zuB{ns hd:List Str}{τ:Asg}(ha:znQ τ)(hl:τ.length=ns.length)(h:∀s∈hd,s∈ns):hrow (hsI ns hd) τ=hvl ns hd (rowOf τ):=by
 simp only[hrow,hsI,hvl,Z33];refine Z68 fun s hs=> ?_
 simp only[Function.comp_apply];have h2:=(zgQ (h s hs)).2;rw[zvr ha (by omega)];rfl
def ztj{L:List Rl}{ns:List Str}{c:CQ}{X:Mx}(hX:zjY L ns c X)(hB:CqB ns c){j:Nat}(hjl:j<ns.length):∃i q,(2 ^ X.WP.length - 1).testBit i=true/\X.WP[i]? =some q/\q.1.m.testBit j=true:=by
 obtain⟨a,ha,hneg,hts⟩ :=hB.b ns[j] (Z1 hjl);have hm:zdZ L ns a∈X.WP.map (·.1):=by
  rw[hX.P];exact List.mem_map_of_mem (Z57.2 ⟨ha,by simp[hneg]⟩)
 obtain⟨q,hq,e⟩ :=Z12.1 hm;obtain⟨i,hi,rfl⟩ :=Z101.1 hq;refine⟨i,_,by rw[zkI];simpa using hi,Z0 hi,?_⟩;rw[e,zhK];refine Z30.2 ⟨.var j,Z12.2 ⟨_,hts,?_⟩,(zf5 _ j).2 rfl⟩;simp only[zcn];rw[zhq hB.n hjl]
def full_of{L:List Rl}{ns:List Str}{c:CQ}{X:Mx}(hX:zjY L ns c X)(hB:CqB ns c){τ:Asg}(he:Ext (e0 X) τ)(ha:∀i q,(2 ^ X.WP.length - 1).testBit i=true->X.WP[i]? =some q->AtT L τ q.1)(hc:zde L X τ=true):Full L X (e0 X) (2 ^ X.WP.length - 1) τ:=by
 have hl:τ.length=ns.length:=by rw[he.1];simp[e0,hX.nE]
 refine⟨he,ha,hc,fun j hj=> .inr (ztj hX hB ?_)⟩;rcases Z145 j ns.length with h|h
 .exact h
 .simp only[zaF]at hj;rw[Z97 (by omega)]at hj;cases hj
def zFS{L:List Rl}{ns hd:List Str}{c:CQ}{X:Mx}(hX:zjY L ns c X)(hC:zk5 L ns c)(hB:CqB ns c)(hh:∀s∈hd,s∈ns)(v:List Int):PjS L X (e0 X) (2 ^ X.WP.length - 1) (hsI ns hd) v↔∃w,zkz L ns c w/\v=hvl ns hd w:=by
 constructor
 .rintro⟨τ,he,ha,hc,rfl⟩;obtain⟨h1,h2⟩ :=(ziI hX hC hB τ).1 (full_of hX hB he ha hc);refine⟨_,h2,zuB h1 ?_ hh⟩;have:=h2.l;simpa [rowOf]using this
 .rintro⟨w,hw,rfl⟩;obtain⟨e1,e2⟩ :=zvs w;have H:=(ziI hX hC hB (w.map some)).2 ⟨e2,by rw[e1];exact hw⟩;exact⟨_,H.e,H.a,H.c,by rw[zuB e2 (by simpa using hw.l) hh,e1]⟩
def zOF{L:List Rl}{ns hd:List Str}{c:CQ}{X:Mx}(hX:zjY L ns c X)(hB:CqB ns c)(hh:∀s∈hd,s∈ns):zqH X (e0 X) (2 ^ X.WP.length - 1) (hsI ns hd):=by
 intro j hj;obtain⟨s,hs,rfl⟩ :=Z12.1 hj;have h2:=(zgQ (hh s hs)).2;exact⟨by rw[hX.nE];exact h2,.inr (ztj hX hB h2)⟩
def zQs{Vz:Int->Prop}(X:Mx):znU Vz (e0 X):=by
 intro i z hz;simp only[zaF]at hz;cases hh:(e0 X)[i]? with
 |none=>rw[hh]at hz;cases hz
 |some o=>
  rw[hh]at hz;have hz:o=some z:=hz;subst hz;exact absurd hh (zuh X i z)
def zza:C:=g35.body.r.r.l.r.b.o
def AnK(L:List Rl)(hd:List Str)(qs:List (List Str×CQ))(k:Nat)(E:List Er):Prop:=∀v,v∈E.map (·.2)↔∃i q,i<k/\qs[i]? =some q/\∃w,zkz L q.1 q.2 w/\v=hvl q.1 hd w
def Ja(L:List Rl)(Vz:Int->Prop)(key:List Int->Str)(S c1 U:Nat)(hd:List Str)(qs:List (List Str×CQ))(Z:List UZ)(dd dh:D)(Mp k:Nat)(s:St):Prop:=(s.tm.get 0=some (.ptr U 2 0 0)/\s.tm.get 3=some (.mp Mp)/\s.tm.get 10=some (dd)/\s.tm.get 11=some (.f (.i .i64 Z.length))/\s.tm.get 12=some (.f (.i .i64 k)))/\UnA L S c1 U hd qs s.h Mp Z dd dh/\∃E,FmA (Vr Vz hd.length) key Mp E s.h s.c/\AnK L hd qs k E
structure znS(L:List Rl)(Vz:Int->Prop)(hd:List Str)(qs:List (List Str×CQ)):Prop where
 v:VqOk L hd qs
 h:∀q∈qs,∀s∈hd,s∈q.1
 r:∀r∈L,∀t∈r.tu,∀z∈t.1,Vz z
def zMB{L:List Rl}{Vz:Int->Prop}{key:List Int->Str}{S c1 U:Nat}{hd:List Str}{qs:List (List Str×CQ)}{Z:List UZ}{dd dh:D}{Mp:Nat}(hK:zi0 (Vr Vz hd.length) key)(HQ:znS L Vz hd qs){s:St}{K:Ex->St->Prop}(hJ:Ja L Vz key S c1 U hd qs Z dd dh Mp 0 s)(kx:∀s,Ja L Vz key S c1 U hd qs Z dd dh Mp Z.length s->K (.exit 0) s):WL pr zza s K:=by
 have hql:=HQ.v.u.ql;refine zcA Z.length (Ja L Vz key S c1 U hd qs Z dd dh Mp) (fun e s=>e= .exit 0/\Ja L Vz key S c1 U hd qs Z dd dh Mp Z.length s) ?_ ?_ _ hJ ?_
 .rintro k s hlt ⟨⟨h0,h3,h10,h11,h12⟩,HA,E,HF,hAn⟩;have hZ:=HA.n;have hw:=zau k (by omega);have hMc:=HF.b;have hU:=HA.u;have hUo:=HA.o;have hx:Z[k]? =some Z[k]:=Z0 hlt;have hkq:k<qs.length:=by omega
  have hxq:qs[k]? =some qs[k]:=Z0 hkq;have hqm:=Z1 hkq;obtain⟨HCq,HVq⟩ :=HQ.v.u.q _ hqm;have HBq:=HQ.v.b _ hqm;have hhd:=HQ.h _ hqm;obtain⟨e1,e2,e3,e4⟩ :=HA.z k _ _ hx hxq;generalize qs[k]=q at hxq hqm HCq HVq HBq hhd e1;obtain⟨⟨σ,HM⟩,hIs,hXS,hXM,hGE⟩ :=e1;have HM':=HM.up (c':=s.c) (fun _ _=>rfl) (by omega);rcases HA.d with⟨_,e⟩ |⟨id,ro,rfl,g1,g2,g3,g4,g5⟩
  .rw[Z182]at e;rw[e]at hlt;simp at hlt
  generalize hzz:Z[k]=z at hx HM HM' e2 e3 e4 hIs hXS hXM hGE;have hxe:(Z.map fun z:UZ=>[D.ptr z.2.2.1.M 7 0 0])[k]? =some [D.ptr z.2.2.1.M 7 0 0]:=by rw[Z36,hx];rfl
  unfold zza g35;simp only[rU,C.l,C.r,C.b,C.o];simp[rW,h0,h3,h10,h11,h12,hlt,g2,hxe,Z18,hzz];rw[Z18]at HA;refine zbO [(0,.ptr U 2 0 0),(3,.mp Mp),(4,.f (.i .i64 k)),(5,.ptr z.2.2.1.M 7 0 0),(10,.sl id 0 Z.length 1 Z.length false),(11,.f (.i .i64 Z.length)),(12,.f (.i .i64 k))] (eff66 HM') (by simp only[rG]) (by simp only[rG]) (by simp only[Rg];simp[rW,h0,h3,h10,h11,h12,Z18]) rfl ?_;rintro s1 d1 ⟨⟨b,rfl,hb⟩,HM1,hF⟩ hc1 k18 ⟨k0,k3,k4,k5,k10,k11,k12,-⟩;have HA1:=zrm HA hx (fun id h1 h2 h3=>hF id (by omega) h2 h3) HM1 (Z2 _);have hMo:=HM.m.o;have HF1:FmA (Vr Vz hd.length) key Mp E s1.h s1.c:=HF.up (fun id h1 h2=>hF id h2 (by omega) (by omega)) hc1;have hMc1:Mp<s1.c:=by omega
  refine⟨?_⟩;cases b with
  |false=>
   simp[rW,k0,k3,k10,k11,k12,k18,hw];refine⟨⟨by simp[rW,k0],by simp[rW,k3],by simp[rW,k10,Z18],by simp[rW,k11],by simp[rW]⟩,by simp only[rG];exact HA1,E,by simp only[rG];exact HF1,fun v=>(hAn v).trans ⟨fun⟨i,q',h1,h2⟩ =>⟨i,q',by omega,h2⟩,fun⟨i,q',h1,h2,w,h3,h4⟩ =>⟨i,q',?_,h2,w,h3,h4⟩⟩⟩;rcases Z145 i k with h|h
   .exact h
   .have:i=k:=by omega
    subst this;rw[hxq]at h2;cases h2;have:=hb.2 ((zKo hIs HCq HBq).2 ⟨w,h3⟩);cases this
  |true=>
   simp[rW,k0,k3,k4,k5,k10,k11,k12,k18];refine zfS ?_;simp[rW,k0,k3,k4,k5,k10,k11,k12,k18];refine zlQ [(0,.ptr U 2 0 0),(3,.mp Mp),(4,.f (.i .i64 k)),(10,.sl id 0 Z.length 1 Z.length false),(11,.f (.i .i64 Z.length)),(12,.f (.i .i64 k)),(19,.ptr z.2.2.1.M 7 0 0)] (zHz (HM1.up (c':=s1.c+1+1) (fun _ _=>rfl) (by omega))) (by simp only[rG]) (by simp only[rG]) (by simp only[Rg];simp[rW,k0,k3,k4,k10,k11,k12]) rfl ?_;rintro s2 d2 c2 ⟨rfl,hf2⟩ hc2 hc2' j21 ⟨j0,j3,j4,j10,j11,j12,j19,-⟩;have f2:∀id,id<s1.c->s2.h.get id=s1.h.get id:=fun id hid=>hf2 id (by omega)
   have HA2:UnA L S c1 U hd qs s2.h Mp Z (.sl id 0 Z.length 1 Z.length false) dh:=zrm HA1 hx (fun id h1 _ _=>f2 id (by omega)) (HM1.up (c':=s2.c) f2 (by omega)) (Z2 _);have HM2:MS L s2.h s2.c z.2.2.1 (e0 z.2.2.1):=HM1.up f2 (by omega);have HF2:FmA (Vr Vz hd.length) key Mp E s2.h s2.c:=HF1.up (fun id h1 h2=>f2 id h2) (by omega);have hU2:=HA2.u;have hU1:s1.h.get U=s2.h.get U:=(f2 U (by omega)).symm;rcases HA2.e with⟨_,e⟩ |⟨ie,re,rfl,x1,x2,x3,x4,x5⟩
   .rw[Z182]at e;rw[e]at hlt;simp at hlt
   rw[Z18]at HA2 HA1 HA;have hye:(Z.map fun z:UZ=>[z.2.2.2])[k]? =some [z.2.2.2]:=by rw[Z36,hx];rfl
   have hyA:=(Z8.1 hye).2;have hie:s1.h.get ie=s2.h.get ie:=(f2 ie (by omega)).symm;refine⟨by simp[rW],⟨?_⟩⟩;simp[rW,j0,j3,j4,j10,j11,j12,j19,j21,hU2,hU1,x2,hie,hlt,hyA,hye,Z18];obtain⟨⟨⟨σ2,HMc⟩,-,-,-,hG2⟩,-⟩ :=HA2.z k z q hx hxq;rw[zOH hhd]at hG2;have hlen:(hsI q.1 hd).length=hd.length:=by simp[hsI]
   have hhl:=HQ.v.u.hl;have hns:=HCq.n;have h64:2 ^ z.2.2.1.WP.length - 1<2 ^ z.2.2.1.WP.length:=by have:=Nat.two_pow_pos z.2.2.1.WP.length;omega
   have hcn:zde L z.2.2.1 (e0 z.2.2.1)=true:=by
    obtain⟨τ,he,_,hc⟩ :=hb.1 rfl;exact zlh he hc
   refine zlQ [(0,.ptr U 2 0 0),(3,.mp Mp),(10,.sl id 0 Z.length 1 Z.length false),(11,.f (.i .i64 Z.length)),(12,.f (.i .i64 k))] (pjAt (L:=L) (X:=z.2.2.1) (Vz:=Vz) (key:=key) (Mp:=Mp) (c0:=z.2.1) (e:=z.2.1) (hs:=hsI q.1 hd) (dE:=z.2.2.2) (by rw[hlen];exact hK) (by rw[hlen];exact hhl) (fun j hj=>by
    obtain⟨s,hs,rfl⟩ :=Z12.1 hj;have:=(zgQ (hhd s hs)).2;omega) HQ.r _ h64 E (e0 z.2.2.1) s2.h (s2.c+1+1+1+1+1+1+1+1) (HM2.up (fun _ _=>rfl) (by omega)) hcn (zOF hIs HBq hhd) (zQs _) HMc.st e3 hG2 e3 (by rw[hlen];exact HF2.up (fun _ _ _=>rfl) (by omega))) (by simp only[rG]) (by simp only[rG]) (by simp only[Rg];simp[rW,j0,j3,j10,j11,j12]) rfl ?_
   rintro s3 d3 c3 ⟨HM3,⟨E3,y1,y2⟩,hL3⟩ hc3 hc3' i30 ⟨i0,i3,i10,i11,i12,-⟩;rw[hlen]at y1;have HA3:=zrm HA2 hx (fun id h1 h2 h3=>hL3.1 id (by omega) h2 h3 (by omega)) HM3 (Z2 _);refine⟨by simp[rW],⟨?_⟩⟩;simp[rW,i0,i3,i10,i11,i12,hw];refine⟨⟨by simp[rW,i0],by simp[rW,i3],by simp[rW,i10,Z18],by simp[rW,i11],by simp[rW]⟩,by simp only[rG];exact HA3,E3,by simp only[rG];exact y1.up (fun _ _ _=>rfl) hc3',fun v=> ?_⟩;rw[y2,hAn,zFS hIs HCq HBq hhd];constructor
   .rintro (⟨i,q',h1,h2⟩ |⟨w,h1,h2⟩)
    .exact⟨i,q',by omega,h2⟩
    .exact⟨k,q,by omega,hxq,w,h1,h2⟩
   .rintro⟨i,q',h1,h2,w,h3,h4⟩;rcases Z145 i k with h|h
    .exact .inl ⟨i,q',h,h2,w,h3,h4⟩
    .have:i=k:=by omega
     subst this;rw[hxq]at h2;cases h2;exact .inr ⟨w,h3,h4⟩
 .rintro s ⟨⟨h0,h3,h10,h11,h12⟩,HA,E,HF,hAn⟩;unfold zza g35;simp only[rU,C.l,C.r,C.b,C.o];simp[rW,h0,h3,h10,h11,h12];exact⟨⟨by simp[rW,h0],by simp[rW,h3],by simp[rW,h10],by simp[rW,h11],by simp[rW,h12]⟩,by simp only[rG];exact HA,E,by simp only[rG];exact HF,hAn⟩
 .rintro e s ⟨rfl,hJ⟩;exact kx s hJ
def UnA.hp{L:List Rl}{S c1 U:Nat}{hd:List Str}{qs:List (List Str×CQ)}{h h':T Ob}{c:Nat}{Z:List UZ}{dd dh:D}(HA:UnA L S c1 U hd qs h c Z dd dh)(hf:∀id,id<c->h'.get id=h.get id):UnA L S c1 U hd qs h' c Z dd dh:=by
 have ho:=HA.o;have hs:zdx h' c1 S L:=HA.s.up fun id _ h4=>hf id (by omega)
 refine⟨hs,by rw[hf _ (by omega)];exact HA.u,ho,zhD HA.d (Z2 _) fun id hid=>hf id (zbr HA.d hid).2,zhD HA.e (Z2 _) fun id hid=>hf id (zbr HA.e hid).2,HA.n,fun i w q hw hq=> ?_,HA.p,HA.ne⟩;obtain⟨e1,e2,e3,e4⟩ :=HA.z i w q hw hq;exact⟨e1.up (hs.lo (by omega)) fun id h1 h2=>hf id (by omega),e2,e3,e4⟩
def AnP(L:List Rl)(Vz:Int->Prop)(key:List Int->Str)(hd:List Str)(qs:List (List Str×CQ))(d:D)(h':T Ob)(c':Nat):Prop:=∃Mp E,d= .mp Mp/\FmA (Vr Vz hd.length) key Mp E h' c'/\AnK L hd qs qs.length E
def eff35{L:List Rl}{Vz:Int->Prop}{key:List Int->Str}{S c1 U:Nat}{hd:List Str}{qs:List (List Str×CQ)}{Z:List UZ}{dd dh:D}{h:T Ob}{c:Nat}(hK:zi0 (Vr Vz hd.length) key)(HQ:znS L Vz hd qs)(HA:UnA L S c1 U hd qs h c Z dd dh):Eff pr 35 [.ptr U 2 0 0] h c (AnP L Vz key hd qs):=by
 refine zcm kps fn35 (fun d h' c' ⟨_,_,e,_⟩ hd _=>by rw[e]at hd;cases hd) ?_;have hu:=HA.u;have hUo:=HA.o;have n1:¬U=c:=by omega
 simp only[g35,rU];simp[rW,st0,zal,hu,n1];rw[zdL HA.d,Z18];simp[rW];refine zMB (L:=L) (Vz:=Vz) (key:=key) (S:=S) (c1:=c1) (U:=U) (hd:=hd) (qs:=qs) (Z:=Z) (dd:=dd) (dh:=dh) (Mp:=c) hK HQ ⟨⟨by simp[rW],by simp[rW],by simp[rW],by simp[rW],by simp[rW]⟩,?_,[],⟨by simp[rW,mpE],by simp,by simp,by simp only[rG];omega⟩,fun v=>⟨fun h=>by simp at h,fun⟨i,_,h,_⟩ =>absurd h (by omega)⟩⟩ ?_
 .simp only[rG];exact HA.hp fun id hid=>by rw[TG,Z49 (by omega)]
 rintro s1 ⟨⟨h0,h3,-⟩,HA1,E,HF,hAn⟩;rw[HA.n]at hAn;simp[rW,h3,zaV];exact⟨c,E,rfl,HF,hAn⟩
def cdl:Code->Code
 | .seq a _=>a
 | .block _ c=>c
 | .loop c=>c
 |c=>c
def cdr:Code->Code
 | .seq _ b=>b
 |c=>c
def opsOf:Code->Array Oper
 | .region _ ops _=>ops
 |_=> #[]
def evB:Code:=(Tryz.f11.body).getD .skip
def evR:Code:=cdl (cdl (cdr (cdr (cdr evB))))
def evL:Code:=cdl (cdl (cdr (cdl (cdr (cdr (cdr evB))))))
def zNr:Tryz.f11.body=some evB:=by kernel_rfl
def zNs:evB= .seq (cdl evB) (.seq (cdl (cdr evB)) (.seq (cdl (cdr (cdr evB))) (.seq (.seq evR (.block 0 (.loop evL))) (cdr (cdr (cdr (cdr evB))))))):=by kernel_rfl
def zNu:evL= .seq (cdl evL) (.seq (.cond (.tmp 19) .skip (.exit 0)) (.block 1 (.seq (cdl (cdl (cdr (cdr evL)))) (cdr (cdl (cdr (cdr evL))))))):=by kernel_rfl
def ck0:zdd Tryz.prog pur 29 (cdl evB)=some g11.body.l:=by kernel_rfl
def ck1:zdd Tryz.prog pur 29 (cdl (cdr evB))=some g11.body.r.l:=by kernel_rfl
def ck2:zdd Tryz.prog pur 29 (cdl (cdr (cdr evB)))=some g11.body.r.r.l:=by kernel_rfl
def ck4:zdd Tryz.prog pur 29 (cdr (cdr (cdr (cdr evB))))=some g11.body.r.r.r.r:=by kernel_rfl
def CS(t:T D)(h:T Ob)(c:Nat):St:=⟨t,h,c,c,c⟩
def zBD{amb:Mu}{w0:World}{nt:Nat}{s:St}{ρ:Nat->Option Nat}{a:Act}{w:World}(hA:AtS amb w0 nt s ρ a w){t:T D}(ht:∀i d,t.get i=some d->s.tm.get i=some d):AtS amb w0 nt (CS t s.h s.c) ρ a w:=
 ⟨⟨hA.ss.sim,fun i d hi=>hA.ss.tmr i d (ht i d hi),hA.ss.nt,hA.ss.df⟩,Z2 _,hA.b,hA.z,hA.o,hA.r⟩
def zO9(R:List Er)(p:Er):rE (R++[p])=rE R++[[p.1]]:=by simp[rE]
theorem zKh{h:T Ob}{lo c es byt:Nat}{d:D}{els new:List (List D)}{rd:List Nat}{K:Rs->Prop}(hg:Gro h lo c es d els)(hz:GZ h d)(hlo:lo<=c)(hlen:els.length+new.length<=1000000)(hb:byt<=1000)
  (hK:∀r:Rs,zaq r.c r.wr=true->Gro (wrT h r.wr) lo r.c es r.d (els++new)->c<=r.c->(∀id,id<c->d.oid≠some id->(wrT h r.wr).get id=h.get id)->(∀x,x∈r.wr.map (·.1)->x=c\/d.oid=some x)->GZ (wrT h r.wr) r.d->K r):oB (zbn es byt h.get c d new rd) K:=by
 obtain⟨r,h1,h2,h3,h4,h5,h6,h7,h8⟩ :=zqV (byt:=byt) (rd:=rd) hg hlo hlen hb;have hz':oB (zbn es byt h.get c d new rd) (fun r=>GZ (wrT h r.wr) r.d):=zKg hg hz hlo hlen hb fun r _ _ _ _ _ h=>h
 rw[h1]at hz'|-;exact hK r h2 h3 h4 h5 h6 hz'
theorem zEr{h:T Ob}{lo c Mp i m:Nat}{ex:Bool}{d:D}{R:List Er}{v:List Int}(hG:Gro h lo c 1 d (rE R))(hZ:GZ h d)(hM:Mp<lo)(hlo:lo<=c)(hn:R.length<1000):
  wpC pr (.reg [⟨some 22,none,.mv (.t 5)⟩,⟨some 23,none,.mv (.t 7)⟩,⟨some 24,none,.bsf 1 [.nils] 1 [(0,.t 23)]⟩,⟨some 25,none,.app 1 24 (.t 22) (.t 24)⟩,⟨some 5,none,.mv (.t 25)⟩]) (CS ((T.e.set 5 d).set 7 (.sl i 0 m 3 m ex)) h c)
   fun e s=>e= .nrm/\c<=s.c/\Mp<s.lw/\∃d',s.tm.get 5=some d'/\Gro s.h lo s.c 1 d' (rE (R++[(.sl i 0 m 3 m ex,v)]))/\GZ s.h d'/\∀id,id<c->d.oid≠some id->s.h.get id=h.get id:=by
 unfold CS;simp[rW,zAD];refine zKh (zaS hG (Z128 c) fun id h1 h2=>by rw[TG,Z49 (by omega)]) (fun x es ro els e hx=>by
  have:=zbr hG e;rw[TG,Z49 (by omega)]at hx;exact hZ x es ro els e hx) (by omega) (by simp[rE];omega) (by omega) ?_
 intro r hr1 hr2 hr3 hr4 hr5 hr6;simp[rW,hr1];refine⟨by omega,zD9 _ _ (by rw[zib (Z2 _),ziy];omega) fun x hx=> ?_,by rw[zO9];exact hr2,hr6,fun id h1 h2=> ?_⟩
 .rcases hr5 x hx with rfl|e
  .omega
  .have:=zbr hG e;omega
 .rw[hr4 id (by omega) h2,TG,Z49 (by omega)]
def o5(i:Nat):Oper:=(opsOf (cdl evL)).getD i default
def o6(i:Nat):Oper:=(opsOf (cdl (cdl (cdr (cdr evL))))).getD i default
def ev5:∃id,cdl evL= .region id (opsOf (cdl evL)) false:=⟨5,by kernel_rfl⟩
def ev6:∃id,cdl (cdl (cdr (cdr evL)))= .region id (opsOf (cdl (cdl (cdr (cdr evL))))) false:=⟨6,by kernel_rfl⟩
def ev7:∃id,cdr (cdl (cdr (cdr evL)))= .region id (opsOf (cdr (cdl (cdr (cdr evL))))) false:=⟨7,by kernel_rfl⟩
def o5_n:List.range (opsOf (cdl evL)).size=[0,1]:=by kernel_rfl
def o6_n:List.range (opsOf (cdl (cdl (cdr (cdr evL))))).size=[0,1,2]:=by kernel_rfl
def o50:(opsOf (cdl evL))[0]? =some (o5 0)/\(o5 0).op= .next (.tmp 17) false/\(o5 0).guard=none/\(o5 0).dst=some 18:=⟨by kernel_rfl,by kernel_rfl,by kernel_rfl,by kernel_rfl⟩
def o51:(opsOf (cdl evL))[1]? =some (o5 1)/\(o5 1).op= .extract (.tmp 18) 0/\(o5 1).guard=none/\(o5 1).dst=some 19:=⟨by kernel_rfl,by kernel_rfl,by kernel_rfl,by kernel_rfl⟩
def o60:(opsOf (cdl (cdl (cdr (cdr evL)))))[0]? =some (o6 0)/\(o6 0).op= .entry (.tmp 17)/\(o6 0).guard=none/\(o6 0).dst=some 20:=⟨by kernel_rfl,by kernel_rfl,by kernel_rfl,by kernel_rfl⟩
def o61:(opsOf (cdl (cdl (cdr (cdr evL)))))[1]? =some (o6 1)/\(o6 1).op= .extract (.tmp 20) 1/\(o6 1).guard=none/\(o6 1).dst=some 21:=⟨by kernel_rfl,by kernel_rfl,by kernel_rfl,by kernel_rfl⟩
def o62:(opsOf (cdl (cdl (cdr (cdr evL)))))[2]? =some (o6 2)/\(o6 2).op= .assign (.tmp 21)/\(o6 2).guard=none/\(o6 2).dst=some 7:=⟨by kernel_rfl,by kernel_rfl,by kernel_rfl,by kernel_rfl⟩
def o7c:zas (zbN Tryz.prog pur 29 (opsOf (cdr (cdl (cdr (cdr evL)))))) (opsOf (cdr (cdl (cdr (cdr evL))))).toList=some [⟨some 22,none,.mv (.t 5)⟩,⟨some 23,none,.mv (.t 7)⟩,⟨some 24,none,.bsf 1 [.nils] 1 [(0,.t 23)]⟩,⟨some 25,none,.app 1 24 (.t 22) (.t 24)⟩,⟨some 5,none,.mv (.t 25)⟩]:=by kernel_rfl
def o7d:∀o∈(opsOf (cdr (cdl (cdr (cdr evL))))).toList,o.dst≠some 17:=by
 have e:(opsOf (cdr (cdl (cdr (cdr evL))))).toList.map (·.dst)=[some 22,some 23,some 24,some 25,some 5]:=by kernel_rfl
 intro o ho h;have:o.dst∈(opsOf (cdr (cdl (cdr (cdr evL))))).toList.map (·.dst):=List.mem_map_of_mem ho;rw[e,h]at this;simp at this
def zJx{amb:Mu}{w0:World}{nt c j:Nat}{t:T D}{h:T Ob}{ρ:Nat->Option Nat}{a:Act}{w:World}(hA:AtS amb w0 nt (CS t h c) ρ a w)(hj:j<nt){d:D}{v:Value}(hr:Rel w.heap (zak amb h.get ρ) ρ (fun id=>id<c) d v):AtS amb w0 nt (CS (t.set j d) h c) ρ (a.put (some j) v) w:=by
 refine⟨?_,Z2 _,hA.b,hA.z,hA.o,hA.r⟩;have:=hA.ss.next (Keep.refl _ _ _ _) hA.ss.sim (dst:=some j) (fun i hi=>by cases hi;exact hj) hr;refine⟨this.sim,fun i d hi=>this.tmr i d ?_,this.nt,this.df⟩;simpa [CS,TG,zez,upd]using hi
theorem zCd{H:Array Obj}{μ:Mu}{ρ:Nat->Option Nat}{c:Nat->Prop}:∀{l:List (F×D)} {es:List MapEntry} {j:Nat} {e:MapEntry},za1 H μ ρ c l es->es[j]? =some e->∃p,l[j]? =some p/\Rel H μ ρ c p.2 e.val
 |[],es,j,e,h,he=>by simp only[za1]at h;subst h;simp at he
 |(k,d)::l,es,j,e,h,he=>by
  simp only[za1]at h;obtain⟨e1,m,rfl,_,h2,h3⟩ :=h;cases j with
  |zero=>simp at he;subst he;exact⟨(k,d),rfl,h2⟩
  |succ j=>exact zCd (j:=j) h3 (by simpa using he)
structure LJ(amb:Mu)(w0:World)(key:List Int->Str)(E:List Er)(Mp lo:Nat)(idx:List Nat)(a:Act)(w:World)(ρ:Nat->Option Nat)(h:T Ob)(c:Nat)(d:D)(r bm:Nat)(es:Array MapEntry)(cl:Nat)(seen:Array Nat):Prop where
 A:AtS amb w0 29 (CS (T.e.set 5 d) h c) ρ a w
 I:ItR w0 w ρ r Mp bm es cl cl seen cl
 t:a.tmps[17]? =some (.pointer (some ⟨r,0,none⟩))
 m:h.get Mp=some (.map (mpE key E))
 e:∀p∈E,zs8 h Mp lo p.1 p.2
 g:Gro h lo c 1 d (rE (idx.filterMap (E[·]?)))
 z:GZ h d
 l:Mp<lo/\lo<=c
 n:idx.Nodup
 b:∀j∈idx,j<E.length
 s:seen.toList=idx.filterMap fun j=>(es[j]?).map (·.born)
end Go.Proofs.YtbhholaillniiaaGreatDoor
end
