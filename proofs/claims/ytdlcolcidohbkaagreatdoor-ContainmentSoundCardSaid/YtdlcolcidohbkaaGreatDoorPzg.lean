/- Homomorphisms between the queries of the table. Written by program. -/
import Derived.Test.YtdlcolcidohbkaaGreatDoorPu
import Derived.Test.YtdlcolcidohbkaaGreatDoorPv
import Derived.Test.YtdlcolcidohbkaaGreatDoorPw
import Derived.Test.YtdlcolcidohbkaaGreatDoorPx
import Derived.Test.YtdlcolcidohbkaaGreatDoorPy
import Derived.Test.YtdlcolcidohbkaaGreatDoorPz
import Derived.Test.YtdlcolcidohbkaaGreatDoorPza
import Derived.Test.YtdlcolcidohbkaaGreatDoorPzb
import Derived.Test.YtdlcolcidohbkaaGreatDoorPzc
import Derived.Test.YtdlcolcidohbkaaGreatDoorPzd
import Derived.Test.YtdlcolcidohbkaaGreatDoorPze
import Derived.Test.YtdlcolcidohbkaaGreatDoorPzf
import Derived.KernelRfl
import Derived.Test.YtdlcolcidohbkaaGreatDoorPt
import Derived.IntWalk
import Derived.Test.YtdlcolcidohbkaaGreatDoorPo
import Derived.Test.YtdlcolcidohbkaaGreatDoorPs
import Derived.Test.YtdlcolcidohbkaaGreatDoorHb
import Derived.Test.YtdlcolcidohbkaaGreatDoorProg
import Derived.Test.YtdlcolcidohbkaaGreatDoorHa
set_option linter.all false
set_option maxRecDepth 100000
set_option maxHeartbeats 4000000
noncomputable section
section
namespace Go.Proofs.YtdlcolcidohbkaaGreatDoor
open Go Go.Vse Go.Vse.Sm
def exb0:zaF (EX 0) (ixL 0):=⟨ex0_0,ex0_1,ex0_2,ex0_3,ex0_4,ex0_5,ex0_6,ex0_7,ex0_8,ex0_9,zMT,zMV,zMW,zMZ,zM0,zM1,zM3,zM5,zM6,zM8,zNa,zNc,zNd,zNg,zNi,zNk,zNl,zNm,zNn,zNp,zNq,zNr,zNs,zNu,trivial⟩
def exb1:zaF (EX 1) (ixL 1):=⟨ex1_0,ex1_1,ex1_2,ex1_3,ex1_4,ex1_5,ex1_6,ex1_7,ex1_8,ex1_9,zNv,zNw,zNx,zNz,zNA,zNB,zNC,zND,zNF,zNG,zNK,zNL,zNQ,zNR,zNS,zNT,zNU,zNV,zNW,zNX,zN1,zN3,zN5,zN7,trivial⟩
def exb2:zaF (EX 2) (ixL 2):=⟨ex2_0,ex2_1,ex2_2,ex2_3,ex2_4,ex2_5,ex2_6,ex2_7,ex2_8,zOa,zOc,zOd,zOi,zOo,zOp,zOq,zOr,zOs,zOu,zOw,zOx,trivial⟩
theorem exA:∀{b:Nat} {i j:Nat},b<3->i∈ixL b->j∈ixL b->Ans pr 30 [.ag (cqF (cqN i)),.ag (cqF (cqN j)),zah (hdC b)] (.b (exI b i j))
 |0,i,j,_,h,h2=>allL (allL exb0 i h) j h2
 |1,i,j,_,h,h2=>allL (allL exb1 i h) j h2
 |2,i,j,_,h,h2=>allL (allL exb2 i h) j h2
 |b+3,_,_,h,_,_=>absurd h (by omega)
end Go.Proofs.YtdlcolcidohbkaaGreatDoor
end
section
namespace Go.Proofs.YtdlcolcidohbkaaGreatDoor
open Go Go.Vse Go.Vse.Sm
def ixP{α:Type}(l:List α)(p:α->Bool):Int:=match l.findIdx? p with
 |some n=>n
 |none=> -1
def zGK{α:Type}{l:List α}{p:α->Bool}(h:∀a∈l,p a=false):ixP l p= -1:=by
 have:l.findIdx? p=none:=Z43.2 h;simp[ixP,this]
def zO8{α:Type}{l:List α}{p:α->Bool}{n:Nat}(h:n<l.length)(h1:p l[n]=true)(h2:∀m (h':m<n),p (l[m]'(by omega))=false):ixP l p=n:=by
 have:l.findIdx? p=some n:=by
  rw[Z26];exact⟨h,h1,fun j hj=>by simpa using h2 j hj⟩
 simp[ixP,this]
def zO4{α:Type}(l:List α)(p:α->Bool):decide (ixP l p≥0)=l.any p:=by
 cases h:l.any p with
 |true=>
  unfold ixP;cases h2:l.findIdx? p with
  |some n=>simp
  |none=>rw[Z43]at h2;simp at h;obtain⟨x,hx,hp⟩ :=h;rw[h2 x hx]at hp;cases hp
 |false=>
  have:=zGK (l:=l) (p:=p) (by simpa using h);simp[this]
def fn8:pr.fn 8=some g8:=by kernel_rfl
def fn28:pr.fn 28=some g28:=by kernel_rfl
def fn29:pr.fn 29=some g29:=by kernel_rfl
def fn54:pr.fn 54=some g54:=by kernel_rfl
def zHi:∀(l:List (Nat×Option Ob)) (m:Nat),zdL m l<=m:=fun l m=>(zhk l m).1
def QOk(b:Nat)(l:List Nat):Prop:=(b<3/\∀i∈l,i∈ixL b)/\l.length<1000
def cqs(l:List Nat):List CQ:=l.map cqN
def zwM(l:List Nat):(cqs l).length=l.length:=by simp[cqs]
def zwL(l:List Nat)(n:Nat):(cqs l)[n]? =(l[n]?).map cqN:=by simp[cqs]
def zrD(b:Nat)(l m:List Nat):Bool:=l.all fun d=>m.any fun c=>exI b c d
theorem zCj:∀b:Nat,(hdC b).length<100000
 |0=>by decide
 |1=>by decide
 |_+2=>by simp[hdC]
def cqD(c:CQ):List D:=[.f (zcN c),.f (zc7 c)]
theorem ro29{b:Nat}{i j:Nat}(hb:b<3)(hi:i∈ixL b)(hj:j∈ixL b){h:T Ob}{k X Y:Nat}{y:D}(gX:h.get X=some (.arr 2 0 [cqD (cqN j)]))(gY:h.get Y=some (.arr 2 0 [[.f (zah (hdC b)),y]]))(hX:X<k)(hY:Y<k):
  RO pr 29 [.ag (cqD (cqN i)),.ptr X 2 0 0,.ptr Y 2 0 0] h k (.f (.b (exI b i j))):=by
 refine zjE zgQ fn29 rfl ?_;simp only[g29,rU];have nX:¬X=k:=by omega
 have nY:¬Y=k:=by omega
 have q:=fun j=>zad (k:=j) (exA hb hi hj)
 simp only[cqE]at q;unfold cqD at gX;simp[rW,st0,zak,cqD,gX,gY,nX,nY,zd8,zeb,zaL,q,zfz];simp (disch:=omega) only[zjK,zkK]
theorem ro54(l:List Nat)(p:Nat->Bool)(hl:l.length<100000){h:T Ob}{c g:Nat}{cap:List D}(hcl:∀n (hn:n<l.length),RO pr g (.ag (cqD (cqN l[n]))::cap) h c (.f (.b (p l[n])))):
  RO pr 54 [.f (qsF (cqs l)),.fn g [] cap] h c (.f (.i .i64 (ixP l p))):=by
 refine zjE zgQ fn54 rfl ?_;simp only[g54,rU];simp[rW,st0,zak,zcH,zwM];refine zmy l p (fun n s=>s.tm.get 0=some (.f (qsF (cqs l)))/\s.tm.get 1=some (.fn g [] cap)/\s.tm.get 7=some (.f (.i .i64 l.length))/\s.tm.get 8=some (.f (.i .i64 n))/\s.h=h/\s.c=c/\s.lw=c) (fun x s=>x= .exit 0/\s.lw=c) (fun n y s=>y= .ret/\s.tm.get 4=some (.f (.i .i64 n))/\s.lw=c) ?_ ?_ _ ?_ ?_ ?_
 .rintro n s hn ⟨h0,h1,h7,h8,eh,ec,el⟩;have hw:=zao n (by omega);have hp:=hcl n hn;generalize hA:l[n]=A at hp|-;have hA':(cqs l)[n]? =some (cqN A):=by rw[zwL,Z0 hn,hA];rfl
  simp[rW,h0,h1,h7,h8,hn,zeA,hA',hA,cqE];refine zk6 (d:= .f (.b (p A))) ?_ ?_ ?_
  .simp only[rG];rw[eh,ec];exact hp
  .simp only[rG];omega
  .intro mx;cases hb:p A with
   |true=>simp[rW,h0,h1,h7,h8,el]
   |false=>simp[rW,h0,h1,h7,h8,hw,eh,ec,el]
 .rintro s ⟨h0,h1,h7,h8,eh,ec,el⟩;simp[rW,h0,h1,h7,h8,el]
 .simp[rW,st0,zak]
 .rintro h z s ⟨rfl,el⟩;rw[zGK h];simp[rW,zfz,el]
 .rintro n hn hp hm z s ⟨rfl,h4,el⟩;rw[zO8 hn hp hm];simp[rW,h4,zfz,el]
theorem ro28(l:List Nat)(p:Nat->Bool)(hl:l.length<100000){h:T Ob}{c g:Nat}{cap:List D}(hcl:∀n (hn:n<l.length),RO pr g (.ag (cqD (cqN l[n]))::cap) h c (.f (.b (p l[n])))):
  RO pr 28 [.f (qsF (cqs l)),.fn g [] cap] h c (.f (.b (l.any p))):=by
 refine zjE zgQ fn28 rfl ?_;simp only[g28,rU];rw[<-zO4 l p];simp[rW,st0,zak];refine zk6 (d:= .f (.i .i64 (ixP l p))) ?_ ?_ ?_
 .simp only[rG];exact ro54 l p hl hcl
 .simp only[rG];omega
 .intro mx;simp[rW,zfz]
def nIn(b:Nat)(m:List Nat)(d:Nat):Bool:=!(m.any fun c=>exI b c d)
def P0(b:Nat)(l m:List Nat)(n:Nat)(s:St):Prop:=(s.tm.get 2=some (.ptr 0 2 0 0)/\s.tm.get 3=some (.ptr 1 2 0 0)/\s.tm.get 14=some (.f (qsF (cqs l)))/\s.tm.get 15=some (.f (.i .i64 l.length))/\s.tm.get 16=some (.f (.i .i64 n))/\s.h.get 0=some (.arr 2 0 [[.f (zah (hdC b)),.f (qsF (cqs l))]])/\s.h.get 1=some (.arr 2 0 [[.f (zah (hdC b)),.f (qsF (cqs m))]]))/\2<=s.c/\s.lw<=s.c
def ans8{b:Nat}{l m:List Nat}(hl:QOk b l)(hm:QOk b m):Ans pr 8 [.ag [zah (hdC b),qsF (cqs l)],.ag [zah (hdC b),qsF (cqs m)]] (.b (zrD b l m)):=by
 refine zcf fn8 ?_;simp only[g8,rU];have q40:=fun k=>zad (k:=k) (zF9 (hdC b) (hdC b) (zCj b))
 rw[decide_eq_true rfl]at q40;unfold zrD;simp[rW,st0,zak,zaL,ze8,q40,zcH,zwM];refine zmy l (nIn b m) (fun n s=>P0 b l m n s) (fun x s=>x= .exit 0) (fun n y s=>y= .ret/\s.tm.get 4=some (.f (.b false))) ?_ ?_ _ ?_ ?_ ?_
 .rintro n s hn ⟨⟨h2,h3,h14,h15,h16,g0,g1⟩,hc2,hlw⟩;have hw:=zao n (by have:=hl.2;omega);have hsd:=hl.1.2 _ (Z1 hn);generalize hA:l[n]=A at hsd|-;have hA':(cqs l)[n]? =some (cqN A):=by rw[zwL,Z0 hn,hA];rfl
  have n0:¬(0=s.c):=by omega
  have n1:¬(1=s.c):=by omega
  simp[rW,h2,h3,h14,h15,h16,g0,g1,hn,zeA,hA',hA,cqE,n0,n1];refine zk6 (d:= .f (.b (m.any fun c=>exI b c A))) (ro28 m (fun c=>exI b c A) (by have:=hm.2;omega) fun k hk=> ?_) ?_ ?_
  .refine ro29 (hm.1.1) (hm.1.2 _ (Z1 hk)) hsd (y:= .f (qsF (cqs l))) ?_ ?_ ?_ ?_
   .simp only[rG];simp[TG,cqD]
   .simp only[rG];simp[TG,n0,g0]
   .simp only[rG];omega
   .simp only[rG];omega
  .simp only[rG]
   (repeat refine Z3 (zHi _ _) ?_)
   omega
  .intro mx;cases hb:m.any fun c=>exI b c A with
   |true=>
    have e:nIn b m A=false:=by unfold nIn;rw[hb];rfl
    simp[rW,h2,h3,h14,h15,h16,g0,g1,e,hw,n0,n1,P0];refine⟨by omega,?_⟩
    (repeat refine Z3 (zHi _ _) ?_)
    omega
   |false=>
    have e:nIn b m A=true:=by unfold nIn;rw[hb];rfl
    simp[rW,h2,h3,h14,h15,h16,g0,g1,e,hw,n0,n1]
 .rintro s ⟨⟨h2,h3,h14,h15,h16,g0,g1⟩,hc2,hlw⟩;simp[rW,h2,h3,h14,h15,h16,g0,g1]
 .simp[rW,P0];simp[zdL]
 .rintro h z s rfl;have e:(l.all fun d=>m.any fun c=>exI b c d)=true:=Z50.2 fun x hx=>by simpa [nIn]using h x hx
  rw[e];simp[rW]
 .rintro n hn hp hm z s ⟨rfl,h4⟩;have e:(l.all fun d=>m.any fun c=>exI b c d)=false:=Z143.2 ⟨l[n],Z1 hn,by simpa [nIn]using hp⟩;rw[e];simp[rW,h4]
def ans8d{hd hd':List Str}{l m:List CQ}(hne:hd≠hd')(hl:hd.length<100000):Ans pr 8 [.ag [zah hd,qsF l],.ag [zah hd',qsF m]] (.b false):=by
 refine zcf fn8 ?_;simp only[g8,rU];have q40:=fun k=>zad (k:=k) (zF9 hd hd' hl)
 rw[decide_eq_false hne]at q40;simp[rW,st0,zak,zaL,ze8,q40]
theorem zn1{Vz:Int->Prop}:∀{ts:List Opn} {v:List Int} {σ τ:Asg},zo5 Vz σ->(∀z∈v,Vz z)->zea σ ts v=some τ->zo5 Vz τ
 |[],v,σ,τ,h,hv,e=>by cases v<;>(cases e;exact h)
 |t::ts,[],σ,τ,h,hv,e=>by cases e;exact h
 |t::ts,z::zs,σ,τ,h,hv,e=>by
  simp only[zea]at e;split at e
  .split at e
   .exact zn1 h (fun y hy=>hv y (by simp[hy])) e
   .cases e
  .rename_i hno;split at e
   .rename_i i;refine zn1 (fun j y hy=> ?_) (fun y hy=>hv y (by simp[hy])) e
    by_cases hij:i=j
    .subst hij;simp only[zaC,Z87]at hy;split at hy
     .split at hy
      .cases hy;exact hv z (by simp)
      .cases hy
     .exact h i y hy
    .simp only[zaC]at hy;rw[Z125 hij]at hy;exact h j y hy
   .cases e
def PjT(L:List Rl)(X:Mx)(σ:Asg)(q:Pat)(r:Rl)(g':Nat)(hs:List Nat)(E E':List Er)(k:Nat):Prop:=∀v,v∈E'.map (·.2)↔v∈E.map (·.2)\/∃(j:Nat) (t:List Int×List F) (τ:Asg),j<k/\r.tu[j]? =some t/\zdg L X σ q t.1=some τ/\PjS L X τ g' hs v
def zFa{L:List Rl}{X:Mx}{σ:Asg}{q:Pat}{r:Rl}{g' k:Nat}{hs:List Nat}{E E':List Er}(H:PjT L X σ q r g' hs E E' k){t:List Int×List F}(ht:r.tu[k]? =some t)(hb:zdg L X σ q t.1=none):PjT L X σ q r g' hs E E' (k+1):=by
 refine fun v=>(H v).trans (or_congr_right ⟨fun⟨j,t',τ,h1,h2⟩ =>⟨j,t',τ,by omega,h2⟩,fun⟨j,t',τ,h1,h2,h3,h4⟩ =>⟨j,t',τ,?_,h2,h3,h4⟩⟩)
 rcases Z145 j k with h|h
 .exact h
 .have:j=k:=by omega
  subst this;rw[ht]at h2;cases h2;rw[hb]at h3;cases h3
def zJA{L:List Rl}{X:Mx}{σ τ:Asg}{q:Pat}{r:Rl}{g' k:Nat}{hs:List Nat}{E E1 E2:List Er}(H:PjT L X σ q r g' hs E E1 k){t:List Int×List F}(ht:r.tu[k]? =some t)(hb:zdg L X σ q t.1=some τ)(h2:∀v,v∈E2.map (·.2)↔v∈E1.map (·.2)\/PjS L X τ g' hs v):PjT L X σ q r g' hs E E2 (k+1):=by
  intro v;rw[h2,H];constructor
  . rintro ((h|⟨j,t',τ1,k1,k2⟩)|k5)
    . exact .inl h
    . exact .inr ⟨j,t',τ1,by omega,k2⟩
    . exact .inr ⟨k,t,τ,by omega,ht,hb,k5⟩
  . rintro (h|⟨j,t',τ1,k1,k2,k3,k4⟩)
    . exact .inl (.inl h)
    . rcases Z145 j k with h|h
      . exact .inl (.inr ⟨j,t',τ1,h,k2,k3,k4⟩)
      . have:j=k:=by omega
        subst this;rw[ht]at k2;cases k2;rw[hb]at k3;cases k3;exact .inr k4
structure PaA(L:List Rl)(X:Mx)(Vz:Int->Prop)(key:List Int->Str)(Mp c0 e:Nat)(hs:List Nat)(dE:D)(E:List Er)(σ:Asg)(q:Pat)(r:Rl)(g g' i b4 b20:Nat)(k:Nat)(b:Bool)(h:T Ob)(c:Nat):Prop where
 a4:h.get b4=some (.arr 1 0 [[.ptr X.M 7 0 0]])
 a5:h.get (b4+1)=some (.arr 1 0 [[.f (.i .u64 g)]])
 a6:h.get (b4+2)=some (.arr 1 0 [[dE]])
 a7:h.get (b4+3)=some (.arr 1 0 [[.mp Mp]])
 a20:h.get b20=some (.arr 1 0 [[.f (.i .i64 i)]])
 lt:Mp<b4/\b4+3<b20/\b20<c
 b:b=false
 s:St0 h c0 X
 d:Gro h (X.V+1) e 1 dE (hsD hs)
 w:∃E',FmA (Vr Vz hs.length) key Mp E' h c/\PjT L X σ q r g' hs E E' k
theorem paV{L:List Rl}{X:Mx}{Vz:Int->Prop}{key:List Int->Str}{Mp c0 e:Nat}{hs:List Nat}{dE:D}{E:List Er}{σ:Asg}{q:Pat}{r:Rl}{g g' i b4 b20:Nat}(hc0:c0<=Mp)(he:e<=Mp):Vst X (fun _ id=>id=Mp) (PaA L X Vz key Mp c0 e hs dE E σ q r g g' i b4 b20) where
 lt k b h c id HA hF:=by
  have:=HA.lt;have:=HA.s.o;subst hF;omega
 up k b h c h' c' HA hf hc:=by
  have hl:=HA.lt;have ho:=HA.s.o;obtain⟨E',w1,w2⟩ :=HA.w;exact⟨⟨by rw[hf _ (by omega) (by omega) (by omega)];exact HA.a4,by rw[hf _ (by omega) (by omega) (by omega)];exact HA.a5,by rw[hf _ (by omega) (by omega) (by omega)];exact HA.a6,by rw[hf _ (by omega) (by omega) (by omega)];exact HA.a7,by rw[hf _ (by omega) (by omega) (by omega)];exact HA.a20,by omega,HA.b,HA.s.up fun id h1 h2=>hf id (by omega) (by omega) (by omega),zaX HA.d (Z2 _) fun id h1 h2=>hf id (by omega) (by omega) (by omega),E',w1.up (fun id h1 h2=>hf id h2 (by omega) (by omega)) hc,w2⟩,fun _ h=>h⟩
theorem zMo{L:List Rl}{X:Mx}{Vz:Int->Prop}{key:List Int->Str}{Mp c0 e:Nat}{hs:List Nat}{dE:D}{E:List Er}{σ τ:Asg}{q:Pat×D}{r:Rl}{g i b4 b20 k:Nat}(hK:zj8 (Vr Vz hs.length) key)(hO:MxO X L)(hσ:σ.length=X.ns.length)(hq:X.WP[i]? =some q)(hr:L[q.1.r]? =some r)(hg:g<64)(hi:g.testBit i=true)(hp:PjAt L X Vz key Mp c0 e hs dE (rmN g i))(hc0:c0<=Mp)(he:e<=Mp)(hH:zru X σ g hs)(hV:zo5 Vz σ)(hR:∀t∈r.tu,∀z∈t.1,Vz z){t:List Int×List F}(ht:r.tu[k]? =some t)(hb:zdg L X σ q.1 t.1=some τ){h:T Ob}{c:Nat}(H:MS L h c X τ)(HA:PaA L X Vz key Mp c0 e hs dE E σ q.1 r g (rmN g i) i b4 b20 k false h c):
  Eff pr 115 [.ptr b4 1 0 0,.ptr (b4+1) 1 0 0,.ptr b20 1 0 0,.ptr (b4+2) 1 0 0,.ptr (b4+3) 1 0 0] h c (zym L X (fun _ id=>id=Mp) (PaA L X Vz key Mp c0 e hs dE E σ q.1 r g (rmN g i) i b4 b20 (k+1)) τ h c):=by
 have hcn:zdk L X τ=true:=(zhT.1 hb).2;have h6:i<6:=zem (n:=6) hg hi;obtain⟨c1,c2⟩ :=b_rm hg h6;have hlt:=HA.lt;have hom:=H.m.o;have hst:=HA.s.o;obtain⟨E1,w1,w2⟩ :=HA.w;have htm:=Z39 ht;have hH':=zCk hO hσ hq hr htm hb (zvs hg h6) hH;have hV':=zn1 hV (hR t htm) (zhT.1 hb).1;have hdc:=zbY HA.d;refine zb2 kps fn115 (fun d h' c' ⟨_,⟨b,e1,e2⟩,_⟩ _ hf=>⟨⟨τ,Ext.rfl' _,H⟩,⟨b,e1,⟨HA.a4,HA.a5,HA.a6,HA.a7,HA.a20,HA.lt,e2.b,HA.s,HA.d,?_⟩⟩,Lft.refl _ _ _ _⟩) ?_
 .obtain⟨E2,x1,x2⟩ :=e2.w;rw[zmA hK w1 x1 (hf Mp w1.b)]at x2;exact⟨E1,w1,x2⟩
 have a4:=HA.a4;have a5:=HA.a5;have a6:=HA.a6;have a7:=HA.a7;have a20:=HA.a20;generalize 2 ^ i=w at c1 c2;simp only[zzS,rU];simp[rW,st0,zak];refine zgi ?_;simp[rW,a4,a5,a6,a7,a20,c1,c2,hdc];refine zm1 [] (hp E1 τ h (c+1+1+1+1+1+1+1) (H.up (fun _ _=>rfl) (by omega)) hcn hH' hV' HA.s hc0 HA.d he (w1.up (fun _ _ _=>rfl) (by omega))) (by simp only[rG]) (by simp only[rG]) trivial rfl ?_;rintro s1 d1 c' ⟨HM,⟨E2,x1,x2⟩,hL⟩ hc1 hc2 k13 -;refine⟨by simp[rW],⟨?_⟩⟩;simp[rW,k13,zaR];have hf1:∀id,id<c->id≠X.M->id≠X.V->id≠Mp->s1.h.get id=h.get id:=fun id h1 h2 h3 h4=>hL.1 id (by omega) h2 h3 h4
 refine⟨⟨τ,Ext.rfl' _,HM.up (fun _ _=>rfl) (by omega)⟩,⟨true,rfl,⟨?_,?_,?_,?_,?_,by omega,rfl,HA.s.up fun id h1 h2=>hf1 id (by omega) (by omega) (by omega) (by omega),zaX HA.d (Z2 _) fun id h1 h2=>hf1 id (by omega) (by omega) (by omega) (by omega),E2,x1.up (fun _ _ _=>rfl) (by omega),zJA w2 ht hb x2⟩⟩,⟨hf1,fun id h1=> .inl h1⟩⟩
 .exact (hf1 _ (by omega) (by omega) (by omega) (by omega)).trans a4
 .exact (hf1 _ (by omega) (by omega) (by omega) (by omega)).trans a5
 .exact (hf1 _ (by omega) (by omega) (by omega) (by omega)).trans a6
 .exact (hf1 _ (by omega) (by omega) (by omega) (by omega)).trans a7
 .exact (hf1 _ (by omega) (by omega) (by omega) (by omega)).trans a20
def pjAt{L:List Rl}{X:Mx}{Vz:Int->Prop}{key:List Int->Str}{Mp c0 e:Nat}{hs:List Nat}{dE:D}(hK:zj8 (Vr Vz hs.length) key)(hl:hs.length<1000)(h6:∀j∈hs,j<6)(hR:∀r∈L,∀t∈r.tu,∀z∈t.1,Vz z):∀g:Nat,g<2 ^ X.WP.length->PjAt L X Vz key Mp c0 e hs dE g:=by
 intro g
 induction g using Nat.strongRecOn with
 |ind g ih=>
  intro hgl E σ h c H hcn hH hV H0 hc0 hE he HF
  by_cases hz:frH σ hs=0
  .exact zJC hK hl h6 hgl H hcn hV H0 hc0 hE he HF hz
  refine zb2 kps fn61 (fun d h' c' ⟨_,⟨E',w1,w2⟩,_⟩ _ hf=>⟨H,⟨E,HF,by rw[zmA hK HF w1 (hf Mp HF.b)]at w2;exact w2⟩,Lft.refl _ _ _ _⟩) ?_;have hσ:σ.length<=6:=H.m.n6;have hPl:=H.o.Pl;have hg64:g<64:=Z15 hgl (Z113 (by decide) hPl);have hdc:=zbY hE;have hmp:=HF.b;have hmo:=H.m.o;have hst:=H0.o;obtain⟨h1,hh1⟩ :∃h1,h1=(((h.set c (.arr 1 0 [[.ptr X.M 7 0 0]])).set (c+1) (.arr 1 0 [[.f (.i .u64 g)]])).set (c+1+1) (.arr 1 0 [[dE]])).set (c+1+1+1) (.arr 1 0 [[.mp Mp]]):=⟨_,rfl⟩
  have f1:∀id,id<c->h1.get id=h.get id:=fun id hid=>by rw[hh1,TG,Z49 (by omega),TG,Z49 (by omega),TG,Z49 (by omega),TG,Z49 (by omega)]
  have g4:h1.get c=some (.arr 1 0 [[.ptr X.M 7 0 0]]):=by rw[hh1,TG,Z49 (by omega),TG,Z49 (by omega),TG,Z49 (by omega),TG,Z51 rfl]
  have g5:h1.get (c+1)=some (.arr 1 0 [[.f (.i .u64 g)]]):=by rw[hh1,TG,Z49 (by omega),TG,Z49 (by omega),TG,Z51 rfl]
  have g6:h1.get (c+1+1)=some (.arr 1 0 [[dE]]):=by rw[hh1,TG,Z49 (by omega),TG,Z51 rfl]
  have g7:h1.get (c+1+1+1)=some (.arr 1 0 [[.mp Mp]]):=by rw[hh1,TG,Z51 rfl]
  have H1:MS L h1 (c+4) X σ:=H.up f1 (by omega);have hE1:Gro h1 (X.V+1) e 1 dE (hsD hs):=zaX hE (Z2 _) fun id _ h2=>f1 id (by omega)
  have m2:¬c+1+1=c+1+1+1:=by omega
  have hEl:zci dE=some hs.length:=by rw[zer hE];simp[hsD]
  have hf64:=zB7 (hs:=hs) hσ h6;have hus:=zRn hσ hH h6 hz;simp only[g61,rU];simp[rW,st0,zak,hdc,m2,hEl];refine zGR (L:=L) (h:=h1) (c:=c+4) (lo:=X.V+1) (e:=e) (b:=c+4) (c4:=c) (X:=X) (σ:=σ) (hs:=hs) (dE:=dE) (D5:= .ptr (c+1) 1 0 0) (D6:= .ptr (c+1+1) 1 0 0) (D7:= .ptr (c+1+1+1) 1 0 0) H1 (Z2 _) hE1 (by omega) h6 hl g4 (by omega) ⟨by simp only[Rg];simp[rW],⟨by simp[rW,frH],by simp[rW],by simp[rW],by simp[rW]⟩,by simp only[rG];omega,fun id hid=>by simp only[rG];rw[<-hh1]⟩ ?_;rintro s1 ⟨⟨k4,k5,k6,k7,-⟩,⟨h8,-⟩,hc1,hf1⟩;rw[Z7]at h8;have g5':=(hf1 (c+1) (by omega)).trans g5;generalize frH σ hs=f at h8 hz hf64 hus;have hz2:(((f:Nat):Int)==0)=false:=by simpa using hz
  simp[rW,k4,k5,k6,k7,h8,u_eq,hz2,g5'];refine pj_l4 (L:=L) (h:=h1) (c:=c+4) (b:=c+4) (c4:=c) (g:=g) (f:=f) (X:=X) (σ:=σ) (D5:= .ptr (c+1) 1 0 0) (D6:= .ptr (c+1+1) 1 0 0) (D7:= .ptr (c+1+1+1) 1 0 0) H1 (Z2 _) hgl hf64 g4 (by omega) ⟨by simp only[Rg];simp[rW,k4,k5,k6,k7,h8],⟨0,⟨by simp[rW],by simp[rW]⟩,Nat.two_pow_pos _,(fun i hi=>by rw[Nat.zero_testBit]at hi;cases hi),.inr hus⟩,hg64,fun _ h=>h,by simp only[rG];omega,fun id hid=>by simp only[rG];exact hf1 id hid⟩ ?_;rintro s2 ⟨⟨j4,j5,j6,j7,j8,-⟩,⟨u,⟨h17,-⟩,hul,husub,hab⟩,-,-,hc2,hf2⟩;have hu0:u≠0:=by
   rcases hab with h|⟨i,q,h,_⟩
   .exact h
   .rw[Nat.zero_testBit]at h;cases h
  have g4':=(hf2 c (by omega)).trans g4;have H2:MS L s2.h s2.c X σ:=H1.up hf2 (by omega);simp[rW,j4,j5,j6,j7,j8,h17,g4'];refine zbR [(4,.ptr c 1 0 0),(5,.ptr (c+1) 1 0 0),(6,.ptr (c+1+1) 1 0 0),(7,.ptr (c+1+1+1) 1 0 0)] (zBQ H2 hu0 hul) (by simp only[rG]) (by simp only[rG]) (by simp only[Rg];simp[rW,j4,j5,j6,j7]) rfl ?_;rintro s3 d3 ⟨⟨i,rfl,hiu⟩,hf3⟩ hc3 i105 ⟨i4,i5,i6,i7,-⟩;have hi:=husub i hiu;have hil:=zem hgl hi;have hi6:=zem (n:=6) hg64 hi;obtain⟨q,hq⟩ :∃q,X.WP[i]? =some q:=⟨X.WP[i],Z0 hil⟩
  have hPq:=H.o.P q (Z39 hq);obtain⟨r,hr⟩ :∃r,L[q.1.r]? =some r:=⟨L[q.1.r]'hPq.r,Z0 hPq.r⟩
  have f13:∀id,id<c+4->s3.h.get id=h1.get id:=fun id hid=>(hf3 id (by omega)).trans (hf2 id hid)
  have g4'':=(f13 c (by omega)).trans g4;have m3:¬c=s3.c:=by omega
  refine⟨?_⟩;simp[rW,i4,i5,i6,i7,i105,g4'',m3];obtain⟨h2,hh2⟩ :∃h2,h2=(s3.h.set s3.c (.arr 1 0 [[.f (.i .i64 0)]])).set s3.c (.arr 1 0 [[.f (.i .i64 i)]]):=⟨_,rfl⟩
  have f2:∀id,id<c+4->h2.get id=h1.get id:=fun id hid=>by rw[hh2,TG,Z49 (by omega),TG,Z49 (by omega)];exact f13 id hid
  have f02:∀id,id<c->h2.get id=h.get id:=fun id hid=>(f2 id (by omega)).trans (f1 id hid)
  have HM2:MS L h2 (s3.c+1) X σ:=H1.up f2 (by omega);have PA:PaA L X Vz key Mp c0 e hs dE E σ q.1 r g (rmN g i) i c s3.c 0 false h2 (s3.c+1):=⟨(f2 _ (by omega)).trans g4,(f2 _ (by omega)).trans g5,(f2 _ (by omega)).trans g6,(f2 _ (by omega)).trans g7,by rw[hh2,TG,Z51 rfl],by omega,rfl,H0.up fun id h1 h2=>f02 id (by omega),zaX hE (Z2 _) fun id h1 h2=>f02 id (by omega),E,HF.up (fun id h1 h2=>f02 id h2) (by omega),fun v=>⟨.inl,fun h=>h.elim (fun h=>h) fun⟨j,_,_,h,_⟩ =>absurd h (by omega)⟩⟩
  refine zbR [] (zBR HM2 hcn (paV hc0 he) hq hr PA (fun k b h' c' HA' hf'=> ?_) (fun k t τ h1 c1 ht hb HM HA' _=>zMo hK H.o H.m.n hq hr hg64 hi (ih _ (zAX hg64 hi) (by have:=zAX hg64 hi;omega)) hc0 he hH hV (hR r (Z39 hr)) ht hb HM HA') (fun k t h1 c1 ht hb HA'=> ?_) (fun id hF=>by subst hF;omega)) (by simp only[rG];exact hh2.symm) (by simp only[rG]) trivial rfl ?_
  .obtain⟨E2,x1,x2⟩ :=HA'.w;have HF2:FmA (Vr Vz hs.length) key Mp E h2 (s3.c+1):=HF.up (fun id h1 h2=>f02 id h2) (by omega);rw[zmA hK HF2 x1 (hf' Mp HF2.b)]at x2;exact⟨PA.a4,PA.a5,PA.a6,PA.a7,PA.a20,PA.lt,HA'.b,PA.s,PA.d,E,HF2,x2⟩
  .obtain⟨E2,x1,x2⟩ :=HA'.w;exact⟨HA'.a4,HA'.a5,HA'.a6,HA'.a7,HA'.a20,HA'.lt,rfl,HA'.s,HA'.d,E2,x1,zFa x2 ht hb⟩
  rintro s4 d4 ⟨HM4,⟨b,k,rfl,PA4,hbk⟩,hL⟩ hc4 j109 -;obtain⟨E2,x1,x2⟩ :=PA4.w;have hb:=PA4.b;cases b with
  |false=>cases hb
  |true=>
   have hk:=hbk rfl;subst hk;refine⟨?_⟩;simp[rW,znw];show PjP L X (Vr Vz hs.length) key Mp E σ g hs h c (.f .un) _ _;refine⟨HM4,⟨E2,x1,fun v=>(x2 v).trans (or_congr_right ?_)⟩,⟨fun id k1 k2 k3 k4=>(hL.1 id (by omega) k2 k3 k4).trans (f02 id k1),fun id h=> .inl h⟩⟩;rw[zJB H.o H.m.n hi hq hr (zvs hg64 hi6)];constructor
   .rintro⟨j,t,τ,_,h2,h3⟩;exact⟨j,t,τ,h2,h3⟩
   .rintro⟨j,t,τ,h2,h3⟩;exact⟨j,t,τ,(Z8.1 h2).1,h2,h3⟩
def hsI(ns hd:List Str):List Nat:=hd.map fun s=>ns.findIdx fun x=>s==x
def hvl(ns hd:List Str)(w:List Int):List Int:=hd.map fun s=>zfa ns w (.var s)
def zOX{ns hd:List Str}(h:∀s∈hd,s∈ns):hdD (hdL ns hd)=hsD (hsI ns hd):=by
 simp only[hdD,hdL,hsD,hsI,Z33];refine Z68 fun s hs=> ?_
 simp only[Function.comp_apply,List.cons.injEq,and_true,D.f.injEq,F.i.injEq,true_and];exact (zhs (h s hs)).1
def zuK{ns hd:List Str}{τ:Asg}(ha:zo2 τ)(hl:τ.length=ns.length)(h:∀s∈hd,s∈ns):hrow (hsI ns hd) τ=hvl ns hd (rowOf τ):=by
 simp only[hrow,hsI,hvl,Z33];refine Z68 fun s hs=> ?_
 simp only[Function.comp_apply];have h2:=(zhs (h s hs)).2;rw[zvz ha (by omega)];rfl
def ztL{L:List Rl}{ns:List Str}{c:CQ}{X:Mx}(hX:zk8 L ns c X)(hB:CqB ns c){j:Nat}(hjl:j<ns.length):∃i q,(2 ^ X.WP.length - 1).testBit i=true/\X.WP[i]? =some q/\q.1.m.testBit j=true:=by
 obtain⟨a,ha,hneg,hts⟩ :=hB.b ns[j] (Z1 hjl);have hm:zdZ L ns a∈X.WP.map (·.1):=by
  rw[hX.P];exact List.mem_map_of_mem (Z57.2 ⟨ha,by simp[hneg]⟩)
 obtain⟨q,hq,e⟩ :=Z12.1 hm;obtain⟨i,hi,rfl⟩ :=Z101.1 hq;refine⟨i,_,by rw[zlI];simpa using hi,Z0 hi,?_⟩;rw[e,ziz];refine Z30.2 ⟨.var j,Z12.2 ⟨_,hts,?_⟩,(zgu _ j).2 rfl⟩;simp only[zb8];rw[zh3 hB.n hjl]
def full_of{L:List Rl}{ns:List Str}{c:CQ}{X:Mx}(hX:zk8 L ns c X)(hB:CqB ns c){τ:Asg}(he:Ext (e0 X) τ)(ha:∀i q,(2 ^ X.WP.length - 1).testBit i=true->X.WP[i]? =some q->AtT L τ q.1)(hc:zdk L X τ=true):Full L X (e0 X) (2 ^ X.WP.length - 1) τ:=by
 have hl:τ.length=ns.length:=by rw[he.1];simp[e0,hX.nE]
 refine⟨he,ha,hc,fun j hj=> .inr (ztL hX hB ?_)⟩;rcases Z145 j ns.length with h|h
 .exact h
 .simp only[zaC]at hj;rw[Z97 (by omega)]at hj;cases hj
def zFb{L:List Rl}{ns hd:List Str}{c:CQ}{X:Mx}(hX:zk8 L ns c X)(hC:zma L ns c)(hB:CqB ns c)(hh:∀s∈hd,s∈ns)(v:List Int):PjS L X (e0 X) (2 ^ X.WP.length - 1) (hsI ns hd) v↔∃w,zlD L ns c w/\v=hvl ns hd w:=by
 constructor
 .rintro⟨τ,he,ha,hc,rfl⟩;obtain⟨h1,h2⟩ :=(zju hX hC hB τ).1 (full_of hX hB he ha hc);refine⟨_,h2,zuK h1 ?_ hh⟩;have:=h2.l;simpa [rowOf]using this
 .rintro⟨w,hw,rfl⟩;obtain⟨e1,e2⟩ :=zvA w;have H:=(zju hX hC hB (w.map some)).2 ⟨e2,by rw[e1];exact hw⟩;exact⟨_,H.e,H.a,H.c,by rw[zuK e2 (by simpa using hw.l) hh,e1]⟩
def zOU{L:List Rl}{ns hd:List Str}{c:CQ}{X:Mx}(hX:zk8 L ns c X)(hB:CqB ns c)(hh:∀s∈hd,s∈ns):zru X (e0 X) (2 ^ X.WP.length - 1) (hsI ns hd):=by
 intro j hj;obtain⟨s,hs,rfl⟩ :=Z12.1 hj;have h2:=(zhs (hh s hs)).2;exact⟨by rw[hX.nE];exact h2,.inr (ztL hX hB h2)⟩
def zRu{Vz:Int->Prop}(X:Mx):zo5 Vz (e0 X):=by
 intro i z hz;simp only[zaC]at hz;cases hh:(e0 X)[i]? with
 |none=>rw[hh]at hz;cases hz
 |some o=>
  rw[hh]at hz;have hz:o=some z:=hz;subst hz;exact absurd hh (zuu X i z)
def zyI:C:=g34.body.r.r.l.r.b.o
def AnK(L:List Rl)(hd:List Str)(qs:List (List Str×CQ))(k:Nat)(E:List Er):Prop:=∀v,v∈E.map (·.2)↔∃i q,i<k/\qs[i]? =some q/\∃w,zlD L q.1 q.2 w/\v=hvl q.1 hd w
def Ja(L:List Rl)(Vz:Int->Prop)(key:List Int->Str)(S c1 U:Nat)(hd:List Str)(qs:List (List Str×CQ))(Z:List UZ)(dd dh:D)(Mp k:Nat)(s:St):Prop:=(s.tm.get 0=some (.ptr U 2 0 0)/\s.tm.get 3=some (.mp Mp)/\s.tm.get 10=some (dd)/\s.tm.get 11=some (.f (.i .i64 Z.length))/\s.tm.get 12=some (.f (.i .i64 k)))/\UnA L S c1 U hd qs s.h Mp Z dd dh/\∃E,FmA (Vr Vz hd.length) key Mp E s.h s.c/\AnK L hd qs k E
structure zo3(L:List Rl)(Vz:Int->Prop)(hd:List Str)(qs:List (List Str×CQ)):Prop where
 v:VqOk L hd qs
 h:∀q∈qs,∀s∈hd,s∈q.1
 r:∀r∈L,∀t∈r.tu,∀z∈t.1,Vz z
def zLE{L:List Rl}{Vz:Int->Prop}{key:List Int->Str}{S c1 U:Nat}{hd:List Str}{qs:List (List Str×CQ)}{Z:List UZ}{dd dh:D}{Mp:Nat}(hK:zj8 (Vr Vz hd.length) key)(HQ:zo3 L Vz hd qs){s:St}{K:Ex->St->Prop}(hJ:Ja L Vz key S c1 U hd qs Z dd dh Mp 0 s)(kx:∀s,Ja L Vz key S c1 U hd qs Z dd dh Mp Z.length s->K (.exit 0) s):WL pr zyI s K:=by
 have hql:=HQ.v.u.ql;refine zbD Z.length (Ja L Vz key S c1 U hd qs Z dd dh Mp) (fun e s=>e= .exit 0/\Ja L Vz key S c1 U hd qs Z dd dh Mp Z.length s) ?_ ?_ _ hJ ?_
 .rintro k s hlt ⟨⟨h0,h3,h10,h11,h12⟩,HA,E,HF,hAn⟩;have hZ:=HA.n;have hw:=zao k (by omega);have hMc:=HF.b;have hU:=HA.u;have hUo:=HA.o;have hx:Z[k]? =some Z[k]:=Z0 hlt;have hkq:k<qs.length:=by omega
  have hxq:qs[k]? =some qs[k]:=Z0 hkq;have hqm:=Z1 hkq;obtain⟨HCq,HVq⟩ :=HQ.v.u.q _ hqm;have HBq:=HQ.v.b _ hqm;have hhd:=HQ.h _ hqm;obtain⟨e1,e2,e3,e4⟩ :=HA.z k _ _ hx hxq;generalize qs[k]=q at hxq hqm HCq HVq HBq hhd e1;obtain⟨⟨σ,HM⟩,hIs,hXS,hXM,hGE⟩ :=e1;have HM':=HM.up (c':=s.c) (fun _ _=>rfl) (by omega);rcases HA.d with⟨_,e⟩ |⟨id,ro,rfl,g1,g2,g3,g4,g5⟩
  .rw[Z182]at e;rw[e]at hlt;simp at hlt
  generalize hzz:Z[k]=z at hx HM HM' e2 e3 e4 hIs hXS hXM hGE;have hxe:(Z.map fun z:UZ=>[D.ptr z.2.2.1.M 7 0 0])[k]? =some [D.ptr z.2.2.1.M 7 0 0]:=by rw[Z36,hx];rfl
  unfold zyI g34;simp only[rU,C.l,C.r,C.b,C.o];simp[rW,h0,h3,h10,h11,h12,hlt,g2,hxe,Z18,hzz];rw[Z18]at HA;refine zbR [(0,.ptr U 2 0 0),(3,.mp Mp),(4,.f (.i .i64 k)),(5,.ptr z.2.2.1.M 7 0 0),(10,.sl id 0 Z.length 1 Z.length false),(11,.f (.i .i64 Z.length)),(12,.f (.i .i64 k))] (eff60 HM') (by simp only[rG]) (by simp only[rG]) (by simp only[Rg];simp[rW,h0,h3,h10,h11,h12,Z18]) rfl ?_;rintro s1 d1 ⟨⟨b,rfl,hb⟩,HM1,hF⟩ hc1 k18 ⟨k0,k3,k4,k5,k10,k11,k12,-⟩;have HA1:=zrZ HA hx (fun id h1 h2 h3=>hF id (by omega) h2 h3) HM1 (Z2 _);have hMo:=HM.m.o;have HF1:FmA (Vr Vz hd.length) key Mp E s1.h s1.c:=HF.up (fun id h1 h2=>hF id h2 (by omega) (by omega)) hc1;have hMc1:Mp<s1.c:=by omega
  refine⟨?_⟩;cases b with
  |false=>
   simp[rW,k0,k3,k10,k11,k12,k18,hw];refine⟨⟨by simp[rW,k0],by simp[rW,k3],by simp[rW,k10,Z18],by simp[rW,k11],by simp[rW]⟩,by simp only[rG];exact HA1,E,by simp only[rG];exact HF1,fun v=>(hAn v).trans ⟨fun⟨i,q',h1,h2⟩ =>⟨i,q',by omega,h2⟩,fun⟨i,q',h1,h2,w,h3,h4⟩ =>⟨i,q',?_,h2,w,h3,h4⟩⟩⟩;rcases Z145 i k with h|h
   .exact h
   .have:i=k:=by omega
    subst this;rw[hxq]at h2;cases h2;have:=hb.2 ((zI0 hIs HCq HBq).2 ⟨w,h3⟩);cases this
  |true=>
   simp[rW,k0,k3,k4,k5,k10,k11,k12,k18];refine zgi ?_;simp[rW,k0,k3,k4,k5,k10,k11,k12,k18];refine zm1 [(0,.ptr U 2 0 0),(3,.mp Mp),(4,.f (.i .i64 k)),(10,.sl id 0 Z.length 1 Z.length false),(11,.f (.i .i64 Z.length)),(12,.f (.i .i64 k)),(19,.ptr z.2.2.1.M 7 0 0)] (zGv (HM1.up (c':=s1.c+1+1) (fun _ _=>rfl) (by omega))) (by simp only[rG]) (by simp only[rG]) (by simp only[Rg];simp[rW,k0,k3,k4,k10,k11,k12]) rfl ?_;rintro s2 d2 c2 ⟨rfl,hf2⟩ hc2 hc2' j21 ⟨j0,j3,j4,j10,j11,j12,j19,-⟩;have f2:∀id,id<s1.c->s2.h.get id=s1.h.get id:=fun id hid=>hf2 id (by omega)
   have HA2:UnA L S c1 U hd qs s2.h Mp Z (.sl id 0 Z.length 1 Z.length false) dh:=zrZ HA1 hx (fun id h1 _ _=>f2 id (by omega)) (HM1.up (c':=s2.c) f2 (by omega)) (Z2 _);have HM2:MS L s2.h s2.c z.2.2.1 (e0 z.2.2.1):=HM1.up f2 (by omega);have HF2:FmA (Vr Vz hd.length) key Mp E s2.h s2.c:=HF1.up (fun id h1 h2=>f2 id h2) (by omega);have hU2:=HA2.u;have hU1:s1.h.get U=s2.h.get U:=(f2 U (by omega)).symm;rcases HA2.e with⟨_,e⟩ |⟨ie,re,rfl,x1,x2,x3,x4,x5⟩
   .rw[Z182]at e;rw[e]at hlt;simp at hlt
   rw[Z18]at HA2 HA1 HA;have hye:(Z.map fun z:UZ=>[z.2.2.2])[k]? =some [z.2.2.2]:=by rw[Z36,hx];rfl
   have hyA:=(Z8.1 hye).2;have hie:s1.h.get ie=s2.h.get ie:=(f2 ie (by omega)).symm;refine⟨by simp[rW],⟨?_⟩⟩;simp[rW,j0,j3,j4,j10,j11,j12,j19,j21,hU2,hU1,x2,hie,hlt,hyA,hye,Z18];obtain⟨⟨⟨σ2,HMc⟩,-,-,-,hG2⟩,-⟩ :=HA2.z k z q hx hxq;rw[zOX hhd]at hG2;have hlen:(hsI q.1 hd).length=hd.length:=by simp[hsI]
   have hhl:=HQ.v.u.hl;have hns:=HCq.n;have h64:2 ^ z.2.2.1.WP.length - 1<2 ^ z.2.2.1.WP.length:=by have:=Nat.two_pow_pos z.2.2.1.WP.length;omega
   have hcn:zdk L z.2.2.1 (e0 z.2.2.1)=true:=by
    obtain⟨τ,he,_,hc⟩ :=hb.1 rfl;exact zmo he hc
   refine zm1 [(0,.ptr U 2 0 0),(3,.mp Mp),(10,.sl id 0 Z.length 1 Z.length false),(11,.f (.i .i64 Z.length)),(12,.f (.i .i64 k))] (pjAt (L:=L) (X:=z.2.2.1) (Vz:=Vz) (key:=key) (Mp:=Mp) (c0:=z.2.1) (e:=z.2.1) (hs:=hsI q.1 hd) (dE:=z.2.2.2) (by rw[hlen];exact hK) (by rw[hlen];exact hhl) (fun j hj=>by
    obtain⟨s,hs,rfl⟩ :=Z12.1 hj;have:=(zhs (hhd s hs)).2;omega) HQ.r _ h64 E (e0 z.2.2.1) s2.h (s2.c+1+1+1+1+1+1+1+1) (HM2.up (fun _ _=>rfl) (by omega)) hcn (zOU hIs HBq hhd) (zRu _) HMc.st e3 hG2 e3 (by rw[hlen];exact HF2.up (fun _ _ _=>rfl) (by omega))) (by simp only[rG]) (by simp only[rG]) (by simp only[Rg];simp[rW,j0,j3,j10,j11,j12]) rfl ?_
   rintro s3 d3 c3 ⟨HM3,⟨E3,y1,y2⟩,hL3⟩ hc3 hc3' i30 ⟨i0,i3,i10,i11,i12,-⟩;rw[hlen]at y1;have HA3:=zrZ HA2 hx (fun id h1 h2 h3=>hL3.1 id (by omega) h2 h3 (by omega)) HM3 (Z2 _);refine⟨by simp[rW],⟨?_⟩⟩;simp[rW,i0,i3,i10,i11,i12,hw];refine⟨⟨by simp[rW,i0],by simp[rW,i3],by simp[rW,i10,Z18],by simp[rW,i11],by simp[rW]⟩,by simp only[rG];exact HA3,E3,by simp only[rG];exact y1.up (fun _ _ _=>rfl) hc3',fun v=> ?_⟩;rw[y2,hAn,zFb hIs HCq HBq hhd];constructor
   .rintro (⟨i,q',h1,h2⟩ |⟨w,h1,h2⟩)
    .exact⟨i,q',by omega,h2⟩
    .exact⟨k,q,by omega,hxq,w,h1,h2⟩
   .rintro⟨i,q',h1,h2,w,h3,h4⟩;rcases Z145 i k with h|h
    .exact .inl ⟨i,q',h,h2,w,h3,h4⟩
    .have:i=k:=by omega
     subst this;rw[hxq]at h2;cases h2;exact .inr ⟨w,h3,h4⟩
 .rintro s ⟨⟨h0,h3,h10,h11,h12⟩,HA,E,HF,hAn⟩;unfold zyI g34;simp only[rU,C.l,C.r,C.b,C.o];simp[rW,h0,h3,h10,h11,h12];exact⟨⟨by simp[rW,h0],by simp[rW,h3],by simp[rW,h10],by simp[rW,h11],by simp[rW,h12]⟩,by simp only[rG];exact HA,E,by simp only[rG];exact HF,hAn⟩
 .rintro e s ⟨rfl,hJ⟩;exact kx s hJ
def UnA.hp{L:List Rl}{S c1 U:Nat}{hd:List Str}{qs:List (List Str×CQ)}{h h':T Ob}{c:Nat}{Z:List UZ}{dd dh:D}(HA:UnA L S c1 U hd qs h c Z dd dh)(hf:∀id,id<c->h'.get id=h.get id):UnA L S c1 U hd qs h' c Z dd dh:=by
 have ho:=HA.o;have hs:zdD h' c1 S L:=HA.s.up fun id _ h4=>hf id (by omega)
 refine⟨hs,by rw[hf _ (by omega)];exact HA.u,ho,ziu HA.d (Z2 _) fun id hid=>hf id (zbq HA.d hid).2,ziu HA.e (Z2 _) fun id hid=>hf id (zbq HA.e hid).2,HA.n,fun i w q hw hq=> ?_,HA.p,HA.ne⟩;obtain⟨e1,e2,e3,e4⟩ :=HA.z i w q hw hq;exact⟨e1.up (hs.lo (by omega)) fun id h1 h2=>hf id (by omega),e2,e3,e4⟩
def AnP(L:List Rl)(Vz:Int->Prop)(key:List Int->Str)(hd:List Str)(qs:List (List Str×CQ))(d:D)(h':T Ob)(c':Nat):Prop:=∃Mp E,d= .mp Mp/\FmA (Vr Vz hd.length) key Mp E h' c'/\AnK L hd qs qs.length E
def eff34{L:List Rl}{Vz:Int->Prop}{key:List Int->Str}{S c1 U:Nat}{hd:List Str}{qs:List (List Str×CQ)}{Z:List UZ}{dd dh:D}{h:T Ob}{c:Nat}(hK:zj8 (Vr Vz hd.length) key)(HQ:zo3 L Vz hd qs)(HA:UnA L S c1 U hd qs h c Z dd dh):Eff pr 34 [.ptr U 2 0 0] h c (AnP L Vz key hd qs):=by
 refine zb2 kps fn34 (fun d h' c' ⟨_,_,e,_⟩ hd _=>by rw[e]at hd;cases hd) ?_;have hu:=HA.u;have hUo:=HA.o;have n1:¬U=c:=by omega
 simp only[g34,rU];simp[rW,st0,zak,hu,n1];rw[zer HA.d,Z18];simp[rW];refine zLE (L:=L) (Vz:=Vz) (key:=key) (S:=S) (c1:=c1) (U:=U) (hd:=hd) (qs:=qs) (Z:=Z) (dd:=dd) (dh:=dh) (Mp:=c) hK HQ ⟨⟨by simp[rW],by simp[rW],by simp[rW],by simp[rW],by simp[rW]⟩,?_,[],⟨by simp[rW,mpE],by simp,by simp,by simp only[rG];omega⟩,fun v=>⟨fun h=>by simp at h,fun⟨i,_,h,_⟩ =>absurd h (by omega)⟩⟩ ?_
 .simp only[rG];exact HA.hp fun id hid=>by rw[TG,Z49 (by omega)]
 rintro s1 ⟨⟨h0,h3,-⟩,HA1,E,HF,hAn⟩;rw[HA.n]at hAn;simp[rW,h3,zaR];exact⟨c,E,rfl,HF,hAn⟩
def cdl:Code->Code
 | .seq a _=>a
 | .block _ c=>c
 | .loop c=>c
 |c=>c
def cdr:Code->Code
 | .seq _ b=>b
 |c=>c
def opsOf:Code->Array Oper
 | .region _ ops _=>ops
 |_=> #[]
def evB:Code:=(Tryz.f9.body).getD .skip
def evR:Code:=cdl (cdl (cdr (cdr (cdr evB))))
def evL:Code:=cdl (cdl (cdr (cdl (cdr (cdr (cdr evB))))))
def zML:Tryz.f9.body=some evB:=by kernel_rfl
def zMN:evB= .seq (cdl evB) (.seq (cdl (cdr evB)) (.seq (cdl (cdr (cdr evB))) (.seq (.seq evR (.block 0 (.loop evL))) (cdr (cdr (cdr (cdr evB))))))):=by kernel_rfl
def zMO:evL= .seq (cdl evL) (.seq (.cond (.tmp 19) .skip (.exit 0)) (.block 1 (.seq (cdl (cdl (cdr (cdr evL)))) (cdr (cdl (cdr (cdr evL))))))):=by kernel_rfl
def ck0:zdi Tryz.prog pur 29 (cdl evB)=some g9.body.l:=by kernel_rfl
def ck1:zdi Tryz.prog pur 29 (cdl (cdr evB))=some g9.body.r.l:=by kernel_rfl
def ck2:zdi Tryz.prog pur 29 (cdl (cdr (cdr evB)))=some g9.body.r.r.l:=by kernel_rfl
def ck4:zdi Tryz.prog pur 29 (cdr (cdr (cdr (cdr evB))))=some g9.body.r.r.r.r:=by kernel_rfl
def CS(t:T D)(h:T Ob)(c:Nat):St:=⟨t,h,c,c,c⟩
def zBC{amb:Mu}{w0:World}{nt:Nat}{s:St}{ρ:Nat->Option Nat}{a:Act}{w:World}(hA:AtS amb w0 nt s ρ a w){t:T D}(ht:∀i d,t.get i=some d->s.tm.get i=some d):AtS amb w0 nt (CS t s.h s.c) ρ a w:=
 ⟨⟨hA.ss.sim,fun i d hi=>hA.ss.tmr i d (ht i d hi),hA.ss.nt,hA.ss.df⟩,Z2 _,hA.b,hA.z,hA.o,hA.r⟩
def zPD(R:List Er)(p:Er):rE (R++[p])=rE R++[[p.1]]:=by simp[rE]
theorem zIQ{h:T Ob}{lo c es byt:Nat}{d:D}{els new:List (List D)}{rd:List Nat}{K:Rs->Prop}(hg:Gro h lo c es d els)(hz:GZ h d)(hlo:lo<=c)(hlen:els.length+new.length<=1000000)(hb:byt<=1000)
  (hK:∀r:Rs,zas r.c r.wr=true->Gro (wrT h r.wr) lo r.c es r.d (els++new)->c<=r.c->(∀id,id<c->d.oid≠some id->(wrT h r.wr).get id=h.get id)->(∀x,x∈r.wr.map (·.1)->x=c\/d.oid=some x)->GZ (wrT h r.wr) r.d->K r):oB (za3 es byt h.get c d new rd) K:=by
 obtain⟨r,h1,h2,h3,h4,h5,h6,h7,h8⟩ :=zot (byt:=byt) (rd:=rd) hg hlo hlen hb;have hz':oB (za3 es byt h.get c d new rd) (fun r=>GZ (wrT h r.wr) r.d):=zIL hg hz hlo hlen hb fun r _ _ _ _ _ h=>h
 rw[h1]at hz'|-;exact hK r h2 h3 h4 h5 h6 hz'
theorem zDx{h:T Ob}{lo c Mp i m:Nat}{ex:Bool}{d:D}{R:List Er}{v:List Int}(hG:Gro h lo c 1 d (rE R))(hZ:GZ h d)(hM:Mp<lo)(hlo:lo<=c)(hn:R.length<1000):
  wpC pr (.reg [⟨some 22,none,.mv (.t 5)⟩,⟨some 23,none,.mv (.t 7)⟩,⟨some 24,none,.bsf 1 [.nils] 1 [(0,.t 23)]⟩,⟨some 25,none,.app 1 24 (.t 22) (.t 24)⟩,⟨some 5,none,.mv (.t 25)⟩]) (CS ((T.e.set 5 d).set 7 (.sl i 0 m 3 m ex)) h c)
   fun e s=>e= .nrm/\c<=s.c/\Mp<s.lw/\∃d',s.tm.get 5=some d'/\Gro s.h lo s.c 1 d' (rE (R++[(.sl i 0 m 3 m ex,v)]))/\GZ s.h d'/\∀id,id<c->d.oid≠some id->s.h.get id=h.get id:=by
 unfold CS;simp[rW,zAH];refine zIQ (zaX hG (Z128 c) fun id h1 h2=>by rw[TG,Z49 (by omega)]) (fun x es ro els e hx=>by
  have:=zbq hG e;rw[TG,Z49 (by omega)]at hx;exact hZ x es ro els e hx) (by omega) (by simp[rE];omega) (by omega) ?_
 intro r hr1 hr2 hr3 hr4 hr5 hr6;simp[rW,hr1];refine⟨by omega,zDn _ _ (by rw[zjK (Z2 _),zkK];omega) fun x hx=> ?_,by rw[zPD];exact hr2,hr6,fun id h1 h2=> ?_⟩
 .rcases hr5 x hx with rfl|e
  .omega
  .have:=zbq hG e;omega
 .rw[hr4 id (by omega) h2,TG,Z49 (by omega)]
def o5(i:Nat):Oper:=(opsOf (cdl evL)).getD i default
def o6(i:Nat):Oper:=(opsOf (cdl (cdl (cdr (cdr evL))))).getD i default
def ev5:∃id,cdl evL= .region id (opsOf (cdl evL)) false:=⟨5,by kernel_rfl⟩
def ev6:∃id,cdl (cdl (cdr (cdr evL)))= .region id (opsOf (cdl (cdl (cdr (cdr evL))))) false:=⟨6,by kernel_rfl⟩
def ev7:∃id,cdr (cdl (cdr (cdr evL)))= .region id (opsOf (cdr (cdl (cdr (cdr evL))))) false:=⟨7,by kernel_rfl⟩
def o5_n:List.range (opsOf (cdl evL)).size=[0,1]:=by kernel_rfl
def o6_n:List.range (opsOf (cdl (cdl (cdr (cdr evL))))).size=[0,1,2]:=by kernel_rfl
def o50:(opsOf (cdl evL))[0]? =some (o5 0)/\(o5 0).op= .next (.tmp 17) false/\(o5 0).guard=none/\(o5 0).dst=some 18:=⟨by kernel_rfl,by kernel_rfl,by kernel_rfl,by kernel_rfl⟩
def o51:(opsOf (cdl evL))[1]? =some (o5 1)/\(o5 1).op= .extract (.tmp 18) 0/\(o5 1).guard=none/\(o5 1).dst=some 19:=⟨by kernel_rfl,by kernel_rfl,by kernel_rfl,by kernel_rfl⟩
def o60:(opsOf (cdl (cdl (cdr (cdr evL)))))[0]? =some (o6 0)/\(o6 0).op= .entry (.tmp 17)/\(o6 0).guard=none/\(o6 0).dst=some 20:=⟨by kernel_rfl,by kernel_rfl,by kernel_rfl,by kernel_rfl⟩
def o61:(opsOf (cdl (cdl (cdr (cdr evL)))))[1]? =some (o6 1)/\(o6 1).op= .extract (.tmp 20) 1/\(o6 1).guard=none/\(o6 1).dst=some 21:=⟨by kernel_rfl,by kernel_rfl,by kernel_rfl,by kernel_rfl⟩
def o62:(opsOf (cdl (cdl (cdr (cdr evL)))))[2]? =some (o6 2)/\(o6 2).op= .assign (.tmp 21)/\(o6 2).guard=none/\(o6 2).dst=some 7:=⟨by kernel_rfl,by kernel_rfl,by kernel_rfl,by kernel_rfl⟩
def o7c:zat (zbS Tryz.prog pur 29 (opsOf (cdr (cdl (cdr (cdr evL)))))) (opsOf (cdr (cdl (cdr (cdr evL))))).toList=some [⟨some 22,none,.mv (.t 5)⟩,⟨some 23,none,.mv (.t 7)⟩,⟨some 24,none,.bsf 1 [.nils] 1 [(0,.t 23)]⟩,⟨some 25,none,.app 1 24 (.t 22) (.t 24)⟩,⟨some 5,none,.mv (.t 25)⟩]:=by kernel_rfl
def o7d:∀o∈(opsOf (cdr (cdl (cdr (cdr evL))))).toList,o.dst≠some 17:=by
 have e:(opsOf (cdr (cdl (cdr (cdr evL))))).toList.map (·.dst)=[some 22,some 23,some 24,some 25,some 5]:=by kernel_rfl
 intro o ho h;have:o.dst∈(opsOf (cdr (cdl (cdr (cdr evL))))).toList.map (·.dst):=List.mem_map_of_mem ho;rw[e,h]at this;simp at this
def zHD{amb:Mu}{w0:World}{nt c j:Nat}{t:T D}{h:T Ob}{ρ:Nat->Option Nat}{a:Act}{w:World}(hA:AtS amb w0 nt (CS t h c) ρ a w)(hj:j<nt){d:D}{v:Value}(hr:Rel w.heap (zal amb h.get ρ) ρ (fun id=>id<c) d v):AtS amb w0 nt (CS (t.set j d) h c) ρ (a.put (some j) v) w:=by
 refine⟨?_,Z2 _,hA.b,hA.z,hA.o,hA.r⟩;have:=hA.ss.next (Keep.refl _ _ _ _) hA.ss.sim (dst:=some j) (fun i hi=>by cases hi;exact hj) hr;refine⟨this.sim,fun i d hi=>this.tmr i d ?_,this.nt,this.df⟩;simpa [CS,TG,zeH,upd]using hi
theorem zB1{H:Array Obj}{μ:Mu}{ρ:Nat->Option Nat}{c:Nat->Prop}:∀{l:List (F×D)} {es:List MapEntry} {j:Nat} {e:MapEntry},za4 H μ ρ c l es->es[j]? =some e->∃p,l[j]? =some p/\Rel H μ ρ c p.2 e.val
 |[],es,j,e,h,he=>by simp only[za4]at h;subst h;simp at he
 |(k,d)::l,es,j,e,h,he=>by
  simp only[za4]at h;obtain⟨e1,m,rfl,_,h2,h3⟩ :=h;cases j with
  |zero=>simp at he;subst he;exact⟨(k,d),rfl,h2⟩
  |succ j=>exact zB1 (j:=j) h3 (by simpa using he)
structure LJ(amb:Mu)(w0:World)(key:List Int->Str)(E:List Er)(Mp lo:Nat)(idx:List Nat)(a:Act)(w:World)(ρ:Nat->Option Nat)(h:T Ob)(c:Nat)(d:D)(r bm:Nat)(es:Array MapEntry)(cl:Nat)(seen:Array Nat):Prop where
 A:AtS amb w0 29 (CS (T.e.set 5 d) h c) ρ a w
 I:ItR w0 w ρ r Mp bm es cl cl seen cl
 t:a.tmps[17]? =some (.pointer (some ⟨r,0,none⟩))
 m:h.get Mp=some (.map (mpE key E))
 e:∀p∈E,ztF h Mp lo p.1 p.2
 g:Gro h lo c 1 d (rE (idx.filterMap (E[·]?)))
 z:GZ h d
 l:Mp<lo/\lo<=c
 n:idx.Nodup
 b:∀j∈idx,j<E.length
 s:seen.toList=idx.filterMap fun j=>(es[j]?).map (·.born)
def zh2{a:Act}{i:Nat}{v:Value}(h:a.tmps[i]? =some v):a.eval (.tmp i)=v:=by simp[Act.eval,Z19,h]
def zhb{a:Act}{i:Nat}{v:Value}(h:i<a.tmps.size):(a.put (some i) v).tmps[i]? =some v:=by simp[Act.put,h]
def znQ{a:Act}{i j:Nat}{v:Value}(h:i≠j):(a.put (some i) v).tmps[j]? =a.tmps[j]? :=by simp only[Act.put];exact Z93 h
def zpF{a:Act}{i:Nat}{v:Value}:(a.put (some i) v).tmps.size=a.tmps.size:=by simp[Act.put]
def zkG{d:D}{j:Nat}(h:j≠5):((T.e:T D).set 5 d).get j=none:=by rw[TG,Z49 h];rfl
theorem zDZ{amb:Mu}{w0 w:World}{key:List Int->Str}{E:List Er}{Mp lo c r bm cl:Nat}{idx:List Nat}{a:Act}{ρ:Nat->Option Nat}{h:T Ob}{d:D}{es:Array MapEntry}{seen:Array Nat}(hJ:LJ amb w0 key E Mp lo idx a w ρ h c d r bm es cl seen)(hE:E.length<=12){Q1:Exit->Act->World->Prop}
    (hend:(∀j,j<E.length->j∈idx)->∀a' w',AtS amb w0 29 (CS (T.e.set 5 d) h c) ρ a' w'->Q1 (.exit 0) a' w')
    (hmore:∀j a' w' ρ' h' c' d' seen',j∉idx->j<E.length->LJ amb w0 key E Mp lo (idx++[j]) a' w' ρ' h' c' d' r bm es cl seen'->Q1 .normal a' w'):evL.wp Tryz.prog Q1 a w:=by
  have hnt:=hJ.A.ss.nt;obtain⟨b,hb,es',cl',m1,m2,m3⟩ :=hJ.A.ss.sim.obj Mp _ hJ.m;have eb:b=bm:=Z53 (hb.symm.trans hJ.I.m);subst eb;have ee:=Z53 (m1.symm.trans hJ.I.e);simp only[Obj.map.injEq]at ee;obtain⟨rfl,rfl⟩ :=ee;rw[zMO];refine wp_seq ?_;obtain⟨id5,e5⟩ :=ev5;rw[e5];refine wp_region ?_;rw[o5_n,wpOps_cons];have h17:=zh2 hJ.t;rcases run_next_at (P:=Tryz.prog) w (o5 0).type r b cl' cl' seen es' cl' hJ.I.i hJ.I.e m3.2 (Z2 _)with⟨h0,hrun⟩ |⟨e,hme,w1,hw1,hrun⟩
  . refine zi7 o50.1 o50.2.2.1 (zsc o50.2.1 (by rw[h17];exact hrun)) ?_;rw[o50.2.2.2,wpOps_cons];refine zi7 o51.1 o51.2.2.1 (zpa (v:= .bool false) o51.2.1 (zh2 (zhb (by omega))) rfl) ?_;rw[o51.2.2.2];refine wp_seq ?_;refine wp_cond_false (zh2 (zhb (by rw[zpF];omega))) ?_;refine wp_exit ?_;refine hend (fun j hj=> ?_) _ _ ((hJ.A.free (zkG (by omega)) _).free (zkG (by omega)) _);have hl:=m2.len;simp only[mpE,Z18,Z72]at hl;have hje:es'[j]? =some es'[j]:=Array.getElem?_eq_getElem (by omega);have hin:=all_seen es' seen h0 es'[j] (by simp);have hin2:(es'[j]'(by omega)).born∈seen.toList:=by simpa using hin
    rw[hJ.s]at hin2;obtain⟨i,hi,he⟩ :=List.mem_filterMap.1 hin2;obtain⟨x,hx,hxe⟩ :=Option.map_eq_some_iff.1 he;have hil:=hJ.b i hi;have hie:es'[i]? =some es'[i]:=Array.getElem?_eq_getElem (by omega);rw[hie]at hx;rw[<-Z53 hx]at hxe;have:i=j:=by
      have h1:i< (es'.toList.map (·.born)).length:=by simp;omega
      have h2:j< (es'.toList.map (·.born)).length:=by simp;omega
      exact (List.getElem_inj (h₀:=h1) (h₁:=h2) m3.1).1 (by simpa using hxe)
    exact this▸hi
  . obtain⟨hme1,hme2⟩ :=mem_left hme;refine zi7 o50.1 o50.2.2.1 (zsc o50.2.1 (by rw[h17];exact hrun)) ?_;rw[o50.2.2.2,wpOps_cons];refine zi7 o51.1 o51.2.2.1 (zpa (v:= .bool true) o51.2.1 (zh2 (zhb (by omega))) rfl) ?_;rw[o51.2.2.2];generalize hw':ChangeMaps.setBlock w1 r (.mapIter (some b) cl' (seen.push e.born) cl')=w';obtain⟨A1,I1⟩ :=hJ.A.iter hJ.I hw1 hw'.symm;obtain⟨b2,hb2,es2,cl2,n1,n2,n3⟩ :=A1.ss.sim.obj Mp _ hJ.m;have eb:b2=b:=Z53 (hb2.symm.trans I1.m);subst eb;have ee:=Z53 (n1.symm.trans I1.e);simp only[Obj.map.injEq]at ee;obtain⟨rfl,rfl⟩ :=ee;obtain⟨j,hj⟩ :=List.mem_iff_getElem?.1 hme1;obtain⟨p,hp,hrel⟩ :=zB1 n2 hj;simp only[mpE,Z36]at hp;obtain⟨q,hq,rfl⟩ :=Option.map_eq_some_iff.1 hp;have hqm:=Z39 hq;have hjl:j<E.length:=(Z8.1 hq).1;have hja:es2[j]? =some e:=by rw[<-Z69];exact hj
    have hjn:j∉idx:=fun hi=>by
      have:e.born∈seen.toList:=by
        rw[hJ.s];exact List.mem_filterMap.2 ⟨j,hi,by rw[hja];rfl⟩
      have h2:seen.contains e.born=true:=by simpa using this
      rw[h2]at hme2;cases hme2
    have A2:=(A1.free (zkG (d:=d) (j:=18) (by omega)) (.tuple #[.bool true,e.key,e.val])).free (zkG (d:=d) (j:=19) (by omega)) (.bool true);have t2:(((a.put (some 18) (.tuple #[.bool true,e.key,e.val])).put (some 19) (.bool true))).tmps[17]? =some (.pointer (some ⟨r,0,none⟩)):=by
      rw[znQ (by omega),znQ (by omega)];exact hJ.t
    refine wp_seq ?_;refine wp_cond_true (zh2 (zhb (by rw[zpF];omega))) ?_;refine wp_skip ?_;generalize (a.put (some 18) (.tuple #[.bool true,e.key,e.val])).put (some 19) (.bool true)=a2 at A2 t2;have hnt2:=A2.ss.nt;refine wp_block ?_;refine wp_seq ?_;obtain⟨id6,e6⟩ :=ev6;rw[e6];refine wp_region ?_;rw[o6_n,wpOps_cons];refine zi7 o60.1 o60.2.2.1 (zzw o60.2.1 (by rw[zh2 t2];exact run_entry_at w' r b2 cl2 seen es2 cl2 e I1.i I1.e hme1 n3.1)) ?_;rw[o60.2.2.2,wpOps_cons];refine zi7 o61.1 o61.2.2.1 (zpa (v:=e.val) o61.2.1 (zh2 (zhb (by omega))) rfl) ?_;rw[o61.2.2.2,wpOps_cons];refine zi7 o62.1 o62.2.2.1 (zwm o62.2.1) ?_;rw[o62.2.2.2,zh2 (zhb (by rw[zpF];omega))];obtain⟨ir,ro,eq1,k1,k2,k3⟩ :=hJ.e q hqm;have A3:=zHD ((A2.free (zkG (d:=d) (j:=20) (by omega)) (.tuple #[e.key,e.val])).free (zkG (d:=d) (j:=21) (by omega)) e.val) (j:=7) (by omega) hrel;have t3:(((a2.put (some 20) (.tuple #[e.key,e.val])).put (some 21) e.val).put (some 7) e.val).tmps[17]? =some (.pointer (some ⟨r,0,none⟩)):=by
      rw[znQ (by omega),znQ (by omega),znQ (by omega)];exact t2
    show(Code.wp _ _ _ _ _);generalize ((a2.put (some 20) (.tuple #[e.key,e.val])).put (some 21) e.val).put (some 7) e.val=a3 at A3 t3;obtain⟨id7,e7⟩ :=ev7;rw[e7];simp only at A3;rw[eq1]at A3;have hil:idx.length<=E.length:=znP _ _ hJ.n hJ.b;have hRl:(idx.filterMap (E[·]?)).length<=idx.length:=List.length_filterMap_le _ _;refine zLI ziB o7c A3 (zDx (v:=q.2) hJ.g hJ.z hJ.l.1 hJ.l.2 (by omega)) o7d fun s' ρ' a' w2 hK hA' hKp ht=> ?_
    obtain⟨_,hc,hlw,d',h5,hG',hZ',hfr⟩ :=hK;have hoid:∀x,d.oid=some x->lo<=x:=fun x hx=>(zbq hJ.g hx).1
    have hl:=hJ.l;have hqe:(D.sl ir 0 q.2.length 3 q.2.length true,q.2)=q:=by rw[<-eq1]
    refine hmore j a' w2 ρ' s'.h s'.c d' _ hjn hjl ⟨zBC hA' fun i x hi=> ?_,hKp _ _ _ _ _ _ _ _ I1 (by show Mp<c;omega) hlw,ht.trans t3,?_,fun p hp=> ?_,?_,hZ',⟨hl.1,by omega⟩,?_,fun i hi=> ?_,?_⟩
    . rw[TG]at hi;split at hi
      . rename_i h5';subst h5';cases hi;exact h5
      . cases hi
    . rw[hfr Mp (by omega) fun e=>by have:=hoid _ e;omega];exact hJ.m
    . obtain⟨i1,r1,f1,f2,f3,f4⟩ :=hJ.e p hp;exact⟨i1,r1,f1,by rw[hfr i1 (by omega) fun e=>by have:=hoid _ e;omega];exact f2,f3,f4⟩
    . rw[List.filterMap_append,show[j].filterMap (E[·]?)=[q] by simp[hq]];rw[hqe]at hG';exact hG'
    . rw[Z90];exact⟨hJ.n,by simp,fun x hx y hy e=>by simp only[Z31]at hy;subst hy;subst e;exact hjn hx⟩
    . rcases Z4.1 hi with hi|hi
      . exact hJ.b i hi
      . simp only[Z31]at hi;omega
    . rw[Array.toList_push,hJ.s,List.filterMap_append];simp[hja]
theorem zsG{α:Type}:∀(E:List α),(List.range E.length).filterMap (E[·]?)=E
 |[]=>rfl
 |x::E=>by
  rw[Z23,List.range_succ_eq_map,List.filterMap_cons];simp only[List.getElem?_cons_zero,List.filterMap_map,Z67,List.getElem?_cons_succ];rw[zsG E]
def zE9{n:Nat}{l:List Nat}(h1:l.Nodup)(h2:∀j∈l,j<n)(h3:∀j,j<n->j∈l):l.Perm (List.range n):=
 (List.perm_ext_iff_of_nodup h1 List.nodup_range).2 fun a=>⟨fun h=>Z174.2 (h2 a h),fun h=>h3 a (Z174.1 h)⟩
def EvEnd(amb:Mu)(w0:World)(E:List Er)(Mp lo:Nat)(a:Act)(w:World):Prop:=∃ρ h c d R,AtS amb w0 29 (CS (T.e.set 5 d) h c) ρ a w/\Gro h lo c 1 d (rE R)/\GZ h d/\R.Perm E/\(∀p∈E,ztF h Mp lo p.1 p.2)/\lo<=c
def LJ.rows{amb:Mu}{w0 w:World}{key:List Int->Str}{E:List Er}{Mp lo c r bm cl:Nat}{idx:List Nat}{a:Act}{ρ:Nat->Option Nat}{h:T Ob}{d:D}{es:Array MapEntry}{seen:Array Nat}(hJ:LJ amb w0 key E Mp lo idx a w ρ h c d r bm es cl seen):∀p∈E,ztF h Mp lo p.1 p.2:=hJ.e
theorem zwO{amb:Mu}{w0:World}{key:List Int->Str}{E:List Er}{Mp lo:Nat}(hE:E.length<=12){Q:Exit->Act->World->Prop}(hQ:∀a w,EvEnd amb w0 E Mp lo a w->Q (.exit 0) a w):
  ∀(k:Nat) (idx:List Nat) (a:Act) (w:World) (ρ:Nat->Option Nat) (h:T Ob) (c:Nat) (d:D) (r bm:Nat) (es:Array MapEntry) (cl:Nat) (seen:Array Nat),LJ amb w0 key E Mp lo idx a w ρ h c d r bm es cl seen->E.length<=idx.length+k->Code.rounds Tryz.prog evL Q (k+1) a w
 |k,idx,a,w,ρ,h,c,d,r,bm,es,cl,seen,hJ,hk=>by
  rw[rounds_succ];refine zDZ hJ hE (fun hall a' w' hA=> ?_) fun j a' w' ρ' h' c' d' seen' hj hjl hJ'=> ?_
  .show Q (.exit 0) a' w';refine hQ a' w' ⟨ρ,h,c,d,_,hA,hJ.g,hJ.z,?_,hJ.e,hJ.l.2⟩;have:=(zE9 hJ.n hJ.b hall).filterMap (E[·]?)
   rwa[zsG]at this
  .show Code.rounds Tryz.prog evL Q k a' w';cases k with
   |zero=>
    have h1:=znP _ _ hJ'.n hJ'.b;simp at h1;omega
   |succ k=>exact zwO hE hQ k _ a' w' ρ' h' c' d' r bm es cl seen' hJ' (by simp;omega)
def o4(i:Nat):Oper:=(opsOf evR).getD i default
def ev4:∃id,evR= .region id (opsOf evR) true:=⟨4,by kernel_rfl⟩
def o4_n:(opsOf evR).size=6:=by kernel_rfl
def fol:Tryz.prog.follows .mixedOrders=true:=by kernel_rfl
def rdA:Region.ready .any (opsOf evR) #[false,false,false,false,false,false]=[0,2]:=by kernel_rfl
def rdB:Region.ready .any (opsOf evR) #[true,false,false,false,false,false]=[1,2]:=by kernel_rfl
def rdC:Region.ready .any (opsOf evR) #[false,false,true,false,false,false]=[0]:=by kernel_rfl
def rdD:Region.ready .any (opsOf evR) #[true,true,false,false,false,false]=[2]:=by kernel_rfl
def rdE:Region.ready .any (opsOf evR) #[true,false,true,false,false,false]=[1]:=by kernel_rfl
def rdF:Region.ready .any (opsOf evR) #[true,true,true,false,false,false]=[3]:=by kernel_rfl
def rdG:Region.ready .any (opsOf evR) #[true,true,true,true,false,false]=[4]:=by kernel_rfl
def rdH:Region.ready .any (opsOf evR) #[true,true,true,true,true,false]=[5]:=by kernel_rfl
def rdI:Region.ready .any (opsOf evR) #[true,true,true,true,true,true]=[]:=by kernel_rfl
def cE0:(opsOf evR)[0]? =some (o4 0)/\zbS Tryz.prog pur 29 (opsOf evR) (o4 0)=some ⟨some 12,none,.mv (.t 0)⟩ :=⟨by kernel_rfl,by kernel_rfl⟩
def cE1:(opsOf evR)[1]? =some (o4 1)/\zbS Tryz.prog pur 29 (opsOf evR) (o4 1)=some ⟨some 13,none,.call 33 [.t 12]⟩ :=⟨by kernel_rfl,by kernel_rfl⟩
def cE2:(opsOf evR)[2]? =some (o4 2)/\zbS Tryz.prog pur 29 (opsOf evR) (o4 2)=some ⟨some 14,none,.ld true 2 (.t 3)⟩ :=⟨by kernel_rfl,by kernel_rfl⟩
def cE3:(opsOf evR)[3]? =some (o4 3)/\zbS Tryz.prog pur 29 (opsOf evR) (o4 3)=some ⟨some 15,none,.call 32 [.t 13,.t 14]⟩ :=⟨by kernel_rfl,by kernel_rfl⟩
def cE4:(opsOf evR)[4]? =some (o4 4)/\zbS Tryz.prog pur 29 (opsOf evR) (o4 4)=some ⟨some 16,none,.call 34 [.t 15]⟩ :=⟨by kernel_rfl,by kernel_rfl⟩
def isMp:Option TypeDesc->Bool
 |some (.map _ _)=>true
 |_=>false
def zI9{x:Option TypeDesc}(h:isMp x=true):∃k e,x=some (.map k e):=by
 unfold isMp at h;split at h
 .exact⟨_,_,rfl⟩
 .cases h
def cE5:(opsOf evR)[5]? =some (o4 5)/\(∃t,(o4 5).op= .range t (.tmp 16)/\∃k e,Tryz.prog.underlying t=some (.map k e))/\(o4 5).guard=none/\(o4 5).dst=some 17:=⟨by kernel_rfl,⟨82,by kernel_rfl,zI9 (by kernel_rfl)⟩,by kernel_rfl,by kernel_rfl⟩
def zga{P:Program}{ops:Array Oper}{Q:Exit->Act->World->Prop}{n:Nat}{listed:Array Bool}{a:Act}{w:World}{l:List Nat}(hr:Region.ready .any ops listed=l)(hne:l≠[])(h:∀i∈l,wpOp P ops Q i (wpAny P .any ops Q n (listed.setIfInBounds i true)) a w):wpAny P .any ops Q (n+1) listed a w:=
 ⟨fun e=>absurd (hr▸e) hne,fun i hi=>h i (hr▸hi)⟩
structure Kr(L:List Rl)(hd:List Str)(qs:List (List Str×CQ))(x y z:Bool)(s:St):Prop where
 r:Rg [(0,.f (zbt L)),(3,.ptr 0 2 0 0),(5,.f .nils)] s
 h:s.h.get 0=some (.arr 2 0 [[.f (zah hd),.f (qsF (qs.map (·.2)))]])
 c:0<s.c
 x:x=true->s.tm.get 12=some (.f (zbt L))
 y:y=true->∃S,s.tm.get 13=some (.ptr S 2 0 0)/\zdD s.h s.c S L
 z:z=true->s.tm.get 14=some (.ag ((qyF hd qs).map D.f))
def kr_x{L:List Rl}{hd:List Str}{qs:List (List Str×CQ)}{z:Bool}{s:St}(H:Kr L hd qs false false z s):wpO pr [⟨some 12,none,.mv (.t 0)⟩] s (Kr L hd qs true false z):=by
 obtain⟨⟨k0,k3,k5,-⟩,g,hc,-,-,hz⟩ :=H;simp[rW,k0];exact⟨by simp only[Rg];simp[rW,k0,k3,k5],by simp only[rG];exact g,by simp only[rG];exact hc,(fun _=>by simp[rW]),(fun h=>by cases h),fun h=>by simp[rW];exact hz h⟩
def kr_z{L:List Rl}{hd:List Str}{qs:List (List Str×CQ)}{x y:Bool}{s:St}(H:Kr L hd qs x y false s):wpO pr [⟨some 14,none,.ld true 2 (.t 3)⟩] s (Kr L hd qs x y true):=by
 obtain⟨⟨k0,k3,k5,-⟩,g,hc,hx,hy,-⟩ :=H;simp[rW,k3,g];refine⟨by simp only[Rg];simp[rW,k0,k3,k5],by simp only[rG];exact g,by simp only[rG];exact hc,(fun h=>by simp[rW];exact hx h),fun h=> ?_,fun h=>by simp[rW];rfl⟩;obtain⟨S,h1,h2⟩ :=hy h;exact⟨S,by simp[rW,h1],by simp only[rG];exact h2⟩
def kr_y{L:List Rl}{hd:List Str}{qs:List (List Str×CQ)}{z:Bool}{s:St}(hLR:LR L)(H:Kr L hd qs true false z s):wpO pr [⟨some 13,none,.call 33 [.t 12]⟩] s (Kr L hd qs true true z):=by
 obtain⟨⟨k0,k3,k5,-⟩,g,hc,hx,-,hz⟩ :=H;have k12:=hx rfl;cases z with
 |false=>
  simp[rW,k12];refine zbR [(0,.f (zbt L)),(3,.ptr 0 2 0 0),(5,.f .nils),(12,.f (zbt L))] (zGu hLR (h0:=s.h) (c0:=s.c)) rfl rfl (by simp only[Rg];simp[rW,k0,k3,k5,k12]) rfl ?_;rintro s2 d2 ⟨rfl,W,HSR⟩ hc2 j13 ⟨j0,j3,j5,j12,-⟩;refine⟨?_⟩;simp[rW];exact⟨by simp only[Rg];simp[rW,j0,j3,j5],by rw[HSR.f 0 hc];exact g,by omega,fun _=>j12,fun _=>⟨_,j13,(zC6 HSR).lo (Z2 _)⟩,(fun h=>by cases h)⟩
 |true=>
  have k14:=hz rfl;simp[rW,k12];refine zbR [(0,.f (zbt L)),(3,.ptr 0 2 0 0),(5,.f .nils),(12,.f (zbt L)),(14,.ag ((qyF hd qs).map D.f))] (zGu hLR (h0:=s.h) (c0:=s.c)) rfl rfl (by simp only[Rg];simp[rW,k0,k3,k5,k12,k14]) rfl ?_;rintro s2 d2 ⟨rfl,W,HSR⟩ hc2 j13 ⟨j0,j3,j5,j12,j14,-⟩;refine⟨?_⟩;simp[rW];exact⟨by simp only[Rg];simp[rW,j0,j3,j5],by rw[HSR.f 0 hc];exact g,by omega,fun _=>j12,fun _=>⟨_,j13,(zC6 HSR).lo (Z2 _)⟩,fun _=>j14⟩
def Ku(L:List Rl)(hd:List Str)(qs:List (List Str×CQ))(s:St):Prop:=s.tm.get 5=some (.f .nils)/\∃S c1 U Z dd dh,s.tm.get 15=some (.ptr U 2 0 0)/\UnA L S c1 U hd qs s.h s.c Z dd dh
def kr_u{L:List Rl}{hd:List Str}{qs:List (List Str×CQ)}{s:St}(HL:zla L)(HQ:zyk L hd qs)(H:Kr L hd qs true true true s):wpO pr [⟨some 15,none,.call 32 [.t 13,.t 14]⟩] s (Ku L hd qs):=by
 obtain⟨⟨k0,k3,k5,-⟩,g,hc,-,hy,hz⟩ :=H;obtain⟨S,k13,hS⟩ :=hy rfl;have k14:=hz rfl;simp[rW,k13,k14];refine zbR [(5,.f .nils)] (eff32 (S:=S) (c1:=s.c) (h:=s.h) (c0:=s.c) HL HQ hS (Z2 _)) rfl rfl (by simp only[Rg];simp[rW,k5]) rfl ?_;rintro s3 d3 ⟨U,_,rfl,⟨Z,dd,dh,HA⟩,hf3⟩ hc3 i15 ⟨i5,-⟩;refine⟨?_⟩;simp[rW];exact⟨i5,S,_,U,Z,dd,dh,i15,HA⟩
def Km(L:List Rl)(Vz:Int->Prop)(key:List Int->Str)(hd:List Str)(qs:List (List Str×CQ))(s:St):Prop:=s.tm.get 5=some (.f .nils)/\∃Mp E,s.tm.get 16=some (.mp Mp)/\FmA (Vr Vz hd.length) key Mp E s.h s.c/\AnK L hd qs qs.length E
def kr_m{L:List Rl}{Vz:Int->Prop}{key:List Int->Str}{hd:List Str}{qs:List (List Str×CQ)}{s:St}(hK:zj8 (Vr Vz hd.length) key)(HQ:zo3 L Vz hd qs)(H:Ku L hd qs s):wpO pr [⟨some 16,none,.call 34 [.t 15]⟩] s (Km L Vz key hd qs):=by
 obtain⟨k5,S,c1,U,Z,dd,dh,k15,HA⟩ :=H;simp[rW,k15];refine zbR [(5,.f .nils)] (eff34 hK HQ HA) rfl rfl (by simp only[Rg];simp[rW,k5]) rfl ?_;rintro s3 d3 ⟨Mp,E,rfl,h1,h2⟩ hc3 i16 ⟨i5,-⟩;refine⟨?_⟩;simp[rW];exact⟨i5,Mp,E,i16,h1,h2⟩
theorem zMR{L:List Rl}{Vz:Int->Prop}{key:List Int->Str}{hd:List Str}{qs:List (List Str×CQ)}(hLR:LR L)(HL:zla L)(hK:zj8 (Vr Vz hd.length) key)(HQ:zo3 L Vz hd qs){amb:Mu}{w0 w:World}{s:St}{ρ:Nat->Option Nat}{a:Act}(hA:AtS amb w0 29 s ρ a w)(H:Kr L hd qs false false false s){Q:Exit->Act->World->Prop}
  (hQ:∀a w ρ h c r bm es cl Mp E,LJ amb w0 key E Mp c [] a w ρ h c (.f .nils) r bm es cl #[]->(E.map (·.2)).Nodup->AnK L hd qs qs.length E->Q .normal a w):evR.wp Tryz.prog Q a w:=by
 obtain⟨id4,e4⟩ :=ev4;rw[e4];refine wp_region_any fol ?_;rw[o4_n];have tail:∀s ρ a w,AtS amb w0 29 s ρ a w->Kr L hd qs true true true s->wpAny Tryz.prog .any (opsOf evR) Q 3 #[true,true,true,false,false,false] a w:=fun s ρ a w hA H=>by
  refine zga (n:=2) rdF (by simp) fun i hi=> ?_
  simp only[Z31]at hi;subst hi;refine zpZ ziB cE3.2 cE3.1 hA (kr_u HL HQ.v.u H) fun s1 ρ1 a1 w1 H1 A1=> ?_
  refine zga (n:=1) rdG (by simp) fun i hi=> ?_
  simp only[Z31]at hi;subst hi;refine zpZ ziB cE4.2 cE4.1 A1 (kr_m hK HQ H1) fun s2 ρ2 a2 w2 H2 A2=> ?_
  refine zga (n:=0) rdH (by simp) fun i hi=> ?_
  simp only[Z31]at hi;subst hi;obtain⟨k5,Mp,E,k16,HF,hAn⟩ :=H2;obtain⟨v,hv,hr⟩ :=A2.ss.tmr 16 _ k16;have A3:=zBC A2 (t:=T.e.set 5 (.f .nils)) fun i x hi=>by
   rw[TG]at hi;split at hi
   .rename_i h5;subst h5;cases hi;exact k5
   .cases hi
  obtain⟨ho,⟨t,hop,k,e,hu⟩,hg,hdst⟩ :=cE5;obtain⟨bm,es,cl,w3,hrun,A4,I4,-,-⟩ :=zAO A3 (show(CS _ s2.h s2.c).h.get Mp=_ from HF.m) hr hu;refine zi7 ho hg (zzx hop (by rw[zh2 hv];exact hrun)) ?_;rw[hdst];refine⟨rdI,hQ _ w3 ρ2 s2.h s2.c _ bm es cl Mp E ⟨A4.free (zkG (by omega)) _,I4,zhb (by have:=A4.ss.nt;omega),HF.m,fun p hp=>(HF.e p hp).1,Gro.nil,(fun id es ro els e _=>by simp[D.oid]at e),⟨HF.b,Z2 _⟩,List.nodup_nil,(fun j hj=>by cases hj),rfl⟩ HF.n hAn⟩
 have stX:∀z s ρ a w K,AtS amb w0 29 s ρ a w->Kr L hd qs false false z s->(∀s ρ a w,AtS amb w0 29 s ρ a w->Kr L hd qs true false z s->K a w)->wpOp Tryz.prog (opsOf evR) Q 0 K a w:=fun z s ρ a w K hA H hK=>zpZ ziB cE0.2 cE0.1 hA (kr_x H) fun s1 ρ1 a1 w1 H1 A1=>hK s1 ρ1 a1 w1 A1 H1
 have stY:∀z s ρ a w K,AtS amb w0 29 s ρ a w->Kr L hd qs true false z s->(∀s ρ a w,AtS amb w0 29 s ρ a w->Kr L hd qs true true z s->K a w)->wpOp Tryz.prog (opsOf evR) Q 1 K a w:=fun z s ρ a w K hA H hK=>zpZ ziB cE1.2 cE1.1 hA (kr_y hLR H) fun s1 ρ1 a1 w1 H1 A1=>hK s1 ρ1 a1 w1 A1 H1
 have stZ:∀x y s ρ a w K,AtS amb w0 29 s ρ a w->Kr L hd qs x y false s->(∀s ρ a w,AtS amb w0 29 s ρ a w->Kr L hd qs x y true s->K a w)->wpOp Tryz.prog (opsOf evR) Q 2 K a w:=fun x y s ρ a w K hA H hK=>zpZ ziB cE2.2 cE2.1 hA (kr_z H) fun s1 ρ1 a1 w1 H1 A1=>hK s1 ρ1 a1 w1 A1 H1
 have midE:∀s ρ a w,AtS amb w0 29 s ρ a w->Kr L hd qs true false true s->wpAny Tryz.prog .any (opsOf evR) Q 4 #[true,false,true,false,false,false] a w:=fun s ρ a w hA H=>by
  refine zga (n:=3) rdE (by simp) fun i hi=> ?_
  simp only[Z31]at hi;subst hi;exact stY _ s ρ a w _ hA H fun s ρ a w hA H=>tail s ρ a w hA H
 refine zga (n:=5) rdA (by simp) fun i hi=> ?_
 simp only[Z5,Z164,or_false]at hi;rcases hi with rfl|rfl
 .refine stX _ s ρ a _ _ hA.drew H fun s ρ a w hA H=> ?_
  refine zga (n:=4) rdB (by simp) fun i hi=> ?_
  simp only[Z5,Z164,or_false]at hi;rcases hi with rfl|rfl
  .refine stY _ s ρ a w _ hA H fun s ρ a w hA H=> ?_
   refine zga (n:=3) rdD (by simp) fun i hi=> ?_
   simp only[Z31]at hi;subst hi;exact stZ _ _ s ρ a w _ hA H fun s ρ a w hA H=>tail s ρ a w hA H
  .exact stZ _ _ s ρ a w _ hA H fun s ρ a w hA H=>midE s ρ a w hA H
 .refine stZ _ _ s ρ a _ _ hA.drew H fun s ρ a w hA H=> ?_
  refine zga (n:=4) rdC (by simp) fun i hi=> ?_
  simp only[Z31]at hi;subst hi;exact stX _ s ρ a w _ hA H fun s ρ a w hA H=>midE s ρ a w hA H
theorem zCn{α:Type}[DecidableEq α]:∀(l B:List α),l.Nodup->(∀v∈l,v∈B)->l.length<=B.length
 |[],_,_,_=>Z61 _
 |x::l,B,h,hs=>by
  obtain⟨h1,h2⟩ :=Z74.1 h;have hx:=hs x (by simp);have:=zCn l (B.erase x) h2 fun v hv=>(List.mem_erase_of_ne (fun e:v=x=>h1 (e▸hv))).2 (hs v (by simp[hv]))
  rw[List.length_erase_of_mem hx]at this;have:=List.length_pos_of_mem hx;simp only[Z23];omega
def K1(L:List Rl)(hd:List Str)(qs:List (List Str×CQ))(x:Ex)(s:St):Prop:=x= .nrm/\Rg [(0,.f (zbt L)),(3,.ptr 0 2 0 0)] s/\s.h.get 0=some (.arr 2 0 [[.f (zah hd),.f (qsF (qs.map (·.2)))]])/\0<s.c
def walk0(L:List Rl)(hd:List Str)(qs:List (List Str×CQ)):wpC pr g9.body.l (st0 (F.dL [zbt L,.ag (qyF hd qs)]) .e 0) (K1 L hd qs):=by
  have hsd:(zah hd).d= .f (zah hd):=zaL hd;have hqd:(qsF (qs.map (·.2))).d= .f (qsF (qs.map (·.2))):=ze8 _;have e:F.dL [zbt L,.ag (qyF hd qs)]=[.f (zbt L),.ag [.f (zah hd),.f (qsF (qs.map (·.2)))]]:=by
    simp only[F.dL,F.d,ziZ,qyF,hsd,hqd]
  rw[e];unfold g9;simp only[rU,C.l,C.r,C.b,C.o];simp[rW,st0,zak];refine⟨rfl,by simp only[Rg];simp[rW],by simp[rW],by simp only[rG];omega⟩
def walk1{L:List Rl}{hd:List Str}{qs:List (List Str×CQ)}(hval:Ans pr 31 [zbt L,.ag (qyF hd qs)] (.b true)){s:St}(H:K1 L hd qs .nrm s):wpC pr g9.body.r.l s (K1 L hd qs):=by
  obtain⟨-,⟨k0,k3,-⟩,g,hc⟩ :=H;have hsd:(zah hd).d= .f (zah hd):=zaL hd;have hqd:(qsF (qs.map (·.2))).d= .f (qsF (qs.map (·.2))):=ze8 _;have ec:qyF hd qs=[zah hd,qsF (qs.map (·.2))]:=rfl;rw[ec]at hval;have q1:=fun k=>zad (k:=k) hval
  unfold g9;simp only[rU,C.l,C.r,C.b,C.o];simp[rW,k0,k3,g,q1];exact⟨rfl,by simp only[Rg];simp[rW,k0,k3],by simp only[rG];exact g,by simp only[rG];exact hc⟩
def walk2{L:List Rl}{hd:List Str}{qs:List (List Str×CQ)}{s:St}(H:K1 L hd qs .nrm s):wpC pr g9.body.r.r.l s (fun x s=>x= .nrm/\Kr L hd qs false false false s):=by
 obtain⟨-,⟨k0,k3,-⟩,g,hc⟩ :=H;unfold g9;simp only[rU,C.l,C.r,C.b,C.o];simp[rW];exact⟨by simp only[Rg];simp[rW,k0,k3],by simp only[rG];exact g,by simp only[rG];exact hc,(fun h=>by cases h),(fun h=>by cases h),(fun h=>by cases h)⟩
theorem walk4{E R0:List Er}{R:List (List Int)}{Mp lo c:Nat}{h:T Ob}{d:D}(hG:Gro h lo c 1 d (rE R0))(hZ:GZ h d)(hp:R0.Perm E)(hE:∀p∈E,ztF h Mp lo p.1 p.2)(hn:(E.map (·.2)).Nodup)(hl:E.length<=12)(hv:∀p∈E,p.2.length<1000)(hlo:lo<=c)(hS:zhK R)(hR:∀v,v∈R↔v∈E.map (·.2)):
    wpC pr g9.body.r.r.r.r (CS (T.e.set 5 d) h c) fun x s=>x= .ret/\∃d' rd,resD s [.t 4]=some d'/\frz s.h.get 12 d'=some (zdz R,rd):=by
  have hlen:=hp.length_eq;have hrow:∀p∈R0,zgz h c p.1 p.2/\p.2.length<1000:=fun p hm=>by
    have hm2:=hp.mem_iff.1 hm;obtain⟨id,ro,e,h1,h2,h3⟩ :=hE p hm2;exact⟨⟨id,ro,true,e,h1,by omega⟩,hv p hm2⟩
  obtain⟨s1,s2⟩ :=insE R0 (by omega);have hRR:(Go.Sort.insertionSort ltE R0.toArray 0 R0.length).toList.map (·.2)=R:=by
    have hnd:((Go.Sort.insertionSort ltE R0.toArray 0 R0.length).toList.map (·.2)).Nodup:=((s1.trans hp).map (·.2)).nodup_iff.2 hn;refine zxG (zKI s2 hnd) hS fun v=> ?_
    rw[hR];exact ((s1.trans hp).map (·.2)).mem_iff
  unfold g9;simp only[rU,C.l,C.r,C.b,C.o];unfold CS;rcases hG with⟨rfl,he⟩ |⟨id,ro,rfl,g1,g2,g3,g4⟩
  . have hR0:R0=[]:=by simpa [rE]using he
    subst hR0;have hRn:R=[]:=by rw[<-hRR];simpa using s1
    subst hRn;simp[rW];refine zbR [(5,.f .nils)] (zMH (h:=h) (c:=c)) rfl rfl (by simp only[Rg];simp[rW]) rfl ?_;rintro s3 d3 hf hc3 - ⟨k5,-⟩;refine⟨?_⟩;simp[rW,k5];rfl
  . have hro:ro=0:=hZ id 1 ro _ rfl g2;subst hro;have hl1:(rE R0).length=R0.length:=by simp[rE]
    rw[hl1];simp[rW];refine zbR [(5,.sl id 0 R0.length 1 R0.length false)] (eff35 (h:=h) (c:=c) (d:=R0.toArray) (n:=R0.length) (ex:=false) (by simpa using g2) (by simp) (by simpa using hrow) (by omega) (by omega)) rfl rfl (by simp only[Rg];simp[rW]) rfl ?_;rintro s3 d3 HS hc3 - ⟨k5,-⟩;refine⟨?_⟩;simp[rW,k5];have hD:(Go.Sort.insertionSort ltE R0.toArray 0 R0.length).toList.length=R0.length:=s1.length_eq;have hne:R≠[]:=fun e=>by
      have h1:=congrArg List.length hRR;rw[e]at h1;simp only[Z18,Z170]at h1;exact g1 (Z17.1 (by omega))
    have hRl:R.length=R0.length:=by rw[<-hRR,Z18,hD]
    have hat:zF6 s3.h s3.c (.sl id 0 R0.length 1 R0.length false) R:=by
      refine .inr ⟨id,false,_,by rw[hRl],HS.row,hRR,hne,fun p hm=> ?_⟩;obtain⟨⟨i,ro,ex,e,h1,h2⟩,h3⟩ :=HS.el p hm;refine⟨i,ro,ex,e,?_,by have:=HS.le;omega⟩;rw[HS.fr i h2 fun e=>by rw[e,g2]at h1;simp at h1];exact h1
    obtain⟨rd,hz⟩ :=zKw hat 9;have hz2:frz s3.h.get (11+1) (.sl id 0 R0.length 1 R0.length false)=some (zdz R,rd):=hz;rw[zfw]at hz2;exact⟨rd,hz2⟩
def ev_rs:zat (zio Tryz.prog) Tryz.f9.results.toList=some [.t 4]:=by kernel_rfl
def zk7(L:List Rl)(hd:List Str)(qs:List (List Str×CQ))(v:List Int):Prop:=∃q∈qs,∃w,zlD L q.1 q.2 w/\v=hvl q.1 hd w
theorem zId{L:List Rl}{Vz:Int->Prop}{key:List Int->Str}{hd:List Str}{qs:List (List Str×CQ)}{R B:List (List Int)}(hLR:LR L)(HL:zla L)(hK:zj8 (Vr Vz hd.length) key)(HQ:zo3 L Vz hd qs)(hval:Ans pr 31 [zbt L,.ag (qyF hd qs)] (.b true))(hS:zhK R)(hR:∀v,v∈R↔zk7 L hd qs v)(hB:∀v,zk7 L hd qs v->v∈B)(hBl:B.length<=12):
  zgW Tryz.prog 9 (F.dL [zbt L,.ag (qyF hd qs)]) .e 0 ⟨.f (zdz R),.e,0,0,0⟩ :=by
 refine zBJ Tryz.func9 (by decide) zML ev_rs (show 2<=29 by decide) fun amb w0 a hA=> ?_
 rw[zMN];refine wp_seq (zp0 ziB ck0 hA (walk0 L hd qs) fun x s ρ a w hK1 hA _=> ?_);obtain⟨rfl,hK1⟩ :=hK1;refine wp_seq (zp0 ziB ck1 hA (walk1 hval ⟨rfl,hK1⟩) fun x s ρ a w hK1 hA _=> ?_);obtain⟨rfl,hK1⟩ :=hK1;refine wp_seq (zp0 ziB ck2 hA (walk2 ⟨rfl,hK1⟩) fun x s ρ a w hK2 hA _=> ?_);obtain⟨rfl,hK2⟩ :=hK2;refine wp_seq (wp_seq (zMR hLR HL hK HQ hA hK2 fun a w ρ h c r bm es cl Mp E hJ hn hAn=> ?_));have hAv:∀v,v∈E.map (·.2)↔zk7 L hd qs v:=fun v=>(hAn v).trans ⟨fun⟨i,q,_,h2,h3⟩ =>⟨q,Z39 h2,h3⟩,fun⟨q,h2,h3⟩ =>by
  obtain⟨i,hi⟩ :=List.mem_iff_getElem?.1 h2;exact⟨i,q,(Z8.1 hi).1,hi,h3⟩⟩
 have hEl:E.length<=12:=by
  have:=zCn _ B hn fun v hv=>hB v ((hAv v).1 hv)
  simp only[Z18]at this;omega
 have hhl:=HQ.v.u.hl;refine wp_block (wp_loop_rounds (E.length+1) (zwO hEl (fun a w hE=> ?_) E.length [] a w ρ h c _ r bm es cl _ hJ (by simp)));obtain⟨ρ,h,c,d,R0,hA,hG,hZ,hp,hE,hlo⟩ :=hE;refine zp0 ziB ck4 hA (walk4 hG hZ hp hE hn hEl (fun p hp=> ?_) hlo hS fun v=>(hR v).trans (hAv v).symm) fun x s ρ a w hK4 hA _=> ?_
 .obtain⟨q,_,w,_,e⟩ :=(hAv p.2).1 (List.mem_map_of_mem hp);rw[e];simp only[hvl,Z18];exact hhl
 .obtain⟨rfl,d',rd,h1,h2⟩ :=hK4;exact⟨.inr rfl,s,ρ,d',rd,hA,h1,h2⟩
theorem znC:∀(L:List Rl) (s:Str) (w:List Int),hasB L (riN L s) w=true↔w∈zn0 (ziD L) s
 |[],s,w=>by simp[hasB,zn0,ziD]
 |r::L,s,w=>by
  by_cases h:r.nm=s
  .have e:riN (r::L) s=0:=by simp[riN,List.findIdx_cons,h]
   rw[e];simp only[hasB,List.getElem?_cons_zero,ziD,Z10,zn0,Z51 h];rw[Z30,Z12];constructor
   .rintro⟨t,ht,e⟩;exact⟨t,ht,by simpa using e⟩
   .rintro⟨t,ht,e⟩;exact⟨t,ht,by simpa using e⟩
  .have hb:(r.nm==s)=false:=by simpa using h
   have e:riN (r::L) s=riN L s+1:=by simp only[riN,List.findIdx_cons,hb,cond_false]
   rw[e];have ih:=znC L s w;simp only[hasB,List.getElem?_cons_succ,ziD,Z10,zn0,Z49 h]at ih|-;exact ih
def zrY{ns:List Str}{v:List Int}{σ:Str->Int}(h:∀s∈ns,σ s=zfa ns v (.var s)){t:Trm}(ht:zi9 ns t):teS σ t=zfa ns v t:=by
 cases t with
 |cst n=>rfl
 |var s=>exact h s ht.2
def zFT{ns:List Str}{v:List Int}{σ:Str->Int}(h:∀s∈ns,σ s=zfa ns v (.var s)){ts:List Trm}(ht:∀t∈ts,zi9 ns t):ts.map (teS σ)=ts.map (zfa ns v):=Z68 fun t hm=>zrY h (ht t hm)
def zFV{ns:List Str}(hn:ns.Nodup){v:List Int}{i:Nat}(hi:i<ns.length):zfa ns v (.var ns[i])=v.getD i 0:=by
 simp only[zfa];rw[zh3 hn hi]
theorem zw0:∀u v,zaH u v<0->rlt u v=true
 |[],[],h=>by simp[zaH]at h
 |[],_::_,_=>rfl
 |_::_,[],h=>by simp[zaH]at h
 |a::u,b::v,h=>by
  simp only[zaH]at h;simp only[rlt,Z115,Z86,Z14];unfold zaW at h
  by_cases h1:a=b
  .subst h1;simp only[Z60,ne_eq,not_true_eq_false,Z63]at h;exact .inr ⟨rfl,zw0 u v h⟩
  .rw[Z49 h1]at h
   by_cases h2:a<b
   .exact .inl h2
   .rw[Z49 h2]at h;simp at h
def zwU{L:List Rl}{ns:List Str}{c:CQ}(hC:zm9 L ns c){v:List Int}{σ:Str->Int}(hl:v.length=ns.length)(h:∀s∈ns,σ s=zfa ns v (.var s)):zlD L ns c v↔zlC L c σ:=by
 have key:∀a∈c.as,(hasB L (riN L a.r) (a.ts.map (zfa ns v))= !a.neg↔(a.ts.map (teS σ)∈zn0 (ziD L) a.r↔a.neg=false)):=fun a ha=>by
  rw[zFT h (hC.t a ha),<-znC];cases hasB L (riN L a.r) (a.ts.map (zfa ns v))<;>cases a.neg<;>simp
 have kk:∀k∈c.cs,zg4 k.op (zfa ns v k.l) (zfa ns v k.r)=zg4 k.op (teS σ k.l) (teS σ k.r):=fun k hk=>by
  rw[zrY h (hC.k k hk).1,zrY h (hC.k k hk).2]
 exact⟨fun H=>⟨fun a ha=>(key a ha).1 (H.a a ha),fun k hk=>(kk k hk)▸H.k k hk⟩,fun H=>⟨hl,fun a ha=>(key a ha).2 (H.1 a ha),fun k hk=>(kk k hk).trans (H.2 k hk)⟩⟩
def ztM{L:List Rl}{hd:List Str}{qs:List (List Str×CQ)}(hC:∀q∈qs,zm9 L q.1 q.2/\q.1.Nodup)(hh:∀q∈qs,∀s∈hd,s∈q.1)(v:List Int):zk7 L hd qs v↔∃c∈qs.map (·.2),∃σ,zlC L c σ/\v=hd.map σ:=by
 constructor
 .rintro⟨q,hq,w,hw,rfl⟩;obtain⟨h1,h2⟩ :=hC q hq;exact⟨q.2,List.mem_map_of_mem hq,fun s=>zfa q.1 w (.var s),(zwU h1 hw.l fun _ _=>rfl).1 hw,rfl⟩
 .rintro⟨c,hc,σ,hs,rfl⟩;obtain⟨q,hq,rfl⟩ :=Z12.1 hc;obtain⟨h1,h2⟩ :=hC q hq;have key:∀s∈q.1,σ s=zfa q.1 (q.1.map σ) (.var s):=fun s hs=>by
   obtain⟨i,hi,rfl⟩ :=Z101.1 hs;rw[zFV h2 hi];simp[List.getD,hi]
  exact⟨q,hq,q.1.map σ,(zwU h1 (by simp) key).2 hs,Z68 fun s hs'=>key s (hh q hq s hs')⟩
def dL_ag{a b a' b' c d:F}(h:F.dL [a,.ag [b,c]]=F.dL [a',.ag [b',d]])(ha:a.d= .f a)(ha':a'.d= .f a')(hb:b.d= .f b)(hb':b'.d= .f b')(hc:c.d= .f c)(hd:d.d= .f d):a=a'/\b=b'/\c=d:=by
 simp only[F.dL,F.d,ha,ha',hb,hb',hc,hd,List.cons.injEq,D.f.injEq,D.ag.injEq,and_true]at h;exact⟨h.1,h.2.1,h.2.2⟩
def zOy{args:List D}{h:T Ob}{n:Nat}(hx:∃q,zgW Tryz.prog 9 args h n q/\SpG args h n q):∃q,Con pr 9 args h n q/\SpG args h n q:=by
 have hx':∃q,zgW Tryz.prog 9 args h n q/\(9=9/\SpG args h n q):=by
  obtain⟨q,h1,h2⟩ :=hx;exact⟨q,h1,rfl,h2⟩
 refine⟨Classical.choose hx',⟨1,fun m hm=> ?_⟩,(Classical.choose_spec hx').2.2⟩;obtain⟨k,rfl⟩ :∃k,m=k+1:=⟨m - 1,by omega⟩
 have e1:pr.fn 9=none:=by kernel_rfl
 have e2:pr.ext 9 args=none:=by kernel_rfl
 have e3:pr.exq 9 args h n=some (Classical.choose hx'):=by
  show zpc 9 args h n=_;unfold zpc;rw[dif_pos hx']
 simp only[zbW,e1,e2,e3]
theorem ans9{L:List Rl}{Vz:Int->Prop}{key:List Int->Str}{hd:List Str}{qs:List (List Str×CQ)}{R B:List (List Int)}(hLR:LR L)(HL:zla L)(hK:zj8 (Vr Vz hd.length) key)(HQ:zo3 L Vz hd qs)(hC:∀q∈qs,zm9 L q.1 q.2/\q.1.Nodup)(hval:Ans pr 31 [zbt L,.ag (qyF hd qs)] (.b true))(hS:zhK R)(hR:∀v,v∈R↔zk7 L hd qs v)(hB:∀v,zk7 L hd qs v->v∈B)(hBl:B.length<=12):
  Ans pr 9 [zbt L,.ag (qyF hd qs)] (zdz R):=by
 have hcl:=zId hLR HL hK HQ hval hS hR hB hBl;have hAR:zxZ L hd (qs.map (·.2)) R:=⟨hS.imp fun{u v} h=>zw0 u v h,fun v=>(hR v).trans (ztM hC HQ.h v)⟩
 obtain⟨q,h1,L',hd',cs',R',e1,e2,-,-,rfl⟩ :=zOy ⟨_,hcl,L,hd,qs.map (·.2),R,rfl,hAR,rfl,rfl,rfl⟩;have hsd:∀l,(zah l).d= .f (zah l):=zaL
 obtain⟨g1,g2,g3⟩ :=dL_ag (b:=zah hd) (c:=qsF (qs.map (·.2))) (b':=zah hd') (d:=slc 2 (cs'.map cqF)) e1 (ziZ L) (zeh ..) (hsd _) (hsd _) (ze8 _) (zeh ..);have:=zHr g1 g2 g3 hAR e2;subst this;exact⟨_,[],h1,rfl⟩
end Go.Proofs.YtdlcolcidohbkaaGreatDoor
end
