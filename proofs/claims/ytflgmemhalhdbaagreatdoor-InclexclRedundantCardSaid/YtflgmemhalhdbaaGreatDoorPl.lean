/- Maps of strings; a name that is not used. -/
import Derived.Test.YtflgmemhalhdbaaGreatDoorPb
import Derived.Test.YtflgmemhalhdbaaGreatDoorPk
import Derived.KernelRfl
import Derived.IntWalk
set_option linter.all false
set_option maxRecDepth 100000
set_option maxHeartbeats 4000000
noncomputable section
section
namespace Go.Proofs.YtflgmemhalhdbaaGreatDoor
open Go Go.Vse Go.Vse.Sm
def zcw(U:List Str)(x:Str):List Str:=if x∈U then U else U++[x]
def znT(U:List Str)(x:Str):(zcw U x).length<=U.length+1:=by
 unfold zcw;split
 .omega
 .simp
theorem zgH:∀(L U:List Str),(L.foldl zcw U).length<=U.length+L.length
 |[],U=>by simp
 |x::L,U=>by
  have h1:=znT U x;have h2:=zgH L (zcw U x);simp only[Z43,Z24];omega
theorem zoe(x:Str):∀(l:List Str) (i:Nat),x∈l->∃j,zbf 1 (.s x) (bmE l) i=some (some (i+j,.f (.b true)))/\l[j]? =some x
 |[],_,h=>absurd h (by simp)
 |y::l,i,h=>by
  by_cases hy:x=y
  .subst hy;exact⟨0,by simp[bmE,zbf,zfW],rfl⟩
  .obtain⟨j,hj,h2⟩ :=zoe x l (i+1) (by simpa [hy]using h);have e:zbf 1 (.s x) (bmE (y::l)) i=zbf 1 (.s x) (bmE l) (i+1):=by
    have hb:(x==y)=false:=by simpa using hy
    simp only[bmE,Z11,zbf,zfW,hb]
   exact⟨j+1,by rw[e,hj,show i+1+j=i+(j+1) by omega],h2⟩
def upB{U:List Str}{x:Str}{id c:Nat}:∃rs,upM id 1 (.s x) (.f (.b true)) c (bmE U) (zbf 1 (.s x) (bmE U) 0)=some rs/\rs={d:= .f .un,rd:=[id],wr:=[(id,some (.map (bmE (zcw U x))))],c:=c}:=by
 unfold zcw
 by_cases hx:x∈U
 .obtain⟨j,hj,h2⟩ :=zoe x U 0 hx;rw[hj,Z52 hx,zGd];refine⟨_,rfl,?_⟩;have:(bmE U).set (0+j) (.s x,.f (.b true))=bmE U:=by
   rw[Z26];have hl:j< (bmE U).length:=by
    unfold bmE;rw[Z19];exact (Z9.1 h2).1
   have h3:(bmE U)[j]? =some (.s x,.f (.b true)):=by simp[bmE,h2]
   have h4:=Z96 hl;rw[Z0 hl]at h3;rw[Z54 h3]at h4;exact h4
  rw[this]
 .rw[zgJ x U 0 hx,Z50 hx,zGc];exact⟨_,rfl,by simp[bmE]⟩
def zAF{U:List Str}{x:Str}{id c:Nat}:upM id 1 (.s x) (.f (.b true)) c (bmE U) (zbf 1 (.s x) (bmE U) 0)=some {d:= .f .un,rd:=[id],wr:=[(id,some (.map (bmE (zcw U x))))],c:=c}:=by
 obtain⟨rs,h1,h2⟩ :=upB (U:=U) (x:=x) (id:=id) (c:=c);rw[h1,h2]
def lkB{U:List Str}{x:Str}{id c:Nat}:lkM id (.b false) false c (zbf 1 (.s x) (bmE U) 0)=some {d:= .f (.b (decide (x∈U))),rd:=[id],c:=c}:=by
 by_cases hx:x∈U
 .obtain⟨j,hj,h2⟩ :=zoe x U 0 hx;rw[hj,zz8,decide_eq_true hx];rfl
 .rw[zgJ x U 0 hx,zz7,decide_eq_false hx];rfl
abbrev Nms:=List (Str×Str)
def mpS(N:Nms):List (F×D):=N.map fun p=>(.s p.1,.f (.s p.2))
def lkS(x:Str):Nms->Option Str
 |[]=>none
 |p::N=>if x=p.1 then some p.2 else lkS x N
def upS(x w:Str):Nms->Nms
 |[]=>[(x,w)]
 |p::N=>if x=p.1 then(x,w)::N else p::upS x w N
theorem zsY(x:Str):∀(N:Nms) (i:Nat),(∃j y,zbf 1 (.s x) (mpS N) i=some (some (i+j,.f (.s y)))/\lkS x N=some y/\∀w,(mpS N).set j (.s x,.f (.s w))=mpS (upS x w N))\/(zbf 1 (.s x) (mpS N) i=some none/\lkS x N=none/\∀w,mpS N++[(.s x,.f (.s w))]=mpS (upS x w N))
 |[],_=> .inr ⟨rfl,rfl,fun _=>rfl⟩
 |(a,b)::N,i=>by
  by_cases hy:x=a
  .subst hy;exact .inl ⟨0,b,by simp[mpS,zbf,zfW],by simp[lkS],fun w=>by simp[mpS,upS]⟩
  .have hb:(x==a)=false:=by simpa using hy
   have e:zbf 1 (.s x) (mpS ((a,b)::N)) i=zbf 1 (.s x) (mpS N) (i+1):=by
    simp only[mpS,Z11,zbf,zfW,hb]
   rw[e];rcases zsY x N (i+1)with⟨j,y,h1,h2,h3⟩ |⟨h1,h2,h3⟩
   .refine .inl ⟨j+1,y,by rw[h1,show i+1+j=i+(j+1) by omega],by simp[lkS,hy,h2],fun w=> ?_⟩;have:=h3 w;simp only[mpS,upS,hy,Z64,Z11,Z190]at this|-;rw[this]
   .refine .inr ⟨h1,by simp[lkS,hy,h2],fun w=> ?_⟩;have:=h3 w;simp only[mpS,upS,hy,Z64,Z11,Z30]at this|-;rw[this]
def upS'{N:Nms}{x w:Str}{id c:Nat}:upM id 1 (.s x) (.f (.s w)) c (mpS N) (zbf 1 (.s x) (mpS N) 0)=some {d:= .f .un,rd:=[id],wr:=[(id,some (.map (mpS (upS x w N))))],c:=c}:=by
 rcases zsY x N 0 with⟨j,y,h1,h2,h3⟩ |⟨h1,h2,h3⟩
 .rw[h1,zGd,Z26,h3]
 .rw[h1,zGc,h3]
def zjm{N:Nms}{x:Str}{id c:Nat}:lkM id (.s []) true c (zbf 1 (.s x) (mpS N) 0)=some {d:= .tu [.f (.s ((lkS x N).getD [])),.f (.b (lkS x N).isSome)],rd:=[id],c:=c}:=by
 rcases zsY x N 0 with⟨j,y,h1,h2,h3⟩ |⟨h1,h2,h3⟩
 .rw[h1,zz8,h2];rfl
 .rw[h1,zz7,h2];rfl
def lkS''{N:Nms}{x:Str}{id c:Nat}:lkM id (.s []) false c (zbf 1 (.s x) (mpS N) 0)=some {d:= .f (.s ((lkS x N).getD [])),rd:=[id],c:=c}:=by
 rcases zsY x N 0 with⟨j,y,h1,h2,h3⟩ |⟨h1,h2,h3⟩
 .rw[h1,zz8,h2];rfl
 .rw[h1,zz7,h2];rfl
theorem zio(x w:Str):∀N:Nms,lkS x (upS x w N)=some w
 |[]=>by simp[upS,lkS]
 |p::N=>by
  unfold upS
  by_cases h:x=p.1
  .rw[Z52 h];simp[lkS]
  .rw[Z50 h];simp[lkS,h,zio x w N]
theorem zgp{x y:Str}(hxy:y≠x)(w:Str):∀N:Nms,lkS y (upS x w N)=lkS y N
 |[]=>by simp[upS,lkS,hxy]
 |p::N=>by
  unfold upS
  by_cases h:x=p.1
  .rw[Z52 h];simp[lkS,<-h,hxy]
  .rw[Z50 h];simp[lkS,zgp hxy w N]
def nmx(x:Str)(n:Nat):Str:=x++[95]++dgt n
def zxt{x:Str}{n m:Nat}(hn:n<100)(hm:m<100)(h:nmx x n=nmx x m):n=m:=
 zLr n hn m hm (List.append_cancel_left h)
def zvc(x:Str)(n:Nat):nmx x n≠[]:=by simp[nmx]
theorem zva:∀{l m:List Str},l.Nodup->(∀a∈l,a∈m)->l.length<=m.length
 |[],m,_,_=>by simp
 |a::l,m,hn,hs=>by
  have ha:=hs a (by simp);have hn2:=Z75.1 hn;have:=zva (l:=l) (m:=m.erase a) hn2.2 fun b hb=>by
   have hne:b≠a:=fun e=>hn2.1 (e▸hb)
   exact (List.mem_erase_of_ne hne).2 (hs b (by simp[hb]))
  rw[List.length_erase_of_mem ha]at this;have:0<m.length:=List.length_pos_of_mem ha;simp only[Z24];omega
def zIh{U:List Str}{x:Str}{n:Nat}(hU:U.length<98)(h:∀m,1<=m->m<n->nmx x m∈U):n<100:=by
 refine Z164 fun hn=> ?_
 have h1:((List.range' 1 98).map (nmx x)).Nodup:=by
  refine List.Pairwise.map _ (fun a b hab=> ?_) (List.Pairwise.and_mem.1 (List.nodup_range' (s:=1) (n:=98)));intro e;have ha:=Z107.1 hab.1;have hb:=Z107.1 hab.2.1;exact hab.2.2 (zxt (by omega) (by omega) e)
 have h2:=zva h1 (m:=U) fun a ha=>by
  obtain⟨m,hm,rfl⟩ :=Z13.1 ha;have:=Z107.1 hm;exact h m this.1 (by omega)
 simp at h2;omega
def frs(U:List Str)(x:Str):Nat:=((List.range' 1 99).find? fun n=>decide (nmx x n∉U)).getD 0
def zCl{U:List Str}{x:Str}{n:Nat}(h0:1<=n)(hn:n<100)(h:nmx x n∉U)(h2:∀m,1<=m->m<n->nmx x m∈U):frs U x=n:=by
 unfold frs;have:(List.range' 1 99).find? (fun n=>decide (nmx x n∉U))=some n:=by
  rw[List.find?_range'_eq_some];refine⟨by simpa using h,Z107.2 ⟨h0,by omega⟩,fun j h1 h3=>by simpa using h2 j h1 h3⟩
 rw[this];rfl
def apS(st:List Str×Nms)(x:Str):List Str×Nms:=if(lkS x st.2).isSome=true then(zcw st.1 (nmx x (frs st.1 x)),upS x (nmx x (frs st.1 x)) st.2)else st
def kyS(A hd:List Str)(N:Nms)(x:Str):Nms:=if x∈A/\hd.any (· ==x)=false then upS x [] N else N
def apN(A B hd:List Str):Nms:=(B.foldl apS (hd.foldl zcw (B.foldl zcw (A.foldl zcw [])),B.foldl (kyS (A.foldl zcw []) hd) [])).2
def zEO:pr.fn 68=some g68:=by kernel_rfl
def rnV(N:Nms)(v:Str):Str:=if v=[]then v else(lkS v N).getD v
def rnT(N:Nms):Trm->Trm
 | .var s=> .var (rnV N s)
 | .cst n=> .cst n
def zAD(N:Nms)(t:Trm):tv (rnT N t)=rnV N (tv t):=by
 cases t with
 |var s=>rfl
 |cst n=>simp[rnT,zv5,rnV]
def zAv(N:Nms)(t:Trm):tk (rnT N t)=tk t:=by cases t<;>rfl
def zAA(N:Nms)(t:Trm):tn (rnT N t)=tn t:=by cases t<;>rfl
def zjs{N:Nms}{v:Str}(h:lkS v N=none):rnV N v=v:=by unfold rnV;rw[h];simp
def zjt{N:Nms}{v y:Str}(hv:v≠[])(h:lkS v N=some y):rnV N v=y:=by unfold rnV;rw[h,Z50 hv];rfl
def zL4{l:List (List D)}(h:∀r∈l,r.length≠1):hd8 l=false:=by
 unfold hd8;split
 .exact absurd rfl (h _ (Z155))
 .rfl
def zxc(l:List Cm):hd8 (l.map cmD)=false:=zL4 fun r hr=>by
 obtain⟨k,_,rfl⟩ :=Z13.1 hr;simp[cmD,tmD]
def zly(s:St):resD s []=some (.tu []):=rfl
theorem zQ8(N:Nms)(ts:List Trm)(n:Nat)(hn:n<ts.length){h:T Ob}{c X C M:Nat}(gX:h.get X=some (.arr 4 0 (zaH ts)))(gC:h.get C=some (.arr 1 0 [[.mp M]]))(gM:h.get M=some (.map (mpS N)))(hX:X<c)(hC:C<c)(hM:M<c):
  Eff pr 68 [.ptr X 4 n 0,.ptr C 1 0 0] h c fun d h' c'=>h'.get X=some (.arr 4 0 (zaH (ts.set n (rnT N ts[n]))))/\∀x,x<c->x≠X->h'.get x=h.get x:=by
 refine zcG za0 zEO ?_;simp only[g68,rU];have ht:=zfX ts n hn;have hl:n< (zaH ts).length:=by rw[zbD];exact hn
 have ht2:∀h:n< (zaH ts).length,(zaH ts)[n]=tmD ts[n]:=fun h=>by
  rw[Z0 h]at ht;exact Z54 ht
 have hst:(zaH ts).set n (tmD (rnT N ts[n]))=zaH (ts.set n (rnT N ts[n])):=zh2 ..;have h81:=zcF ts;have hsame:rnT N ts[n]=ts[n]->ts.set n (rnT N ts[n])=ts:=fun e=>by rw[e,Z96]
 have hrv:=zAD N ts[n];have hrk:=zAv N ts[n];have hrn:=zAA N ts[n];have hvc:rnV N (tv ts[n])=tv ts[n]->rnT N ts[n]=ts[n]:=fun e=>by
  cases hc:ts[n]with
  |var s=>rw[hc]at e;exact congrArg Trm.var e
  |cst k=>rfl
 generalize hR:rnT N ts[n]=R at hst hsame hrv hrk hrn hvc|-;generalize ts[n]=T at ht ht2 hsame hrv hrk hrn hvc;simp only[tmD]at ht ht2 hst;cases hk:lkS (tv T) N with
 |none=>
  have e:=hsame (hvc (zjs hk));simp[rW,st0,zah];refine zaF ?_;simp[rW,gX,gC,gM,ht,ht2,hl,zjm,hk,zly,zfl];rw[e]
 |some y=>
  by_cases hv:tv T=[]
  .have e:=hsame (hvc (by rw[hv];rfl));have hk2:lkS [] N=some y:=by rw[<-hv];exact hk
   simp[rW,st0,zah];refine zaF ?_;simp[rW,gX,gC,gM,ht,ht2,hl,zjm,hk,hk2,hv,zly,zfl];rw[e]
  .rw[zjt hv hk]at hrv;rw[hrv,hrk,hrn]at hst;simp[rW,st0,zah];refine zaF ?_;simp[rW,gX,gC,gM,ht,ht2,hl,zjm,hk,hv,hst,h81,hX,zly,zfl];refine⟨by omega,fun x hx hne=>by simp[TG,hne],fun hlw=> ?_⟩;rw[zm9,Z52 hX,za9]at hlw;omega
theorem zQ9(N:Nms)(ks:List Cm)(n:Nat)(hn:n<ks.length){h:T Ob}{c X C M:Nat}(gX:h.get X=some (.arr 9 0 (ks.map cmD)))(gC:h.get C=some (.arr 1 0 [[.mp M]]))(gM:h.get M=some (.map (mpS N)))(hX:X<c)(hC:C<c)(hM:M<c):
  Eff pr 68 [.ptr X 9 n 1,.ptr C 1 0 0] h c fun d h' c'=>h'.get X=some (.arr 9 0 ((ks.set n ⟨ks[n].op,rnT N ks[n].l,ks[n].r⟩).map cmD))/\∀x,x<c->x≠X->h'.get x=h.get x:=by
 refine zcG za0 zEO ?_;simp only[g68,rU];have hl:n< (ks.map cmD).length:=by simpa using hn
 have ht2:∀h:n< (ks.map cmD).length,(ks.map cmD)[n]=cmD ks[n]:=fun h=>by simp
 have ht:(ks.map cmD)[n]? =some (cmD ks[n]):=by rw[Z0 hl,ht2 hl]
 have hst:∀k,(ks.map cmD).set n (cmD k)=(ks.set n k).map cmD:=fun k=>by rw[Z117]
 have h81:=zxc ks;have hsame:ks.set n ks[n]=ks:=Z96 _;generalize hK:ks[n]=K at ht ht2 hsame|-;obtain⟨op,l,r⟩ :=K;have hrv:=zAD N l;have hrk:=zAv N l;have hrn:=zAA N l;have hvc:rnV N (tv l)=tv l->rnT N l=l:=fun e=>by
  cases l with
  |var s=>exact congrArg Trm.var e
  |cst k=>rfl
 dsimp only;generalize rnT N l=R at hrv hrk hrn hvc|-;have hstR:=hst ⟨op,R,r⟩;simp only[cmD,tmD,Z30,Z29]at ht ht2 hstR;cases hk:lkS (tv l) N with
 |none=>
  have e:=hvc (zjs hk);subst e;simp[rW,st0,zah];refine zaF ?_;simp[rW,gX,gC,gM,ht,ht2,hl,zjm,hk,zly,zfl];rw[hst,hsame]
 |some y=>
  by_cases hv:tv l=[]
  .have e:=hvc (by rw[hv];rfl);subst e;have hk2:lkS [] N=some y:=by rw[<-hv];exact hk
   simp[rW,st0,zah];refine zaF ?_;simp[rW,gX,gC,gM,ht,ht2,hl,zjm,hk,hk2,hv,zly,zfl];rw[hst,hsame]
  .rw[zjt hv hk]at hrv;rw[hrv,hrk,hrn]at hstR;simp[rW,st0,zah];refine zaF ?_;simp[rW,gX,gC,gM,ht,ht2,hl,zjm,hk,hv,hstR,h81,hX,zly,zfl];refine⟨by omega,fun x hx hne=>by simp[TG,hne],fun hlw=> ?_⟩;rw[zm9,Z52 hX,za9]at hlw;omega
theorem zRc(N:Nms)(ks:List Cm)(n:Nat)(hn:n<ks.length){h:T Ob}{c X C M:Nat}(gX:h.get X=some (.arr 9 0 (ks.map cmD)))(gC:h.get C=some (.arr 1 0 [[.mp M]]))(gM:h.get M=some (.map (mpS N)))(hX:X<c)(hC:C<c)(hM:M<c):
  Eff pr 68 [.ptr X 9 n 5,.ptr C 1 0 0] h c fun d h' c'=>h'.get X=some (.arr 9 0 ((ks.set n ⟨ks[n].op,ks[n].l,rnT N ks[n].r⟩).map cmD))/\∀x,x<c->x≠X->h'.get x=h.get x:=by
 refine zcG za0 zEO ?_;simp only[g68,rU];have hl:n< (ks.map cmD).length:=by simpa using hn
 have ht2:∀h:n< (ks.map cmD).length,(ks.map cmD)[n]=cmD ks[n]:=fun h=>by simp
 have ht:(ks.map cmD)[n]? =some (cmD ks[n]):=by rw[Z0 hl,ht2 hl]
 have hst:∀k,(ks.map cmD).set n (cmD k)=(ks.set n k).map cmD:=fun k=>by rw[Z117]
 have h81:=zxc ks;have hsame:ks.set n ks[n]=ks:=Z96 _;generalize hK:ks[n]=K at ht ht2 hsame|-;obtain⟨op,l,r⟩ :=K;have hrv:=zAD N r;have hrk:=zAv N r;have hrn:=zAA N r;have hvc:rnV N (tv r)=tv r->rnT N r=r:=fun e=>by
  cases r with
  |var s=>exact congrArg Trm.var e
  |cst k=>rfl
 dsimp only;generalize rnT N r=R at hrv hrk hrn hvc|-;have hstR:=hst ⟨op,l,R⟩;simp only[cmD,tmD,Z30,Z29]at ht ht2 hstR;cases hk:lkS (tv r) N with
 |none=>
  have e:=hvc (zjs hk);subst e;simp[rW,st0,zah];refine zaF ?_;simp[rW,gX,gC,gM,ht,ht2,hl,zjm,hk,zly,zfl];rw[hst,hsame]
 |some y=>
  by_cases hv:tv r=[]
  .have e:=hvc (by rw[hv];rfl);subst e;have hk2:lkS [] N=some y:=by rw[<-hv];exact hk
   simp[rW,st0,zah];refine zaF ?_;simp[rW,gX,gC,gM,ht,ht2,hl,zjm,hk,hk2,hv,zly,zfl];rw[hst,hsame]
  .rw[zjt hv hk]at hrv;rw[hrv,hrk,hrn]at hstR;simp[rW,st0,zah];refine zaF ?_;simp[rW,gX,gC,gM,ht,ht2,hl,zjm,hk,hv,hstR,h81,hX,zly,zfl];refine⟨by omega,fun x hx hne=>by simp[TG,hne],fun hlw=> ?_⟩;rw[zm9,Z52 hX,za9]at hlw;omega
def ztY{a b:Str}(h:a.length+b.length<=100000):za7 .add (.s a) (.s b)=some (.s (a++b)):=by
 have h2:a.length+b.length<=9223372036854775807:=by omega
 simp[za7,zyR,h2]
def zwX(n:Nat):(dgt n).length<=2:=by
 unfold dgt;split<;>(rw[Z42];omega)
def zt4{x:Str}(h:x.length<1000):za7 .add (.s x) (.s [95])=some (.s (x++[95])):=ztY (by simp;omega)
def zpv{x:Str}(h:x.length<1000)(n:Nat):za7 .add (.s (x++[95])) (.s (dgt n))=some (.s (nmx x n)):=ztY (by have:=zwX n;simp;omega)
def APS(h0:T Ob)(c0 P R M:Nat)(hd:List Str)(dA dC:D)(U:List Str)(s:St):Prop:=(s.tm.get 2=some (.f (zaM hd))/\s.tm.get 4=some (.ptr P 2 0 0)/\s.tm.get 6=some (.ptr R 2 0 0)/\s.tm.get 7=some (.mp M)/\s.h.get P=some (.arr 2 0 [[dA,dC]])/\s.h.get R=some (.arr 2 0 [[.f .nils,.f .nils]])/\s.h.get M=some (.map (bmE U)))/\Frm h0 s.h c0/\M<s.c
def AQS(M C Q:Nat)(dB:D)(VB:List Str)(N:Nms)(s:St):Prop:=(s.tm.get 11=some (.ptr C 1 0 0)/\s.h.get C=some (.arr 1 0 [[.mp Q]])/\s.h.get Q=some (.map (mpS N)))/\Gro s.h (M+1) Q 1 dB (za1 VB)/\C<s.c
def ztM:C:=(.seq (oD [oM 92 7,oM 93 19,oR 94 (.bin .add (.t 93) (.k (.s [95]))),oM 95 22,oR 96 (.callp 67 [(.t 95)]),oR 97 (.bin .add (.t 94) (.t 96)),oR 98 (.mlk 1 (.b false) false (.t 92) (.t 97))] 98 .skip (.exit 10))
 (.blk 11 (.reg [oM 99 22,oR 100 (.bin .add (.t 99) (.k (.i .i64 1))),oM 22 100])))
def zsP:C:=(oZ [oR 81 (.bin .lss (.t 80) (.t 79))]
 (.seq (.cond (.t 81) .skip (.exit 8))
 (.seq (.blk 9 (oZ [oI 82 1 78 80,oK 83 1 82,oM 19 83]
 (.seq (oZ [oK 85 1 11,oM 86 19,oR 87 (.mlk 1 (.s []) true (.t 85) (.t 86)),oM 84 87,oR 88 (.ext (.t 84) 0),oR 89 (.ext (.t 84) 1),oM 20 88,oM 21 89]
 (oD [oM 90 21,oR 91 (.un .not (.t 90))] 91 (.exit 9) .skip))
 (oZ [oR 22 (.mv (.k (.i .i64 1)))]
 (.seq (.blk 10 (.loop ztM))
 (.seq (.dreg [(oK 101 1 11,0),(oM 102 19,1),(oM 103 19,3),(oR 104 (.bin .add (.t 103) (.k (.s [95]))),3),(oM 105 22,15),(oR 106 (.callp 67 [(.t 105)]),15),(oR 107 (.bin .add (.t 104) (.t 106)),3),(oN (.mup 1 (.t 101) (.t 102) (.t 107)),0)])
 (.reg [oM 108 7,oK 109 1 11,oM 110 19,oR 111 (.mlk 1 (.s []) false (.t 109) (.t 110)),oN (.mup 1 (.t 108) (.t 111) (.k (.b true)))])))))))
 (.reg [oR 112 (.bin .add (.t 80) (.k (.i .i64 1))),oM 80 112]))))
theorem zNv{h0:T Ob}{c0 P R M C Q:Nat}(o:c0<=P/\P<R/\R<M/\M<Q/\Q<C){hd:List Str}{dA dC dB:D}{U VB:List Str}{N:Nms}{x:Str}{len n0:Nat}(hU:U.length<98)(hxl:x.length<1000){K:Ex->St->Prop}(s:St)
  (h1:APS h0 c0 P R M hd dA dC U s)(h2:AQS M C Q dB VB N s)(h3:s.tm.get 78=some (dB)/\s.tm.get 79=some (.f (.i .i64 len))/\s.tm.get 80=some (.f (.i .i64 n0))/\s.tm.get 19=some (.f (.s x))/\s.tm.get 22=some (.f (.i .i64 1)))
  (hK:∀s,APS h0 c0 P R M hd dA dC U s->AQS M C Q dB VB N s->(s.tm.get 78=some (dB)/\s.tm.get 79=some (.f (.i .i64 len))/\s.tm.get 80=some (.f (.i .i64 n0))/\s.tm.get 19=some (.f (.s x))/\s.tm.get 22=some (.f (.i .i64 (frs U x:Nat))))->1<=frs U x->frs U x<100->K (.exit 10) s):WL pr ztM s K:=by
 refine zcN (fun k s=>∃n:Nat,(k=100 - n/\1<=n/\n<100/\∀m,1<=m->m<n->nmx x m∈U)/\APS h0 c0 P R M hd dA dC U s/\AQS M C Q dB VB N s/\(s.tm.get 78=some (dB)/\s.tm.get 79=some (.f (.i .i64 len))/\s.tm.get 80=some (.f (.i .i64 n0))/\s.tm.get 19=some (.f (.s x))/\s.tm.get 22=some (.f (.i .i64 n))))
  (fun e s=>e= .exit 10/\APS h0 c0 P R M hd dA dC U s/\AQS M C Q dB VB N s/\(s.tm.get 78=some (dB)/\s.tm.get 79=some (.f (.i .i64 len))/\s.tm.get 80=some (.f (.i .i64 n0))/\s.tm.get 19=some (.f (.s x))/\s.tm.get 22=some (.f (.i .i64 (frs U x:Nat))))/\1<=frs U x/\frs U x<100) ?_ 99 s ⟨1,⟨rfl,Z3 _,by omega,fun m h1 h2=>by omega⟩,h1,h2,h3⟩ (by rintro e s ⟨rfl,a,b,c,d,e⟩;exact hK s a b c d e)
 clear hK h1 h2 h3 s;rintro k s ⟨n,⟨rfl,hn1,hn2,hall⟩,⟨⟨h2,h4,h6,h7,gP,gR,gM⟩,hf,hMc⟩,⟨⟨h11,gC,gQ⟩,hg,hCc⟩,⟨h78,h79,h80,h19,h22⟩⟩;unfold ztM;simp only[rU];have q45:=fun k=>zav (k:=k) (zHR n hn2)
 have hw:=zao n (by omega);have b1:=zt4 hxl;have b2:=zpv hxl n
 by_cases hx:nmx x n∈U
 .have hall2:∀m,1<=m->m<n+1->nmx x m∈U:=fun m h1 h2=>by
   by_cases hm:m=n
   .subst hm;exact hx
   .exact hall m h1 (by omega)
  have hlt:=zIh hU hall2;simp[rW,h2,h4,h6,h7,gP,gR,gM,h11,gC,gQ,h78,h79,h80,h19,h22,b1,b2,q45,lkB,hx,hw];rw[zcc];refine⟨100 - (n+1),by omega,n+1,⟨rfl,by omega,hlt,hall2⟩,⟨?_,?_,?_⟩,⟨?_,?_,?_⟩,?_⟩
  .simp[rW,h2,h4,h6,h7,gP,gR,gM]
  .simp[rW,hf]
  .simp[rW,hMc]
  .simp[rW,h11,gC,gQ]
  .simp[rW,hg]
  .simp[rW,hCc]
  .simp[rW,h78,h79,h80,h19,h22]
 .have hfr:=zCl hn1 hn2 hx hall;rw[hfr];simp[rW,h2,h4,h6,h7,gP,gR,gM,h11,gC,gQ,h78,h79,h80,h19,h22,b1,b2,q45,lkB,hx,hw];refine⟨⟨?_,?_,?_⟩,⟨?_,?_,?_⟩,hn1,hn2⟩
  .simp[rW,h2,h4,h6,h7,gP,gR,gM]
  .simp[rW,hf]
  .simp[rW,hMc]
  .simp[rW,h11,gC,gQ]
  .simp[rW,hg]
  .simp[rW,hCc]
theorem zTM{h0:T Ob}{c0 P R M C Q:Nat}(o:c0<=P/\P<R/\R<M/\M<Q/\Q<C){hd:List Str}{dA dC dB:D}{U VB:List Str}{N:Nms}(hU:U.length+VB.length<98)(hxl:∀x∈VB,x.length<1000){K:Ex->St->Prop}(s:St)
  (h1:APS h0 c0 P R M hd dA dC U s)(h2:AQS M C Q dB VB N s)(h3:s.tm.get 78=some (dB)/\s.tm.get 79=some (.f (.i .i64 VB.length))/\s.tm.get 80=some (.f (.i .i64 0)))
  (hK:∀s,APS h0 c0 P R M hd dA dC (VB.foldl apS (U,N)).1 s->AQS M C Q dB VB (VB.foldl apS (U,N)).2 s->K (.exit 8) s):WL pr zsP s K:=by
 refine zeO VB apS (U,N) (fun n a s=>a.1.length<=U.length+n/\APS h0 c0 P R M hd dA dC a.1 s/\AQS M C Q dB VB a.2 s/\(s.tm.get 78=some (dB)/\s.tm.get 79=some (.f (.i .i64 VB.length))/\s.tm.get 80=some (.f (.i .i64 n)))) (fun e s=>e= .exit 8/\APS h0 c0 P R M hd dA dC (VB.foldl apS (U,N)).1 s/\AQS M C Q dB VB (VB.foldl apS (U,N)).2 s) ?_ ?_ s ⟨by simp,h1,h2,h3⟩ (by rintro e s ⟨rfl,a,b⟩;exact hK s a b)
 .clear hK h1 h2 h3 s;rintro n ⟨U1,N1⟩ s hn - ⟨hUl,⟨⟨h2,h4,h6,h7,gP,gR,gM⟩,hf,hMc⟩,⟨⟨h11,gC,gQ⟩,hg,hCc⟩,⟨h78,h79,h80⟩⟩;simp only at hUl gM gQ;unfold zsP;simp only[rU];have hw:=zao n (by omega);obtain⟨X,r0,hi,gX,hX1,hX2⟩ :=zhm hg (n:=n) (by rw[zbl];exact hn);have hxx:=hxl _ (Z2 hn);have ht:(za1 VB)[n]? =some [.f (.s VB[n])]:=by simp[za1,hn]
  have hnt:n< (za1 VB).length:=by rw[zbl];exact hn
  have ht2:∀h:n< (za1 VB).length,(za1 VB)[n]=[.f (.s VB[n])]:=fun h=>by
   rw[Z0 h]at ht;exact Z54 ht
  generalize VB[n]=x at hxx ht ht2|-;cases hk:lkS x N1 with
  |none=>
   have e:apS (U1,N1) x=(U1,N1):=by simp[apS,hk]
   rw[e];simp[rW,h2,h4,h6,h7,gP,gR,gM,h11,gC,gQ,h78,h79,h80,hn,hi,gX,ht,ht2,hnt,zjm,hk,hw];refine⟨by omega,⟨⟨?_,?_,?_⟩,⟨?_,?_,?_⟩⟩⟩
   .simp[rW,h2,h4,h6,h7,gP,gR,gM]
   .simp[rW,hf]
   .simp[rW,hMc]
   .simp[rW,h11,gC,gQ]
   .simp[rW,hg]
   .simp[rW,hCc]
  |some y=>
   have e:apS (U1,N1) x=(zcw U1 (nmx x (frs U1 x)),upS x (nmx x (frs U1 x)) N1):=by simp[apS,hk]
   rw[e];simp[rW,h2,h4,h6,h7,gP,gR,gM,h11,gC,gQ,h78,h79,h80,hn,hi,gX,ht,ht2,hnt,zjm,hk,hw];refine zNv (h0:=h0) (c0:=c0) (P:=P) (R:=R) (M:=M) (C:=C) (Q:=Q) (hd:=hd) (dA:=dA) (dC:=dC) (dB:=dB) (U:=U1) (VB:=VB) (N:=N1) (x:=x) (len:=VB.length) (n0:=n) o (by omega) hxx _ ⟨?_,?_,?_⟩ ⟨?_,?_,?_⟩ ?_ ?_
   .simp[rW,h2,h4,h6,h7,gP,gR,gM]
   .simp[rW,hf]
   .simp[rW,hMc]
   .simp[rW,h11,gC,gQ]
   .simp[rW,hg]
   .simp[rW,hCc]
   .simp[rW,h78,h79,h80]
   .clear h2 h4 h6 h7 gP gR gM hf hMc h11 gC gQ hg hCc h78 h79 h80 gX;clear s;rintro s ⟨⟨h2,h4,h6,h7,gP,gR,gM⟩,hf,hMc⟩ ⟨⟨h11,gC,gQ⟩,hg,hCc⟩ ⟨h78,h79,h80,h19,h22⟩ hf1 hf2;have q45:=fun k=>zav (k:=k) (zHR _ hf2)
    have b1:=zt4 hxx;have b2:=zpv hxx (frs U1 x);have hal:=znT U1 (nmx x (frs U1 x));have hlk:=zio x (nmx x (frs U1 x)) N1;generalize nmx x (frs U1 x)=y2 at b2 hal hlk|-;generalize frs U1 x=fr at*;have nQM:¬(Q=M):=by omega
    have nMQ:¬(M=Q):=by omega
    have nQC:¬(Q=C):=by omega
    have nCQ:¬(C=Q):=by omega
    have nMC:¬(M=C):=by omega
    have nCM:¬(C=M):=by omega
    have nPM:¬(P=M):=by omega
    have nPQ:¬(P=Q):=by omega
    have nRM:¬(R=M):=by omega
    have nRQ:¬(R=Q):=by omega
    simp[rW,h2,h4,h6,h7,gP,gR,gM,h11,gC,gQ,h78,h79,h80,h19,h22];refine zaF ?_;simp[rW,h2,h4,h6,h7,gP,gR,gM,h11,gC,gQ,h78,h79,h80,h19,h22,b1,b2,q45,upS',zAF,lkS'',hlk,nQM,nMQ,nQC,nCQ,nMC,nCM,nPM,nPQ,nRM,nRQ,hw];refine⟨by omega,by omega,by omega,⟨?_,fun z hz=> ?_,?_⟩,⟨?_,zbh hg (Z3 _) fun z hz1 hz2=> ?_,?_⟩⟩
    .simp[rW,h2,h4,h6,h7,gP,gR,gM,nPM,nPQ,nRM,nRQ,nMQ]
    .have z1:¬z=M:=by omega
     have z2:¬z=Q:=by omega
     simp[rW,z1,z2];exact hf z hz
    .simp[rW,];omega
    .simp[rW,h11,gC,gQ,nQM,nCM,nCQ]
    .have z1:¬z=M:=by omega
     have z2:¬z=Q:=by omega
     simp[rW,z1,z2]
    .simp[rW,];omega
 .rintro s ⟨hUl,⟨⟨h2,h4,h6,h7,gP,gR,gM⟩,hf,hMc⟩,⟨⟨h11,gC,gQ⟩,hg,hCc⟩,⟨h78,h79,h80⟩⟩;unfold zsP;simp only[rU];simp[rW,h78,h79,h80];refine⟨⟨?_,?_,?_⟩,⟨?_,?_,?_⟩⟩
  .simp[rW,h2,h4,h6,h7,gP,gR,gM]
  .simp[rW,hf]
  .simp[rW,hMc]
  .simp[rW,h11,gC,gQ]
  .simp[rW,hg]
  .simp[rW,hCc]
def HQx(h:T Ob)(lo c:Nat)(dA dC:D)(l:List Atm)(q:CQ)(xs:List Nat):Prop:=AsD h lo c dA l xs/\CsE h lo c dC q/\∀Y,dC.oid=some Y->Y∉xs/\dA.oid≠some Y
def zuo{h h':T Ob}{lo c:Nat}{d:D}{q:CQ}(H:CsE h lo c d q)(hh:∀Y,d.oid=some Y->h'.get Y=h.get Y):CsE h' lo c d q:=by
 rcases H with H|⟨Y,ex,rfl,hY,h3,h4,h1,h2,h5⟩
 .exact .inl H
 .exact .inr ⟨Y,ex,rfl,by rw[hh Y rfl];exact hY,h3,h4,h1,h2,h5⟩
def zFa{xs:List Nat}(hn:xs.Nodup){i j:Nat}(hi:i<xs.length)(hj:j<xs.length)(hij:i≠j):xs[i]≠xs[j]:=by
 rcases Nat.lt_or_gt_of_ne hij with h|h
 .exact Z127.1 hn i j hi hj h
 .exact fun e=>Z127.1 hn j i hj hi h e.symm
theorem AsD.upd{h h':T Ob}{lo c:Nat}{d:D}{l:List Atm}{xs:List Nat}(H:AsD h lo c d l xs){n:Nat}(hn:n<l.length)(hx:n<xs.length){a:Atm}(hr:a.r=l[n].r)(hg:a.neg=l[n].neg)(hl:a.ts.length=l[n].ts.length)
  (hX:h'.get xs[n]=some (.arr 4 0 (zaH a.ts)))(ho:∀x,lo<=x->x<c->x≠xs[n]->h'.get x=h.get x):AsD h' lo c d (l.set n a) xs:=by
 refine⟨by rw[List.length_set];exact H.ln,H.nd,H.rg,fun k hk hkx=> ?_,?_,H.oi⟩
 .by_cases e:k=n
  .subst e;simpa using hX
  .have e2:¬n=k:=fun e3=>e e3.symm
   have h1:=H.rg _ (Z2 hkx);rw[Z71 e2,ho _ h1.1 h1.2 (zFa H.nd hkx hx e)];exact H.rw k (by simpa using hk) hkx
 .have hz:List.zipWith atR (l.set n a) xs=List.zipWith atR l xs:=by
   apply Z108;intro i;rw[Z123,Z123]
   by_cases e:n=i
   .subst e;rw[Z141 hn,Z0 hn,Z0 hx];simp[atR,hr,hg,hl]
   .rw[Z126 e]
  rw[hz];rcases H.gr with h1|⟨id,ro,h1,h2,h3,h4,h5,h6⟩
  .exact .inl h1
  .exact .inr ⟨id,ro,h1,h2,by rw[ho id h5 h6 fun e=>H.oi id (by rw[h1];rfl) (e▸Z2 hx)];exact h3,h4,h5,h6⟩
def rnA(N:Nms)(a:Atm):Atm:=⟨a.r,a.neg,a.ts.map (rnT N)⟩
def rnK(N:Nms)(k:Cm):Cm:=⟨k.op,rnT N k.l,rnT N k.r⟩
def BPS(h0:T Ob)(lo P R C Q:Nat)(dA dC:D)(N:Nms)(s:St):Prop:=(s.tm.get 4=some (.ptr P 2 0 0)/\s.tm.get 6=some (.ptr R 2 0 0)/\s.tm.get 23=some (.fn 68 [] [.ptr C 1 0 0])/\s.h.get P=some (.arr 2 0 [[dA,dC]])/\s.h.get R=some (.arr 2 0 [[.f .nils,.f .nils]])/\s.h.get C=some (.arr 1 0 [[.mp Q]])/\s.h.get Q=some (.map (mpS N)))/\Frm h0 s.h lo/\C<s.c
def stA(N:Nms)(a:Atm)(m:Nat):Atm:=⟨a.r,a.neg,(a.ts.take m).map (rnT N)++a.ts.drop m⟩
def zpr:C:=(oZ [oR 125 (.bin .lss (.t 124) (.t 123))]
 (.seq (.cond (.t 125) .skip (.exit 14))
 (.seq (.blk 15 (oZ [oM 126 124,oM 26 126]
 (.reg [oM 127 23,oF 128 2 25,oK 129 1 128,oM 130 26,oI 131 4 129 130,oR 132 (.callv (.t 127) [(.t 131)])])))
 (.reg [oR 133 (.bin .add (.t 124) (.k (.i .i64 1))),oM 124 133]))))
def zpu:C:=(oZ [oR 139 (.bin .lss (.t 138) (.t 137))]
 (.seq (.cond (.t 139) .skip (.exit 16))
 (.seq (.blk 17 (oZ [oM 140 138,oM 27 140]
 (oZ [oM 141 23,oF 142 1 4,oK 143 1 142,oM 144 27,oI 145 9 143 144,oF 146 1 145,oR 147 (.callv (.t 141) [(.t 146)])]
 (.reg [oM 148 23,oF 149 1 4,oK 150 1 149,oM 151 27,oI 152 9 150 151,oF 153 5 152,oR 154 (.callv (.t 148) [(.t 153)])]))))
 (.reg [oR 155 (.bin .add (.t 138) (.k (.i .i64 1))),oM 138 155]))))
def zpq:C:=(oZ [oR 118 (.bin .lss (.t 117) (.t 116))]
 (.seq (.cond (.t 118) .skip (.exit 12))
 (.seq (.blk 13 (oZ [oI 119 3 115 117,oL 120 3 119,oR 25 (.new [.s [],.b false,.nils]),oS 3 25 120]
 (oZ [oF 121 2 25,oK 122 1 121,oR 123 (.len (.t 122)),oR 124 (.mv (.k (.i .i64 0)))]
 (.blk 14 (.loop zpr)))))
 (.reg [oR 134 (.bin .add (.t 117) (.k (.i .i64 1))),oM 117 134]))))
theorem zNx{h0:T Ob}{lo c0 P R C Q E:Nat}(o:lo<=c0/\c0<=P/\P<R/\R<Q/\Q<C/\C<E){dA dC:D}{N:Nms}{l:List Atm}{q:CQ}{xs:List Nat}{n:Nat}(hn:n<l.length)(hx:n<xs.length)(hts:l[n].ts.length<=12){K:Ex->St->Prop}(s:St)
  (h1:BPS h0 lo P R C Q dA dC N s)(h2:HQx s.h lo c0 dA dC l q xs)(h3:s.tm.get 115=some (dA)/\s.tm.get 116=some (.f (.i .i64 l.length))/\s.tm.get 117=some (.f (.i .i64 n)))(h4:(s.tm.get 25=some (.ptr E 3 0 0)/\s.tm.get 123=some (.f (.i .i64 l[n].ts.length))/\s.tm.get 124=some (.f (.i .i64 0))/\s.h.get E=some (.arr 3 0 [atR l[n] xs[n]]))/\E<s.c)
  (hK:∀s,BPS h0 lo P R C Q dA dC N s->HQx s.h lo c0 dA dC (l.set n (rnA N l[n])) q xs->(s.tm.get 115=some (dA)/\s.tm.get 116=some (.f (.i .i64 l.length))/\s.tm.get 117=some (.f (.i .i64 n)))->K (.exit 14) s):WL pr zpr s K:=by
 refine zdo l[n].ts.length (fun m s=>BPS h0 lo P R C Q dA dC N s/\HQx s.h lo c0 dA dC (l.set n (stA N l[n] m)) q xs/\(s.tm.get 115=some (dA)/\s.tm.get 116=some (.f (.i .i64 l.length))/\s.tm.get 117=some (.f (.i .i64 n)))/\(s.tm.get 25=some (.ptr E 3 0 0)/\s.tm.get 123=some (.f (.i .i64 l[n].ts.length))/\s.tm.get 124=some (.f (.i .i64 m))/\s.h.get E=some (.arr 3 0 [atR l[n] xs[n]]))/\E<s.c)
  (fun e s=>e= .exit 14/\BPS h0 lo P R C Q dA dC N s/\HQx s.h lo c0 dA dC (l.set n (rnA N l[n])) q xs/\(s.tm.get 115=some (dA)/\s.tm.get 116=some (.f (.i .i64 l.length))/\s.tm.get 117=some (.f (.i .i64 n)))) ?_ ?_ s ⟨h1,?_,h3,h4⟩ (by rintro e s ⟨rfl,a,b,c⟩;exact hK s a b c)
 .clear hK h1 h2 h3 h4 s;rintro m s hm ⟨⟨⟨h4,h6,h23,gP,gR,gC,gQ⟩,hf,hCc⟩,⟨hA,hC,hY⟩,⟨h115,h116,h117⟩,⟨h25,h123,h124,gE⟩,hEc⟩;unfold zpr;simp only[rU];have hw:=zao m (by omega);have hxr:=hA.rg _ (Z2 hx);have hXg:=hA.rw n (by simpa using hn) hx;have hst:(l.set n (stA N l[n] m))[n]'(by simpa using hn)=stA N l[n] m:=by simp
  rw[hst]at hXg;have hlen:∀m,(stA N l[n] m).ts.length=l[n].ts.length:=fun m=>by simp[stA];omega
  have hmt:m< (stA N l[n] m).ts.length:=by rw[hlen];exact hm
  have htm:(stA N l[n] m).ts[m]=l[n].ts[m]:=by
   simp only[stA];rw[Z59 (by simp;omega)];simp[Z74 (Z111 hm)]
  have hnx:(stA N l[n] m).ts.set m (rnT N l[n].ts[m])=(stA N l[n] (m+1)).ts:=by
   have e0:m - ((l[n].ts.take m).map (rnT N)).length=0:=by simp;omega
   simp only[stA];rw[Z113 _ _ (by simp;omega),e0,Z56 hm,Z154,Z7 hm,Z21,Z33];rfl
  have hset:(l.set n (stA N l[n] m)).set n (stA N l[n] (m+1))=l.set n (stA N l[n] (m+1)):=by simp
  simp[rW,h4,h6,h23,gP,gR,gC,gQ,h115,h116,h117,h25,h123,h124,gE,hm,atR];refine zer rfl rfl (zQ8 N (stA N l[n] m).ts m hmt (X:=xs[n]) (C:=C) (M:=Q) hXg gC gQ ?_ ?_ ?_) ?_
  .simp only[rG];omega
  .simp only[rG];omega
  .simp only[rG];omega
  rintro d h' c' lw mx ⟨hX',ho⟩ hcc;simp only[rG]at hX' ho hcc;rw[htm,hnx]at hX';have eP:=ho P (by omega) (by omega);have eR:=ho R (by omega) (by omega);have eC:=ho C (by omega) (by omega);have eQ:=ho Q (by omega) (by omega);have eE:=ho E (by omega) (by omega);rw[gP]at eP;rw[gR]at eR;rw[gC]at eC;rw[gQ]at eQ;rw[gE]at eE;simp[rW,h4,h6,h23,h115,h116,h117,h25,h123,h124,hw];refine⟨⟨?_,?_,?_⟩,⟨?_,?_,hY⟩,?_,?_⟩
  .simp[rW,h4,h6,h23,eP,eR,eC,eQ]
  .simp[rW,];exact fun z hz=>(ho z (by omega) (by omega)).trans (hf z hz)
  .simp[rW,];omega
  .have:=hA.upd (h':=h') (a:=stA N l[n] (m+1)) (by simpa using hn) hx (by simp[stA]) (by simp[stA]) (by rw[hst,hlen,hlen]) hX' (fun z hz1 hz2 hz3=>ho z (by omega) hz3);rw[hset]at this;exact this
  .exact zuo hC fun Y hYo=>ho Y (by rcases hC with⟨rfl,-⟩ |⟨Y2,ex,rfl,-,-,-,-,h6,-⟩ <;>simp[D.oid]at hYo;omega) fun e=>(hY Y hYo).1 (e▸Z2 hx)
  .simp[rW,eE,atR]
  .omega
 .rintro s ⟨⟨⟨h4,h6,h23,gP,gR,gC,gQ⟩,hf,hCc⟩,h2,⟨h115,h116,h117⟩,⟨h25,h123,h124,gE⟩,hEc⟩;have e:stA N l[n] l[n].ts.length=rnA N l[n]:=by simp[stA,rnA]
  rw[e]at h2;unfold zpr;simp only[rU];simp[rW,h123,h124,h115,h116,h117];refine⟨⟨?_,hf,hCc⟩,h2⟩;simp[rW,h4,h6,h23,gP,gR,gC,gQ]
 .have e:stA N l[n] 0=l[n]:=by simp[stA]
  rw[e,Z96];exact h2
def asN(N:Nms)(l:List Atm)(n:Nat):List Atm:=(l.take n).map (rnA N)++l.drop n
def zqT(N:Nms)(l:List Atm)(n:Nat):(asN N l n).length=l.length:=by simp[asN];omega
def zBr(N:Nms){l:List Atm}{n:Nat}(hn:n<l.length):(asN N l n)[n]'(by rw[zqT];exact hn)=l[n]:=by
 simp only[asN];rw[Z59 (by simp;omega)];simp[Z74 (Z111 hn)]
def zKp(N:Nms){l:List Atm}{n:Nat}(hn:n<l.length):(asN N l n).set n (rnA N l[n])=asN N l (n+1):=by
 have e0:n - ((l.take n).map (rnA N)).length=0:=by simp;omega
 simp only[asN];rw[Z113 _ _ (by simp;omega),e0,Z56 hn,Z154,Z7 hn,Z21,Z33];rfl
def zKo(N:Nms)(l:List Atm):asN N l l.length=l.map (rnA N):=by simp[asN]
theorem zNw{h0:T Ob}{lo c0 P R C Q:Nat}(o:lo<=c0/\c0<=P/\P<R/\R<Q/\Q<C){dA dC:D}{N:Nms}{l:List Atm}{q:CQ}{xs:List Nat}(hl:l.length<=1000)(hts:∀a∈l,a.ts.length<=12){K:Ex->St->Prop}(s:St)
  (h1:BPS h0 lo P R C Q dA dC N s)(h2:HQx s.h lo c0 dA dC l q xs)(h3:s.tm.get 115=some (dA)/\s.tm.get 116=some (.f (.i .i64 l.length))/\s.tm.get 117=some (.f (.i .i64 0)))
  (hK:∀s,BPS h0 lo P R C Q dA dC N s->HQx s.h lo c0 dA dC (l.map (rnA N)) q xs->K (.exit 12) s):WL pr zpq s K:=by
 refine zdo l.length (fun n s=>BPS h0 lo P R C Q dA dC N s/\HQx s.h lo c0 dA dC (asN N l n) q xs/\(s.tm.get 115=some (dA)/\s.tm.get 116=some (.f (.i .i64 l.length))/\s.tm.get 117=some (.f (.i .i64 n))))
  (fun e s=>e= .exit 12/\BPS h0 lo P R C Q dA dC N s/\HQx s.h lo c0 dA dC (l.map (rnA N)) q xs) ?_ ?_ s ⟨h1,h2,h3⟩ (by rintro e s ⟨rfl,a,b⟩;exact hK s a b)
 .clear hK h1 h2 h3 s;rintro n s hn ⟨⟨⟨h4,h6,h23,gP,gR,gC,gQ⟩,hf,hCc⟩,⟨hA,hC,hY⟩,⟨h115,h116,h117⟩⟩;unfold zpq;simp only[rU];have hw:=zao n (by omega);obtain⟨L,hA,hnl,hat,hsu,hlen⟩ :∃L,AsD s.h lo c0 dA L xs/\∃hnl:n<L.length,L[n]=l[n]/\L.set n (rnA N L[n])=asN N l (n+1)/\L.length=l.length:=
   ⟨_,hA,by rw[zqT];exact hn,zBr N hn,by rw[zBr N hn];exact zKp N hn,zqT N l n⟩
  have hxl:n<xs.length:=by rw[hA.ln];exact hnl
  have htl:=hts _ (Z2 hn);rw[<-hat]at htl;rw[<-hlen]at h116;obtain⟨X,r0,hi,gX,hX1,hX2⟩ :=zhm hA.gr (n:=n) (by rw[Z85,hA.ln,Z122];exact hnl);have ht:(List.zipWith atR L xs)[n]? =some (atR L[n] xs[n]):=by
   rw[Z123,Z0 hnl,Z0 hxl]
  have hnt:n< (List.zipWith atR L xs).length:=by rw[Z85,hA.ln,Z122];exact hnl
  have ht2:∀h:n< (List.zipWith atR L xs).length,(List.zipWith atR L xs)[n]=atR L[n] xs[n]:=fun h=>by
   rw[Z0 h]at ht;exact Z54 ht
  have nC:¬(C=s.c):=by omega
  have nP:¬(P=s.c):=by omega
  have nR:¬(R=s.c):=by omega
  have nQ:¬(Q=s.c):=by omega
  generalize hzz:List.zipWith atR L xs=Z at gX ht hnt ht2;simp only[atR]at ht ht2;simp[rW,h4,h6,h23,gP,gR,gC,gQ,h115,h116,h117,hn,hnl,hi,gX,ht,ht2,hnt,atR];refine zNx (h0:=h0) (lo:=lo) (c0:=c0) (P:=P) (R:=R) (C:=C) (Q:=Q) (E:=s.c) (by omega) (dA:=dA) (dC:=dC) (N:=N) (l:=L) (q:=q) (xs:=xs) hnl hxl htl _ ⟨?_,?_,?_⟩ ⟨?_,?_,hY⟩ ?_ ⟨?_,?_⟩ ?_
  .simp[rW,h4,h6,h23,gP,gR,gC,gQ,nC,nP,nR,nQ]
  .simp[rW,];exact fun z hz=>by
    have z1:¬z=s.c:=by omega
    simp[TG,z1,hf z hz]
  .simp[rW,];omega
  .refine hA.up (fun z hz1 hz2=> ?_) (Z3 _) (Z3 _);have z1:¬z=s.c:=by omega
   simp[rW,z1]
  .refine zij hC (fun z hz1 hz2=> ?_) (Z3 _) (Z3 _);have z1:¬z=s.c:=by omega
   simp[rW,z1]
  .simp[rW,h115,h116,h117]
  .simp[rW,atR]
  .simp[rW,]
  .rintro s ⟨⟨h4,h6,h23,gP,gR,gC,gQ⟩,hf,hCc⟩ h2 ⟨h115,h116,h117⟩;rw[hsu]at h2;simp[rW,h115,h116,h117,hw,hlen];refine⟨⟨?_,hf,hCc⟩,h2⟩;simp[rW,h4,h6,h23,gP,gR,gC,gQ]
 .rintro s ⟨⟨⟨h4,h6,h23,gP,gR,gC,gQ⟩,hf,hCc⟩,h2,⟨h115,h116,h117⟩⟩;rw[zKo]at h2;unfold zpq;simp only[rU];simp[rW,h115,h116,h117];refine⟨⟨?_,hf,hCc⟩,h2⟩;simp[rW,h4,h6,h23,gP,gR,gC,gQ]
def csN(N:Nms)(l:List Cm)(n:Nat):List Cm:=(l.take n).map (rnK N)++l.drop n
def zns(N:Nms)(l:List Cm)(n:Nat):(csN N l n).length=l.length:=by simp[csN];omega
def zQK(N:Nms){l:List Cm}{n:Nat}(hn:n<l.length):(csN N l n)[n]'(by rw[zns];exact hn)=l[n]:=by
 simp only[csN];rw[Z59 (by simp;omega)];simp[Z74 (Z111 hn)]
def zLp(N:Nms){l:List Cm}{n:Nat}(hn:n<l.length):(csN N l n).set n (rnK N l[n])=csN N l (n+1):=by
 have e0:n - ((l.take n).map (rnK N)).length=0:=by simp;omega
 simp only[csN];rw[Z113 _ _ (by simp;omega),e0,Z56 hn,Z154,Z7 hn,Z21,Z33];rfl
def zLo(N:Nms)(l:List Cm):csN N l l.length=l.map (rnK N):=by simp[csN]
def zBM{h:T Ob}{lo c:Nat}{d:D}{q:CQ}(H:CsE h lo c d q){n:Nat}(hn:n<q.cs.length):∃Y,iaB 9 d n=some (.ptr Y 9 n 0)/\h.get Y=some (.arr 9 0 (q.cs.map cmD))/\d.oid=some Y/\lo<=Y/\Y<c:=by
 rcases H with⟨-,e,-⟩ |⟨Y,ex,rfl,hY,-,-,h1,h2,-⟩
 .rw[e]at hn;simp at hn
 .exact⟨Y,by simp[zs5,hn],hY,rfl,h1,h2⟩
def zLk{h h':T Ob}{lo c:Nat}{d:D}{q:CQ}(H:CsE h lo c d q){Y:Nat}(hY:d.oid=some Y){cs:List Cm}(hl:cs.length=q.cs.length)(hg:h'.get Y=some (.arr 9 0 (cs.map cmD))):CsE h' lo c d ⟨q.as,cs,q.ne,q.na⟩ :=by
 rcases H with⟨rfl,-⟩ |⟨Y2,ex,rfl,-,h3,h4,h1,h2,h5⟩
 .simp[D.oid]at hY
 .simp only[D.oid,Z46]at hY;subst hY;have e0:cs=[]↔q.cs=[]:=by rw[<-Z18,hl,Z18]
  exact .inr ⟨Y2,ex,by simp[hl],hg,fun e=>h3 (e0.1 e),fun e=>h4 fun e2=>e (e0.2 e2),h1,h2,by simp only[hl];exact h5⟩
def zun{h:T Ob}{lo c:Nat}{d:D}{q:CQ}(H:CsE h lo c d q):zbv d=some q.cs.length:=by
 rcases H with⟨rfl,e,-⟩ |⟨Y,ex,rfl,-⟩
 .rw[e];rfl
 .rfl
theorem zNz{h0:T Ob}{lo c0 P R C Q:Nat}(o:lo<=c0/\c0<=P/\P<R/\R<Q/\Q<C){dA dC:D}{N:Nms}{l:List Atm}{q:CQ}{xs:List Nat}(hl:q.cs.length<=1000){K:Ex->St->Prop}(s:St)
  (h1:BPS h0 lo P R C Q dA dC N s)(h2:HQx s.h lo c0 dA dC l q xs)(h3:s.tm.get 136=some (dC)/\s.tm.get 137=some (.f (.i .i64 q.cs.length))/\s.tm.get 138=some (.f (.i .i64 0)))
  (hK:∀s,BPS h0 lo P R C Q dA dC N s->HQx s.h lo c0 dA dC l ⟨q.as,q.cs.map (rnK N),q.ne,q.na⟩ xs->K (.exit 16) s):WL pr zpu s K:=by
 refine zdo q.cs.length (fun n s=>BPS h0 lo P R C Q dA dC N s/\HQx s.h lo c0 dA dC l ⟨q.as,csN N q.cs n,q.ne,q.na⟩ xs/\(s.tm.get 136=some (dC)/\s.tm.get 137=some (.f (.i .i64 q.cs.length))/\s.tm.get 138=some (.f (.i .i64 n))))
  (fun e s=>e= .exit 16/\BPS h0 lo P R C Q dA dC N s/\HQx s.h lo c0 dA dC l ⟨q.as,q.cs.map (rnK N),q.ne,q.na⟩ xs) ?_ ?_ s ⟨h1,h2,h3⟩ (by rintro e s ⟨rfl,a,b⟩;exact hK s a b)
 .clear hK h1 h2 h3 s;rintro n s hn ⟨⟨⟨h4,h6,h23,gP,gR,gC,gQ⟩,hf,hCc⟩,⟨hA,hC0,hY⟩,⟨h136,h137,h138⟩⟩;unfold zpu;simp only[rU];have hw:=zao n (by omega);obtain⟨L,hC,hnl,hsu,hlen⟩ :∃L,CsE s.h lo c0 dC ⟨q.as,L,q.ne,q.na⟩/\∃hnl:n<L.length,L.set n (rnK N L[n])=csN N q.cs (n+1)/\L.length=q.cs.length:=
   ⟨_,hC0,by rw[zns];exact hn,by rw[zQK N hn];exact zLp N hn,zns N q.cs n⟩
  obtain⟨Y,hi,gY,hYo,hY1,hY2⟩ :=zBM hC (n:=n) hnl;simp only at gY;have hxs:∀x∈xs,¬x=Y:=fun x hx e=>(hY Y hYo).1 (e▸hx)
  simp[rW,h4,h6,h23,gP,gR,gC,gQ,h136,h137,h138,hn,hi];refine zer rfl rfl (zQ9 N L n hnl (X:=Y) (C:=C) (M:=Q) gY gC gQ ?_ ?_ ?_) ?_
  .simp only[rG];omega
  .simp only[rG];omega
  .simp only[rG];omega
  rintro d h' c' lw mx ⟨hX',ho⟩ hcc;simp only[rG]at hX' ho hcc;have eP:=ho P (by omega) (by omega);have eR:=ho R (by omega) (by omega);have eC:=ho C (by omega) (by omega);have eQ:=ho Q (by omega) (by omega);rw[gP]at eP;rw[gR]at eR;rw[gC]at eC;rw[gQ]at eQ;obtain⟨k1,hk1⟩ :∃k1:Cm,k1=⟨L[n].op,rnT N L[n].l,L[n].r⟩ :=⟨_,rfl⟩
  rw[<-hk1]at hX';have hk2:(⟨k1.op,k1.l,rnT N k1.r⟩ :Cm)=rnK N L[n]:=by rw[hk1];rfl
  simp[rW,h4,h6,h23,h136,h137,h138,eP,eR,eC,eQ,hi];refine zer rfl rfl (zRc N (L.set n k1) n (by simpa using hnl) (X:=Y) (C:=C) (M:=Q) hX' eC eQ ?_ ?_ ?_) ?_
  .simp only[rG];omega
  .simp only[rG];omega
  .simp only[rG];omega
  rintro d2 h2 c2 lw2 mx2 ⟨hX2,ho2⟩ hcc2;simp only[rG]at hX2 ho2 hcc2;have eP2:=ho2 P (by omega) (by omega);have eR2:=ho2 R (by omega) (by omega);have eC2:=ho2 C (by omega) (by omega);have eQ2:=ho2 Q (by omega) (by omega);rw[eP]at eP2;rw[eR]at eR2;rw[eC]at eC2;rw[eQ]at eQ2;rw[Z78,hk2,Z200,hsu]at hX2;have hoo:∀z,z<s.c->z≠Y->h2.get z=s.h.get z:=fun z h1 h3=>(ho2 z (by omega) h3).trans (ho z (by omega) h3)
  simp[rW,h4,h6,h23,h136,h137,h138,hw];refine⟨⟨?_,?_,?_⟩,?_,?_,hY⟩
  .simp[rW,h4,h6,h23,eP2,eR2,eC2,eQ2]
  .simp[rW,];exact fun z hz=>(hoo z (by omega) (by omega)).trans (hf z hz)
  .simp[rW,];omega
  .refine⟨hA.ln,hA.nd,hA.rg,fun k hk hx=> ?_,?_,hA.oi⟩
   .have h1:=hA.rg _ (Z2 hx);rw[hoo _ (by omega) (hxs _ (Z2 hx))];exact hA.rw k hk hx
   .rcases hA.gr with h1|⟨id,ro,h1,h2',h3,h4,h5,h6⟩
    .exact .inl h1
    .exact .inr ⟨id,ro,h1,h2',by rw[hoo id (by omega) fun e=>(hY Y hYo).2 (by rw[h1,<-e];rfl)];exact h3,h4,h5,h6⟩
  .have:=zLk hC hYo (h':=h2) (cs:=csN N q.cs (n+1)) (by rw[zns];exact hlen.symm) hX2;exact this
 .rintro s ⟨⟨⟨h4,h6,h23,gP,gR,gC,gQ⟩,hf,hCc⟩,h2,⟨h136,h137,h138⟩⟩;rw[zLo]at h2;unfold zpu;simp only[rU];simp[rW,h136,h137,h138];refine⟨⟨?_,hf,hCc⟩,h2⟩;simp[rW,h4,h6,h23,gP,gR,gC,gQ]
end Go.Proofs.YtflgmemhalhdbaaGreatDoor
end
