/- The order of terms; rows of terms as arrays, for the walk of slices.SortFunc. -/
import Derived.Test.YtimgcabgophnfaaGreatPe
import Derived.Sort.AssemblyPlain
import Derived.Sort.Row
import Derived.KernelRfl
import Derived.IntWalk
set_option linter.all false
section
namespace Go.Proofs.YtimgcabgophnfaaGreat
open Go Go.Vse Go.Vse.Sm
set_option maxRecDepth 100000
set_option maxHeartbeats 1000000
set_option linter.all false
theorem zB6:∀a:Str,Go.Op.bytesLess a a=false
 |[]=>rfl
 |x::a=>by
  simp only[Go.Op.bytesLess,zB6 a,Bool.and_false,Bool.or_false,decide_eq_false_iff_not];exact UInt8.lt_irrefl x
theorem zB7:∀a b c:Str,Go.Op.bytesLess a b=true->Go.Op.bytesLess b c=true->Go.Op.bytesLess a c=true
 |_,[],_,h,_=>by simp[zIe]at h
 |_,_::_,[],_,h=>by simp[Go.Op.bytesLess]at h
 |[],_::_,_::_,_,_=>rfl
 |x::a,y::b,z::c,h1,h2=>by
  simp only[Go.Op.bytesLess,Bool.or_eq_true,Bool.and_eq_true,beq_iff_eq,decide_eq_true_eq]at h1 h2⊢;rcases h1 with h1|⟨rfl,h1⟩
  ·rcases h2 with h2|⟨rfl,h2⟩
   ·exact .inl (UInt8.lt_trans h1 h2)
   ·exact .inl h1
  ·rcases h2 with h2|⟨rfl,h2⟩
   ·exact .inl h2
   ·exact .inr ⟨rfl,zB7 a b c h1 h2⟩
theorem zB8:∀a b:Str,a≠b->Go.Op.bytesLess a b=false->Go.Op.bytesLess b a=true
 |[],[],h,_=>absurd rfl h
 |[],_::_,_,h=>by simp[Go.Op.bytesLess]at h
 |_::_,[],_,_=>rfl
 |x::a,y::b,h,h1=>by
  simp only[Go.Op.bytesLess,Bool.or_eq_false_iff,Bool.and_eq_false_iff,beq_eq_false_iff_ne,decide_eq_false_iff_not]at h1;simp only[Go.Op.bytesLess,Bool.or_eq_true,Bool.and_eq_true,beq_iff_eq,decide_eq_true_eq];obtain⟨h1,h2⟩ :=h1
  by_cases e:x=y
  ·subst e;refine .inr ⟨rfl,zB8 a b (fun e=>h (by rw[e])) ?_⟩;rcases h2 with h2|h2
   ·exact absurd rfl h2
   ·exact h2
  ·refine .inl ?_;have h3:¬x.toNat<y.toNat:=h1;have h4:x.toNat≠y.toNat:=fun e2=>e (UInt8.toNat_inj.1 e2)
   show y.toNat<x.toNat
   omega
theorem zvx(a b:Str):zeo a b=0↔a=b:=by
 unfold zeo
 by_cases h:a=b
 ·subst h;simp[zB6]
 ·simp only[h,if_false,iff_false];split<;>omega
theorem zym(a b:Str):zeo a b<0↔Go.Op.bytesLess a b=true:=by
 unfold zeo;split
 ·rename_i h;simp[h]
 ·rename_i h;simp only[h,Bool.not_eq_true]at*;split<;>simp[h]
theorem zPw(a b:Int):zdL a b=0↔a=b:=by
 unfold zdL
 by_cases h:a=b
 ·simp[h]
 ·simp only[h,if_false,iff_false];split<;>omega
theorem ztP(a b:Int):zdL a b<0↔a<b:=by
 unfold zdL
 by_cases h:a=b
 ·subst h;simp
 ·simp only[h,if_false];split<;>omega
theorem zpH(a b:Trm):zaO a b=0↔a=b:=by
 cases a<;>cases b<;>simp[zaO,zPw,zvx]
theorem zeY(a b:Trm):zbi a b=true↔a=b:=by
 unfold zbi;rw[beq_iff_eq,zpH]
theorem zn9(a b:Trm):zbi a b=decide (a=b):=by
 rw[Bool.eq_iff_iff,zeY,decide_eq_true_eq]
def tLt(a b:Trm):Prop:=zaO a b<0
theorem zeL(a:Trm):¬tLt a a:=by
 have:=(zpH a a).2 rfl;unfold tLt;omega
theorem zgj{a b c:Trm}(h1:tLt a b)(h2:tLt b c):tLt a c:=by
 unfold tLt at*;cases a<;>cases b<;>cases c<;>simp only[zaO,ztP,zym]at* <;>first|omega|exact zB7 _ _ _ h1 h2
theorem ziL{a b:Trm}(h:a≠b)(h1:¬tLt a b):tLt b a:=by
 unfold tLt at*;cases a<;>cases b<;>simp only[zaO,ztP,zym]at*
 case var.var s t=>exact zB8 _ _ (fun e=>h (by rw[e])) (by simpa using h1)
 case cst.cst s t=>have:s≠t:=fun e=>h (by rw[e]);omega
 all_goals omega
instance :Inhabited Trm:=⟨.cst 0⟩
def ltT(x y:Trm):Bool:=decide (zaO x y<0)
theorem zBk:Go.Sort.SWO ltT where
 irrefl x:=by have:=zeL x;simpa [ltT,tLt]using this
 trans x y z h1 h2:=by
  have:=zgj (a:=x) (b:=y) (c:=z) (by simpa [ltT,tLt]using h1) (by simpa [ltT,tLt]using h2);simpa [ltT,tLt]using this
 ntrans x y z h1 h2:=by
  have h1:¬tLt x y:=by simpa [ltT,tLt]using h1
  have h2:¬tLt y z:=by simpa [ltT,tLt]using h2
  have:¬tLt x z:=by
   intro h3
   by_cases e:x=y
   ·subst e;exact h2 h3
   ·exact h2 (zgj (ziL e h1) h3)
  simpa [ltT,tLt]using this
theorem totT(x y:Trm)(h1:ltT x y=false)(h2:ltT y x=false):x=y:=by
 by_cases e:x=y
 ·exact e
 ·have h1:¬tLt x y:=by simpa [ltT,tLt]using h1
  have h2:¬tLt y x:=by simpa [ltT,tLt]using h2
  exact absurd (ziL e h1) h2
theorem zhk(a b:Trm)(ha:zau a)(hb:zau b){h:T Ob}{c:Nat}:RO pr 58 [.ag (tmD a),.ag (tmD b)] h c (.f (.i .i64 (zaO a b))):=by
 refine zc3 zbB fn58 rfl ?_;simp only[g58,rU];cases a with
 |cst a=>
  cases b with
  |cst b=>
   have q:=fun k=>zak (k:=k) (zzb a b)
   simp only[vF]at q;simp[rW,st0,zae,tmD,zBs,zBq,zBr,zaO,q,za8];simp (disch:=omega) only[zbk,zbN]
  |var b=>
   simp only[zau]at hb;simp[rW,st0,zae,tmD,zBs,zBq,zBr,zoh,zoa,zoe,zaO,hb,za8];simp (disch:=omega) only[zbk,zbN]
 |var a=>
  cases b with
  |cst b=>
   simp only[zau]at ha;simp[rW,st0,zae,tmD,zBs,zBq,zBr,zoh,zoa,zoe,zaO,ha,za8];simp (disch:=omega) only[zbk,zbN]
  |var b=>
   simp only[zau]at ha hb;have q:=fun k=>zak (k:=k) (zzc a b)
   simp[rW,st0,zae,tmD,zoh,zoa,zoe,zaO,ha,hb,q,za8];simp (disch:=omega) only[zbk,zbN]
def zci(h:T Ob)(id:Nat)(d:Array Trm):Prop:=h.get id=some (.arr 4 0 (zaB d.toList))
def OkA(d:Array Trm):Prop:=∀i:Nat,zau d[i]!
theorem zaN(d:Array Trm){i:Nat}(hi:i<d.size):(zaB d.toList)[i]? =some (tmD d[i]!):=by
 have:=zgC d.toList i (by simpa using hi);rw[this];simp[hi]
theorem zGS(d:Array Trm):(zaB d.toList).length=d.size:=by simp[za4]
theorem zdw(d:Array Trm)(i j:Nat):((zaB d.toList).set i (tmD d[j]!)).set j (tmD d[i]!)=zaB (Go.Sort.swp d i j).toList:=by
 rw[ziO,ziO];simp[Go.Sort.swp,Array.toList_setIfInBounds]
theorem zx3{d:Array Trm}(h:OkA d)(i j:Nat):OkA (Go.Sort.swp d i j):=by
 intro k;unfold Go.Sort.swp
 by_cases h2:k=j
 ·subst h2
  by_cases h1:k<d.size
  ·rw[Go.Sort.getElem!_set_same _ _ _ (by simpa using h1)];exact h i
  ·rw[getElem!_neg _ k (by simpa using h1)];trivial
 ·rw[Go.Sort.getElem!_set_other _ _ _ _ h2]
  by_cases h3:k=i
  ·subst h3
   by_cases h1:k<d.size
   ·rw[Go.Sort.getElem!_set_same _ _ _ h1];exact h j
   ·rw[getElem!_neg _ k (by simpa using h1)];trivial
  ·rw[Go.Sort.getElem!_set_other _ _ _ _ h3];exact h k
def zhq(pr:Pr)(f:Nat)(args:List D)(h:T Ob)(c:Nat)(P:D->T Ob->Nat->Nat->Prop):Prop:=∃q,Con pr f args h c q/\P q.d q.h q.c q.lw/\c≤q.c/\q.c≤q.mx
def zt7(res:List Rv)(h:T Ob)(c:Nat)(P:D->T Ob->Nat->Nat->Prop)(x:Ex)(s:St):Prop:=
 (match x with| .exit _=>False|_=>True)/\oB (resD s res) fun d=>P d s.h s.c s.lw/\(s.lw=c->d.isF=true->P d h c c)
theorem zg8{res:List Rv}{h:T Ob}{c:Nat}{P:D->T Ob->Nat->Nat->Prop}{s:St}:zt7 res h c P .ret s=oB (resD s res) fun d=>P d s.h s.c s.lw/\(s.lw=c->d.isF=true->P d h c c):=by simp[zt7]
theorem zoM{res:List Rv}{h:T Ob}{c:Nat}{P:D->T Ob->Nat->Nat->Prop}{s:St}:zt7 res h c P .nrm s=oB (resD s res) fun d=>P d s.h s.c s.lw/\(s.lw=c->d.isF=true->P d h c c):=by simp[zt7]
theorem zfE{f:Nat}{fn:Go.Vse.Fn}(hf:pr.fn f=some fn){args:List D}{h:T Ob}{c:Nat}{P:D->T Ob->Nat->Nat->Prop}(hw:wpC pr fn.body (st0 args h c) (zt7 fn.res h c P)):zhq pr f args h c P:=by
 obtain⟨x,s,⟨hx,hr⟩,ev⟩ :=zfD _ _ _ hw;cases hd:resD s fn.res with
 |none=>rw[hd]at hr;exact hr.elim
 |some d=>
  rw[hd]at hr;obtain⟨h1,h2⟩ :=hr;have key:EV fun m=>zgi (evC (zdd pr m) m) fn args h c=some (if Nat.beq s.lw c&&d.isF then ⟨d,h,c,c,s.mx⟩else ⟨d,s.h,s.c,s.lw,s.mx⟩):=by
   refine ev.mono fun m hm=> ?_
   unfold zgi;unfold st0 at hm;rw[hm];cases x with
   |exit i=>exact hx.elim
   |nrm=>simp only[hd];split<;>rfl
   |ret=>simp only[hd];split<;>rfl
  have hq:Con pr f args h c (if Nat.beq s.lw c&&d.isF then ⟨d,h,c,c,s.mx⟩else ⟨d,s.h,s.c,s.lw,s.mx⟩):=by
   obtain⟨N,hN⟩ :=key;refine⟨N+1,fun m hm=> ?_⟩;obtain⟨m,rfl⟩ :∃m',m=m'+1:=⟨m - 1,by omega⟩
   simp only[zdd,hf];exact hN m (by omega)
  refine⟨_,hq,?_,zbB _ _ _ _ _ hq⟩;split
  ·rename_i hb;simp only[Bool.and_eq_true]at hb;exact h2 (Nat.eq_of_beq_eq_true hb.1) hb.2
  ·exact h1
theorem zfb{s:St}{dst:Option Nat}{Q:St->Prop}{f:Nat}{ds:List D}{l:List Go.Vse.Op}{h:T Ob}{c:Nat}{P:D->T Ob->Nat->Nat->Prop}(e1:s.h=h)(e2:s.c=c)(he:zhq pr f ds h c P)(k:∀d' h' c' lw mx,P d' h' c' lw->c≤c'->wpO pr l (s.cal dst ⟨d',h',c',lw,mx⟩) Q):WQ pr f ds s dst l Q:=by
 subst e1 e2;obtain⟨q,h1,h2,h3,h4⟩ :=he;exact⟨q,h1,k q.d q.h q.c q.lw q.mx h2 h3⟩
structure za0(h:T Ob)(c id n:Nat)(d:Array Trm)(h':T Ob)(c' lw:Nat):Prop where
 row:zci h' id d
 ok:OkA d
 sz:d.size=n
 fr:∀j,j<c->j≠id->h'.get j=h.get j
 le:c≤c'
 low:lw≤c
 same:id<lw->h'.get id=h.get id
theorem za0.fin{h:T Ob}{c id n:Nat}{d:Array Trm}{h':T Ob}{c' lw:Nat}(H:za0 h c id n d h' c' lw)(hid:id<c):lw=c->za0 h c id n d h c c:=fun e=>
 ⟨by have:=H.row;unfold zci at*;rw[<-H.same (by omega)];exact this,H.ok,H.sz,fun _ _ _=>rfl,Nat.le_refl _,Nat.le_refl _,fun _=>rfl⟩
theorem za0.trans{h h1 h2:T Ob}{c c1 c2 id n lw1 lw2:Nat}{d d2:Array Trm}(H:za0 h c id n d h1 c1 lw1)(H2:za0 h1 c1 id n d2 h2 c2 lw2):za0 h c id n d2 h2 c2 (min lw1 lw2):=by
 refine⟨H2.row,H2.ok,H2.sz,fun j hj hne=>(H2.fr j (by have:=H.le;omega) hne).trans (H.fr j hj hne),Nat.le_trans H.le H2.le,Nat.le_trans (Nat.min_le_left _ _) H.low,fun e=> ?_⟩;exact (H2.same (by omega)).trans (H.same (by omega))
theorem za0.refl{h:T Ob}{c id n:Nat}{d:Array Trm}(h1:zci h id d)(h2:OkA d)(h3:d.size=n):za0 h c id n d h c c:=⟨h1,h2,h3,fun _ _ _=>rfl,Nat.le_refl _,Nat.le_refl _,fun _=>rfl⟩
theorem za0.cc{h:T Ob}{c id n:Nat}{d:Array Trm}{h':T Ob}{c' c'' lw:Nat}(H:za0 h c id n d h' c' lw)(hc:c'≤c''):za0 h c id n d h' c'' lw:=⟨H.row,H.ok,H.sz,H.fr,Nat.le_trans H.le hc,H.low,H.same⟩
theorem za0.swp{h:T Ob}{c id n:Nat}{d:Array Trm}{h':T Ob}{c' lw:Nat}(H:za0 h c id n d h' c' lw)(hid:id<c){h'':T Ob}{c'' lw'':Nat}(i j:Nat)(hc:c'≤c'')(h1:h''.get id=some (.arr 4 0 (zaB (Go.Sort.swp d i j).toList)))(h2:∀q,q≠id->h''.get q=h'.get q)(hl:lw''≤id):za0 h c id n (Go.Sort.swp d i j) h'' c'' lw'':=
 ⟨h1,zx3 H.ok i j,by simp[Go.Sort.swp,H.sz],fun q hq hne=>(h2 q hne).trans (H.fr q hq hne),Nat.le_trans H.le hc,by omega,fun e=>by omega⟩
theorem zI9:pr.fn 115=some zuy:=by kernel_rfl
theorem zbl(z:Int)(h1: -9000000000000000000≤z)(h2:z≤9000000000000000000):IntKind.i64.wrap z=z:=IntWalk.i64_in _ (by omega)
theorem zcw(d:Array Trm)(i:Nat){j:Nat}(hj:j<d.size):((zaB d.toList).set i (tmD d[j]!))[j]? =some (tmD d[j]!):=by
 by_cases h:i=j
 ·subst h;rw[List.getElem?_set_self (by rw[zGS];exact hj)]
 ·rw[List.getElem?_set_ne h];exact zaN d hj
theorem zcY(l:List Trm):hd8 (zaB l)=false:=by
 cases l with
 |nil=>rfl
 |cons t l=>cases t<;>rfl
theorem zdf(l:List Trm)(k:Nat)(t:Trm):hd8 ((zaB l).set k (tmD t))=false:=by
 rw[ziO];exact zcY _
def I2(h:T Ob)(c id n a b i:Nat)(D1:Array Trm)(k:Nat)(s:St):Prop:=∃(d:Array Trm),(s.tm.get 0=some (.sl id 0 n 4 n false)/\s.tm.get 1=some (.f (.i .i64 a))/\s.tm.get 2=some (.f (.i .i64 b))/\s.tm.get 3=some (.f (.fn 58))/\s.tm.get 8=some (.f (.i .i64 i))/\s.tm.get 9=some (.f (.i .i64 k)))/\za0 h c id n d s.h s.c s.lw/\Go.Sort.insInner ltT a k d=D1/\k<n
def I1(h:T Ob)(c id n a b:Nat)(D0:Array Trm)(m:Nat)(s:St):Prop:=∃(d:Array Trm) (i:Nat),i=a+1+m/\(s.tm.get 0=some (.sl id 0 n 4 n false)/\s.tm.get 1=some (.f (.i .i64 a))/\s.tm.get 2=some (.f (.i .i64 b))/\s.tm.get 3=some (.f (.fn 58))/\s.tm.get 8=some (.f (.i .i64 (i:Int))))/\za0 h c id n d s.h s.c s.lw/\Go.Sort.insOuter ltT a b i d=D0
theorem zPE{h:T Ob}{c id n a b:Nat}(d:Array Trm)(gR:zci h id d)(hok:OkA d)(hn:d.size=n)(hsz:n<100000)(hb:b≤n)(hab:a≤b)(hid:id<c):
  zhq pr 115 [.sl id 0 n 4 n false,.f (.i .i64 a),.f (.i .i64 b),.f (.fn 58)] h c fun _ h' c' lw=>za0 h c id n (Go.Sort.insertionSort ltT d a b) h' c' lw:=by
 refine zfE zI9 ?_;simp only[zuy,rU];have hwa:=zbl ((a:Int)+1) (by omega) (by omega);simp[rW,st0,zae,hwa];generalize hD0:Go.Sort.insertionSort ltT d a b=D0;refine zex (b - (a+1)) (I1 h c id n a b D0) (fun x s=>x= .exit 0/\I1 h c id n a b D0 (b - (a+1)) s) ?_ ?_ _ ?_ ?_
 ·rintro m s hm ⟨d,i,hi,⟨h0,h1,h2,h3,h8⟩,HS,hD⟩;have hib:i<b:=by omega
  have hwi:=zao i (by omega);rw[Go.Sort.insOuter,if_pos hib]at hD;simp[rW,h0,h1,h2,h3,h8,hib];refine zcu (I2 h c id n a b i (Go.Sort.insInner ltT a i d)) (fun x s=>x= .exit 2/\∃d1,d1=Go.Sort.insInner ltT a i d/\(s.tm.get 0=some (.sl id 0 n 4 n false)/\s.tm.get 1=some (.f (.i .i64 a))/\s.tm.get 2=some (.f (.i .i64 b))/\s.tm.get 3=some (.f (.fn 58))/\s.tm.get 8=some (.f (.i .i64 i)))/\za0 h c id n d1 s.h s.c s.lw) ?_ i _ ?_ ?_
  ·rintro k s ⟨d',⟨h0,h1,h2,h3,h8,h9⟩,HS,hI,hk⟩
   by_cases hka:a<k
   ·obtain⟨j,hkj⟩ :∃j,k=j+1:=⟨k - 1,by omega⟩
    have hins:Go.Sort.insInner ltT a k d'=if zaO d'[k]! d'[j]! <0 then Go.Sort.insInner ltT a j (Go.Sort.swp d' k j)else d':=by
     subst hkj;show(if(decide (j+1>a)&&ltT d'[j+1]! d'[j]!)=true then _ else _)=_;rw[decide_eq_true (by omega)];simp[ltT]
    have hsub:IntKind.i64.wrap ((k:Int) - 1)=(j:Int):=by
     rw[zbl _ (by omega) (by omega)];omega
    have hj:j<n:=by omega
    have e1:=zaN d' (i:=k) (by rw[HS.sz];exact hk);have e0:=zaN d' (i:=j) (by rw[HS.sz];exact hj);have e0':=zcw d' k (j:=j) (by rw[HS.sz];exact hj);have hRO:=fun(H':Vse.T Ob) (c':Nat)=>zhk d'[k]! d'[j]! (HS.ok k) (HS.ok j) (h:=H') (c:=c')
    have gR:=HS.row;have hsw:=zdw d' k j;have oksw:=zx3 HS.ok k j;have szsw:(Go.Sort.swp d' k j).size=n:=by simp[Go.Sort.swp,HS.sz]
    generalize d'[k]! =tk' at*;generalize d'[j]! =tj at*;unfold zci at gR;simp only[tmD]at e1 e0 e0' hRO hsw;simp[rW,h0,h1,h2,h3,h8,h9,hka];refine zbj ?_;simp[rW,h0,h1,h2,h3,h8,h9,hka,gR,hk,hj,hsub,e1,e0];have hh8:hd8 ((zaB d'.toList).set k [D.f (F.s (tv tj)),D.f (F.i IntKind.i64 (tk tj)),D.f (F.i IntKind.i64 (tn tj)),D.f (F.s [])])=false:=zdf _ _ _;have h8b:=zcY d'.toList
    by_cases hlt:zaO tk' tj<0
    ·rw[if_pos hlt]at hins;refine zb6 (d:= .f (.i .i64 (zaO tk' tj))) (hRO _ _) ?_ ?_ ?_
     ·simp only[rG];have:=HS.low;have:=HS.le;omega
     ·simp[ckG,ck1]
     intro mx hmx;simp only[rG]at hmx;simp[rW,h0,h1,h2,h3,h8,h9,hlt];refine zay ?_;simp[rW,h0,h1,h2,h3,h8,h9,gR,hk,hj,hsub,e1,e0,e0',hh8,h8b,hsw,zcY];have hlo:=HS.low;have hle:=HS.le;refine⟨by omega,by omega,?_⟩;rw[zbh];refine⟨j,by omega,Go.Sort.swp d' k j,?_,?_⟩
     ·simp[rW,h0,h1,h2,h3,h8,h9,hsub]
     ·simp[rW,];exact⟨HS.swp hid k j (by omega) (by rw[Vse.T.zab,if_pos rfl]) (fun q hq=>by rw[Vse.T.zab,if_neg hq,Vse.T.zab,if_neg hq]) (zd7 _ _ _ _),hins.symm.trans hI,hj⟩
    ·rw[if_neg hlt]at hins;rw[hins]at hI;subst hI;refine zb6 (d:= .f (.i .i64 (zaO tk' tj))) (hRO _ _) ?_ ?_ ?_
     ·simp only[rG];have:=HS.low;have:=HS.le;omega
     ·simp[ckG,ck1]
     intro mx hmx;simp only[rG]at hmx;simp[rW,h0,h1,h2,h3,h8,h9,hlt];exact HS.cc (by omega)
   ·have hins:Go.Sort.insInner ltT a k d'=d':=by
     cases k with
     |zero=>rfl
     |succ j=>
      show(if(decide (j+1>a)&&ltT d'[j+1]! d'[j]!)=true then _ else _)=_;rw[decide_eq_false (by omega)];rfl
    rw[hins]at hI;subst hI;simp[rW,h0,h1,h2,h3,h8,h9,hka];refine zbj ?_;simp[rW,h0,h1,h2,h3,h8,h9,hka];exact HS.cc (by omega)
  ·simp[rW,I2,h0,h1,h2,h3,h8];exact⟨d,HS,rfl,by omega⟩
  ·rintro x s ⟨rfl,d1,rfl,⟨h0,h1,h2,h3,h8⟩,HS⟩;simp[rW,h0,h1,h2,h3,h8,hwi,I1];subst hi;exact⟨by omega,_,HS,by rw[<-hD];rfl⟩
 ·rintro s ⟨d,i,hi,⟨h0,h1,h2,h3,h8⟩,HS,hD⟩;have hib:¬i<b:=by omega
  simp[rW,h0,h1,h2,h3,h8,hib,I1];subst hi;exact⟨by omega,d,HS,hD⟩
 ·simp[rW,I1];exact⟨d,za0.refl gR hok hn,hD0⟩
 ·rintro x s ⟨rfl,d,i,hi,⟨h0,h1,h2,h3,h8⟩,HS,hD⟩;rw[Go.Sort.insOuter,if_neg (by omega)]at hD;subst hD;simp[rW,zoM];show za0 _ _ _ _ _ _ _ _/\(_->_->_)
  exact⟨HS,fun e _=>HS.fin hid e⟩
theorem fn140:pr.fn 140=some zAm:=by kernel_rfl
theorem fn116:pr.fn 116=some zzZ:=by kernel_rfl
theorem zga(a b:Int):Go.Vse.zbv .mul (.i .i64 a) (.i .i64 b)=some (.i .i64 (IntKind.i64.wrap (a*b))):=rfl
def H1(h:T Ob)(c id n hi first:Nat)(D1:Array Trm)(k:Nat)(s:St):Prop:=∃(d:Array Trm) (r:Nat),(k=hi - r/\r≤n)/\(s.tm.get 0=some (.sl id 0 n 4 n false)/\s.tm.get 2=some (.f (.i .i64 hi))/\s.tm.get 3=some (.f (.i .i64 first))/\s.tm.get 4=some (.f (.fn 58))/\s.tm.get 10=some (.f (.i .i64 r)))/\za0 h c id n d s.h s.c s.lw/\Go.Sort.siftDown ltT hi first r d=D1
theorem zCI{h:T Ob}{c id n lo hi first:Nat}(d:Array Trm)(gR:zci h id d)(hok:OkA d)(hn:d.size=n)(hsz:n<100000)(hb:first+hi≤n)(hlo:lo≤n)(hid:id<c):
  zhq pr 140 [.sl id 0 n 4 n false,.f (.i .i64 lo),.f (.i .i64 hi),.f (.i .i64 first),.f (.fn 58)] h c fun _ h' c' lw=>za0 h c id n (Go.Sort.siftDown ltT hi first lo d) h' c' lw:=by
 refine zfE fn140 ?_;simp only[zAm,rU];simp[rW,st0,zae];generalize hD0:Go.Sort.siftDown ltT hi first lo d=D1;refine zcu (H1 h c id n hi first D1) (fun x s=>(x= .exit 0\/x= .ret)/\za0 h c id n D1 s.h s.c s.lw) ?_ (hi - lo) _ ?_ ?_
 ·rintro k s ⟨d,r,⟨rfl,hrn⟩,⟨h0,h2,h3,h4,h10⟩,HS,hD⟩
  ·obtain⟨r2,hr2⟩ :∃r2,r2=2*r:=⟨_,rfl⟩
   obtain⟨ch,hch⟩ :∃ch,ch=2*r+1:=⟨_,rfl⟩
   obtain⟨c2,hc2⟩ :∃c2,c2=2*r+2:=⟨_,rfl⟩
   have hw1:IntKind.i64.wrap (2*(r:Int))=(r2:Int):=by rw[zbl _ (by omega) (by omega)];omega
   have hw2:IntKind.i64.wrap ((r2:Int)+1)=(ch:Int):=by rw[zbl _ (by omega) (by omega)];omega
   have hw3:IntKind.i64.wrap ((ch:Int)+1)=(c2:Int):=by rw[zbl _ (by omega) (by omega)];omega
   by_cases hchi:hi≤ch
   ·have e:D1=d:=by rw[<-hD,Go.Sort.siftDown];simp;omega
    simp[rW,h0,h2,h3,h4,h10,hw1,hw2,hchi,zga];rw[e];exact HS
   ·obtain⟨fr,hfr0⟩ :∃fr,fr=first+r:=⟨_,rfl⟩
    obtain⟨fc,hfc0⟩ :∃fc,fc=first+ch:=⟨_,rfl⟩
    obtain⟨fc2,hfc20⟩ :∃fc2,fc2=first+c2:=⟨_,rfl⟩
    have hwr:IntKind.i64.wrap ((first:Int)+(r:Int))=(fr:Int):=by rw[zbl _ (by omega) (by omega)];omega
    have hwc:IntKind.i64.wrap ((first:Int)+(ch:Int))=(fc:Int):=by rw[zbl _ (by omega) (by omega)];omega
    have hwc2:IntKind.i64.wrap ((first:Int)+(c2:Int))=(fc2:Int):=by rw[zbl _ (by omega) (by omega)];omega
    have hwc1:IntKind.i64.wrap ((fc:Int)+1)=(fc2:Int):=by rw[zbl _ (by omega) (by omega)];omega
    have hlo:=HS.low;have hle:=HS.le;have gR:=HS.row;unfold zci at gR
    by_cases hc2i:c2<hi
    ·have e1:=zaN d (i:=fc) (by rw[HS.sz];omega);have e0:=zaN d (i:=fc2) (by rw[HS.sz];omega);have hRO:=fun(H':Vse.T Ob) (c':Nat)=>zhk d[fc]! d[fc2]! (HS.ok fc) (HS.ok fc2) (h:=H') (c:=c')
     have hfc:fc<n:=by omega
     have hfc2:fc2<n:=by omega
     by_cases hlt:zaO d[fc]! d[fc2]! <0
     ·have hsd:Go.Sort.siftDown ltT hi first r d=if !ltT d[fr]! d[fc2]! then d else Go.Sort.siftDown ltT hi first c2 (Go.Sort.swp d fr fc2):=by
       rw[Go.Sort.siftDown];subst hr2 hch hc2 hfr0 hfc0 hfc20;rw[dif_neg (by omega),if_pos (by simp[ltT];exact⟨by omega,by simpa [Nat.add_assoc]using hlt⟩),dif_pos (by omega)]
      generalize hU1:d[fc]! =u1 at e1 hRO hlt;generalize hU2:d[fc2]! =u2 at e0 hRO hlt;simp only[tmD]at e1 e0 hRO;simp[rW,h0,h2,h3,h4,h10,hw1,hw2,hchi,zga];refine zbj ?_;simp[rW,h0,h2,h3,h4,h10,gR,hw3,hwc,hwc1,hc2i,hfc,hfc2,e1,e0];refine zb6 (d:= .f (.i .i64 (zaO u1 u2))) (hRO _ _) ?_ ?_ ?_
      ·simp only[rG];omega
      ·simp[ckG,ck1]
      intro mx hmx;simp only[rG]at hmx;simp[rW,h0,h2,h3,h4,h10,hlt,hw3];refine zeE (Q:=fun S=>WD pr _ S _) (P:=fun s=>(s.tm.get 0=some (.sl id 0 n 4 n false)/\s.tm.get 2=some (.f (.i .i64 hi))/\s.tm.get 3=some (.f (.i .i64 first))/\s.tm.get 4=some (.f (.fn 58))/\s.tm.get 10=some (.f (.i .i64 r))/\s.tm.get 11=some (.f (.i .i64 c2)))/\za0 h c id n d s.h s.c s.lw) ?_ ?_
      ·simp[rW,h0,h2,h3,h4,h10];exact HS.cc (by omega)
      rintro s ⟨⟨h0,h2,h3,h4,h10,h11⟩,HS⟩;have gR:=HS.row;unfold zci at gR;have hlo:=HS.low;have hle:=HS.le;have e1:=zaN d (i:=fr) (by rw[HS.sz];omega);have e0:=zaN d (i:=fc2) (by rw[HS.sz];omega);have e0':=zcw d fr (j:=fc2) (by rw[HS.sz];omega);have hRO:=fun(H':Vse.T Ob) (c':Nat)=>zhk d[fr]! d[fc2]! (HS.ok fr) (HS.ok fc2) (h:=H') (c:=c')
      have hsw:=zdw d fr fc2;have hfr:fr<n:=by omega
      have hfx:fc2<n:=by omega
      generalize hT1:d[fr]! =t1 at*;generalize hT2:d[fc2]! =t2 at*;have hh8:hd8 ((zaB d.toList).set fr (tmD t2))=false:=zdf _ _ _;simp only[tmD]at e1 e0 e0' hRO hsw hh8;refine zbj ?_;simp[rW,h0,h2,h3,h4,h10,h11,gR,hwr,hwc2,hfr,hfx,e1,e0]
      by_cases hlt:zaO t1 t2<0
      ·refine zb6 (d:= .f (.i .i64 (zaO t1 t2))) (hRO _ _) ?_ ?_ ?_
       ·simp only[rG];omega
       ·simp[ckG,ck1]
       intro mx hmx;simp only[rG]at hmx;simp[rW,h0,h2,h3,h4,h10,h11,hlt];refine zay ?_;simp[rW,h0,h2,h3,h4,h10,h11,gR,hwr,hwc2,hfr,hfx,e1,e0,e0',hh8,zcY,hsw];refine⟨by omega,by omega,?_⟩;rw[zbh];refine⟨hi - c2,by omega,Go.Sort.swp d fr fc2,c2,⟨rfl,by omega⟩,?_,?_⟩
       ·simp[rW,h0,h2,h3,h4,h10,h11]
       ·simp[rW,];refine⟨HS.swp hid fr fc2 (by omega) (by rw[Vse.T.zab,if_pos rfl]) (fun q hq=>by rw[Vse.T.zab,if_neg hq,Vse.T.zab,if_neg hq]) (zd7 _ _ _ _),?_⟩;rw[<-hD,hsd];simp[ltT,hlt]
        skip
      ·refine zb6 (d:= .f (.i .i64 (zaO t1 t2))) (hRO _ _) ?_ ?_ ?_
       ·simp only[rG];omega
       ·simp[ckG,ck1]
       intro mx hmx;simp only[rG]at hmx;simp[rW,h0,h2,h3,h4,h10,h11,hlt];have e:D1=d:=by
        rw[<-hD,hsd];simp[ltT,hlt]
       rw[e];exact HS.cc (by omega)
     ·have hsd:Go.Sort.siftDown ltT hi first r d=if !ltT d[fr]! d[fc]! then d else Go.Sort.siftDown ltT hi first ch (Go.Sort.swp d fr fc):=by
       rw[Go.Sort.siftDown];subst hr2 hch hc2 hfr0 hfc0 hfc20;rw[dif_neg (by omega),if_neg (by simp[ltT];intro _;simpa [Nat.add_assoc]using hlt)]
      generalize hU1:d[fc]! =u1 at e1 hRO hlt;generalize hU2:d[fc2]! =u2 at e0 hRO hlt;simp only[tmD]at e1 e0 hRO;simp[rW,h0,h2,h3,h4,h10,hw1,hw2,hchi,zga];refine zbj ?_;simp[rW,h0,h2,h3,h4,h10,gR,hw3,hwc,hwc1,hc2i,hfc,hfc2,e1,e0];refine zb6 (d:= .f (.i .i64 (zaO u1 u2))) (hRO _ _) ?_ ?_ ?_
      ·simp only[rG];omega
      ·simp[ckG,ck1]
      intro mx hmx;simp only[rG]at hmx;simp[rW,h0,h2,h3,h4,h10,hlt,hw3];refine zeE (Q:=fun S=>WD pr _ S _) (P:=fun s=>(s.tm.get 0=some (.sl id 0 n 4 n false)/\s.tm.get 2=some (.f (.i .i64 hi))/\s.tm.get 3=some (.f (.i .i64 first))/\s.tm.get 4=some (.f (.fn 58))/\s.tm.get 10=some (.f (.i .i64 r))/\s.tm.get 11=some (.f (.i .i64 ch)))/\za0 h c id n d s.h s.c s.lw) ?_ ?_
      ·simp[rW,h0,h2,h3,h4,h10];exact HS.cc (by omega)
      rintro s ⟨⟨h0,h2,h3,h4,h10,h11⟩,HS⟩;have gR:=HS.row;unfold zci at gR;have hlo:=HS.low;have hle:=HS.le;have e1:=zaN d (i:=fr) (by rw[HS.sz];omega);have e0:=zaN d (i:=fc) (by rw[HS.sz];omega);have e0':=zcw d fr (j:=fc) (by rw[HS.sz];omega);have hRO:=fun(H':Vse.T Ob) (c':Nat)=>zhk d[fr]! d[fc]! (HS.ok fr) (HS.ok fc) (h:=H') (c:=c')
      have hsw:=zdw d fr fc;have hfr:fr<n:=by omega
      have hfx:fc<n:=by omega
      generalize hT1:d[fr]! =t1 at*;generalize hT2:d[fc]! =t2 at*;have hh8:hd8 ((zaB d.toList).set fr (tmD t2))=false:=zdf _ _ _;simp only[tmD]at e1 e0 e0' hRO hsw hh8;refine zbj ?_;simp[rW,h0,h2,h3,h4,h10,h11,gR,hwr,hwc,hfr,hfx,e1,e0]
      by_cases hlt:zaO t1 t2<0
      ·refine zb6 (d:= .f (.i .i64 (zaO t1 t2))) (hRO _ _) ?_ ?_ ?_
       ·simp only[rG];omega
       ·simp[ckG,ck1]
       intro mx hmx;simp only[rG]at hmx;simp[rW,h0,h2,h3,h4,h10,h11,hlt];refine zay ?_;simp[rW,h0,h2,h3,h4,h10,h11,gR,hwr,hwc,hfr,hfx,e1,e0,e0',hh8,zcY,hsw];refine⟨by omega,by omega,?_⟩;rw[zbh];refine⟨hi - ch,by omega,Go.Sort.swp d fr fc,ch,⟨rfl,by omega⟩,?_,?_⟩
       ·simp[rW,h0,h2,h3,h4,h10,h11]
       ·simp[rW,];refine⟨HS.swp hid fr fc (by omega) (by rw[Vse.T.zab,if_pos rfl]) (fun q hq=>by rw[Vse.T.zab,if_neg hq,Vse.T.zab,if_neg hq]) (zd7 _ _ _ _),?_⟩;rw[<-hD,hsd];simp[ltT,hlt]
        skip
      ·refine zb6 (d:= .f (.i .i64 (zaO t1 t2))) (hRO _ _) ?_ ?_ ?_
       ·simp only[rG];omega
       ·simp[ckG,ck1]
       intro mx hmx;simp only[rG]at hmx;simp[rW,h0,h2,h3,h4,h10,h11,hlt];have e:D1=d:=by
        rw[<-hD,hsd];simp[ltT,hlt]
       rw[e];exact HS.cc (by omega)
    ·have hsd:Go.Sort.siftDown ltT hi first r d=if !ltT d[fr]! d[fc]! then d else Go.Sort.siftDown ltT hi first ch (Go.Sort.swp d fr fc):=by
      rw[Go.Sort.siftDown];subst hr2 hch hc2 hfr0 hfc0 hfc20;rw[dif_neg (by omega),if_neg (by simp;omega)]
     simp[rW,h0,h2,h3,h4,h10,hw1,hw2,hchi,zga];refine zbj ?_;simp[rW,h0,h2,h3,h4,h10,hw3,hc2i];refine zeE (Q:=fun S=>WD pr _ S _) (P:=fun s=>(s.tm.get 0=some (.sl id 0 n 4 n false)/\s.tm.get 2=some (.f (.i .i64 hi))/\s.tm.get 3=some (.f (.i .i64 first))/\s.tm.get 4=some (.f (.fn 58))/\s.tm.get 10=some (.f (.i .i64 r))/\s.tm.get 11=some (.f (.i .i64 ch)))/\za0 h c id n d s.h s.c s.lw) ?_ ?_
     ·simp[rW,h0,h2,h3,h4,h10];exact HS.cc (by omega)
     rintro s ⟨⟨h0,h2,h3,h4,h10,h11⟩,HS⟩;have gR:=HS.row;unfold zci at gR;have hlo:=HS.low;have hle:=HS.le;have e1:=zaN d (i:=fr) (by rw[HS.sz];omega);have e0:=zaN d (i:=fc) (by rw[HS.sz];omega);have e0':=zcw d fr (j:=fc) (by rw[HS.sz];omega);have hRO:=fun(H':Vse.T Ob) (c':Nat)=>zhk d[fr]! d[fc]! (HS.ok fr) (HS.ok fc) (h:=H') (c:=c')
     have hsw:=zdw d fr fc;have hfr:fr<n:=by omega
     have hfx:fc<n:=by omega
     generalize hT1:d[fr]! =t1 at*;generalize hT2:d[fc]! =t2 at*;have hh8:hd8 ((zaB d.toList).set fr (tmD t2))=false:=zdf _ _ _;simp only[tmD]at e1 e0 e0' hRO hsw hh8;refine zbj ?_;simp[rW,h0,h2,h3,h4,h10,h11,gR,hwr,hwc,hfr,hfx,e1,e0]
     by_cases hlt:zaO t1 t2<0
     ·refine zb6 (d:= .f (.i .i64 (zaO t1 t2))) (hRO _ _) ?_ ?_ ?_
      ·simp only[rG];omega
      ·simp[ckG,ck1]
      intro mx hmx;simp only[rG]at hmx;simp[rW,h0,h2,h3,h4,h10,h11,hlt];refine zay ?_;simp[rW,h0,h2,h3,h4,h10,h11,gR,hwr,hwc,hfr,hfx,e1,e0,e0',hh8,zcY,hsw];refine⟨by omega,by omega,?_⟩;rw[zbh];refine⟨hi - ch,by omega,Go.Sort.swp d fr fc,ch,⟨rfl,by omega⟩,?_,?_⟩
      ·simp[rW,h0,h2,h3,h4,h10,h11]
      ·simp[rW,];refine⟨HS.swp hid fr fc (by omega) (by rw[Vse.T.zab,if_pos rfl]) (fun q hq=>by rw[Vse.T.zab,if_neg hq,Vse.T.zab,if_neg hq]) (zd7 _ _ _ _),?_⟩;rw[<-hD,hsd];simp[ltT,hlt]
       skip
     ·refine zb6 (d:= .f (.i .i64 (zaO t1 t2))) (hRO _ _) ?_ ?_ ?_
      ·simp only[rG];omega
      ·simp[ckG,ck1]
      intro mx hmx;simp only[rG]at hmx;simp[rW,h0,h2,h3,h4,h10,h11,hlt];have e:D1=d:=by
       rw[<-hD,hsd];simp[ltT,hlt]
      rw[e];exact HS.cc (by omega)
 ·simp[rW,H1];exact⟨d,lo,⟨rfl,hlo⟩,rfl,za0.refl gR hok hn,hD0⟩
 ·rintro x s ⟨rfl|rfl,HS⟩
  ·simp[rW,zoM];exact⟨HS,fun e _=>HS.fin hid e⟩
  ·simp[rW,zg8];exact⟨HS,fun e _=>HS.fin hid e⟩
theorem ztL(a:Int):Go.Vse.zbv .quo (.i .i64 a) (.i .i64 2)=some (.i .i64 (IntKind.i64.wrap (a.tdiv 2))):=rfl
def HB(h:T Ob)(c id n a hi:Nat)(D1:Array Trm)(k:Nat)(s:St):Prop:=∃(d:Array Trm) (z:Int),(z=(k:Int) - 1/\k≤n)/\(s.tm.get 0=some (.sl id 0 n 4 n false)/\s.tm.get 8=some (.f (.i .i64 a))/\s.tm.get 9=some (.f (.i .i64 0))/\s.tm.get 10=some (.f (.i .i64 hi))/\s.tm.get 3=some (.f (.fn 58))/\s.tm.get 11=some (.f (.i .i64 z)))/\za0 h c id n d s.h s.c s.lw/\Go.Sort.heapBuild ltT hi a k d=D1
def HP(h:T Ob)(c id n a hi:Nat)(D1:Array Trm)(k:Nat)(s:St):Prop:=∃(d:Array Trm) (z:Int),(z=(k:Int) - 1/\k≤hi)/\(s.tm.get 0=some (.sl id 0 n 4 n false)/\s.tm.get 8=some (.f (.i .i64 a))/\s.tm.get 9=some (.f (.i .i64 0))/\s.tm.get 3=some (.f (.fn 58))/\s.tm.get 12=some (.f (.i .i64 z)))/\za0 h c id n d s.h s.c s.lw/\Go.Sort.heapPop ltT a k d=D1
theorem zPF{h:T Ob}{c id n a b:Nat}(d:Array Trm)(gR:zci h id d)(hok:OkA d)(hn:d.size=n)(hsz:n<100000)(hb:b≤n)(hab:a<b)(hid:id<c):
  zhq pr 116 [.sl id 0 n 4 n false,.f (.i .i64 a),.f (.i .i64 b),.f (.fn 58)] h c fun _ h' c' lw=>za0 h c id n (Go.Sort.heapSort ltT d a b) h' c' lw:=by
 refine zfE fn116 ?_;simp only[zzZ,rU];obtain⟨hi,hhi⟩ :∃hi,hi=b - a:=⟨_,rfl⟩
 have hw1:IntKind.i64.wrap ((b:Int) - a)=(hi:Int):=by rw[zbl _ (by omega) (by omega)];omega
 obtain⟨h1,hh1⟩ :∃h1:Nat,h1=hi - 1:=⟨_,rfl⟩
 have hw2:IntKind.i64.wrap ((hi:Int) - 1)=(h1:Int):=by rw[zbl _ (by omega) (by omega)];omega
 obtain⟨q,hq⟩ :∃q:Nat,q=(hi - 1)/2:=⟨_,rfl⟩
 have hw3:IntKind.i64.wrap ((h1:Int)/2)=(q:Int):=by rw[zbl _ (by omega) (by omega)];omega
 simp[rW,st0,zae,hw1,hw2,ztL,hw3];refine zcu (HB h c id n a hi (Go.Sort.heapBuild ltT hi a (q+1) d)) (fun x s=>x= .exit 0/\∃d1,d1=Go.Sort.heapBuild ltT hi a (q+1) d/\(s.tm.get 0=some (.sl id 0 n 4 n false)/\s.tm.get 8=some (.f (.i .i64 a))/\s.tm.get 9=some (.f (.i .i64 0))/\s.tm.get 10=some (.f (.i .i64 hi))/\s.tm.get 3=some (.f (.fn 58)))/\za0 h c id n d1 s.h s.c s.lw) ?_ (q+1) _ ?_ ?_
 ·rintro k s ⟨d,z,⟨hz,hk⟩,⟨h0,h8,h9,h10,h3,h11⟩,HS,hD⟩;cases k with
  |zero=>
   have hz0:¬(0≤z):=by omega
   simp[rW,h0,h8,h9,h10,h3,h11,hz0];rw[<-hD];exact HS
  |succ j=>
   have hz1:z=(j:Int):=by omega
   subst hz1;obtain⟨z2,hz2⟩ :∃z2:Int,z2=(j:Int) - 1:=⟨_,rfl⟩
   have hw:IntKind.i64.wrap ((j:Int) - 1)=z2:=by rw[zbl _ (by omega) (by omega)];omega
   simp[rW,h0,h8,h9,h10,h3,h11];refine zfb ?_ ?_ (zCI (h:=s.h) (c:=s.c) (lo:=j) (hi:=hi) (first:=a) d HS.row HS.ok HS.sz hsz (by omega) (by omega) (by have:=HS.le;omega)) ?_
   ·simp only[rG]
   ·simp only[rG]
   rintro d' h' c' lw mx HS2 hcc;have HS3:=HS.trans HS2;simp[rW,h0,h8,h9,h10,h3,h11,hw];refine⟨j,by omega,_,z2,⟨hz2,by omega⟩,?_,HS3,hD⟩;simp[rW,h0,h8,h9,h10,h3,h11]
 ·simp[rW,HB,hw3];exact⟨d,_,⟨rfl,by omega⟩,rfl,za0.refl gR hok hn,rfl⟩
 ·rintro x s ⟨rfl,d1,hd1,⟨h0,h8,h9,h10,h3⟩,HS⟩;simp[rW,h0,h8,h9,h10,h3,hw2];refine zcu (HP h c id n a hi (Go.Sort.heapPop ltT a hi d1)) (fun x s=>x= .exit 2/\za0 h c id n (Go.Sort.heapPop ltT a hi d1) s.h s.c s.lw) ?_ hi _ ?_ ?_
  ·rintro k s ⟨d,z,⟨hz,hk⟩,⟨h0,h8,h9,h3,h12⟩,HS,hD⟩;cases k with
   |zero=>
    have hz0:¬(0≤z):=by omega
    simp[rW,h0,h8,h9,h3,h12,hz0];rw[<-hD];exact HS
   |succ j=>
    have hz1:z=(j:Int):=by omega
    subst hz1;obtain⟨z2,hz2⟩ :∃z2:Int,z2=(j:Int) - 1:=⟨_,rfl⟩
    have hw:IntKind.i64.wrap ((j:Int) - 1)=z2:=by rw[zbl _ (by omega) (by omega)];omega
    obtain⟨fj,hfj⟩ :∃fj,fj=a+j:=⟨_,rfl⟩
    have hwj:IntKind.i64.wrap ((a:Int)+(j:Int))=(fj:Int):=by rw[zbl _ (by omega) (by omega)];omega
    have gR:=HS.row;unfold zci at gR;have hlo:=HS.low;have hle:=HS.le;have e1:=zaN d (i:=a) (by rw[HS.sz];omega);have e0:=zaN d (i:=fj) (by rw[HS.sz];omega);have e0':=zcw d a (j:=fj) (by rw[HS.sz];omega);have hsw:=zdw d a fj;have han:a<n:=by omega
    have hfn:fj<n:=by omega
    generalize hT1:d[a]! =t1 at*;generalize hT2:d[fj]! =t2 at*;have hh8:hd8 ((zaB d.toList).set a (tmD t2))=false:=zdf _ _ _;simp only[tmD]at e1 e0 e0' hsw hh8;simp[rW,h0,h8,h9,h3,h12];refine zay ?_;simp[rW,h0,h8,h9,h3,h12,gR,hwj,han,hfn,e1,e0,e0',hh8,zcY,hsw];refine⟨by omega,by omega,?_⟩;refine zeE (Q:=fun S=>WQ pr 140 _ S _ _ _) (P:=fun s=>(s.tm.get 0=some (.sl id 0 n 4 n false)/\s.tm.get 8=some (.f (.i .i64 a))/\s.tm.get 9=some (.f (.i .i64 0))/\s.tm.get 3=some (.f (.fn 58))/\s.tm.get 12=some (.f (.i .i64 j)))/\za0 h c id n (Go.Sort.swp d a fj) s.h s.c s.lw) ?_ ?_
    ·simp[rW,h0,h8,h9,h3,h12];exact HS.swp hid a fj (by omega) (by rw[Vse.T.zab,if_pos rfl]) (fun q hq=>by rw[Vse.T.zab,if_neg hq,Vse.T.zab,if_neg hq]) (zd7 _ _ _ _)
    rintro s ⟨⟨h0,h8,h9,h3,h12⟩,HSs⟩;refine zfb (h:=s.h) (c:=s.c) rfl rfl (zCI (lo:=0) (hi:=j) (first:=a) (Go.Sort.swp d a fj) HSs.row HSs.ok HSs.sz hsz (by omega) (by omega) (by have:=HSs.le;omega)) ?_;rintro d' h' c' lw mx HS2 hcc;have HS3:=HSs.trans HS2;simp[rW,h0,h8,h9,h3,h12,hw];refine⟨j,by omega,_,z2,⟨hz2,by omega⟩,?_,HS3,?_⟩
    ·simp[rW,h0,h8,h9,h3,h12]
    ·rw[<-hD,Go.Sort.heapPop,hfj]
  ·simp[rW,HP,h0,h8,h9,h3];exact⟨by omega,d1,HS,rfl⟩
  ·rintro x s ⟨rfl,HS⟩;simp[rW,zoM];subst hd1;have e:Go.Sort.heapSort ltT d a b=Go.Sort.heapPop ltT a hi (Go.Sort.heapBuild ltT hi a (q+1) d):=by rw[hhi,hq,hhi];rfl
   rw[e];exact⟨HS,fun e _=>HS.fin hid e⟩
theorem fn152:pr.fn 152=some zAs:=by kernel_rfl
theorem fn144:pr.fn 144=some zAp:=by kernel_rfl
theorem fn118:pr.fn 118=some zz2:=by kernel_rfl
theorem fn120:pr.fn 120=some zz3:=by kernel_rfl
theorem ziX(a:Int):Go.Vse.zbv .quo (.i .i64 a) (.i .i64 4)=some (.i .i64 (IntKind.i64.wrap (a.tdiv 4))):=rfl
structure zcH(h:T Ob)(c p:Nat)(z:F)(h':T Ob)(c' lw:Nat):Prop where
 cell:h'.get p=some (.arr 1 0 [[.f z]])
 fr:∀j,j<c->j≠p->h'.get j=h.get j
 le:c≤c'
 low:lw≤c
 ge:p≤lw
 same:p<lw->h'.get p=h.get p
theorem zcH.fin{h:T Ob}{c p:Nat}{z:F}{h':T Ob}{c' lw:Nat}(H:zcH h c p z h' c' lw)(hp:p<c):lw=c->zcH h c p z h c c:=fun e=>
 ⟨by rw[<-H.same (by omega)];exact H.cell,fun _ _ _=>rfl,Nat.le_refl _,Nat.le_refl _,Nat.le_of_lt hp,fun _=>rfl⟩
theorem zcH.cc{h:T Ob}{c p:Nat}{z:F}{h':T Ob}{c' c'' lw:Nat}(H:zcH h c p z h' c' lw)(hc:c'≤c''):zcH h c p z h' c'' lw:=⟨H.cell,H.fr,Nat.le_trans H.le hc,H.low,H.ge,H.same⟩
theorem zcH.trans{h h1 h2:T Ob}{c c1 c2 p lw1 lw2:Nat}{z z2:F}(H:zcH h c p z h1 c1 lw1)(H2:zcH h1 c1 p z2 h2 c2 lw2):zcH h c p z2 h2 c2 (min lw1 lw2):=by
 refine⟨H2.cell,fun j hj hne=>(H2.fr j (by have:=H.le;omega) hne).trans (H.fr j hj hne),Nat.le_trans H.le H2.le,Nat.le_trans (Nat.min_le_left _ _) H.low,by have:=H.ge;have:=H2.ge;omega,fun e=> ?_⟩;exact (H2.same (by omega)).trans (H.same (by omega))
theorem zcH.row{h:T Ob}{c p id:Nat}{z:F}{d:Array Trm}{h':T Ob}{c' lw:Nat}(H:zcH h c p z h' c' lw)(hid:id<c)(hne:id≠p)(hr:zci h id d):zci h' id d:=by
 unfold zci at*;rw[H.fr id hid hne];exact hr
def nn(x y:Nat):D:= .tu [.f (.i .i64 x),.f (.i .i64 y)]
theorem zRd{c p:Nat}{o:Option Ob}(h:p<c):zdr c [(p,o)]=p:=by rw[zwa,if_pos h,zbN]
theorem zcH.set{h:T Ob}{c p c':Nat}{z:F}(hp:p<c)(hc:c≤c'){lw:Nat}(hl:lw=p):zcH h c p z (h.set p (.arr 1 0 [[.f z]])) c' lw:=
 ⟨by rw[Vse.T.zab,if_pos rfl],fun j _ hne=>by rw[Vse.T.zab,if_neg hne],hc,by omega,by omega,fun e=>by omega⟩
theorem zcH.id{h:T Ob}{c p c':Nat}{z:F}(hp:p<c)(hc:c≤c')(h1:h.get p=some (.arr 1 0 [[.f z]])):zcH h c p z h c' c:=
 ⟨h1,fun _ _ _=>rfl,hc,Nat.le_refl _,Nat.le_of_lt hp,fun _=>rfl⟩
theorem zih{d:Array Trm}{a b sw n:Nat}(ha:a<n)(hb:b<n):(Go.Sort.order2 ltT d a b sw).1<n/\(Go.Sort.order2 ltT d a b sw).2.1<n/\(Go.Sort.order2 ltT d a b sw).2.2≤sw+1:=by
 unfold Go.Sort.order2;split
 ·exact⟨hb,ha,Nat.le_refl _⟩
 ·exact⟨ha,hb,Nat.le_succ _⟩
theorem ztV{h:T Ob}{c id n a b p sw:Nat}(d:Array Trm)(gR:zci h id d)(hok:OkA d)(hn:d.size=n)(ha:a<n)(hb:b<n)(hid:id<c)(hp:p<c)(hne:id≠p)(hc:h.get p=some (.arr 1 0 [[.f (.i .i64 sw)]]))(hsw:sw<1000):
  zhq pr 152 [.sl id 0 n 4 n false,.f (.i .i64 a),.f (.i .i64 b),.ptr p 1 0 0,.f (.fn 58)] h c fun v h' c' lw=>v=nn (Go.Sort.order2 ltT d a b sw).1 (Go.Sort.order2 ltT d a b sw).2.1/\zcH h c p (.i .i64 (Go.Sort.order2 ltT d a b sw).2.2) h' c' lw:=by
 refine zfE fn152 ?_;simp only[zAs,rU];have e1:=zaN d (i:=a) (by omega);have e0:=zaN d (i:=b) (by omega);have hRO:=fun(H':Vse.T Ob) (c':Nat)=>zhk d[b]! d[a]! (hok b) (hok a) (h:=H') (c:=c')
 have hor:Go.Sort.order2 ltT d a b sw=if zaO d[b]! d[a]! <0 then(b,a,sw+1)else(a,b,sw):=by simp[Go.Sort.order2,ltT]
 have hw:=zbl ((sw:Int)+1) (by omega) (by omega);generalize hT1:d[a]! =t1 at*;generalize hT2:d[b]! =t2 at*;unfold zci at gR;simp only[tmD]at e1 e0 hRO;simp[rW,st0,zae];refine zbj ?_;simp[rW,zae,gR,ha,hb,e1,e0];refine zb6 (d:= .f (.i .i64 (zaO t2 t1))) (hRO _ _) ?_ ?_ ?_
 ·simp only[rG];omega
 ·simp[ckG,ck1]
 intro mx hmx;simp only[rG]at hmx
 by_cases hlt:zaO t2 t1<0
 ·rw[if_pos hlt]at hor;rw[hor];simp[rW,hlt,hc,hw,zg8,nn];have hz:=@zcH.set h c p (mx+1) (.i .i64 ((sw:Int)+1)) hp (by omega) _ (zRd hp (o:=some (Ob.arr 1 0 [[D.f (F.i IntKind.i64 ((sw:Int)+1))]])));exact⟨by omega,hz,hz.fin hp⟩
 ·rw[if_neg hlt]at hor;rw[hor];simp[rW,hlt,zg8,nn];exact⟨zcH.id hp (by omega) hc,zcH.id hp (Nat.le_refl _) hc⟩
theorem zPO{h:T Ob}{c id n a b e p sw:Nat}(d:Array Trm)(gR:zci h id d)(hok:OkA d)(hn:d.size=n)(ha:a<n)(hb:b<n)(he:e<n)(hid:id<c)(hp:p<c)(hne:id≠p)(hc:h.get p=some (.arr 1 0 [[.f (.i .i64 sw)]]))(hsw:sw<900):
  zhq pr 144 [.sl id 0 n 4 n false,.f (.i .i64 a),.f (.i .i64 b),.f (.i .i64 e),.ptr p 1 0 0,.f (.fn 58)] h c fun v h' c' lw=>v= .f (.i .i64 (Go.Sort.median ltT d a b e sw).1)/\zcH h c p (.i .i64 (Go.Sort.median ltT d a b e sw).2) h' c' lw:=by
 refine zfE fn144 ?_;simp only[zAp,rU];obtain⟨r1,hr1⟩ :∃r,r=Go.Sort.order2 ltT d a b sw:=⟨_,rfl⟩
 obtain⟨r2,hr2⟩ :∃r,r=Go.Sort.order2 ltT d r1.2.1 e r1.2.2:=⟨_,rfl⟩
 obtain⟨r3,hr3⟩ :∃r,r=Go.Sort.order2 ltT d r1.1 r2.1 r2.2.2:=⟨_,rfl⟩
 have hm:Go.Sort.median ltT d a b e sw=(r3.2.1,r3.2.2):=by rw[hr3,hr2,hr1];rfl
 have b1:=zih (d:=d) (sw:=sw) ha hb;rw[<-hr1]at b1;have b2:=zih (d:=d) (sw:=r1.2.2) b1.2.1 he;rw[<-hr2]at b2;rw[hm];simp[rW,st0,zae];refine zfb (h:=h) (c:=c) (by simp only[rG]) (by simp only[rG]) (ztV (p:=p) (sw:=sw) d gR hok hn ha hb hid hp hne hc (by omega)) ?_;rintro _ ha1 c1 lw1 mx ⟨rfl,HC1⟩ hcc;rw[<-hr1]at HC1⊢;obtain⟨x1,y1,s1⟩ :=r1;simp only at b1 b2 HC1 hr2 hr3;simp[rW,nn];refine zfb (h:=ha1) (c:=c1) (by simp only[rG]) (by simp only[rG]) (ztV (p:=p) (sw:=s1) d (HC1.row hid hne gR) hok hn b1.2.1 he (by have:=HC1.le;omega) (by have:=HC1.le;omega) hne HC1.cell (by omega)) ?_;rintro _ ha2 c2 lw2 mx2 ⟨rfl,HC2⟩ hcc2;rw[<-hr2]at HC2⊢;obtain⟨x2,y2,s2⟩ :=r2;simp only at b2 HC2 hr3;have HC12:=HC1.trans HC2;simp[rW,nn];refine zfb (h:=ha2) (c:=c2) (by simp only[rG]) (by simp only[rG]) (ztV (p:=p) (sw:=s2) d (HC12.row hid hne gR) hok hn b1.1 b2.1 (by have:=HC12.le;omega) (by have:=HC12.le;omega) hne HC2.cell (by omega)) ?_;rintro _ ha3 c3 lw3 mx3 ⟨rfl,HC3⟩ hcc3;rw[<-hr3]at HC3⊢;have HC:=HC12.trans HC3;simp[rW,nn,zg8];rw[show min c (min lw1 (min lw2 lw3))=min (min lw1 lw2) lw3 by have:=HC1.low;omega];exact⟨HC,HC.fin hp⟩
def zhb:Go.Sort.Hint->Nat
 | .unknown=>0
 | .increasing=>1
 | .decreasing=>2
theorem zsb{d:Array Trm}{a b e n:Nat}(ha:a<n)(hb:b<n)(he:e<n):(Go.Sort.median ltT d a b e 0).1<n/\(Go.Sort.median ltT d a b e 0).2≤3:=by
 obtain⟨r1,hr1⟩ :∃r,r=Go.Sort.order2 ltT d a b 0:=⟨_,rfl⟩
 obtain⟨r2,hr2⟩ :∃r,r=Go.Sort.order2 ltT d r1.2.1 e r1.2.2:=⟨_,rfl⟩
 obtain⟨r3,hr3⟩ :∃r,r=Go.Sort.order2 ltT d r1.1 r2.1 r2.2.2:=⟨_,rfl⟩
 have hm:Go.Sort.median ltT d a b e 0=(r3.2.1,r3.2.2):=by rw[hr3,hr2,hr1];rfl
 have b1:=zih (d:=d) (sw:=0) ha hb;rw[<-hr1]at b1;have b2:=zih (d:=d) (sw:=r1.2.2) b1.2.1 he;rw[<-hr2]at b2;have b3:=zih (d:=d) (sw:=r2.2.2) b1.1 b2.1;rw[<-hr3]at b3;rw[hm];exact⟨b3.2.1,by show r3.2.2≤3;omega⟩
theorem zIs{d:Array Trm}{a b:Nat}(h1:12<b - a)(h2:b - a<50)(hb:b≤d.size):Go.Sort.choosePivot ltT d a b=((Go.Sort.median ltT d (a+(b - a)/4) (a+(b - a)/4*2) (a+(b - a)/4*3) 0).1,if(Go.Sort.median ltT d (a+(b - a)/4) (a+(b - a)/4*2) (a+(b - a)/4*3) 0).2=0 then .increasing else .unknown):=by
 have hm:=zsb (d:=d) (a:=a+(b - a)/4) (b:=a+(b - a)/4*2) (e:=a+(b - a)/4*3) (n:=d.size) (by omega) (by omega) (by omega);unfold Go.Sort.choosePivot;simp only[show b - a≥8 by omega,show ¬(b - a≥50) by omega,if_true,if_false,Nat.mul_one];rw[if_neg (show ¬(Go.Sort.median ltT d (a+(b - a)/4) (a+(b - a)/4*2) (a+(b - a)/4*3) 0).2=12 by omega)]
theorem zKX{h:T Ob}{c id n a b:Nat}(d:Array Trm)(gR:zci h id d)(hok:OkA d)(hn:d.size=n)(hb:b≤n)(h1:12<b - a)(h2:b - a<50)(hsz:n<1000)(hid:id<c):
  RO pr 118 [.sl id 0 n 4 n false,.f (.i .i64 a),.f (.i .i64 b),.f (.fn 58)] h c (nn (Go.Sort.choosePivot ltT d a b).1 (zhb (Go.Sort.choosePivot ltT d a b).2)):=by
 refine zc3 zbB fn118 rfl ?_;simp only[zz2,rU];rw[zIs h1 h2 (by omega)];obtain⟨l,hl⟩ :∃l,l=b - a:=⟨_,rfl⟩
 obtain⟨q,hq⟩ :∃q,q=l/4:=⟨_,rfl⟩
 obtain⟨q2,hq2⟩ :∃q2,q2=q*2:=⟨_,rfl⟩
 obtain⟨q3,hq3⟩ :∃q3,q3=q*3:=⟨_,rfl⟩
 obtain⟨i,hi⟩ :∃i,i=a+q:=⟨_,rfl⟩
 obtain⟨j,hj⟩ :∃j,j=a+q2:=⟨_,rfl⟩
 obtain⟨k,hk⟩ :∃k,k=a+q3:=⟨_,rfl⟩
 have hwl:IntKind.i64.wrap ((b:Int) - a)=(l:Int):=by rw[zbl _ (by omega) (by omega)];omega
 have hwq:IntKind.i64.wrap ((l:Int)/4)=(q:Int):=by rw[zbl _ (by omega) (by omega)];omega
 have hwq1:IntKind.i64.wrap (q:Int)=(q:Int):=by rw[zbl _ (by omega) (by omega)]
 have hwq2:IntKind.i64.wrap ((q:Int)*2)=(q2:Int):=by rw[zbl _ (by omega) (by omega)];omega
 have hwq3:IntKind.i64.wrap ((q:Int)*3)=(q3:Int):=by rw[zbl _ (by omega) (by omega)];omega
 have hwi:IntKind.i64.wrap ((a:Int)+q)=(i:Int):=by rw[zbl _ (by omega) (by omega)];omega
 have hwj:IntKind.i64.wrap ((a:Int)+q2)=(j:Int):=by rw[zbl _ (by omega) (by omega)];omega
 have hwk:IntKind.i64.wrap ((a:Int)+q3)=(k:Int):=by rw[zbl _ (by omega) (by omega)];omega
 rw[<-hl,<-hq,<-hq2,<-hq3,<-hi,<-hj,<-hk];have hm:=zsb (d:=d) (a:=i) (b:=j) (e:=k) (n:=n) (by omega) (by omega) (by omega);have hl8:(8:Int)≤l:=by omega
 have hl50:¬(50:Int)≤l:=by omega
 simp[rW,st0,zae,hwl,hwq,hwq1,hwq2,hwq3,hwi,hwj,hwk,ziX,ztL,zga,hl8,hl50];refine zfb (h:=h.set c (.arr 1 0 [[.f (.i .i64 0)]])) (c:=c+1) (by simp only[rG]) (by simp only[rG]) (zPO (p:=c) (sw:=0) d ?_ hok hn (by omega) (by omega) (by omega) (by omega) (by omega) (by omega) ?_ (by omega)) ?_
 ·unfold zci;rw[Vse.T.zab,if_neg (by omega)];exact gR
 ·rw[Vse.T.zab,if_pos rfl];rfl
 rintro _ ha1 c1 lw1 mx ⟨rfl,HC⟩ hcc;have hc:=HC.cell;have hge:=HC.ge;obtain⟨m,hm0⟩ :∃m,m=Go.Sort.median ltT d i j k 0:=⟨_,rfl⟩
 rw[<-hm0]at hm hc⊢;obtain⟨mi,sw⟩ :=m;simp only at hm hc⊢
 by_cases hz:sw=0
 ·subst hz;simp[rW,hc,za8,nn,zhb];rw[zbk (Nat.le_refl _),zbN];show min c lw1=c;omega
 ·have hz0:¬((sw:Int)=0):=by omega
  have hz12:¬((sw:Int)=12):=by omega
  simp[rW,hc,za8,nn,zhb,hz,hz0,hz12];rw[zbk (Nat.le_refl _),zbN];show min c lw1=c;omega
theorem zDN{d:Array Trm}{a b:Nat}(h2:b - a<50):Go.Sort.partialInsertionSort ltT d a b=(d,decide (Go.Sort.scanSorted ltT d b (a+1)=b)):=by
 unfold Go.Sort.partialInsertionSort Go.Sort.partialIns
 by_cases h:Go.Sort.scanSorted ltT d b (a+1)=b
 ·simp[h]
 ·simp[h,h2]
def PS(h:T Ob)(c id n a b:Nat)(d:Array Trm)(r:Nat)(k:Nat)(s:St):Prop:=∃i:Nat,(k=b - i/\a+1≤i/\i≤b)/\(s.tm.get 0=some (.sl id 0 n 4 n false)/\s.tm.get 1=some (.f (.i .i64 a))/\s.tm.get 2=some (.f (.i .i64 b))/\s.tm.get 3=some (.f (.fn 58))/\s.tm.get 9=some (.f (.i .i64 i))/\s.tm.get 10=some (.f (.i .i64 0)))/\(s.h=h/\c≤s.c/\s.lw=c)/\Go.Sort.scanSorted ltT d b i=r
def PS0(h:T Ob)(c id n a b a1:Nat)(_k:Nat)(s:St):Prop:=(s.tm.get 0=some (.sl id 0 n 4 n false)/\s.tm.get 1=some (.f (.i .i64 a))/\s.tm.get 2=some (.f (.i .i64 b))/\s.tm.get 3=some (.f (.fn 58))/\s.tm.get 10=some (.f (.i .i64 0))/\s.tm.get 9=some (.f (.i .i64 a1)))/\s.h=h/\c≤s.c/\s.lw=c
theorem ro120{h:T Ob}{c id n a b:Nat}(d:Array Trm)(gR:zci h id d)(hok:OkA d)(hn:d.size=n)(hb:b≤n)(hab:a<b)(h2:b - a<50)(hsz:n<1000)(hid:id<c):
  RO pr 120 [.sl id 0 n 4 n false,.f (.i .i64 a),.f (.i .i64 b),.f (.fn 58)] h c (.f (.b (Go.Sort.partialInsertionSort ltT d a b).2)):=by
 refine zc3 zbB fn120 rfl ?_;simp only[zz3,rU];rw[zDN h2];obtain⟨a1,ha1⟩ :∃a1,a1=a+1:=⟨_,rfl⟩
 have hwa:IntKind.i64.wrap ((a:Int)+1)=(a1:Int):=by rw[zbl _ (by omega) (by omega)];omega
 obtain⟨r,hr⟩ :∃r,r=Go.Sort.scanSorted ltT d b a1:=⟨_,rfl⟩
 rw[<-ha1,<-hr];have hwd:IntKind.i64.wrap ((b:Int) - a)=(b:Int) - a:=by rw[zbl _ (by omega) (by omega)]
 have h50:(b:Int) - a<50:=by omega
 simp[rW,st0,zae,hwa];refine zcu (PS0 h c id n a b a1) (fun x s=>x= .ret/\s.tm.get 8=some (.f (.b (decide (r=b))))/\s.lw=c) ?_ 0 _ ?_ ?_
 ·rintro k s ⟨⟨h0,h1,h2,h3,h10,h9⟩,hsh,hsc,hsl⟩;simp[rW,h0,h1,h2,h3,h10,h9];refine zcu (PS h c id n a b d r) (fun x s=>x= .exit 2/\(s.tm.get 1=some (.f (.i .i64 a))/\s.tm.get 2=some (.f (.i .i64 b))/\s.tm.get 9=some (.f (.i .i64 r)))/\s.lw=c) ?_ (b - a1) _ ?_ ?_
  ·clear hsh hsc hsl h0 h1 h2 h3 h10 h9 s;rintro k s ⟨i,⟨rfl,hil,hib⟩,⟨h0,h1,h2,h3,h9,h10⟩,⟨hsh,hsc,hsl⟩,hD⟩
   by_cases hij:i<b
   ·obtain⟨i1,hi1⟩ :∃i1,i1=i+1:=⟨_,rfl⟩
    obtain⟨i0,hi0⟩ :∃i0,i0=i - 1:=⟨_,rfl⟩
    have hwi:IntKind.i64.wrap ((i:Int)+1)=(i1:Int):=by rw[zbl _ (by omega) (by omega)];omega
    have hwj:IntKind.i64.wrap ((i:Int) - 1)=(i0:Int):=by rw[zbl _ (by omega) (by omega)];omega
    have hX:i<n:=by omega
    have hY:i0<n:=by omega
    have e1:=zaN d (i:=i) (by omega);have e0:=zaN d (i:=i0) (by omega);have hRO:=fun(H':Vse.T Ob) (c':Nat)=>zhk d[i]! d[i0]! (hok i) (hok i0) (h:=H') (c:=c')
    have hsc2:Go.Sort.scanSorted ltT d b i=if ¬(zaO d[i]! d[i0]! <0)then Go.Sort.scanSorted ltT d b i1 else i:=by
     rw[Go.Sort.scanSorted,hi1,hi0];simp[hij,ltT]
    unfold zci at gR
    by_cases hlt:zaO d[i]! d[i0]! <0
    ·rw[hsc2,if_neg (by simpa using hlt)]at hD;generalize hT1:d[i]! =t1 at e1 hRO hlt;generalize hT2:d[i0]! =t2 at e0 hRO hlt;simp only[tmD]at e1 e0 hRO;simp[rW,h0,h1,h2,h3,h9,h10,hij];refine zbj ?_;simp[rW,h0,h1,h2,h3,h9,h10,hij,hsh,hwj,gR,hX,hY,e1,e0];refine zb6 (d:= .f (.i .i64 (zaO t1 t2))) (hRO _ _) ?_ ?_ ?_
     ·simp only[rG];omega
     ·simp[ckG,ck1]
     intro mx hmx;simp only[rG]at hmx;simp[rW,h0,h1,h2,h3,h9,h10,hlt];exact⟨by omega,hsl⟩
    ·rw[hsc2,if_pos (by simpa using hlt)]at hD;generalize hT1:d[i]! =t1 at e1 hRO hlt;generalize hT2:d[i0]! =t2 at e0 hRO hlt;simp only[tmD]at e1 e0 hRO;simp[rW,h0,h1,h2,h3,h9,h10,hij];refine zbj ?_;simp[rW,h0,h1,h2,h3,h9,h10,hij,hsh,hwj,gR,hX,hY,e1,e0];refine zb6 (d:= .f (.i .i64 (zaO t1 t2))) (hRO _ _) ?_ ?_ ?_
     ·simp only[rG];omega
     ·simp[ckG,ck1]
     intro mx hmx;simp only[rG]at hmx;simp[rW,h0,h1,h2,h3,h9,h10,hlt];rw[zbh];refine⟨b - i1,by omega,i1,⟨rfl,by omega,by omega⟩,?_,⟨?_,?_,?_⟩,hD⟩
     ·simp[rW,h0,h1,h2,h3,h9,h10,hwi]
     ·simp[rW,hsh]
     ·simp[rW,];omega
     ·simp[rW,hsl]
   ·have hsc2:Go.Sort.scanSorted ltT d b i=i:=by
     rw[Go.Sort.scanSorted];simp[hij]
    rw[hsc2]at hD;simp[rW,h0,h1,h2,h3,h9,h10,hij];refine zbj ?_;simp[rW,h0,h1,h2,h3,h9,h10,hij];exact⟨by omega,hsl⟩
  ·simp[rW,PS,h0,h1,h2,h3,h10,h9,hsh,hsl];exact⟨a1,⟨rfl,by omega,by omega⟩,rfl,by omega,hr.symm⟩
  ·clear hsh hsc hsl h0 h1 h2 h3 h10 h9 s;rintro x s ⟨rfl,⟨h1,h2,h9⟩,hsl⟩
   by_cases hrb:r=b
   ·have hrb':(r:Int)=b:=by omega
    simp[rW,h1,h2,h9,hrb,hrb',hsl]
   ·have hrb':¬((r:Int)=b):=by omega
    simp[rW,h1,h2,h9,hrb,hrb',hwd,h50,hsl]
 ·simp[rW,PS0]
 ·rintro x s ⟨rfl,h8,hsl⟩;simp[rW,za8,h8,hsl]
end Go.Proofs.YtimgcabgophnfaaGreat
end
