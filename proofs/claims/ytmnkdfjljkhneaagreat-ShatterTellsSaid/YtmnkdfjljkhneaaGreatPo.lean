/- slices.SortFunc of at most twelve values. -/
import Derived.Test.YtmnkdfjljkhneaaGreatPn
import Derived.Sort.AssemblyPlain
import Derived.Sort.Row
import Derived.Laws.Bits64
import Derived.Laws.Bits64b
import Derived.Sort.LotD5
import Derived.KernelRfl
import Derived.IntWalk
set_option linter.all false
set_option maxRecDepth 100000
set_option maxHeartbeats 4000000
section
namespace Go.Proofs.YtmnkdfjljkhneaaGreat
open Go Go.Vse Go.Vse.Sm
def zHV:pr.fn 118=some zs9:=by kernel_rfl
def fn78:pr.fn 78=some g78:=by kernel_rfl
def fn43:pr.fn 43=some g43:=by kernel_rfl
def fn79:pr.fn 79=some g79:=by kernel_rfl
def fn127:pr.fn 127=some zyz:=by kernel_rfl
def zDJ(a b:Int):Go.Vse.zbB .geq (.i .u64 a) (.i .u64 b)=some (.b (decide (b<=a))):=rfl
def zPx:∀x:Fin 64,(([0,1,2,2,3,3,3,3,4,4,4,4,4,4,4,4,5,5,5,5,5,5,5,5,5,5,5,5,5,5,5,5,6,6,6,6,6,6,6,6,6,6,6,6,6,6,6,6,6,6,6,6,6,6,6,6,6,6,6,6,6,6,6,6,7,7,7,7,7,7,7,7,7,7,7,7,7,7,7,7,7,7,7,7,7,7,7,7,7,7,7,7,7,7,7,7,7,7,7,7,7,7,7,7,7,7,7,7,7,7,7,7,7,7,7,7,7,7,7,7,7,7,7,7,7,7,7,7,8,8,8,8,8,8,8,8,8,8,8,8,8,8,8,8,8,8,8,8,8,8,8,8,8,8,8,8,8,8,8,8,8,8,8,8,8,8,8,8,8,8,8,8,8,8,8,8,8,8,8,8,8,8,8,8,8,8,8,8,8,8,8,8,8,8,8,8,8,8,8,8,8,8,8,8,8,8,8,8,8,8,8,8,8,8,8,8,8,8,8,8,8,8,8,8,8,8,8,8,8,8,8,8,8,8,8,8,8,8,8,8,8,8,8,8,8,8,8,8,8,8,8,8,8,8,8,8]:List UInt8)[x.val]?)=some (UInt8.ofNat (Go.Sort.bitsLen x.val)):=by decide+kernel
def zEr:∀x:Fin 64,Go.Sort.bitsLen x.val<=6:=by decide+kernel
def o_ixs{pr:Pr}{s:St}{Q:St->Prop}{dst:Option Nat}{l:List Go.Vse.Op}{x i:A}:wpO pr (⟨dst,none,.ixs x i⟩ ::l) s Q↔oB (((O.ixs x i).res (zab s.tm)).bind (opv s.h.get s.c)) fun r=>zay r.c r.wr=true/\wpO pr l (s.aft dst r.d r.wr r.c) Q:=zdq rfl
def v_ixs{h:Nat->Option Ob}{c:Nat}{l:List UInt8}{i:Nat}{b:UInt8}(hb:l[i]? =some b):opv h c (.ixs (.f (.s l)) (.f (.i .u8 (i:Int))))=some {d:= .f (.i .u8 (b.toNat:Int)),c:=c}:=by
 simp[opv,zbY,hb,okF]
def zpV(z:Int)(h1: -9000000000000000000<=z)(h2:z<=9000000000000000000):IntKind.i64.wrap z=z:=IntWalk.i64_in _ (by omega)
def ro127{h:T Ob}{c x:Nat}(hx:x<64):RO pr 127 [.f (.i .u64 x)] h c (.f (.i .i64 (Go.Sort.bitsLen x))):=by
 refine zdz zbi fn127 rfl ?_;simp only[zyz,rU];have t:=zPx ⟨x,hx⟩;have t2:=zEr ⟨x,hx⟩;simp only at t t2;obtain⟨b,hb,hbt⟩ :∃b:UInt8,b=UInt8.ofNat (Go.Sort.bitsLen x)/\b.toNat=Go.Sort.bitsLen x:=⟨_,rfl,by rw[UInt8.toNat_ofNat'];omega⟩
 rw[<-hb]at t;rw[<-hbt];have hwb:IntKind.i64.wrap (b.toNat:Int)=(b.toNat:Int):=zpV _ (by omega) (by omega);have t3:=fun(h:Nat->Option Ob) (c:Nat)=>v_ixs (h:=h) (c:=c) t
 have h32:¬((4294967296:Int)<=x):=by omega
 have h16:¬((65536:Int)<=x):=by omega
 have hy8:¬((256:Int)<=x):=by omega
 have hu8:IntKind.u8.wrap (x:Int)=x:=by simp[IntKind.wrap,IntKind.bits,IntKind.signed];omega
 simp[rW,st0,zae,h32,h16,hy8,o_ixs,hu8,zDJ,O.res,Z47,t3,zzN,hwb,za4,zlM]
def ro79{h:T Ob}{c x:Nat}(hx:x<64):RO pr 79 [.f (.i .u64 x)] h c (.f (.i .i64 (Go.Sort.bitsLen x))):=by
 refine zdz zbi fn79 rfl ?_;simp only[g79,rU];simp[rW,st0,zae];refine zdo (ro127 hx) ?_ ?_
 .simp only[rG];omega
 intro mx;simp[rW,za4]
def wl_le(m:Nat):∀l,zcA m l<=m:=by
 intro l
 induction l generalizing m with
 |nil=>exact Z2 _
 |cons p l ih=>
  obtain⟨id,o⟩ :=p;rw[zGj];refine Z3 (ih _) ?_;split<;>omega
def zJ5(m id:Nat)(o:Option Ob)(l:List (Nat×Option Ob)):zcA m ((id,o)::l)<=id:=by
 rw[zGj];refine Z3 (wl_le _ _) ?_;split<;>omega
def ltI(x y:Int):Bool:=decide (x<y)
theorem swoI:Go.Sort.SWO ltI where
 irrefl x:=by simp[ltI]
 trans x y z h1 h2:=by simp[ltI]at*;omega
 ntrans x y z h1 h2:=by simp[ltI]at*;omega
def totI(x y:Int)(h1:ltI x y=false)(h2:ltI y x=false):x=y:=by simp[ltI]at*;omega
def vE(l:List Int):List (List D):=l.map vD
def zeN(l:List Int):(vE l).length=l.length:=by simp[vE]
def zpm(l:List Int)(i:Nat)(v:Int):(vE l).set i (vD v)=vE (l.set i v):=by simp[vE,List.map_set]
def zlW(l:List Int):hd8 (vE l)=false:=by
 cases l<;>rfl
def zm9(h:T Ob)(id:Nat)(d:Array Int):Prop:=h.get id=some (.arr 3 0 (vE d.toList))
def znF(d:Array Int){i:Nat}(hi:i<d.size):(vE d.toList)[i]? =some (vD d[i]!):=by
 simp[vE,hi]
def zFn(d:Array Int)(i j:Nat):((vE d.toList).set i (vD d[j]!)).set j (vD d[i]!)=vE (Go.Sort.swp d i j).toList:=by
 rw[zpm,zpm];simp[Go.Sort.swp,Array.toList_setIfInBounds]
def ztO(d:Array Int)(i:Nat){j:Nat}(hj:j<d.size):((vE d.toList).set i (vD d[j]!))[j]? =some (vD d[j]!):=by
 by_cases h:i=j
 .subst h;rw[List.getElem?_set_self (by rw[zeN];simpa using hj)]
 .rw[List.getElem?_set_ne h];exact znF d hj
structure zfj(h:T Ob)(c id n:Nat)(d:Array Int)(h':T Ob)(c' lw:Nat):Prop where
 row:zm9 h' id d
 sz:d.size=n
 fr:∀j,j<c->j≠id->h'.get j=h.get j
 le:c<=c'
 low:lw<=c
 same:id<lw->h'.get id=h.get id
def zfj.fin{h:T Ob}{c id n:Nat}{d:Array Int}{h':T Ob}{c' lw:Nat}(H:zfj h c id n d h' c' lw)(hid:id<c):lw=c->zfj h c id n d h c c:=fun e=>
 ⟨by have:=H.row;unfold zm9 at*;rw[<-H.same (by omega)];exact this,H.sz,fun _ _ _=>rfl,Z2 _,Z2 _,fun _=>rfl⟩
def zfj.refl{h:T Ob}{c id n:Nat}{d:Array Int}(h1:zm9 h id d)(h3:d.size=n):zfj h c id n d h c c:=⟨h1,h3,fun _ _ _=>rfl,Z2 _,Z2 _,fun _=>rfl⟩
def zfj.cc{h:T Ob}{c id n:Nat}{d:Array Int}{h':T Ob}{c' c'' lw:Nat}(H:zfj h c id n d h' c' lw)(hc:c'<=c''):zfj h c id n d h' c'' lw:=⟨H.row,H.sz,H.fr,Z3 H.le hc,H.low,H.same⟩
def zfj.swp{h:T Ob}{c id n:Nat}{d:Array Int}{h':T Ob}{c' lw:Nat}(H:zfj h c id n d h' c' lw)(hid:id<c){h'':T Ob}{c'' lw'':Nat}(i j:Nat)(hc:c'<=c'')(h1:h''.get id=some (.arr 3 0 (vE (Go.Sort.swp d i j).toList)))(h2:∀q,q≠id->h''.get q=h'.get q)(hl:lw''<=id):zfj h c id n (Go.Sort.swp d i j) h'' c'' lw'':=
 ⟨h1,by simp[Go.Sort.swp,H.sz],fun q hq hne=>(h2 q hne).trans (H.fr q hq hne),Z3 H.le hc,by omega,fun e=>by omega⟩
def ro44(a b:Int){h:T Ob}{c:Nat}:RO pr 44 [.ag (vD a),.ag (vD b)] h c (.f (.i .i64 (zcX a b))):=by
 refine zdz zbi fn44 rfl ?_;simp only[g44,rU];have q1:=fun k=>zaj (k:=k) (zGR 1 1)
 have q2:=fun k=>zaj (k:=k) (zGS a b)
 have q3:=fun k=>zaj (k:=k) (zGT [] [])
 have q4:=fun k=>zaj (k:=k) (zGP (zcX 1 1) (zcX a b) (zem [] []))
 rw[(show zcX 1 1=0 from rfl)]at q1 q4;rw[(show zem [] []=0 from rfl)]at q3 q4;have e:(if(0:Int)≠0 then 0 else if zcX a b≠0 then zcX a b else 0)=zcX a b:=by
  simp only[ne_eq,not_true_eq_false,if_false];split
  .rfl
  .rename_i h;simp at h;exact h.symm
 rw[e]at q4;simp[rW,st0,zae,vD];refine zaL ?_;simp[rW,st0,zae,vD,q1,q2,q3,q4,za4];simp (disch:=omega) only[zb7,zcw]
def I2(h:T Ob)(c id n a b i:Nat)(D1:Array Int)(k:Nat)(s:St):Prop:=∃(d:Array Int),(s.tm.get 0=some (.sl id 0 n 3 n false)/\s.tm.get 1=some (.f (.i .i64 a))/\s.tm.get 2=some (.f (.i .i64 b))/\s.tm.get 3=some (.f (.fn 44))/\s.tm.get 8=some (.f (.i .i64 i))/\s.tm.get 9=some (.f (.i .i64 k)))/\zfj h c id n d s.h s.c s.lw/\Go.Sort.insInner ltI a k d=D1/\k<n
def I1(h:T Ob)(c id n a b:Nat)(D0:Array Int)(m:Nat)(s:St):Prop:=∃(d:Array Int) (i:Nat),i=a+1+m/\(s.tm.get 0=some (.sl id 0 n 3 n false)/\s.tm.get 1=some (.f (.i .i64 a))/\s.tm.get 2=some (.f (.i .i64 b))/\s.tm.get 3=some (.f (.fn 44))/\s.tm.get 8=some (.f (.i .i64 (i:Int))))/\zfj h c id n d s.h s.c s.lw/\Go.Sort.insOuter ltI a b i d=D0
theorem zOX{h:T Ob}{c id n a b:Nat}(d:Array Int)(gR:zm9 h id d)(hn:d.size=n)(hsz:n<100000)(hb:b<=n)(hab:a<=b)(hid:id<c):
  zk9 pr 118 [.sl id 0 n 3 n false,.f (.i .i64 a),.f (.i .i64 b),.f (.fn 44)] h c fun _ h' c' lw=>zfj h c id n (Go.Sort.insertionSort ltI d a b) h' c' lw:=by
 refine zjs zHV ?_;simp only[zs9,rU];have hwa:=zpV ((a:Int)+1) (by omega) (by omega);simp[rW,st0,zae,hwa];generalize hD0:Go.Sort.insertionSort ltI d a b=D0;refine zdi (b - (a+1)) (I1 h c id n a b D0) (fun x s=>x= .exit 0/\I1 h c id n a b D0 (b - (a+1)) s) ?_ ?_ _ ?_ ?_
 .rintro m s hm ⟨d,i,hi,⟨h0,h1,h2,h3,h8⟩,HS,hD⟩;have hib:i<b:=by omega
  have hwi:=zao i (by omega);rw[Go.Sort.insOuter,if_pos hib]at hD;simp[rW,h0,h1,h2,h3,h8,hib];refine zfE (I2 h c id n a b i (Go.Sort.insInner ltI a i d)) (fun x s=>x= .exit 2/\∃d1,d1=Go.Sort.insInner ltI a i d/\(s.tm.get 0=some (.sl id 0 n 3 n false)/\s.tm.get 1=some (.f (.i .i64 a))/\s.tm.get 2=some (.f (.i .i64 b))/\s.tm.get 3=some (.f (.fn 44))/\s.tm.get 8=some (.f (.i .i64 i)))/\zfj h c id n d1 s.h s.c s.lw) ?_ i _ ?_ ?_
  .rintro k s ⟨d',⟨h0,h1,h2,h3,h8,h9⟩,HS,hI,hk⟩
   by_cases hka:a<k
   .obtain⟨j,hkj⟩ :∃j,k=j+1:=⟨k - 1,by omega⟩
    have hins:Go.Sort.insInner ltI a k d'=if d'[k]! <d'[j]! then Go.Sort.insInner ltI a j (Go.Sort.swp d' k j)else d':=by
     subst hkj;show(if(decide (j+1>a)&&ltI d'[j+1]! d'[j]!)=true then _ else _)=_;rw[decide_eq_true (by omega)];simp[ltI]
    have hsub:IntKind.i64.wrap ((k:Int) - 1)=(j:Int):=by
     rw[zpV _ (by omega) (by omega)];omega
    have hj:j<n:=by omega
    have e1:=znF d' (i:=k) (by rw[HS.sz];exact hk);have e0:=znF d' (i:=j) (by rw[HS.sz];exact hj);have e0':=ztO d' k (j:=j) (by rw[HS.sz];exact hj);have hRO:=fun(H':Vse.T Ob) (c':Nat)=>ro44 d'[k]! d'[j]! (h:=H') (c:=c')
    have gR:=HS.row;have hsw:=zFn d' k j;have szsw:(Go.Sort.swp d' k j).size=n:=by simp[Go.Sort.swp,HS.sz]
    generalize d'[k]! =tk' at*;generalize d'[j]! =tj at*;unfold zm9 at gR;simp only[vD]at e1 e0 e0' hRO hsw;simp[rW,h0,h1,h2,h3,h8,h9,hka];refine zgT ?_;simp[rW,h0,h1,h2,h3,h8,h9,hka,gR,hk,hj,hsub,e1,e0];have hh8:hd8 ((vE d'.toList).set k [D.f (F.i IntKind.i64 1),D.f (F.i IntKind.i64 tj),D.f (F.s [])])=false:=by rw[show[D.f (F.i IntKind.i64 1),D.f (F.i IntKind.i64 tj),D.f (F.s [])]=vD tj from rfl,zpm];exact zlW _
    have h8b:=zlW d'.toList
    by_cases hlt:tk'<tj
    .have hcz:zcX tk' tj<0:=by rw[zgz];exact hlt
     rw[if_pos hlt]at hins;refine zk5 (d:= .f (.i .i64 (zcX tk' tj))) (hRO _ _) ?_ ?_ ?_
     .simp only[rG];have:=HS.low;have:=HS.le;omega
     .simp[ckG,ck1]
     intro mx hmx;simp only[rG]at hmx;simp[rW,h0,h1,h2,h3,h8,h9,hcz];refine zaL ?_;simp[rW,h0,h1,h2,h3,h8,h9,gR,hk,hj,hsub,e1,e0,e0',hh8,h8b,hsw,zlW];have hlo:=HS.low;have hle:=HS.le;refine⟨by omega,by omega,?_⟩;rw[zdk];refine⟨j,by omega,Go.Sort.swp d' k j,?_,?_⟩
     .simp[rW,h0,h1,h2,h3,h8,h9,hsub]
     .simp[rW,];exact⟨HS.swp hid k j (by omega) (by rw[Vse.T.zad,if_pos rfl]) (fun q hq=>by rw[Vse.T.zad,if_neg hq,Vse.T.zad,if_neg hq]) (zJ5 _ _ _ _),hins.symm.trans hI,hj⟩
    .rw[if_neg hlt]at hins;have hcz:¬(zcX tk' tj<0):=by rw[zgz];exact hlt
     rw[hins]at hI;subst hI;refine zk5 (d:= .f (.i .i64 (zcX tk' tj))) (hRO _ _) ?_ ?_ ?_
     .simp only[rG];have:=HS.low;have:=HS.le;omega
     .simp[ckG,ck1]
     intro mx hmx;simp only[rG]at hmx;simp[rW,h0,h1,h2,h3,h8,h9,hcz];exact HS.cc (by omega)
   .have hins:Go.Sort.insInner ltI a k d'=d':=by
     cases k with
     |zero=>rfl
     |succ j=>
      show(if(decide (j+1>a)&&ltI d'[j+1]! d'[j]!)=true then _ else _)=_;rw[decide_eq_false (by omega)];rfl
    rw[hins]at hI;subst hI;simp[rW,h0,h1,h2,h3,h8,h9,hka];refine zgT ?_;simp[rW,h0,h1,h2,h3,h8,h9,hka];exact HS.cc (by omega)
  .simp[rW,I2,h0,h1,h2,h3,h8];exact⟨d,HS,rfl,by omega⟩
  .rintro x s ⟨rfl,d1,rfl,⟨h0,h1,h2,h3,h8⟩,HS⟩;simp[rW,h0,h1,h2,h3,h8,hwi,I1];subst hi;exact⟨by omega,_,HS,by rw[<-hD];rfl⟩
 .rintro s ⟨d,i,hi,⟨h0,h1,h2,h3,h8⟩,HS,hD⟩;have hib:¬i<b:=by omega
  simp[rW,h0,h1,h2,h3,h8,hib,I1];subst hi;exact⟨by omega,d,HS,hD⟩
 .simp[rW,I1];exact⟨d,zfj.refl gR hn,hD0⟩
 .rintro x s ⟨rfl,d,i,hi,⟨h0,h1,h2,h3,h8⟩,HS,hD⟩;rw[Go.Sort.insOuter,if_neg (by omega)]at hD;subst hD;simp[rW,zgc];exact⟨HS,fun e _=>HS.fin hid e⟩
def ziG(s:St):resD s []=some (.tu []):=rfl
def zf2(l:List Int):List Int:=l.mergeSort fun x y=>!decide (y<x)
def pdqI(l:List Int)(lm:Nat):(Go.Sort.pdq ltI l.toArray 0 l.length lm true true).toList=zf2 l:=by
 have h:=Go.Sort.pdq_sorts ltI swoI l.toArray 0 l.length lm true true (Nat.zero_le _) (by simp) (Or.inl rfl);have hs:l.toArray.size=l.length:=by simp
 rw[<-hs]at h|-;have:=Go.Sort.sorted_unique_holds swoI totI l.toArray _ h.1 h.2;rw[this];simp[zf2,ltI]
def insI(l:List Int)(hl:l.length<=12):(Go.Sort.insertionSort ltI l.toArray 0 l.length).toList=zf2 l:=by
 rw[<-pdqI l 1,Go.Sort.pdq,if_pos (by omega)]
theorem zK7(l:List Int)(hl:l.length<=12){h:T Ob}{id c:Nat}(hid:id<c)(hg:h.get id=some (.arr 3 0 (vE l))):
  zk9 pr 118 [.sl id 0 l.length 3 l.length false,.f (.i .i64 0),.f (.i .i64 l.length),.f (.fn 44)] h c fun _ h' c' lw=>zfj h c id l.length (Go.Sort.insertionSort ltI l.toArray 0 l.length) h' c' lw:=
 zOX (a:=0) l.toArray (by unfold zm9;simpa using hg) (by simp) (by omega) (Z2 _) (Nat.zero_le _) hid
def P8(h:T Ob)(c id n lm:Nat)(_k:Nat)(s:St):Prop:=(s.tm.get 0=some (.sl id 0 n 3 n false)/\s.tm.get 1=some (.f (.i .i64 0))/\s.tm.get 2=some (.f (.i .i64 n))/\s.tm.get 3=some (.f (.i .i64 lm))/\s.tm.get 4=some (.f (.fn 44)))/\s.h=h/\s.c=c/\s.lw=c
theorem eff78(l:List Int)(hl:l.length<=12){h:T Ob}{id c lm:Nat}(hid:id<c)(hg:h.get id=some (.arr 3 0 (vE l))):
  zk9 pr 78 [.sl id 0 l.length 3 l.length false,.f (.i .i64 0),.f (.i .i64 l.length),.f (.i .i64 lm),.f (.fn 44)] h c fun _ h' c' lw=>zfj h c id l.length (Go.Sort.insertionSort ltI l.toArray 0 l.length) h' c' lw:=by
 refine zjs fn78 ?_;simp only[g78,rU];simp[rW,st0,zae];refine zfE (P8 h c id l.length lm) (fun e s=>e= .ret/\zfj h c id l.length (Go.Sort.insertionSort ltI l.toArray 0 l.length) s.h s.c s.lw) ?_ 0 _ ?_ ?_
 .rintro k s ⟨⟨h0,h1,h2,h3,h4⟩,e1,e2,e3⟩;have hw:IntKind.i64.wrap (l.length:Int)=l.length:=zpV _ (by omega) (by omega);have h12:(l.length:Int)<=12:=by omega
  simp[rW,h0,h1,h2,h3,h4,hw,h12];refine zuN (h:=h) (c:=c) (by simp only[rG];exact e1) (by simp only[rG];exact e2) (zK7 l hl hid hg) ?_;rintro d' h' c' lw mx HS hcc;simp[rW,];have e4:s.lw.min lw=lw:=by rw[e3];exact Nat.min_eq_right HS.low
  rw[e4];exact HS
 .refine⟨?_,?_,?_,?_⟩
  .simp[rW,]
  .simp[rW,]
  .simp[rW,]
  .rfl
 .rintro e s ⟨rfl,HS⟩;simp[rW,zPb,ziG];exact⟨HS,fun e=>HS.fin hid e⟩
theorem eff43(l:List Int)(hl:l.length<=12){h:T Ob}{id c:Nat}(hid:id<c)(hg:h.get id=some (.arr 3 0 (vE l))):
  Eff pr 43 [.sl id 0 l.length 3 l.length false,.f (.fn 44)] h c fun _ h' _=>h'.get id=some (.arr 3 0 (vE (zf2 l)))/\∀j,j<c->id≠j->h'.get j=h.get j:=by
 refine zci zbi fn43 ?_;simp only[g43,rU];have hu:IntKind.u64.wrap (l.length:Int)=(l.length:Int):=by rw[IntKind.wrap_u64];omega
 simp[rW,st0,zae,hu];refine zdo (ro79 (x:=l.length) (by omega)) ?_ ?_
 .simp only[rG];omega
 intro mx0;generalize hlm:Go.Sort.bitsLen l.length=lm;simp[rW,zae];refine zuN (h:=h) (c:=c) (by simp only[rG]) (by simp only[rG]) (eff78 l hl hid hg) ?_;rintro d' h' c' lw mx HS hcc;have hr:=HS.row;unfold zm9 at hr;rw[insI l hl]at hr;simp[rW,zjt,ziG];refine⟨⟨hr,fun j hj hne=>HS.fr j hj (fun e=>hne e.symm)⟩,fun e=> ?_⟩;have hlo:=HS.low;have e2:lw=c:=by
  have e3:min c lw=c:=e;omega
 rw[<-HS.same (by omega)];exact hr
def fn45:pr.fn 45=some g45:=by kernel_rfl
def fn46:pr.fn 46=some g46:=by kernel_rfl
def ro46(a b:Int){h:T Ob}{c:Nat}:RO pr 46 [.ag (vD a),.ag (vD b)] h c (.f (.b (decide (a=b)))):=by
 refine zdz zbi fn46 rfl ?_;simp only[g46,rU];have q1:=fun k=>zaj (k:=k) (zrM a b)
 simp only[vF]at q1;have hz:=zfN a b;generalize zcX a b=cz at q1 hz;simp[rW,st0,zae,vD,q1,za4];simp (disch:=omega) only[zb7,zcw];exact⟨hz,trivial⟩
def ddf(p:Int):List Int->List Int
 |[]=>[]
 |b::l=>if b=p then ddf b l else b::ddf b l
def dd:List Int->List Int
 |[]=>[]
 |a::l=>a::ddf a l
theorem zsL(x:Int):∀(m:List Int) (p:Int),ddf p (m++[x])=ddf p m++if x=m.getLastD p then[]else[x]
 |[],p=>by simp[ddf]
 |b::m,p=>by
  have ih:=zsL x m b;have e:(b::m).getLastD p=m.getLastD b:=by cases m<;>rfl
  rw[Z29,e];unfold ddf;split
  .exact ih
  .rw[ih];rfl
def zpQ{l:List Int}{j:Nat}(h0:0<j)(hj:j<l.length):dd (l.take (j+1))=dd (l.take j)++if l[j]=l[j - 1]then[]else[l[j]]:=by
 rw[Z6 hj];cases l with
 |nil=>simp at hj
 |cons a l=>
  obtain⟨k,rfl⟩ :∃k,j=k+1:=⟨j - 1,by omega⟩
  rw[List.take_succ_cons,Z29];show a::ddf a (l.take k++[(a::l)[k+1]])=(a::ddf a (l.take k))++_;rw[zsL,Z29];have e:(l.take k).getLastD a=(a::l)[k+1 - 1]:=by
   have hk:k<=l.length:=by simp at hj;omega
   cases k with
   |zero=>simp
   |succ m=>
    have:l.take (m+1)=l.take m++[l[m]'(by omega)]:=Z6 (by omega);rw[this,List.getLastD_concat];simp
  rw[e]
def zlt{l:List Int}:(dd l).length<=l.length:=by
 have:∀(m:List Int) (p:Int),(ddf p m).length<=m.length:=by
  intro m
  induction m with
  |nil=>intro p;simp[ddf]
  |cons b m ih=>
   intro p;unfold ddf;have:=ih b;split<;>simp<;>omega
 cases l with
 |nil=>simp[dd]
 |cons a l=>have:=this l a;simp[dd];omega
theorem zoa{l:List Int}:∀{n:Nat},n<=l.length->(∀j (h0:0<j) (h1:j<n) (h2:j<l.length),l[j]≠l[j - 1])->dd (l.take n)=l.take n
 |0,_,_=>by simp[dd]
 |1,hn,_=>by
  cases l with
  |nil=>simp at hn
  |cons a l=>simp[dd,ddf]
 |n+2,hn,h=>by
  rw[zpQ (by omega) (by omega),zoa (n:=n+1) (by omega) fun j h0 h1 h2=>h j h0 (by omega) h2,if_neg (h (n+1) (by omega) (by omega) (by omega)),<-Z6 (by omega)]
def Dis(l:List Int)(m:Nat):Prop:=∀j (h0:0<j) (h1:j<m) (h2:j<l.length),l[j]≠l[j - 1]
def CP(h:T Ob)(c id:Nat)(l:List Int)(d:D)(h':T Ob):Prop:=∃rows,d= .sl id 0 (dd l).length 3 l.length false/\h'.get id=some (.arr 3 0 rows)/\rows.length=l.length/\rows.take (dd l).length=vE (dd l)/\∀x,x<c->x≠id->h'.get x=h.get x
def K5(h:T Ob)(l:List Int)(id c k0:Nat)(k':Nat)(s:St):Prop:=∃(j u:Nat) (R:List Int),k0+u+1=j/\j<=l.length/\k'=l.length - j/\(dd (l.take j)).length<j/\(s.tm.get 0=some (.sl id 0 l.length 3 l.length false)/\s.tm.get 1=some (.f (.fn 46))/\s.tm.get 5=some (.f (.i .i64 (dd (l.take j)).length))/\s.tm.get 6=some (.sl id k0 (l.length - k0) 3 l.length false)/\s.tm.get 7=some (.f (.i .i64 (u+1:Nat))))/\s.h.get id=some (.arr 3 0 (vE R))/\R.length=l.length/\R.take (dd (l.take j)).length=dd (l.take j)/\(∀q,j<=q+1->R[q]? =l[q]?)/\(∀x,x<c->x≠id->s.h.get x=h.get x)/\c<=s.c/\s.lw<=s.c
def K6(h:T Ob)(l:List Int)(id c:Nat)(s:St):Prop:=∃R:List Int,(s.tm.get 0=some (.sl id 0 l.length 3 l.length false)/\s.tm.get 5=some (.f (.i .i64 (dd l).length)))/\s.h.get id=some (.arr 3 0 (vE R))/\R.length=l.length/\R.take (dd l).length=dd l/\(∀x,x<c->x≠id->s.h.get x=h.get x)/\c<=s.c
theorem eff45(l:List Int)(hl:l.length<1000){h:T Ob}{c id:Nat}(gI:h.get id=some (.arr 3 0 (vE l)))(hid:id<c)(hne:l≠[]):
  Eff pr 45 [.sl id 0 l.length 3 l.length false,.f (.fn 46)] h c fun d h' c'=>CP h c id l d h':=by
 refine zci zbi fn45 ?_;simp only[g45,rU]
 by_cases h2:l.length<2
 .have h2':(l.length:Int)<2:=by omega
  simp[rW,st0,zae,h2',zbl];have e:dd l=l:=by
   have:=zoa (l:=l) (n:=l.length) (Z2 _) fun j h0 h1 _=>by omega
   rwa[Z7]at this
  exact⟨_,by rw[e],gI,zeN l,by rw[e,<-zeN l,Z7],fun _ _ _=>rfl⟩
 .have h2':¬(l.length:Int)<2:=by omega
  simp[rW,st0,zae,h2'];have hfin:∀n,n<l.length - 1->n+1<l.length:=fun n hn=>by omega
  refine zcf (List.range (l.length - 1)) (fun i=>decide (l[i+1]?.getD 0=l[i]?.getD 0)) (fun n s=>∃m:Nat,m=n+1/\(s.tm.get 0=some (.sl id 0 l.length 3 l.length false)/\s.tm.get 1=some (.f (.fn 46))/\s.tm.get 5=some (.f (.i .i64 m)))/\s.h=h/\c<=s.c/\s.lw=c/\Dis l m) (fun e s=>e= .exit 0/\(s.tm.get 0=some (.sl id 0 l.length 3 l.length false))/\s.h=h) (fun n e s=>e= .ret/\∃d,s.tm.get 4=some d/\CP h c id l d s.h) ?_ ?_ _ ?_ ?_ ?_
  .rintro n s hn ⟨m,hm,⟨h0,h1,h5⟩,eh,ec,el,hdis⟩;rw[Z37]at hn;rw[List.getElem_range];have hml:m<l.length:=by omega
   have hw:=zao m (by omega);have hsub:IntKind.i64.wrap ((m:Int) - 1)=(n:Int):=by
    rw[zpV _ (by omega) (by omega)];omega
   have hnl:n<l.length:=by omega
   have r1:(vE l)[m]? =some (vD l[m]):=by simp[vE,hml]
   have r0:(vE l)[n]? =some (vD l[n]):=by simp[vE,hnl]
   have gS:s.h.get id=some (.arr 3 0 (vE l)):=by rw[eh];exact gI
   have hp:decide (l[n+1]?.getD 0=l[n]?.getD 0)=decide (l[m]=l[n]):=by
    rw[<-hm,Z0 hml,Z0 hnl];rfl
   rw[hp];have hRO:=fun(H':Vse.T Ob) (c':Nat)=>ro46 l[m] l[n] (h:=H') (c:=c')
   have hLm:l[m]? =some l[m]:=Z0 hml;have hLn:l[n]? =some l[n]:=Z0 hnl;have hdn:dd (l.take (m+1))=dd (l.take m)++if l[m]=l[m - 1]then[]else[l[m]]:=zpQ (by omega) hml
   have hmn:l[m - 1]=l[n]:=by simp[hm]
   rw[hmn]at hdn;have hdis2:l[m]≠l[n]->Dis l (m+1):=fun hne j h0 h1 h2=>by
    by_cases e:j=m
    .subst e;rw[hmn];exact hne
    .exact hdis j h0 (by omega) h2
   clear hmn;generalize l[m]=x at*;generalize l[n]=y at*;simp only[vD]at r1 r0 hRO;simp[rW,h0,h1,h5,hml];refine zgT ?_;simp[rW,h0,h1,h5,hml,hnl,gS,hsub,r1,r0];refine zk5 (d:= .f (.b (decide (x=y)))) (hRO _ _) ?_ ?_ ?_
   .simp only[rG];omega
   .simp[ckG,ck1]
   intro mx hmx;simp only[rG]at hmx
   by_cases hxy:x=y
   .subst hxy;rw[if_pos rfl,Z22]at hdn;have hm1:m<=l.length:=by omega
    have hm0:(0:Int)<=m:=by omega
    simp[rW,h0,h1,h5,hw,zhH,zfz,gS,zeN,hm1,hm0];refine zfE (K5 h l id c m) (fun e s=>e= .exit 2/\K6 h l id c s) ?_ (l.length - (m+1)) _ ?_ ?_
    .rintro k' s ⟨j,u,R,hj1,hj2,rfl,hlt,⟨h0,h1,h5,h6,h7⟩,gE,hRl,hRt,hRd,hf,hc3,hl3⟩;obtain⟨t,ht⟩ :∃t,t=u+1:=⟨_,rfl⟩
     rw[<-ht]at h7
     by_cases hjl:j<l.length
     .have hwj:=zao t (by omega);have hks2:=zpQ (by omega) hjl;have htl:t<l.length - m:=by omega
      have hul:u<l.length - m:=by omega
      have hsub:IntKind.i64.wrap ((t:Int) - 1)=(u:Int):=by
       rw[zpV _ (by omega) (by omega)];omega
      have r1:(vE R)[m+t]? =some (vD l[j]):=by
       have:R[m+t]? =some l[j]:=by rw[show m+t=j by omega,hRd j (by omega)];exact Z0 hjl
       simp[vE,this]
      have r0:(vE R)[m+u]? =some (vD l[j - 1]):=by
       have:R[m+u]? =some l[j - 1]:=by rw[show m+u=j - 1 by omega,hRd (j - 1) (by omega)];exact Z0 (by omega)
       simp[vE,this]
      have hRO:=fun(H':Vse.T Ob) (c':Nat)=>ro46 l[j] l[j - 1] (h:=H') (c:=c')
      generalize l[j - 1]=Y at hks2 r0 hRO;have hjx:l[j]? =some l[j]:=Z0 hjl;generalize hX:l[j]=X at hks2 r1 hRO hjx;generalize hN:dd (l.take j)=N at*;have hwN:=zao N.length (by omega);simp only[vD]at r1 r0 hRO;simp[rW,h0,h1,h5,h6,h7,htl];refine zgT ?_;simp[rW,h0,h1,h5,h6,h7,htl,hul,gE,hsub,r1,r0];refine zk5 (d:= .f (.b (decide (X=Y)))) (hRO _ _) ?_ ?_ ?_
      .simp only[rG];omega
      .simp[ckG,ck1]
      intro mx2 hmx2;simp only[rG]at hmx2
      by_cases hb:X=Y
      .rw[if_pos hb,Z22]at hks2;simp[rW,h0,h1,h5,h6,h7,hb,hwj];rw[zdk];refine⟨l.length - (j+1),by omega,j+1,u+1,R,by omega,hjl,rfl,by rw[hks2];omega,?_,?_,hRl,by rw[hks2];exact hRt,fun q hq=>hRd q (by omega),fun x h1 h2=> ?_,?_,?_⟩
       .rw[hks2];simp[rW,h0,h1,h5,h6,h7,hwj,ht]
       .simp[rW,gE]
       .simp[rW,];exact hf x h1 h2
       .simp[rW,]<;>omega
       .simp[rW,]<;>omega
      .rw[if_neg hb]at hks2;have hNl:N.length<l.length:=by omega
       have hxN:(vE R)[N.length]? =some (vD (R[N.length]'(by omega))):=by
        have:N.length<R.length:=by omega
        simp[vE,this]
       have hset:(vE R).set N.length [.f (.i .i64 1),.f (.i .i64 X),.f (.s [])]=vE (R.set N.length X):=zpm R _ X;simp only[vD]at hxN;simp[rW,h0,h1,h5,h6,h7,hb,hwj,hwN,gE,htl,hNl,hxN,r1,zlW,hset];refine⟨by omega,?_⟩;rw[zdk];have hl1:(N++[X]).length=N.length+1:=by simp
       refine⟨l.length - (j+1),by omega,j+1,u+1,R.set N.length X,by omega,hjl,rfl,by rw[hks2,hl1];omega,?_,?_,by simpa using hRl,?_,fun q hq=> ?_,fun x h1 h2=> ?_,?_,?_⟩
       .rw[hks2,hl1];simp[rW,h0,h1,h5,h6,h7,ht]
       .simp[rW,]
       .rw[hks2,hl1,List.take_add_one,List.take_set_of_le (Z2 _),hRt,List.getElem?_set_self (by omega)];rfl
       .rw[List.getElem?_set_ne (by omega)];exact hRd q (by omega)
       .simp[rW,h2];exact hf x h1 h2
       .simp[rW,]<;>omega
       .simp[rW,]
        repeat refine Z3 (zb8 _ _).1 ?_
        omega
     .have hje:j=l.length:=by omega
      have htl:¬t<l.length - m:=by omega
      subst hje;rw[Z7]at h5 hRt;simp[rW,h0,h1,h5,h6,h7,htl];refine⟨R,?_,gE,hRl,hRt,hf,hc3⟩;simp[rW,h0,h5]
    .have hdm:dd (l.take m)=l.take m:=zoa (by omega) hdis;have hlm:(l.take m).length=m:=by simp;omega
     refine⟨m+1,0,l,by omega,hml,rfl,?_,?_,?_,rfl,?_,fun q _=>rfl,fun x _ _=> ?_,?_,?_⟩
     .rw[hdn,hdm,hlm];omega
     .rw[hdn,hdm,hlm];simp[rW,h0,h1,h5]
     .simp[rW,gS]
     .rw[hdn,hdm,hlm]
     .simp[rW,eh]
     .simp[rW,]<;>omega
     .simp[rW,]<;>omega
    .rintro e s ⟨rfl,R,⟨h0,h5⟩,gE,hRl,hRt,hf,hc3⟩;have hcl:=zlt (l:=l);have hsum:(dd l).length+(l.length - (dd l).length)=l.length:=by omega
     simp[rW,h0,h5,gE,zhH,zfz,zzM,zpM,hcl,hsum,hRl,zeN,zlW];have hdl:List.take (dd l).length (vE R)=vE (dd l):=by
      rw[show List.take (dd l).length (vE R)=vE (R.take (dd l).length) by simp[vE,List.map_take],hRt]
     rw[hdl];refine⟨by omega,_,rfl,by rw[Vse.T.zad,if_pos rfl],?_,?_,fun x h1 h2=> ?_⟩
     .simp[zeN,hRl];omega
     .rw[Z27 (by rw[zeN];exact Z2 _),<-zeN (dd l),Z7]
     .rw[Vse.T.zad,if_neg h2];exact hf x h1 h2
   .simp[rW,h0,h1,h5,hxy,hw];exact⟨by omega,eh,by omega,el,hm▸hdis2 hxy⟩
  .rintro s ⟨m,hm,⟨h0,h1,h5⟩,eh,ec,el,hdis⟩;rw[Z37]at hm;have e1:¬(m:Int)<l.length:=by omega
   simp[rW,h0,h1,h5,e1];exact eh
  .refine⟨1,rfl,?_,rfl,?_,rfl,fun j h0 h1 _=>by omega⟩
   .simp[rW,]
   .simp[rW,]
  .rintro hno e s ⟨rfl,h0,eh⟩;have e:dd l=l:=by
    have:=zoa (l:=l) (n:=l.length) (Z2 _) fun j h0 h1 _=>by
     have:=hno (j - 1) (List.mem_range.2 (by omega));have e1:j - 1+1=j:=by omega
     rw[e1,Z0 (by omega:j<l.length),Z0 (by omega:j - 1<l.length)]at this;simpa using this
    rwa[Z7]at this
   simp[rW,h0,zbl];exact⟨vE l,by rw[e],by rw[eh];exact gI,zeN l,by rw[e,<-zeN l,Z7],fun x _ _=>by rw[eh]⟩
  .rintro n hn hp hm e s ⟨rfl,d,h4,hC⟩;simp[rW,h4,zbl];exact⟨hC,fun _ hF=>by obtain⟨rows,e,-⟩ :=hC;rw[e]at hF;cases hF⟩
def fn42:pr.fn 42=some g42:=by kernel_rfl
def kc:Trm->List Int
 | .cst v=>[v]
 | .var _=>[]
def kcs(ts:List Trm):List Int:=ts.flatMap kc
def zBz(t:Trm):(kc t).length<=1:=by cases t<;>simp[kc]
def zjD(ts:List Trm):(kcs ts).length<=ts.length:=by
 have:=ze8 kc 1 ts fun t _=>zBz t
 unfold kcs;omega
def zQ5{c:CQ}(hc:CqG c):(tsC c).length<=424:=by
 unfold tsC tsA;rw[Z16];have h1:=ze8 (fun a:Atm=>a.ts) 2 c.as hc.s2;have h2:=ze8 ts2 2 c.cs fun k _=>by simp[ts2]
 have:=hc.sa;have:=hc.sc;omega
def zLF{h:T Ob}{lo c es:Nat}{d:D}{els:List (List D)}(hg:Gro h lo c es d els):hd8 [[d]]=false:=by
 rcases hg with⟨rfl,-⟩ |⟨id,ro,rfl,-⟩ <;>rfl
theorem zx7(t:Trm)(ht:zau t){h:T Ob}{c:Nat}{dl:D}{ns:List Int}(gL:h.get 1=some (.arr 1 0 [[dl]]))(hg:Gro h 2 c 3 dl (vE ns))(hz:GZ h dl)(hlen:ns.length<900000)(hc:2<=c):
  Eff pr 42 [.ag (tmD t),.ptr 1 1 0 0] h c fun _ h' c'=>∃dl',h'.get 1=some (.arr 1 0 [[dl']])/\Gro h' 2 c' 3 dl' (vE (ns++kc t))/\GZ h' dl'/\(∀x,x<c->x≠1->dl.oid≠some x->h'.get x=h.get x)/\∀x,dl'.oid=some x->c<=x\/dl.oid=some x:=by
 refine zci zbi fn42 ?_;simp only[g42,rU];have n1:¬(1=c):=by omega
 have hcell:=za3 hg;cases t with
 |var s=>
  have hs:s≠[]:=ht;simp[rW,st0,zae,tmD,zcm,zcr,zcs,hs,zjt,ziG];have e:ns++kc (.var s)=ns:=by simp[kc]
  rw[e];refine⟨⟨dl,?_,zaS hg (by omega) fun x h1 h2=> ?_,fun i es ro els h1 h2=> ?_,fun x h1 h2 h3=> ?_,fun x hx=> .inr hx⟩,?_⟩
  .simp[rW,n1,gL]
  .have nx:¬x=c:=by omega
   simp[rW,nx]
  .have:=zbW hg h1;have nx:¬i=c:=by omega
   refine hz i es ro els h1 ?_;rw[<-h2];simp[rW,nx]
  .have nx:¬x=c:=by omega
   simp[rW,nx]
  .first
    |exact fun _=>⟨dl,gL,hg,hz,fun x hx=> .inr hx⟩
    |exact⟨dl,gL,hg,hz,fun _ _ _ _=>rfl,fun x hx=> .inr hx⟩
    |trace_state
 |cst v=>
  simp[rW,st0,zae,tmD,zdm,zcS,zcN,n1,gL,hcell];generalize hHs:(h.set c (.arr 4 0 [[D.f (.s []),D.f (.i .i64 1),D.f (.i .i64 v),D.f (.s [])]]):T Ob)=Hs;have hup2:∀x,x<c->Hs.get x=h.get x:=fun x hx=>by
   have nx:¬x=c:=by omega
   rw[<-hHs];simp[Vse.T.zad,nx]
  refine zmt (zaS (c':=c+1) hg (by omega) fun x h1 h2=>hup2 x h2) (fun i es ro els h1 h2=> ?_) (by omega) (by rw[zeN];simp;omega) (by omega) ?_
  .have:=zbW hg h1;rw[hup2 i (by omega)]at h2;exact hz i es ro els h1 h2
  intro r hr1 hr2 hr3 hr4 hr5 hr6;have z1:=hr4 1 (by omega) (za5 hg (by omega));rw[hup2 1 (by omega),gL]at z1;refine⟨hr1,?_⟩;simp[rW,z1,za3 hr2,zLF hg,zjt,ziG];rw[hHs];have ev:vE (ns++kc (.cst v))=vE ns++[[.f (.i .i64 1),.f (.i .i64 v),.f (.s [])]]:=by simp[vE,kc,vD]
  have hst:∀x,x≠1->((wrT Hs r.wr).set 1 (.arr 1 0 [[r.d]])).get x=(wrT Hs r.wr).get x:=fun x hx=>by
   rw[Vse.T.zad,if_neg hx]
  refine⟨by omega,⟨by rw[ev];exact zaS hr2 (Z2 _) fun x h1 h2=>hst x (by omega),fun i es ro els h1 h2=> ?_,fun x h1 h2 h3=> ?_,fun x hx=> ?_⟩,fun e=> ?_⟩
  .have:=zbW hr2 h1;rw[hst i (by omega)]at h2;exact hr6 i es ro els h1 h2
  .rw[if_neg h2,hr4 x (by omega) h3,hup2 x h1]
  .rcases hr5 x hx with rfl|e
   .exact .inl (by omega)
   .exact .inr e
  .exfalso;have:=zJ5 (zcA (zcA c [(c,some (Ob.arr 4 0 [[.f (.s []),.f (.i .i64 1),.f (.i .i64 v),.f (.s [])]]))]) r.wr) 1 (some (Ob.arr 1 0 [[r.d]])) [];omega
def fn16:pr.fn 16=some g16:=by kernel_rfl
def zK9{h:T Ob}{c:Nat}:Eff pr 118 [.f .nils,.f (.i .i64 0),.f (.i .i64 0),.f (.fn 44)] h c fun _ h' _=>h'=h:=by
 refine zci zbi zHV ?_;simp only[zs9,rU];simp[rW,st0,zae];refine zfE (fun _ s=>(s.tm.get 2=some (.f (.i .i64 0))/\s.tm.get 8=some (.f (.i .i64 1)))/\s.h=h/\s.lw=c) (fun x s=>x= .exit 0/\s.h=h) ?_ 0 _ ?_ ?_
 .rintro k s ⟨⟨h2,h8⟩,hsh,hsl⟩;simp[rW,h2,h8];exact hsh
 .simp[rW,];rfl
 .rintro x s ⟨rfl,hsh⟩;simp[rW,zjt,hsh,ziG]
def zO8{h:T Ob}{c lm:Nat}:Eff pr 78 [.f .nils,.f (.i .i64 0),.f (.i .i64 0),.f (.i .i64 lm),.f (.fn 44)] h c fun _ h' _=>h'=h:=by
 refine zci zbi fn78 ?_;simp only[g78,rU];simp[rW,st0,zae];refine zfE (fun _ s=>(s.tm.get 0=some (.f .nils)/\s.tm.get 1=some (.f (.i .i64 0))/\s.tm.get 2=some (.f (.i .i64 0))/\s.tm.get 4=some (.f (.fn 44)))/\s.h=h/\s.lw=c) (fun x s=>x= .ret/\s.h=h) ?_ 0 _ ?_ ?_
 .rintro k s ⟨⟨h0,h1,h2,h4⟩,hsh,hsl⟩;have hw:IntKind.i64.wrap 0=0:=rfl;simp[rW,h0,h1,h2,h4,hw];refine zcz (h:=h) (c:=s.c) (by simp only[rG];exact hsh) (by simp only[rG]) zK9 ?_;rintro d' h' c' lw mx rfl hcc;simp[rW,]
 .simp[rW,]
 .rintro x s ⟨rfl,hsh⟩;simp[rW,zbl,hsh,ziG]
def zO0{h:T Ob}{c:Nat}:Eff pr 43 [.f .nils,.f (.fn 44)] h c fun _ h' _=>h'=h:=by
 refine zci zbi fn43 ?_;simp only[g43,rU];have hu:IntKind.u64.wrap 0=0:=rfl;simp[rW,st0,zae,hu];refine zdo (ro79 (x:=0) (by omega)) ?_ ?_
 .simp only[rG];omega
 intro mx0;generalize Go.Sort.bitsLen 0=lm;simp[rW,zae];refine zcz (h:=h) (c:=c) (by simp only[rG]) (by simp only[rG]) zO8 ?_;rintro d' h' c' lw mx rfl hcc;simp[rW,zjt,ziG]
def zO1{h:T Ob}{c:Nat}:Eff pr 45 [.f .nils,.f (.fn 46)] h c fun d h' _=>d= .f .nils/\h'=h:=by
 refine zci zbi fn45 ?_;simp only[g45,rU];simp[rW,st0,zae,zbl]
def KB(ns:List Int)(P:Option Nat)(s:St):Prop:=∃dl,(s.tm.get 3=some (.ptr 1 1 0 0)/\s.tm.get 4=some (.fn 42 [] [.ptr 1 1 0 0])/\s.h.get 1=some (.arr 1 0 [[dl]]))/\Gro s.h 2 s.c 3 dl (vE ns)/\GZ s.h dl/\2<=s.c/\∀p,P=some p->dl.oid≠some p
def G1(l:List CQ)(n:Nat)(s:St):Prop:=KB (kcs ((l.take n).flatMap tsC)) none s/\s.tm.get 15=some (.f (qsF l))/\s.tm.get 16=some (.f (.i .i64 l.length))/\s.tm.get 17=some (.f (.i .i64 n))
def G2(l:List CQ)(n:Nat)(q:CQ)(ns:List Int)(P m:Nat)(s:St):Prop:=KB (ns++kcs ((q.as.take m).flatMap fun a=>a.ts)) (some P) s/\(s.tm.get 15=some (.f (qsF l))/\s.tm.get 16=some (.f (.i .i64 l.length))/\s.tm.get 17=some (.f (.i .i64 n))/\s.tm.get 6=some (.ptr P 2 0 0)/\s.tm.get 22=some (.f (zaB q))/\s.tm.get 23=some (.f (.i .i64 q.as.length))/\s.tm.get 24=some (.f (.i .i64 m))/\s.h.get P=some (.arr 2 0 [[.f (zaB q),.f (zaC q)]]))/\P<s.c/\2<=P
def G3(l:List CQ)(n:Nat)(q:CQ)(ns:List Int)(P m:Nat)(ts:List Trm)(k:Nat)(s:St):Prop:=KB (ns++kcs (ts.take k)) (some P) s/\(s.tm.get 15=some (.f (qsF l))/\s.tm.get 16=some (.f (.i .i64 l.length))/\s.tm.get 17=some (.f (.i .i64 n))/\s.tm.get 6=some (.ptr P 2 0 0)/\s.tm.get 22=some (.f (zaB q))/\s.tm.get 23=some (.f (.i .i64 q.as.length))/\s.tm.get 24=some (.f (.i .i64 m))/\s.tm.get 29=some (.f (zaW ts))/\s.tm.get 30=some (.f (.i .i64 ts.length))/\s.tm.get 31=some (.f (.i .i64 k))/\s.h.get P=some (.arr 2 0 [[.f (zaB q),.f (zaC q)]]))/\P<s.c/\2<=P
def G4(l:List CQ)(n:Nat)(q:CQ)(ns:List Int)(m:Nat)(s:St):Prop:=KB (ns++kcs ((q.cs.take m).flatMap ts2)) none s/\(s.tm.get 15=some (.f (qsF l))/\s.tm.get 16=some (.f (.i .i64 l.length))/\s.tm.get 17=some (.f (.i .i64 n))/\s.tm.get 41=some (.f (zaC q))/\s.tm.get 42=some (.f (.i .i64 q.cs.length))/\s.tm.get 43=some (.f (.i .i64 m)))
def KB.up{ns:List Int}{P P':Option Nat}{s S:St}(H:KB ns P s)(hc:s.c<=S.c)(hh:∀x,x<s.c->S.h.get x=s.h.get x)(t3:S.tm.get 3=s.tm.get 3)(t4:S.tm.get 4=s.tm.get 4)(hP:∀p,P'=some p->P=some p\/s.c<=p):KB ns P' S:=by
 obtain⟨dl,⟨h3,h4,g1⟩,hg,hz,hlo,hd⟩ :=H;refine⟨dl,⟨t3.trans h3,t4.trans h4,(hh 1 (by omega)).trans g1⟩,zaS hg hc fun x _ hx=>hh x hx,fun i es ro els h1 h2=> ?_,by omega,fun p hp e=> ?_⟩
 .have:=zbW hg h1;rw[hh i this.2]at h2;exact hz i es ro els h1 h2
 .rcases hP p hp with h|h
  .exact hd p h e
  .have:=zbW hg e;omega
def zOs(hd:List Str)(l:List CQ)(hQ:QG hd l)(hk:(kcs (l.flatMap tsC)).length<=12):Ans pr 16 [.ag [zaq hd,qsF l]] (iF (dd (zf2 (kcs (l.flatMap tsC))))):=by
 obtain⟨hh,hl,hq⟩ :=hQ;refine zbd fn16 ?_;simp only[g16,rU];simp[rW,st0,zae,zaN,zcy,zbN];refine zdi l.length (G1 l) (fun e s=>e= .exit 0/\G1 l l.length s) ?_ ?_ _ ?_ ?_
 .rintro n s hn ⟨⟨dl,⟨h3,h4,g1⟩,hg,hz,hlo,-⟩,h15,h16,h17⟩;have hw:=zao n (by omega);have hx:l[n]? =some l[n]:=Z0 hn;have hG:=hq _ (Z1 hn);have hk2:=Z6 hn;have hle:((l.take n).flatMap tsC).length<=424000:=by
   have:=ze8 tsC 424 (l.take n) fun c hc=>zQ5 (hq c (Z13 hc))
   simp only[Z41]at this;omega
  have hle2:=zjD ((l.take n).flatMap tsC);generalize hA:l[n]=q at hx hG hk2;have hsplit:kcs ((l.take (n+1)).flatMap tsC)=kcs ((l.take n).flatMap tsC)++kcs (q.as.flatMap fun a=>a.ts)++kcs (q.cs.flatMap ts2):=by
   rw[hk2];simp[kcs,tsC,tsA,List.flatMap_append]
  generalize kcs ((l.take n).flatMap tsC)=ns at*;have n1:¬(1=s.c):=by omega
  simp[rW,h3,h4,h15,h16,h17,g1,hn,zbN,zdr,hx,hA,cqE,zaF,zaH,za1,n1];refine zdi q.as.length (G2 l n q ns s.c) (fun e s'=>e= .exit 2/\G2 l n q ns s.c q.as.length s') ?_ ?_ _ ?_ ?_
  .rintro m s' hm ⟨hK,⟨h15,h16,h17,h6,h22,h23,h24,gP⟩,hP1,hP2⟩;have hw2:=zao m (by have:=hG.sa;omega);have hxa:q.as[m]? =some q.as[m]:=Z0 hm;have hk3:=Z6 hm;have hst:=hG.st _ (Z1 hm);have hok:=(hG.toCqSm.toCqOk.as _ (Z1 hm)).1;have hal:(kcs ((q.as.take m).flatMap fun a=>a.ts)).length<=24:=by
    have h1:=zjD ((q.as.take m).flatMap fun a=>a.ts);have h2:=ze8 (fun a:Atm=>a.ts) 2 (q.as.take m) fun a ha=>hG.s2 a (Z13 ha)
    have:=hG.sa;simp only[Z41]at h2;omega
   generalize hB:q.as[m]=a at hxa hk3 hst hok;have hsp2:kcs ((q.as.take (m+1)).flatMap fun a=>a.ts)=kcs ((q.as.take m).flatMap fun a=>a.ts)++kcs a.ts:=by
    rw[hk3];simp[kcs,List.flatMap_append]
   generalize kcs ((q.as.take m).flatMap fun a=>a.ts)=na at*;have hnn:(ns++na).length<=500000:=by rw[Z16];omega
   obtain⟨dl,⟨h3,h4,g1⟩,hg,hz,hlo,hd⟩ :=id hK;have n1':¬(1=s'.c):=by omega
   have nP':¬(s.c=s'.c):=by omega
   simp[rW,h3,h4,h6,h15,h16,h17,h22,h23,h24,g1,gP,hm,zbh,hxa,hB,atE,zaR,zaO,n1',nP'];refine zdi a.ts.length (G3 l n q (ns++na) s.c m a.ts) (fun e s2=>e= .exit 4/\G3 l n q (ns++na) s.c m a.ts a.ts.length s2) ?_ ?_ _ ?_ ?_
   .rintro k s2 hk ⟨⟨dl,⟨h3,h4,g1⟩,hg,hz,hlo,hd⟩,⟨h15,h16,h17,h6,h22,h23,h24,h29,h30,h31,gP⟩,hP1,hP2⟩;have hw3:=zao k (by omega);have hxt:a.ts[k]? =some a.ts[k]:=Z0 hk;have hk4:=Z6 hk;have hot:=hok _ (Z1 hk);have hkl:=zjD (a.ts.take k);rw[Z41]at hkl;generalize hT:a.ts[k]=t at hxt hk4 hot;have hsp3:kcs (a.ts.take (k+1))=kcs (a.ts.take k)++kc t:=by
     rw[hk4];simp[kcs,List.flatMap_append]
    have m1:¬(1=s2.c):=by omega
    simp[rW,h3,h4,h6,h15,h16,h17,h22,h23,h24,h29,h30,h31,g1,gP,hk,zbk,hxt,hT,tmE,m1];refine zcz rfl rfl (zx7 t hot (dl:=dl) (ns:=ns++na++kcs (a.ts.take k)) ?_ ?_ ?_ ?_ ?_) ?_
    .simp only[rG];simp[rW,g1,m1]
    .simp only[rG];refine zaS hg (by omega) fun x h1 h2=> ?_
     have nx:¬x=s2.c:=by omega
     simp[rW,nx]
    .simp only[rG];intro i es ro els h1 h2;have:=zbW hg h1;have nx:¬i=s2.c:=by omega
     refine hz i es ro els h1 ?_;rw[<-h2];simp[rW,nx]
    .rw[Z16];omega
    .simp only[rG];omega
    rintro d' h' c' lw' mx' ⟨dl',hL',hg',hz',hfr,hoid⟩ hcc;simp only[rG]at hL' hg' hz' hfr hoid hcc;have zP:=hfr s.c (by omega) (by omega) (hd _ rfl);have nPs:¬(s.c=s2.c):=by omega
    simp[Vse.T.zad,nPs,gP]at zP;simp[rW,h3,h4,h6,h15,h16,h17,h22,h23,h24,h29,h30,h31,hw3];refine⟨⟨dl',⟨?_,?_,?_⟩,?_,?_,?_,fun p hp e=> ?_⟩,⟨?_,?_,?_,?_,?_,?_,?_,?_,?_,?_,?_⟩,?_,hP2⟩
    .simp[rW,h3]
    .simp[rW,h4]
    .simp[rW,hL']
    .rw[hsp3];rw[Z32]at hg';simp[rW,]
     first
      |exact hg'
      |(rw[<-Z32]at hg';exact hg')
      |(simp only[Z32]at hg'|-;exact hg')
    .simp[rW,];exact hz'
    .simp[rW,]<;>omega
    .cases hp;rcases hoid _ e with h|h
     .omega
     .exact hd _ rfl h
    .simp[rW,h15]
    .simp[rW,h16]
    .simp[rW,h17]
    .simp[rW,h6]
    .simp[rW,h22]
    .simp[rW,h23]
    .simp[rW,h24]
    .simp[rW,h29]
    .simp[rW,h30]
    .simp[rW,hw3]
    .simp[rW,zP]
    .simp[rW,]<;>omega
   .rintro s2 ⟨hK,⟨h15,h16,h17,h6,h22,h23,h24,h29,h30,h31,gP⟩,hP1,hP2⟩;simp[rW,h6,h15,h16,h17,h22,h23,h24,h29,h30,h31,gP];refine⟨hK.up (by simp[rW,]) (fun x hx=>by simp[rW,]) (by simp[rW,]) (by simp[rW,]) fun p hp=> .inl hp,⟨?_,?_,?_,?_,?_,?_,?_,?_,?_,?_,?_⟩,?_,hP2⟩
    .simp[rW,h15]
    .simp[rW,h16]
    .simp[rW,h17]
    .simp[rW,h6]
    .simp[rW,h22]
    .simp[rW,h23]
    .simp[rW,h24]
    .simp[rW,h29]
    .simp[rW,h30]
    .simp[rW,h31]
    .simp[rW,gP]
    .simp[rW,]<;>omega
   .refine⟨?_,⟨?_,?_,?_,?_,?_,?_,?_,?_,?_,?_,?_⟩,?_,hP2⟩
    .have e0:ns++na++kcs (a.ts.take 0)=ns++na:=by simp[kcs]
     rw[e0];refine hK.up (by simp[rW,]<;>omega) (fun x hx=> ?_) (by simp[rW,]) (by simp[rW,]) fun p hp=> .inl hp
     have nx:¬x=s'.c:=by omega
     simp[rW,nx]
    .simp[rW,h15]
    .simp[rW,h16]
    .simp[rW,h17]
    .simp[rW,h6]
    .simp[rW,h22]
    .simp[rW,h23]
    .simp[rW,h24]
    .simp[rW,]
    .simp[rW,]
    .simp[rW,]
    .simp[rW,gP,nP']
    .simp[rW,]<;>omega
   .rintro e s2 ⟨rfl,hK,⟨h15,h16,h17,h6,h22,h23,h24,h29,h30,h31,gP⟩,hP1,hP2⟩;rw[Z7]at hK;simp[rW,h6,h15,h16,h17,h22,h23,h24,h29,h30,h31,gP,hw2];refine⟨?_,⟨?_,?_,?_,?_,?_,?_,?_,?_⟩,?_,hP2⟩
    .rw[hsp2,<-Z32];exact hK.up (by simp[rW,]) (fun x hx=>by simp[rW,]) (by simp[rW,]) (by simp[rW,]) fun p hp=> .inl hp
    .simp[rW,h15]
    .simp[rW,h16]
    .simp[rW,h17]
    .simp[rW,h6]
    .simp[rW,h22]
    .simp[rW,h23]
    .simp[rW,hw2]
    .simp[rW,gP]
    .simp[rW,]<;>omega
  .rintro s' ⟨hK,⟨h15,h16,h17,h6,h22,h23,h24,gP⟩,hP1,hP2⟩;simp[rW,h6,h15,h16,h17,h22,h23,h24,gP];refine⟨?_,⟨?_,?_,?_,?_,?_,?_,?_,?_⟩,?_,hP2⟩
   .exact hK.up (by simp[rW,]) (fun x hx=>by simp[rW,]) (by simp[rW,]) (by simp[rW,]) fun p hp=> .inl hp
   .simp[rW,h15]
   .simp[rW,h16]
   .simp[rW,h17]
   .simp[rW,h6]
   .simp[rW,h22]
   .simp[rW,h23]
   .simp[rW,h24]
   .simp[rW,gP]
   .simp[rW,]<;>omega
  .have hK0:KB (ns++kcs ((q.as.take 0).flatMap fun a=>a.ts)) none s:=by
    have e0:ns++kcs ((q.as.take 0).flatMap fun a=>a.ts)=ns:=by simp[kcs]
    rw[e0];exact⟨dl,⟨h3,h4,g1⟩,hg,hz,hlo,fun p hp=>by cases hp⟩
   refine⟨?_,⟨?_,?_,?_,?_,?_,?_,?_,?_⟩,?_,hlo⟩
   .refine hK0.up (by simp[rW,]<;>omega) (fun x hx=> ?_) (by simp[rW,]) (by simp[rW,]) fun p hp=> .inr (by cases hp;exact Z2 _)
    have nx:¬x=s.c:=by omega
    simp[rW,nx]
   .simp[rW,h15]
   .simp[rW,h16]
   .simp[rW,h17]
   .simp[rW,]
   .simp[rW,]
   .simp[rW,]
   .simp[rW,]
   .simp[rW,]
   .simp[rW,]<;>omega
  .rintro e s' ⟨rfl,hK,⟨h15,h16,h17,h6,h22,h23,h24,gP⟩,hP1,hP2⟩;rw[Z7]at hK;have hal:(kcs (q.as.flatMap fun a=>a.ts)).length<=24:=by
    have h1:=zjD (q.as.flatMap fun a=>a.ts);have h2:=ze8 (fun a:Atm=>a.ts) 2 q.as hG.s2;have:=hG.sa;omega
   generalize kcs (q.as.flatMap fun a=>a.ts)=na at*;have hnn:(ns++na).length<=500000:=by rw[Z16];omega
   simp[rW,h6,h15,h16,h17,h22,h23,h24,gP,zbf];refine zdi q.cs.length (G4 l n q (ns++na)) (fun e s2=>e= .exit 6/\G4 l n q (ns++na) q.cs.length s2) ?_ ?_ _ ?_ ?_
   .rintro m s2 hm ⟨⟨dl,⟨h3,h4,g1⟩,hg,hz,hlo,-⟩,h15,h16,h17,h41,h42,h43⟩;have hw3:=zao m (by have:=hG.sc;omega);have hxt:q.cs[m]? =some q.cs[m]:=Z0 hm;have hk4:=Z6 hm;have hok:=hG.toCqSm.toCqOk.cs _ (Z1 hm);have hkl:(kcs ((q.cs.take m).flatMap ts2)).length<=400:=by
     have h1:=zjD ((q.cs.take m).flatMap ts2);have h2:=ze8 ts2 2 (q.cs.take m) fun k _=>by simp[ts2]
     have:=hG.sc;simp only[Z41]at h2;omega
    generalize hT:q.cs[m]=k at hxt hk4 hok;obtain⟨op,a,b⟩ :=k;have hsp3:kcs ((q.cs.take (m+1)).flatMap ts2)=kcs ((q.cs.take m).flatMap ts2)++kc a++kc b:=by
     rw[hk4];simp[kcs,List.flatMap_append,ts2]
    generalize kcs ((q.cs.take m).flatMap ts2)=nb at*;have hbl:(ns++na++nb).length<=600000:=by rw[Z16];omega
    have m1:¬(1=s2.c):=by omega
    simp[rW,h3,h4,h15,h16,h17,h41,h42,h43,g1,hm,zcZ,hxt,hT,zet,cmD,tmD,m1];refine zcz rfl rfl (zx7 a hok.1 (dl:=dl) (ns:=ns++na++nb) ?_ ?_ ?_ ?_ ?_) ?_
    .simp only[rG];simp[rW,g1,m1]
    .simp only[rG];refine zaS hg (by omega) fun x h1 h2=> ?_
     have nx:¬x=s2.c:=by omega
     simp[rW,nx]
    .simp only[rG];intro i es ro els h1 h2;have:=zbW hg h1;have nx:¬i=s2.c:=by omega
     refine hz i es ro els h1 ?_;rw[<-h2];simp[rW,nx]
    .omega
    .simp only[rG];omega
    rintro d' h' c' lw' mx' ⟨dl',hL',hg',hz',hfr,hoid⟩ hcc;simp only[rG]at hL' hg' hz' hfr hoid hcc;have zP:=hfr s2.c (by omega) (by omega) (fun e=>by have:=zbW hg e;omega);simp[Vse.T.zad]at zP;simp[rW,h3,h4,h15,h16,h17,h41,h42,h43,zP];refine zcz rfl rfl (zx7 b hok.2 (dl:=dl') (ns:=ns++na++nb++kc a) ?_ ?_ ?_ ?_ ?_) ?_
    .simp only[rG];exact hL'
    .simp only[rG];exact hg'
    .simp only[rG];exact hz'
    .have:=zBz a;rw[Z16];omega
    .simp only[rG];omega
    rintro d2 h2 c2 lw2 mx2 ⟨dl2,hL2,hg2,hz2,hfr2,hoid2⟩ hcc2;simp only[rG]at hL2 hg2 hz2 hfr2 hoid2 hcc2;simp[rW,h15,h16,h17,h41,h42,h43,hw3];refine⟨⟨dl2,⟨?_,?_,?_⟩,?_,?_,?_,fun p hp=>by cases hp⟩,?_,?_,?_,?_,?_,?_⟩
    .simp[rW,h3]
    .simp[rW,h4]
    .simp[rW,hL2]
    .rw[hsp3];simp[rW,]
     first
      |exact hg2
      |(simp only[Z32]at hg2|-;exact hg2)
    .simp[rW,];exact hz2
    .simp[rW,]<;>omega
    .simp[rW,h15]
    .simp[rW,h16]
    .simp[rW,h17]
    .simp[rW,h41]
    .simp[rW,h42]
    .simp[rW,hw3]
   .rintro s2 ⟨hK,h15,h16,h17,h41,h42,h43⟩;simp[rW,h15,h16,h17,h41,h42,h43];refine⟨hK.up (by simp[rW,]) (fun x hx=>by simp[rW,]) (by simp[rW,]) (by simp[rW,]) fun p hp=> .inl hp,?_,?_,?_,?_,?_,?_⟩
    .simp[rW,h15]
    .simp[rW,h16]
    .simp[rW,h17]
    .simp[rW,h41]
    .simp[rW,h42]
    .simp[rW,h43]
   .refine⟨?_,?_,?_,?_,?_,?_,?_⟩
    .have e0:ns++na++kcs ((q.cs.take 0).flatMap ts2)=ns++na:=by simp[kcs]
     rw[e0];exact hK.up (by simp[rW,]) (fun x hx=>by simp[rW,]) (by simp[rW,]) (by simp[rW,]) fun p hp=>by cases hp
    .simp[rW,h15]
    .simp[rW,h16]
    .simp[rW,h17]
    .simp[rW,]
    .simp[rW,]
    .simp[rW,]
   .rintro e s2 ⟨rfl,hK,h15,h16,h17,h41,h42,h43⟩;rw[Z7]at hK;simp[rW,h15,h16,h17,h41,h42,h43,hw];refine⟨?_,?_,?_,?_⟩
    .rw[hsplit];exact hK.up (by simp[rW,]) (fun x hx=>by simp[rW,]) (by simp[rW,]) (by simp[rW,]) fun p hp=>by cases hp
    .simp[rW,h15]
    .simp[rW,h16]
    .simp[rW,hw]
 .rintro s ⟨hK,h15,h16,h17⟩;simp[rW,h15,h16,h17];refine⟨hK.up (by simp[rW,]) (fun x hx=>by simp[rW,]) (by simp[rW,]) (by simp[rW,]) fun p hp=> .inl hp,?_,?_,?_⟩
  .simp[rW,h15]
  .simp[rW,h16]
  .simp[rW,h17]
 .refine⟨⟨.f .nils,⟨?_,?_,?_⟩,.inl ⟨rfl,rfl⟩,?_,?_,?_⟩,?_,?_,?_⟩
  .simp[rW,]
  .simp[rW,]
  .simp[rW,]
  .exact fun i es ro els h1=>by cases h1
  .simp[rW,]
  .exact fun p hp=>by cases hp
  .simp[rW,]
  .simp[rW,]
  .simp[rW,]
 .rintro e s ⟨rfl,⟨dl,⟨h3,h4,g1⟩,hg,hz,hlo,-⟩,h15,h16,h17⟩;rw[Z7]at hg;have hcell:=za3 hg;generalize kcs (l.flatMap tsC)=ns at hg hk|-;rcases hg with⟨rfl,e⟩ |⟨id,ro,rfl,hne,gI,hro,hi1,hi2⟩
  .have e0:ns=[]:=by simpa [vE]using e
   subst e0;simp[rW,h3,h4,g1];refine zcz rfl rfl zO0 ?_;rintro d' h' c' lw' mx' rfl hcc;simp[rW,h3,h4,g1];refine zcz rfl rfl zO1 ?_;rintro d' h' c' lw' mx' ⟨rfl,rfl⟩ hcc;simp[rW,];simp[zf2,dd,iF,slc]
  .have hr0:ro=0:=hz id _ ro _ rfl gI;subst hr0;have hne':ns≠[]:=fun e=>hne (by rw[e];rfl)
   simp only[zeN]at hcell|-;have hsl:(zf2 ns).length=ns.length:=List.length_mergeSort ..;simp[rW,h3,h4,g1,zeN];have n1:¬(id=1):=by omega
   refine zcz rfl rfl (eff43 ns hk (id:=id) (by simp only[rG];exact hi2) (by simp only[rG];rw[gI])) ?_;rintro d' h' c' lw' mx' ⟨hs,hf⟩ hcc;simp only[rG]at hs hf hcc;have f1:=hf 1 (by omega) n1;rw[g1,zeN]at f1;generalize hS:zf2 ns=S at*;have hSne:S≠[]:=fun e=>hne' (Z17.1 (by rw[<-hsl,e];rfl))
   simp[rW,h3,h4,f1];rw[<-hsl];refine zcz rfl rfl (eff45 S (by omega) (id:=id) (by simp only[rG];exact hs) (by simp only[rG];omega) hSne) ?_;rintro d2 h2 c2 lw2 mx2 ⟨rows,rfl,hg2,hrl,hrt,hf2⟩ hcc2;simp only[rG]at hg2 hf2 hcc2;have hdl:=zlt (l:=S);have hz:frz h2.get 12 (.sl id 0 (dd S).length 3 S.length false)=some (iF (dd S),[id]):=by
    have e2:vE (dd S)=((dd S).map vF).map fun a=>a.map D.f:=by simp[vE,vD,vF,Function.comp_def]
    have hdn:dd S≠[]:=by
     cases S with
     |nil=>exact absurd rfl hSne
     |cons a S=>simp[dd]
    rw[zdx,hg2,za9,zdf,if_pos ⟨rfl,by rw[Z25,hrl];exact hdl⟩,Z34,hrt,e2,zfm h2.get 10 _,za9,zbR (by simpa using hdn)];rfl
   simp[rW,hz]
end Go.Proofs.YtmnkdfjljkhneaaGreat
end
