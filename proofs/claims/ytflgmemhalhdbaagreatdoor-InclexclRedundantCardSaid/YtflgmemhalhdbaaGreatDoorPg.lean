/- slices.SortFunc: partition. -/
import Derived.Test.YtflgmemhalhdbaaGreatDoorPf
import Derived.KernelRfl
import Derived.IntWalk
import Derived.Laws.Bits64
import Derived.Laws.Bits64b
import Derived.Sort.LotD5
set_option linter.all false
set_option maxRecDepth 100000
set_option maxHeartbeats 4000000
section
namespace Go.Proofs.YtflgmemhalhdbaaGreatDoor
open Go Go.Vse Go.Vse.Sm
def fn129:pr.fn 129=some zzo:=by kernel_rfl
def PU(h:T Ob)(c id n a b lo j:Nat)(d:Array Trm)(r:Nat)(k:Nat)(s:St):Prop:=∃i:Nat,(k=n+1 - i/\lo<=i/\i<=b)/\(s.tm.get 0=some (.sl id 0 n 4 n false)/\s.tm.get 1=some (.f (.i .i64 a))/\s.tm.get 4=some (.f (.fn 86))/\s.tm.get 13=some (.f (.i .i64 j))/\s.tm.get 12=some (.f (.i .i64 i)))/\zaR h c id n d s.h s.c s.lw/\Go.Sort.scanUp (fun x=>ltT x d[a]!) d j i=r
def PUp(h:T Ob)(c id n a b lo j:Nat)(d:Array Trm)(r:Nat)(s:St):Prop:=(lo<=r/\r<=b)/\(s.tm.get 0=some (.sl id 0 n 4 n false)/\s.tm.get 1=some (.f (.i .i64 a))/\s.tm.get 4=some (.f (.fn 86))/\s.tm.get 13=some (.f (.i .i64 j))/\s.tm.get 12=some (.f (.i .i64 r)))/\zaR h c id n d s.h s.c s.lw
def PD(h:T Ob)(c id n a b i hi:Nat)(d:Array Trm)(r:Nat)(k:Nat)(s:St):Prop:=∃j:Nat,(k=j/\j<=hi)/\(s.tm.get 0=some (.sl id 0 n 4 n false)/\s.tm.get 1=some (.f (.i .i64 a))/\s.tm.get 4=some (.f (.fn 86))/\s.tm.get 12=some (.f (.i .i64 i))/\s.tm.get 13=some (.f (.i .i64 j)))/\zaR h c id n d s.h s.c s.lw/\Go.Sort.scanDown (fun x=>!ltT x d[a]!) d i j=r
def PDp(h:T Ob)(c id n a b i hi:Nat)(d:Array Trm)(r:Nat)(s:St):Prop:=r<=hi/\(s.tm.get 0=some (.sl id 0 n 4 n false)/\s.tm.get 1=some (.f (.i .i64 a))/\s.tm.get 4=some (.f (.fn 86))/\s.tm.get 12=some (.f (.i .i64 i))/\s.tm.get 13=some (.f (.i .i64 r)))/\zaR h c id n d s.h s.c s.lw
def PL(h:T Ob)(c id n a b:Nat)(D1:Nat×Array Trm)(k:Nat)(s:St):Prop:=∃(d:Array Trm) (i j:Nat),(k=j+1 - i/\a+1<=i/\i<=b/\j<b)/\(s.tm.get 0=some (.sl id 0 n 4 n false)/\s.tm.get 1=some (.f (.i .i64 a))/\s.tm.get 4=some (.f (.fn 86))/\s.tm.get 12=some (.f (.i .i64 i))/\s.tm.get 13=some (.f (.i .i64 j)))/\zaR h c id n d s.h s.c s.lw/\Go.Sort.partLoop ltT a i j d=D1
theorem zBR{h:T Ob}{c id n a b pv:Nat}(d0:Array Trm)(gR:zb8 h id d0)(hok:OkA d0)(hn:d0.size=n)(hsz:n<100000)(hb:b<=n)(hab:a<b)(hpv:pv<n)(hid:id<c):
  zhz pr 129 [.sl id 0 n 4 n false,.f (.i .i64 a),.f (.i .i64 b),.f (.i .i64 pv),.f (.fn 86)] h c fun v h' c' lw=>v= .tu [.f (.i .i64 (Go.Sort.partition ltT d0 a b pv).1),.f (.b (Go.Sort.partition ltT d0 a b pv).2.1)]/\zaR h c id n (Go.Sort.partition ltT d0 a b pv).2.2 h' c' lw:=by
 refine zfL fn129 ?_;simp only[zzo,rU];obtain⟨a1,ha1⟩ :∃a1,a1=a+1:=⟨_,rfl⟩
 obtain⟨b1,hb1⟩ :∃b1,b1=b - 1:=⟨_,rfl⟩
 have hwa:IntKind.i64.wrap ((a:Int)+1)=(a1:Int):=by rw[za4 _ (by omega) (by omega)];omega
 have hwb:IntKind.i64.wrap ((b:Int) - 1)=(b1:Int):=by rw[za4 _ (by omega) (by omega)];omega
 obtain⟨d,hd⟩ :∃d,d=Go.Sort.swp d0 a pv:=⟨_,rfl⟩
 obtain⟨i2,hi2⟩ :∃i2,i2=Go.Sort.scanUp (fun x=>ltT x d[a]!) d b1 a1:=⟨_,rfl⟩
 obtain⟨j2,hj2⟩ :∃j2,j2=Go.Sort.scanDown (fun x=>!ltT x d[a]!) d i2 b1:=⟨_,rfl⟩
 obtain⟨i3,hi3⟩ :∃i3,i3=i2+1:=⟨_,rfl⟩
 obtain⟨j3,hj3⟩ :∃j3,j3=j2 - 1:=⟨_,rfl⟩
 obtain⟨D2,hD2⟩ :∃D2,D2=Go.Sort.partLoop ltT a i3 j3 (Go.Sort.swp d i2 j2):=⟨_,rfl⟩
 obtain⟨D1,hD1⟩ :∃D1,D1=Go.Sort.partition ltT d0 a b pv:=⟨_,rfl⟩
 have hP:D1=if j2<i2 then(j2,true,Go.Sort.swp d j2 a)else(D2.1,false,Go.Sort.swp D2.2 D2.1 a):=by
  rw[hD1,hD2,hj3,hi3,hj2,hi2,hd,ha1,hb1];rfl
 rw[<-hD1];clear hD1;have HS:=zaR.refl (c:=c) gR hok hn;simp[rW,st0,zah];have hX:a<n:=by omega
 have hY:pv<n:=by omega
 have gR:=HS.row;unfold zb8 at gR;have hlo:=HS.low;have hle:=HS.le;have e1:=zaK d0 (i:=a) (by rw[HS.sz];omega);have e0:=zaK d0 (i:=pv) (by rw[HS.sz];omega);have e0':=zcf d0 a (j:=pv) (by rw[HS.sz];omega);have hsw:=zdq d0 a pv;rw[<-hd]at hsw;generalize hT1:d0[a]! =t1 at e1 e0 e0' hsw;generalize hT2:d0[pv]! =t2 at e1 e0 e0' hsw;have hh8:hd8 ((zaH d0.toList).set a (tmD t2))=false:=zcY _ _ _;simp only[tmD]at e1 e0 e0' hsw hh8;refine zaF ?_;simp[rW,gR,hX,hY,e1,e0,e0',hh8,zcF,hsw,hwa,hwb,zah];refine⟨by omega,by omega,?_⟩;refine zcN (PU h c id n a b a1 b1 d i2) (fun x s=>x= .exit 0/\PUp h c id n a b a1 b1 d i2 s) ?_ (n+1 - a1) _ ?_ ?_
 .rintro k s ⟨i,⟨rfl,hil,hin0⟩,⟨h0,h1,h4,h13,h12⟩,HS,hD⟩;obtain⟨i1,hi1⟩ :∃i1,i1=i+1:=⟨_,rfl⟩
  have hwi:IntKind.i64.wrap ((i:Int)+1)=(i1:Int):=by rw[za4 _ (by omega) (by omega)];omega
  by_cases hij:i<=b1
  .have hX:i<n:=by omega
   have hY:a<n:=by omega
   have e1:=zaK d (i:=i) (by rw[HS.sz];omega);have e0:=zaK d (i:=a) (by rw[HS.sz];omega);have hRO:=fun(H':Vse.T Ob) (c':Nat)=>zht d[i]! d[a]! (HS.ok i) (HS.ok a) (h:=H') (c:=c')
   have gR:=HS.row;unfold zb8 at gR;have hlo:=HS.low;have hle:=HS.le;have hsc:Go.Sort.scanUp (fun x=>ltT x d[a]!) d b1 i=if(zaX d[i]! d[a]! <0)then Go.Sort.scanUp (fun x=>ltT x d[a]!) d b1 i1 else i:=by
    rw[Go.Sort.scanUp,hi1];simp[hij,ltT]
   rw[hsc]at hD;clear hsc
   by_cases hlt:zaX d[i]! d[a]! <0
   .rw[Z52 (by simpa using hlt)]at hD;generalize hT1:d[i]! =t1 at e1 hRO hlt;generalize hT2:d[a]! =t2 at e0 hRO hlt;simp only[tmD]at e1 e0 hRO;simp[rW,h0,h1,h4,h13,h12,hij];refine za5 ?_;simp[rW,h0,h1,h4,h13,h12,hij,gR,hX,hY,e1,e0];refine zbS (d:= .f (.i .i64 (zaX t1 t2))) (hRO _ _) ?_ ?_ ?_
    .simp only[rG];omega
    .simp[ckG,ck1]
    intro mx hmx;simp only[rG]at hmx;simp[rW,h0,h1,h4,h13,h12,hlt];rw[zcc];refine⟨n+1 - i1,by omega,i1,⟨rfl,by omega,by omega⟩,?_,?_,hD⟩
    .simp[rW,h0,h1,h4,h13,h12,hwi]
    .simp[rW,];exact HS.cc (by omega)
   .rw[Z50 (by simpa using hlt)]at hD;generalize hT1:d[i]! =t1 at e1 hRO hlt;generalize hT2:d[a]! =t2 at e0 hRO hlt;simp only[tmD]at e1 e0 hRO;simp[rW,h0,h1,h4,h13,h12,hij];refine za5 ?_;simp[rW,h0,h1,h4,h13,h12,hij,gR,hX,hY,e1,e0];refine zbS (d:= .f (.i .i64 (zaX t1 t2))) (hRO _ _) ?_ ?_ ?_
    .simp only[rG];omega
    .simp[ckG,ck1]
    intro mx hmx;simp only[rG]at hmx;simp[rW,h0,h1,h4,h13,h12,hlt];rw[<-hD,PUp];simp[rW,h0,h1,h4,h13,h12];exact⟨by omega,HS.cc (by omega)⟩
  .have hsc:Go.Sort.scanUp (fun x=>ltT x d[a]!) d b1 i=i:=by
    rw[Go.Sort.scanUp];simp[hij]
   rw[hsc]at hD;simp[rW,h0,h1,h4,h13,h12,hij];refine za5 ?_;simp[rW,h0,h1,h4,h13,h12,hij];rw[<-hD,PUp];simp[rW,h0,h1,h4,h13,h12];exact⟨by omega,HS.cc (by omega)⟩
 .simp[rW,PU];exact⟨a1,⟨rfl,Z3 _,by omega⟩,rfl,by rw[hd];exact HS.swp hid a pv (by omega) (by rw[TG,Z52 rfl]) (fun q hq=>by rw[TG,Z50 hq,TG,Z50 hq]) (zdU _ _ _ _),hi2.symm⟩
 .clear HS gR hlo hle hX hY e1 e0 e0' hsw hh8 hT1 hT2;rintro x s ⟨rfl,⟨hc1,hc2⟩,⟨h0,h1,h4,h13,h12⟩,HS⟩;simp[rW,h0,h1,h4,h12,h13];refine zcN (PD h c id n a b i2 b1 d j2) (fun x s=>x= .exit 2/\PDp h c id n a b i2 b1 d j2 s) ?_ b1 _ ?_ ?_
  .rintro k s ⟨j,⟨hkj,hjl⟩,⟨h0,h1,h4,h12,h13⟩,HS,hD⟩;obtain⟨j1,hj1⟩ :∃j1,j1=j - 1:=⟨_,rfl⟩
   by_cases hij:i2<=j
   .have hX:j<n:=by omega
    have hY:a<n:=by omega
    have e1:=zaK d (i:=j) (by rw[HS.sz];omega);have e0:=zaK d (i:=a) (by rw[HS.sz];omega);have hRO:=fun(H':Vse.T Ob) (c':Nat)=>zht d[j]! d[a]! (HS.ok j) (HS.ok a) (h:=H') (c:=c')
    have gR:=HS.row;unfold zb8 at gR;have hlo:=HS.low;have hle:=HS.le;have hwj:IntKind.i64.wrap ((j:Int) - 1)=(j1:Int):=by rw[za4 _ (by omega) (by omega)];omega
    have hsc:Go.Sort.scanDown (fun x=>!ltT x d[a]!) d i2 j=if ¬(zaX d[j]! d[a]! <0)then Go.Sort.scanDown (fun x=>!ltT x d[a]!) d i2 j1 else j:=by
     obtain⟨j2,rfl⟩ :∃j2,j=j2+1:=⟨j - 1,by omega⟩
     rw[Go.Sort.scanDown,hj1];simp[hij,ltT]
    rw[hsc]at hD;clear hsc
    by_cases hlt:zaX d[j]! d[a]! <0
    .rw[Z50 (by simpa using hlt)]at hD;generalize hT1:d[j]! =t1 at e1 hRO hlt;generalize hT2:d[a]! =t2 at e0 hRO hlt;simp only[tmD]at e1 e0 hRO;simp[rW,h0,h1,h4,h12,h13,hij];refine za5 ?_;simp[rW,h0,h1,h4,h12,h13,hij,gR,hX,hY,e1,e0];refine zbS (d:= .f (.i .i64 (zaX t1 t2))) (hRO _ _) ?_ ?_ ?_
     .simp only[rG];omega
     .simp[ckG,ck1]
     intro mx hmx;simp only[rG]at hmx;simp[rW,h0,h1,h4,h12,h13,hlt];rw[<-hD,PDp];simp[rW,h0,h1,h4,h12,h13];exact⟨by omega,HS.cc (by omega)⟩
    .rw[Z52 (by simpa using hlt)]at hD;generalize hT1:d[j]! =t1 at e1 hRO hlt;generalize hT2:d[a]! =t2 at e0 hRO hlt;simp only[tmD]at e1 e0 hRO;simp[rW,h0,h1,h4,h12,h13,hij];refine za5 ?_;simp[rW,h0,h1,h4,h12,h13,hij,gR,hX,hY,e1,e0];refine zbS (d:= .f (.i .i64 (zaX t1 t2))) (hRO _ _) ?_ ?_ ?_
     .simp only[rG];omega
     .simp[ckG,ck1]
     intro mx hmx;simp only[rG]at hmx;simp[rW,h0,h1,h4,h12,h13,hlt];rw[zcc];refine⟨j1,by omega,j1,⟨rfl,by omega⟩,?_,?_,hD⟩
     .simp[rW,h0,h1,h4,h12,h13,hwj]
     .simp[rW,];exact HS.cc (by omega)
   .have hsc:Go.Sort.scanDown (fun x=>!ltT x d[a]!) d i2 j=j:=by
     cases j with
     |zero=>rfl
     |succ j2=>rw[Go.Sort.scanDown];simp[hij]
    rw[hsc]at hD;simp[rW,h0,h1,h4,h12,h13,hij];refine za5 ?_;simp[rW,h0,h1,h4,h12,h13,hij];rw[<-hD,PDp];simp[rW,h0,h1,h4,h12,h13];exact⟨by omega,HS.cc (by omega)⟩
  .simp[rW,PD,h0,h1,h4,h12,h13];exact⟨b1,⟨rfl,Z3 _⟩,rfl,HS,hj2.symm⟩
  .rintro x s ⟨rfl,hjl,⟨h0,h1,h4,h12,h13⟩,HS⟩
   by_cases hgt:j2<i2
   .rw[Z52 hgt]at hP;simp[rW,h0,h1,h4,h12,h13,hgt];have hX:j2<n:=by omega
    have hY:a<n:=by omega
    have gR:=HS.row;unfold zb8 at gR;have hlo:=HS.low;have hle:=HS.le;have e1:=zaK d (i:=j2) (by rw[HS.sz];omega);have e0:=zaK d (i:=a) (by rw[HS.sz];omega);have e0':=zcf d j2 (j:=a) (by rw[HS.sz];omega);have hsw:=zdq d j2 a
    skip
    generalize hT1:d[j2]! =t1 at e1 e0 e0' hsw;generalize hT2:d[a]! =t2 at e1 e0 e0' hsw;have hh8:hd8 ((zaH d.toList).set j2 (tmD t2))=false:=zcY _ _ _;simp only[tmD]at e1 e0 e0' hsw hh8;refine zaF ?_;simp[rW,h0,h1,h4,h12,h13,gR,hX,hY,e1,e0,e0',hh8,zcF,hsw,zhh];refine⟨by omega,by omega,?_⟩;rw[hP];exact zaR.fin2 ⟨rfl,rfl⟩ (HS.swp hid j2 a (by omega) (by rw[TG,Z52 rfl]) (fun q hq=>by rw[TG,Z50 hq,TG,Z50 hq]) (zdU _ _ _ _)) hid
   .rw[Z50 hgt]at hP;have hwi:IntKind.i64.wrap ((i2:Int)+1)=(i3:Int):=by rw[za4 _ (by omega) (by omega)];omega
    have hwj:IntKind.i64.wrap ((j2:Int) - 1)=(j3:Int):=by rw[za4 _ (by omega) (by omega)];omega
    simp[rW,h0,h1,h4,h12,h13,hgt];have hX:i2<n:=by omega
    have hY:j2<n:=by omega
    have gR:=HS.row;unfold zb8 at gR;have hlo:=HS.low;have hle:=HS.le;have e1:=zaK d (i:=i2) (by rw[HS.sz];omega);have e0:=zaK d (i:=j2) (by rw[HS.sz];omega);have e0':=zcf d i2 (j:=j2) (by rw[HS.sz];omega);have hsw:=zdq d i2 j2
    skip
    generalize hT1:d[i2]! =t1 at e1 e0 e0' hsw;generalize hT2:d[j2]! =t2 at e1 e0 e0' hsw;have hh8:hd8 ((zaH d.toList).set i2 (tmD t2))=false:=zcY _ _ _;simp only[tmD]at e1 e0 e0' hsw hh8;refine zaF ?_;simp[rW,h0,h1,h4,h12,h13,gR,hX,hY,e1,e0,e0',hh8,zcF,hsw,hwi,hwj];refine⟨by omega,by omega,?_⟩;refine zcN (PL h c id n a b D2) (fun x s=>x= .exit 4/\D2.1<n/\(s.tm.get 0=some (.sl id 0 n 4 n false)/\s.tm.get 1=some (.f (.i .i64 a))/\s.tm.get 4=some (.f (.fn 86))/\s.tm.get 13=some (.f (.i .i64 D2.1)))/\zaR h c id n D2.2 s.h s.c s.lw) ?_ (j3+1 - i3) _ ?_ ?_
    .clear HS gR hlo hle hX hY e1 e0 e0' hsw hh8 hT1 hT2 hwi hwj hP hD2 hi3 hj3 hgt hjl hi2 hj2 hc1 hc2 h0 h1 h4 h12 h13;rintro k s ⟨d,i,j,⟨rfl,hai,hin,hjb⟩,⟨h0,h1,h4,h12,h13⟩,HS,hD⟩;simp[rW,h0,h1,h4,h12,h13];obtain⟨i2,hi2⟩ :∃i2,i2=Go.Sort.scanUp (fun x=>ltT x d[a]!) d j i:=⟨_,rfl⟩
     refine zcN (PU h c id n a b i j d i2) (fun x s=>x= .exit 6/\PUp h c id n a b i j d i2 s) ?_ (n+1 - i) _ ?_ ?_
     .rintro k s ⟨i,⟨rfl,hil,hin0⟩,⟨h0,h1,h4,h13,h12⟩,HS,hD⟩;obtain⟨i1,hi1⟩ :∃i1,i1=i+1:=⟨_,rfl⟩
      have hwi:IntKind.i64.wrap ((i:Int)+1)=(i1:Int):=by rw[za4 _ (by omega) (by omega)];omega
      by_cases hij:i<=j
      .have hX:i<n:=by omega
       have hY:a<n:=by omega
       have e1:=zaK d (i:=i) (by rw[HS.sz];omega);have e0:=zaK d (i:=a) (by rw[HS.sz];omega);have hRO:=fun(H':Vse.T Ob) (c':Nat)=>zht d[i]! d[a]! (HS.ok i) (HS.ok a) (h:=H') (c:=c')
       have gR:=HS.row;unfold zb8 at gR;have hlo:=HS.low;have hle:=HS.le;have hsc:Go.Sort.scanUp (fun x=>ltT x d[a]!) d j i=if(zaX d[i]! d[a]! <0)then Go.Sort.scanUp (fun x=>ltT x d[a]!) d j i1 else i:=by
        rw[Go.Sort.scanUp,hi1];simp[hij,ltT]
       rw[hsc]at hD;clear hsc
       by_cases hlt:zaX d[i]! d[a]! <0
       .rw[Z52 (by simpa using hlt)]at hD;generalize hT1:d[i]! =t1 at e1 hRO hlt;generalize hT2:d[a]! =t2 at e0 hRO hlt;simp only[tmD]at e1 e0 hRO;simp[rW,h0,h1,h4,h13,h12,hij];refine za5 ?_;simp[rW,h0,h1,h4,h13,h12,hij,gR,hX,hY,e1,e0];refine zbS (d:= .f (.i .i64 (zaX t1 t2))) (hRO _ _) ?_ ?_ ?_
        .simp only[rG];omega
        .simp[ckG,ck1]
        intro mx hmx;simp only[rG]at hmx;simp[rW,h0,h1,h4,h13,h12,hlt];rw[zcc];refine⟨n+1 - i1,by omega,i1,⟨rfl,by omega,by omega⟩,?_,?_,hD⟩
        .simp[rW,h0,h1,h4,h13,h12,hwi]
        .simp[rW,];exact HS.cc (by omega)
       .rw[Z50 (by simpa using hlt)]at hD;generalize hT1:d[i]! =t1 at e1 hRO hlt;generalize hT2:d[a]! =t2 at e0 hRO hlt;simp only[tmD]at e1 e0 hRO;simp[rW,h0,h1,h4,h13,h12,hij];refine za5 ?_;simp[rW,h0,h1,h4,h13,h12,hij,gR,hX,hY,e1,e0];refine zbS (d:= .f (.i .i64 (zaX t1 t2))) (hRO _ _) ?_ ?_ ?_
        .simp only[rG];omega
        .simp[ckG,ck1]
        intro mx hmx;simp only[rG]at hmx;simp[rW,h0,h1,h4,h13,h12,hlt];rw[<-hD,PUp];simp[rW,h0,h1,h4,h13,h12];exact⟨by omega,HS.cc (by omega)⟩
      .have hsc:Go.Sort.scanUp (fun x=>ltT x d[a]!) d j i=i:=by
        rw[Go.Sort.scanUp];simp[hij]
       rw[hsc]at hD;simp[rW,h0,h1,h4,h13,h12,hij];refine za5 ?_;simp[rW,h0,h1,h4,h13,h12,hij];rw[<-hD,PUp];simp[rW,h0,h1,h4,h13,h12];exact⟨by omega,HS.cc (by omega)⟩
     .simp[rW,PU,h0,h1,h4,h12,h13];exact⟨i,⟨rfl,Z3 _,by omega⟩,rfl,HS,hi2.symm⟩
     .rintro x s ⟨rfl,⟨hc1,hc2⟩,⟨h0,h1,h4,h13,h12⟩,HS⟩;simp[rW,h0,h1,h4,h12,h13];obtain⟨j2,hj2⟩ :∃j2,j2=Go.Sort.scanDown (fun x=>!ltT x d[a]!) d i2 j:=⟨_,rfl⟩
      refine zcN (PD h c id n a b i2 j d j2) (fun x s=>x= .exit 8/\PDp h c id n a b i2 j d j2 s) ?_ j _ ?_ ?_
      .rintro k s ⟨j,⟨hkj,hjl⟩,⟨h0,h1,h4,h12,h13⟩,HS,hD⟩;obtain⟨j1,hj1⟩ :∃j1,j1=j - 1:=⟨_,rfl⟩
       by_cases hij:i2<=j
       .have hX:j<n:=by omega
        have hY:a<n:=by omega
        have e1:=zaK d (i:=j) (by rw[HS.sz];omega);have e0:=zaK d (i:=a) (by rw[HS.sz];omega);have hRO:=fun(H':Vse.T Ob) (c':Nat)=>zht d[j]! d[a]! (HS.ok j) (HS.ok a) (h:=H') (c:=c')
        have gR:=HS.row;unfold zb8 at gR;have hlo:=HS.low;have hle:=HS.le;have hwj:IntKind.i64.wrap ((j:Int) - 1)=(j1:Int):=by rw[za4 _ (by omega) (by omega)];omega
        have hsc:Go.Sort.scanDown (fun x=>!ltT x d[a]!) d i2 j=if ¬(zaX d[j]! d[a]! <0)then Go.Sort.scanDown (fun x=>!ltT x d[a]!) d i2 j1 else j:=by
         obtain⟨j2,rfl⟩ :∃j2,j=j2+1:=⟨j - 1,by omega⟩
         rw[Go.Sort.scanDown,hj1];simp[hij,ltT]
        rw[hsc]at hD;clear hsc
        by_cases hlt:zaX d[j]! d[a]! <0
        .rw[Z50 (by simpa using hlt)]at hD;generalize hT1:d[j]! =t1 at e1 hRO hlt;generalize hT2:d[a]! =t2 at e0 hRO hlt;simp only[tmD]at e1 e0 hRO;simp[rW,h0,h1,h4,h12,h13,hij];refine za5 ?_;simp[rW,h0,h1,h4,h12,h13,hij,gR,hX,hY,e1,e0];refine zbS (d:= .f (.i .i64 (zaX t1 t2))) (hRO _ _) ?_ ?_ ?_
         .simp only[rG];omega
         .simp[ckG,ck1]
         intro mx hmx;simp only[rG]at hmx;simp[rW,h0,h1,h4,h12,h13,hlt];rw[<-hD,PDp];simp[rW,h0,h1,h4,h12,h13];exact⟨by omega,HS.cc (by omega)⟩
        .rw[Z52 (by simpa using hlt)]at hD;generalize hT1:d[j]! =t1 at e1 hRO hlt;generalize hT2:d[a]! =t2 at e0 hRO hlt;simp only[tmD]at e1 e0 hRO;simp[rW,h0,h1,h4,h12,h13,hij];refine za5 ?_;simp[rW,h0,h1,h4,h12,h13,hij,gR,hX,hY,e1,e0];refine zbS (d:= .f (.i .i64 (zaX t1 t2))) (hRO _ _) ?_ ?_ ?_
         .simp only[rG];omega
         .simp[ckG,ck1]
         intro mx hmx;simp only[rG]at hmx;simp[rW,h0,h1,h4,h12,h13,hlt];rw[zcc];refine⟨j1,by omega,j1,⟨rfl,by omega⟩,?_,?_,hD⟩
         .simp[rW,h0,h1,h4,h12,h13,hwj]
         .simp[rW,];exact HS.cc (by omega)
       .have hsc:Go.Sort.scanDown (fun x=>!ltT x d[a]!) d i2 j=j:=by
         cases j with
         |zero=>rfl
         |succ j2=>rw[Go.Sort.scanDown];simp[hij]
        rw[hsc]at hD;simp[rW,h0,h1,h4,h12,h13,hij];refine za5 ?_;simp[rW,h0,h1,h4,h12,h13,hij];rw[<-hD,PDp];simp[rW,h0,h1,h4,h12,h13];exact⟨by omega,HS.cc (by omega)⟩
      .simp[rW,PD,h0,h1,h4,h12,h13];exact⟨j,⟨rfl,Z3 _⟩,rfl,HS,hj2.symm⟩
      .rintro x s ⟨rfl,hjl,⟨h0,h1,h4,h12,h13⟩,HS⟩;rw[Go.Sort.partLoop]at hD;simp only[<-hi2,<-hj2]at hD
       by_cases hgt:j2<i2
       .rw[Z52 hgt]at hD;simp[rW,h0,h1,h4,h12,h13,hgt];rw[<-hD];exact⟨by show j2<n;omega,rfl,HS⟩
       .rw[Z50 hgt,dif_pos (by omega)]at hD;obtain⟨i3,hi3⟩ :∃i3,i3=i2+1:=⟨_,rfl⟩
        obtain⟨j3,hj3⟩ :∃j3,j3=j2 - 1:=⟨_,rfl⟩
        have hwi:IntKind.i64.wrap ((i2:Int)+1)=(i3:Int):=by rw[za4 _ (by omega) (by omega)];omega
        have hwj:IntKind.i64.wrap ((j2:Int) - 1)=(j3:Int):=by rw[za4 _ (by omega) (by omega)];omega
        rw[<-hi3,<-hj3]at hD;simp[rW,h0,h1,h4,h12,h13,hgt];have hX:i2<n:=by omega
        have hY:j2<n:=by omega
        have gR:=HS.row;unfold zb8 at gR;have hlo:=HS.low;have hle:=HS.le;have e1:=zaK d (i:=i2) (by rw[HS.sz];omega);have e0:=zaK d (i:=j2) (by rw[HS.sz];omega);have e0':=zcf d i2 (j:=j2) (by rw[HS.sz];omega);have hsw:=zdq d i2 j2
        skip
        generalize hT1:d[i2]! =t1 at e1 e0 e0' hsw;generalize hT2:d[j2]! =t2 at e1 e0 e0' hsw;have hh8:hd8 ((zaH d.toList).set i2 (tmD t2))=false:=zcY _ _ _;simp only[tmD]at e1 e0 e0' hsw hh8;refine zaF ?_;simp[rW,h0,h1,h4,h12,h13,gR,hX,hY,e1,e0,e0',hh8,zcF,hsw,hwi,hwj];refine⟨by omega,by omega,?_⟩;rw[zcc];refine⟨j3+1 - i3,by omega,Go.Sort.swp d i2 j2,i3,j3,⟨rfl,by omega,by omega,by omega⟩,?_,?_,hD⟩
        .simp[rW,h0,h1,h4,h12,h13]
        .simp[rW,];exact HS.swp hid i2 j2 (by omega) (by rw[TG,Z52 rfl]) (fun q hq=>by rw[TG,Z50 hq,TG,Z50 hq]) (zdU _ _ _ _)
    .simp[rW,PL,h0,h1,h4,h12,h13];exact⟨_,i3,j3,⟨rfl,by omega,by omega,by omega⟩,⟨rfl,rfl⟩,HS.swp hid i2 j2 (by omega) (by rw[TG,Z52 rfl]) (fun q hq=>by rw[TG,Z50 hq,TG,Z50 hq]) (zdU _ _ _ _),hD2.symm⟩
    .clear HS gR hlo hle hX hY e1 e0 e0' hsw hh8 hT1 hT2 h0 h1 h4 h12 h13;rintro x s ⟨rfl,hmn,⟨h0,h1,h4,h13⟩,HS⟩;obtain⟨m,d⟩ :=D2;simp only at hP;simp[rW,h0,h1,h4,h13];have hX:m<n:=by omega
     have hY:a<n:=by omega
     have gR:=HS.row;unfold zb8 at gR;have hlo:=HS.low;have hle:=HS.le;have e1:=zaK d (i:=m) (by rw[HS.sz];omega);have e0:=zaK d (i:=a) (by rw[HS.sz];omega);have e0':=zcf d m (j:=a) (by rw[HS.sz];omega);have hsw:=zdq d m a
     skip
     generalize hT1:d[m]! =t1 at e1 e0 e0' hsw;generalize hT2:d[a]! =t2 at e1 e0 e0' hsw;have hh8:hd8 ((zaH d.toList).set m (tmD t2))=false:=zcY _ _ _;simp only[tmD]at e1 e0 e0' hsw hh8;refine zaF ?_;simp[rW,h0,h1,h4,h13,gR,hX,hY,e1,e0,e0',hh8,zcF,hsw,zhh];refine⟨by omega,by omega,?_⟩;rw[hP];exact zaR.fin2 ⟨rfl,rfl⟩ (HS.swp hid m a (by omega) (by rw[TG,Z52 rfl]) (fun q hq=>by rw[TG,Z50 hq,TG,Z50 hq]) (zdU _ _ _ _)) hid
def fn106:pr.fn 106=some zy5:=by kernel_rfl
def fn131:pr.fn 131=some zzq:=by kernel_rfl
def fn145:pr.fn 145=some zzD:=by kernel_rfl
def fn146:pr.fn 146=some zzF:=by kernel_rfl
def fn124:pr.fn 124=some zzj:=by kernel_rfl
def hu64(x:Int):hd8 [[D.f (F.i IntKind.u64 x)]]=false:=rfl
def zBx(a:Int):Go.Vse.za7 .shl (.i .u64 a) (.i .u64 13)=some (.i .u64 (IntKind.u64.wrap (a*8192))):=rfl
def zBy(a:Int):Go.Vse.za7 .shl (.i .u64 a) (.i .u64 17)=some (.i .u64 (IntKind.u64.wrap (a*131072))):=rfl
def zEj(a:Int):Go.Vse.za7 .shr (.i .u64 a) (.i .u64 7)=some (.i .u64 (a.fdiv 128)):=rfl
def zqW(a b:Int):Go.Vse.za7 .xor (.i .u64 a) (.i .u64 b)=some (.i .u64 (bits .xor .u64 a b)):=rfl
def zwN(a b:Int):Go.Vse.za7 .and (.i .u64 a) (.i .u64 b)=some (.i .u64 (bits .and .u64 a b)):=rfl
def zEk(a b:Int):Go.Vse.za7 .geq (.i .u64 a) (.i .u64 b)=some (.b (decide (b<=a))):=rfl
def zt3(a b:Int):Go.Vse.za7 .sub (.i .u64 a) (.i .u64 b)=some (.i .u64 (IntKind.u64.wrap (a - b))):=rfl
def zR9:∀x:Fin 64,(([0,1,2,2,3,3,3,3,4,4,4,4,4,4,4,4,5,5,5,5,5,5,5,5,5,5,5,5,5,5,5,5,6,6,6,6,6,6,6,6,6,6,6,6,6,6,6,6,6,6,6,6,6,6,6,6,6,6,6,6,6,6,6,6,7,7,7,7,7,7,7,7,7,7,7,7,7,7,7,7,7,7,7,7,7,7,7,7,7,7,7,7,7,7,7,7,7,7,7,7,7,7,7,7,7,7,7,7,7,7,7,7,7,7,7,7,7,7,7,7,7,7,7,7,7,7,7,7,8,8,8,8,8,8,8,8,8,8,8,8,8,8,8,8,8,8,8,8,8,8,8,8,8,8,8,8,8,8,8,8,8,8,8,8,8,8,8,8,8,8,8,8,8,8,8,8,8,8,8,8,8,8,8,8,8,8,8,8,8,8,8,8,8,8,8,8,8,8,8,8,8,8,8,8,8,8,8,8,8,8,8,8,8,8,8,8,8,8,8,8,8,8,8,8,8,8,8,8,8,8,8,8,8,8,8,8,8,8,8,8,8,8,8,8,8,8,8,8,8,8,8,8,8,8,8,8]:List UInt8)[x.val]?)=some (UInt8.ofNat (Go.Sort.bitsLen x.val)):=by decide+kernel
def zoG:∀x:Fin 64,Go.Sort.bitsLen x.val<=6:=by decide+kernel
def o_ixs{pr:Pr}{s:St}{Q:St->Prop}{dst:Option Nat}{l:List Go.Vse.Op}{x i:A}:wpO pr (⟨dst,none,.ixs x i⟩ ::l) s Q↔oB (((O.ixs x i).res (zad s.tm)).bind (opv s.h.get s.c)) fun r=>zaq r.c r.wr=true/\wpO pr l (s.aft dst r.d r.wr r.c) Q:=zdp rfl
def v_ixs{h:Nat->Option Ob}{c:Nat}{l:List UInt8}{i:Nat}{b:UInt8}(hb:l[i]? =some b):opv h c (.ixs (.f (.s l)) (.f (.i .u8 (i:Int))))=some {d:= .f (.i .u8 (b.toNat:Int)),c:=c}:=by
 simp[opv,zbR,hb,okF]
def ro131{h:T Ob}{c x:Nat}(hx:x<64):RO pr 131 [.f (.i .u64 x)] h c (.f (.i .i64 (Go.Sort.bitsLen x))):=by
 refine zcA za0 fn131 rfl ?_;simp only[zzq,rU];have t:=zR9 ⟨x,hx⟩;have t2:=zoG ⟨x,hx⟩;simp only at t t2;obtain⟨b,hb,hbt⟩ :∃b:UInt8,b=UInt8.ofNat (Go.Sort.bitsLen x)/\b.toNat=Go.Sort.bitsLen x:=⟨_,rfl,by rw[UInt8.toNat_ofNat'];omega⟩
 rw[<-hb]at t;rw[<-hbt];have hwb:IntKind.i64.wrap (b.toNat:Int)=(b.toNat:Int):=za4 _ (by omega) (by omega);have t3:=fun(h:Nat->Option Ob) (c:Nat)=>v_ixs (h:=h) (c:=c) t
 have h32:¬((4294967296:Int)<=x):=by omega
 have h16:¬((65536:Int)<=x):=by omega
 have hy8:¬((256:Int)<=x):=by omega
 have hu8:IntKind.u8.wrap (x:Int)=x:=by simp[IntKind.wrap,IntKind.bits,IntKind.signed];omega
 simp[rW,st0,zah,h32,h16,hy8,o_ixs,hu8,zEk,O.res,Z48,t3,zJY,hwb,zaO,zsr]
def zAn{h:T Ob}{c x:Nat}(hx:x<64):RO pr 106 [.f (.i .u64 x)] h c (.f (.i .i64 (Go.Sort.bitsLen x))):=by
 refine zcA za0 fn106 rfl ?_;simp only[zy5,rU];simp[rW,st0,zah];refine zbW (ro131 hx) ?_ ?_
 .simp only[rG];omega
 intro mx;simp[rW,zaO]
def ro145{h:T Ob}{c x:Nat}(hx:x<64):RO pr 145 [.f (.i .i64 x)] h c (.f (.i .u64 ((1<<<Go.Sort.bitsLen x:Nat):Int))):=by
 refine zcA za0 fn145 rfl ?_;simp only[zzD,rU];have hu:IntKind.u64.wrap (x:Int)=x:=by rw[IntKind.wrap_u64];omega
 have t2:=zoG ⟨x,hx⟩;simp only at t2;simp[rW,st0,zah,hu];refine zbW (zAn hx) ?_ ?_
 .simp only[rG];omega
 intro mx;generalize Go.Sort.bitsLen x=l at t2;have hs:Go.Vse.za7 .shl (.i .u64 1) (.i .i64 (l:Int))=some (.i .u64 ((1<<<l:Nat):Int)):=by
  obtain rfl|rfl|rfl|rfl|rfl|rfl|rfl:l=0\/l=1\/l=2\/l=3\/l=4\/l=5\/l=6:=by omega
  all_goals rfl
 simp[rW,hs,zaO]
def zcy.wr{h:T Ob}{c p:Nat}{z z2:F}{h':T Ob}{c' c'' lw:Nat}(H:zcy h c p z h' c' lw)(hp:p<c)(hc:c'<=c''){o:Option Ob}:zcy h c p z2 (h'.set p (.arr 1 0 [[.f z2]])) c'' (zda lw [(p,o)]):=by
 have h1:=zdU lw p o [];have h2:p<=zda lw [(p,o)]:=by rw[zm9,za9];have:=H.ge;split<;>omega
 exact⟨by rw[TG,Z52 rfl],fun j hj hne=>by rw[TG,Z50 hne];exact H.fr j hj hne,Z4 H.le hc,by omega,h2,fun e=>by omega⟩
def zcy.fin2{h:T Ob}{c p:Nat}{z:F}{h':T Ob}{c' lw:Nat}(H:zcy h c p z h' c' lw)(hp:p<c):zcy h c p z h' c' lw/\(lw=c->zcy h c p z h c c):=⟨H,H.fin hp⟩
theorem zBX{h:T Ob}{c p:Nat}(x:Nat)(hx:x<18446744073709551616)(hp:p<c)(hc:h.get p=some (.arr 1 0 [[.f (.i .u64 x)]])):
  zhz pr 146 [.ptr p 1 0 0] h c fun v h' c' lw=>v= .f (.i .u64 (Go.Sort.xorNextN x))/\zcy h c p (.i .u64 (Go.Sort.xorNextN x)) h' c' lw:=by
 refine zfL fn146 ?_;simp only[zzF,rU];obtain⟨A,hA⟩ :∃A,A=x ^^^ (x*8192%18446744073709551616):=⟨_,rfl⟩
 obtain⟨B,hB⟩ :∃B,B=A ^^^ (A/128):=⟨_,rfl⟩
 obtain⟨C,hC⟩ :∃C,C=B ^^^ (B*131072%18446744073709551616):=⟨_,rfl⟩
 have lA:A<18446744073709551616:=by rw[hA];exact Nat.xor_lt_two_pow (n:=64) (by omega) (by omega)
 have lB:B<18446744073709551616:=by rw[hB];exact Nat.xor_lt_two_pow (n:=64) (by omega) (by omega)
 have hv:Go.Sort.xorNextN x=C:=by unfold Go.Sort.xorNextN;simp only[];rw[<-hA,<-hB,<-hC]
 have e1:bits .xor .u64 (x:Int) (IntKind.u64.wrap ((x:Int)*8192))=(A:Int):=by
  rw[IntKind.wrap_u64,show((x:Int)*8192%18446744073709551616)=((x*8192%18446744073709551616:Nat):Int) by omega,bits_xor_u64_nat _ _ hx (by omega),hA]
 have e2:bits .xor .u64 (A:Int) ((A:Int).fdiv 128)=(B:Int):=by
  rw[Int.fdiv_eq_ediv_of_nonneg _ (by omega),show((A:Int)/128)=((A/128:Nat):Int) by omega,bits_xor_u64_nat _ _ lA (by omega),hB]
 have e3:bits .xor .u64 (B:Int) (IntKind.u64.wrap ((B:Int)*131072))=(C:Int):=by
  rw[IntKind.wrap_u64,show((B:Int)*131072%18446744073709551616)=((B*131072%18446744073709551616:Nat):Int) by omega,bits_xor_u64_nat _ _ lB (by omega),hC]
 rw[hv];clear hv hA hB hC;simp[rW,st0,zah];refine zaF ?_;simp[rW,hc,zBx,zqW,e1];refine⟨by omega,?_⟩;refine zaF ?_;simp[rW,zEj,zqW,e2];refine⟨by omega,?_⟩;refine zaF ?_;simp[rW,zBy,zqW,e3];refine⟨by omega,?_⟩;simp[rW,zhh];exact ((((zcy.id hp (Z3 _) hc).wr hp (Z3 _)).wr hp (Z3 _)).wr hp (by omega)).fin2 hp
def zaR.cell{h h1 h2:T Ob}{c c1 c2 id n lw1 lw2 p:Nat}{z:F}{d:Array Trm}(H:zaR h c id n d h1 c1 lw1)(H2:zcy h1 c1 p z h2 c2 lw2)(hid:id<c)(hp:c<=p):zaR h c id n d h2 c2 (min lw1 lw2):=by
 have hle:=H.le;refine⟨H2.row (by omega) (by omega) H.row,H.ok,H.sz,fun j hj hne=>(H2.fr j (by omega) (by omega)).trans (H.fr j hj hne),Z4 H.le H2.le,Z4 (Z65 _ _) H.low,fun e=> ?_⟩;exact (H2.fr id (by omega) (by omega)).trans (H.same (by omega))
def bpN(a len md:Nat):Nat->UInt64×Array Trm->Nat->Array Trm
 |0,st,_=>st.2
 |k+1,st,idx=>bpN a len md k (Go.Sort.breakStep a len md st idx) (idx+1)
def zR7:∀x:Fin 50,8<=x.val->1<<<Go.Sort.bitsLen x.val<=2*x.val/\x.val<1<<<Go.Sort.bitsLen x.val:=by decide+kernel
def BP(h:T Ob)(c id n a b l md top:Nat)(D1:Array Trm)(k:Nat)(s:St):Prop:=∃(d:Array Trm) (r:UInt64) (idx:Nat),(idx+k=top+1/\k<=3)/\(s.tm.get 0=some (.sl id 0 n 4 n false)/\s.tm.get 1=some (.f (.i .i64 a))/\s.tm.get 8=some (.f (.i .i64 l))/\s.tm.get 9=some (.ptr c 1 0 0)/\s.tm.get 10=some (.f (.i .u64 md))/\s.tm.get 11=some (.f (.i .i64 idx)))/\(zaR h c id n d s.h s.c s.lw/\c<s.c)/\s.h.get c=some (.arr 1 0 [[.f (.i .u64 r.toNat)]])/\bpN a l md k (r,d) idx=D1
theorem zQ0{h:T Ob}{c id n a b:Nat}(d:Array Trm)(gR:zb8 h id d)(hok:OkA d)(hn:d.size=n)(hb:b<=n)(h1:8<=b - a)(h2:b - a<50)(hsz:n<1000)(hid:id<c):
  zhz pr 124 [.sl id 0 n 4 n false,.f (.i .i64 a),.f (.i .i64 b),.f (.fn 86)] h c fun _ h' c' lw=>zaR h c id n (Go.Sort.breakPatterns d a b) h' c' lw:=by
 refine zfL fn124 ?_;simp only[zzj,rU];obtain⟨l,hl⟩ :∃l,l=b - a:=⟨_,rfl⟩
 obtain⟨q,hq⟩ :∃q,q=l/4:=⟨_,rfl⟩
 obtain⟨q2,hq2⟩ :∃q2,q2=q*2:=⟨_,rfl⟩
 obtain⟨m,hm⟩ :∃m,m=a+q2:=⟨_,rfl⟩
 obtain⟨i0,hi0⟩ :∃i0,i0=m - 1:=⟨_,rfl⟩
 obtain⟨top,htop⟩ :∃top,top=m+1:=⟨_,rfl⟩
 obtain⟨md,hmd⟩ :∃md,md=1<<<Go.Sort.bitsLen l:=⟨_,rfl⟩
 have hpow:=zR7 ⟨l,by omega⟩ (by show 8<=l;omega);simp only[<-hmd]at hpow;obtain⟨D1,hD1⟩ :∃D1,D1=bpN a l md 3 (UInt64.ofNat l,d) i0:=⟨_,rfl⟩
 have hbp:Go.Sort.breakPatterns d a b=D1:=by
  rw[hD1,hi0,hm,hq2,hq,hmd];unfold Go.Sort.breakPatterns;simp only[<-hl];rw[Z52 (by omega)];rfl
 rw[hbp];have hwl:IntKind.i64.wrap ((b:Int) - a)=(l:Int):=by rw[za4 _ (by omega) (by omega)];omega
 have hwq:IntKind.i64.wrap ((l:Int)/4)=(q:Int):=by rw[za4 _ (by omega) (by omega)];omega
 have hwq2:IntKind.i64.wrap ((q:Int)*2)=(q2:Int):=by rw[za4 _ (by omega) (by omega)];omega
 have hwm:IntKind.i64.wrap ((a:Int)+q2)=(m:Int):=by rw[za4 _ (by omega) (by omega)];omega
 have hwi:IntKind.i64.wrap ((m:Int) - 1)=(i0:Int):=by rw[za4 _ (by omega) (by omega)];omega
 have hwt:IntKind.i64.wrap ((m:Int)+1)=(top:Int):=by rw[za4 _ (by omega) (by omega)];omega
 have hwu:IntKind.u64.wrap (l:Int)=(l:Int):=by rw[IntKind.wrap_u64];omega
 have hl8:(8:Int)<=l:=by omega
 simp[rW,st0,zah,hwl,hl8,hwu,hu64];refine zbW (ro145 (x:=l) (by omega)) ?_ ?_
 .simp only[rG];simp (disch:=omega) only[za3,za9];omega
 intro mx0;rw[<-hmd];simp[rW,zah,zi6,zga,hwq,hwq2,hwm,hwi];refine zcN (BP h c id n a b l md top D1) (fun x s=>x= .exit 0/\zaR h c id n D1 s.h s.c s.lw) ?_ 3 _ ?_ ?_
 .clear hD1;rintro k s ⟨d,r,idx,⟨hidx,hk3⟩,⟨h0,h1,h8,h9,h10,h11⟩,⟨HS,hcs⟩,hcell,hD⟩;cases k with
  |zero=>
   have hgt:¬((idx:Int)<=top):=by omega
   simp[rW,h0,h1,h8,h9,h10,h11,zi6,zga,hwq,hwq2,hwm,hwt,hgt];rw[<-hD];exact HS
  |succ k=>
   have hle:(idx:Int)<=top:=by omega
   obtain⟨m1,hm1⟩ :∃m1,m1=md - 1:=⟨_,rfl⟩
   obtain⟨o0,ho0⟩ :∃o0,o0=Go.Sort.xorNextN r.toNat&&& m1:=⟨_,rfl⟩
   obtain⟨o1,ho1⟩ :∃o1,o1=if l<=o0 then o0 - l else o0:=⟨_,rfl⟩
   obtain⟨ao,hao⟩ :∃ao,ao=a+o1:=⟨_,rfl⟩
   obtain⟨idx1,hidx1⟩ :∃idx1,idx1=idx+1:=⟨_,rfl⟩
   have hol:o0<=m1:=by rw[ho0];exact Z204
   have hxl:=Go.Sort.xorNextN_lt r.toNat (UInt64.toNat_lt r)
   have hxn:=Go.Sort.xorNext_toNat r;have hbs:Go.Sort.breakStep a l md (r,d) idx=(Go.Sort.xorNext r,Go.Sort.swp d idx ao):=by
    unfold Go.Sort.breakStep;simp only[hxn,<-hm1,<-ho0,ge_iff_le,<-ho1,<-hao]
   rw[bpN,hbs,<-hidx1]at hD;have hwmd:IntKind.u64.wrap ((md:Int) - 1)=(m1:Int):=by rw[IntKind.wrap_u64];omega
   have hand:bits .and .u64 ((Go.Sort.xorNextN r.toNat:Nat):Int) (m1:Int)=(o0:Int):=by rw[bits_and_u64_nat _ _ hxl (by omega),ho0]
   have hwo:IntKind.i64.wrap (o0:Int)=(o0:Int):=za4 _ (by omega) (by omega);have hwidx:IntKind.i64.wrap ((idx:Int)+1)=(idx1:Int):=by rw[za4 _ (by omega) (by omega)];omega
   have ho1l:o1<l:=by rw[ho1];split<;>omega
   have hwao:IntKind.i64.wrap ((a:Int)+o1)=(ao:Int):=by rw[za4 _ (by omega) (by omega)];omega
   have hid0:¬(c=id):=by omega
   have hxa:idx<n:=by omega
   clear hbs
   by_cases ho:l<=o0
   .have hcmp:(l:Int)<=o0:=by omega
    rw[Z52 ho]at ho1;have hwsub:IntKind.i64.wrap ((o0:Int) - l)=(o1:Int):=by rw[za4 _ (by omega) (by omega)];omega
    simp[rW,h0,h1,h8,h9,h10,h11,hcmp,hle,zi6,zga,hwq,hwq2,hwm,hwt];refine ze5 (h:=s.h) (c:=s.c) (by simp only[rG]) (by simp only[rG]) (zBX r.toNat (UInt64.toNat_lt r) hcs hcell) ?_;rintro _ h' c' lw mx ⟨rfl,HC⟩ hcc;have HS2:=HS.cell HC hid (Z3 _);have hc2:=HC.cell;simp[rW,h0,h1,h8,h9,h10,h11,zt3,hwmd,zwN,hand,hwo,hcmp,hwsub];refine zfu (Q:=fun S=>WD pr _ S _) (P:=fun s=>(s.tm.get 0=some (.sl id 0 n 4 n false)/\s.tm.get 1=some (.f (.i .i64 a))/\s.tm.get 8=some (.f (.i .i64 l))/\s.tm.get 9=some (.ptr c 1 0 0)/\s.tm.get 10=some (.f (.i .u64 md))/\s.tm.get 11=some (.f (.i .i64 idx))/\s.tm.get 12=some (.f (.i .i64 o1)))/\(zaR h c id n d s.h s.c s.lw/\c<s.c)/\s.h.get c=some (.arr 1 0 [[.f (.i .u64 (Go.Sort.xorNextN r.toNat))]])) ?_ ?_
    .simp[rW,h0,h1,h8,h9,h10,h11,hwsub];exact⟨⟨HS2,by omega⟩,hc2⟩
    clear HS hcs hcell HS2 hc2 HC hcc h0 h1 h8 h9 h10 h11;rintro s ⟨⟨h0,h1,h8,h9,h10,h11,h12⟩,⟨HS,hcs⟩,hcell⟩;have hX:idx<n:=by omega
    have hY:ao<n:=by omega
    have gR:=HS.row;unfold zb8 at gR;have hlo:=HS.low;have hle:=HS.le;have e1:=zaK d (i:=idx) (by rw[HS.sz];omega);have e0:=zaK d (i:=ao) (by rw[HS.sz];omega);have e0':=zcf d idx (j:=ao) (by rw[HS.sz];omega);have hsw:=zdq d idx ao
    skip
    generalize hT1:d[idx]! =t1 at e1 e0 e0' hsw;generalize hT2:d[ao]! =t2 at e1 e0 e0' hsw;have hh8:hd8 ((zaH d.toList).set idx (tmD t2))=false:=zcY _ _ _;simp only[tmD]at e1 e0 e0' hsw hh8;refine zaF ?_;simp[rW,h0,h1,h8,h9,h10,h11,h12,gR,hX,hY,e1,e0,e0',hh8,zcF,hsw,hwao];refine⟨by omega,by omega,?_⟩;rw[zcc];refine⟨k,by omega,Go.Sort.swp d idx ao,Go.Sort.xorNext r,idx1,⟨by omega,by omega⟩,?_,⟨?_,?_⟩,?_,hD⟩
    .simp[rW,h0,h1,h8,h9,h10,h11,hwidx]
    .simp[rW,];exact HS.swp hid idx ao (by omega) (by rw[TG,Z52 rfl]) (fun q hq=>by rw[TG,Z50 hq,TG,Z50 hq]) (zdU _ _ _ _)
    .simp[rW,];omega
    .simp[rW,hid0,hcell,hxn]
   .have hcmp:¬((l:Int)<=o0):=by omega
    rw[Z50 ho]at ho1;rw[<-ho1]at hand hwo hcmp;simp[rW,h0,h1,h8,h9,h10,h11,hcmp,hle,zi6,zga,hwq,hwq2,hwm,hwt];refine ze5 (h:=s.h) (c:=s.c) (by simp only[rG]) (by simp only[rG]) (zBX r.toNat (UInt64.toNat_lt r) hcs hcell) ?_;rintro _ h' c' lw mx ⟨rfl,HC⟩ hcc;have HS2:=HS.cell HC hid (Z3 _);have hc2:=HC.cell;simp[rW,h0,h1,h8,h9,h10,h11,zt3,hwmd,zwN,hand,hwo,hcmp];refine zfu (Q:=fun S=>WD pr _ S _) (P:=fun s=>(s.tm.get 0=some (.sl id 0 n 4 n false)/\s.tm.get 1=some (.f (.i .i64 a))/\s.tm.get 8=some (.f (.i .i64 l))/\s.tm.get 9=some (.ptr c 1 0 0)/\s.tm.get 10=some (.f (.i .u64 md))/\s.tm.get 11=some (.f (.i .i64 idx))/\s.tm.get 12=some (.f (.i .i64 o1)))/\(zaR h c id n d s.h s.c s.lw/\c<s.c)/\s.h.get c=some (.arr 1 0 [[.f (.i .u64 (Go.Sort.xorNextN r.toNat))]])) ?_ ?_
    .simp[rW,h0,h1,h8,h9,h10,h11];exact⟨⟨HS2,by omega⟩,hc2⟩
    clear HS hcs hcell HS2 hc2 HC hcc h0 h1 h8 h9 h10 h11;rintro s ⟨⟨h0,h1,h8,h9,h10,h11,h12⟩,⟨HS,hcs⟩,hcell⟩;have hX:idx<n:=by omega
    have hY:ao<n:=by omega
    have gR:=HS.row;unfold zb8 at gR;have hlo:=HS.low;have hle:=HS.le;have e1:=zaK d (i:=idx) (by rw[HS.sz];omega);have e0:=zaK d (i:=ao) (by rw[HS.sz];omega);have e0':=zcf d idx (j:=ao) (by rw[HS.sz];omega);have hsw:=zdq d idx ao
    skip
    generalize hT1:d[idx]! =t1 at e1 e0 e0' hsw;generalize hT2:d[ao]! =t2 at e1 e0 e0' hsw;have hh8:hd8 ((zaH d.toList).set idx (tmD t2))=false:=zcY _ _ _;simp only[tmD]at e1 e0 e0' hsw hh8;refine zaF ?_;simp[rW,h0,h1,h8,h9,h10,h11,h12,gR,hX,hY,e1,e0,e0',hh8,zcF,hsw,hwao];refine⟨by omega,by omega,?_⟩;rw[zcc];refine⟨k,by omega,Go.Sort.swp d idx ao,Go.Sort.xorNext r,idx1,⟨by omega,by omega⟩,?_,⟨?_,?_⟩,?_,hD⟩
    .simp[rW,h0,h1,h8,h9,h10,h11,hwidx]
    .simp[rW,];exact HS.swp hid idx ao (by omega) (by rw[TG,Z52 rfl]) (fun q hq=>by rw[TG,Z50 hq,TG,Z50 hq]) (zdU _ _ _ _)
    .simp[rW,];omega
    .simp[rW,hid0,hcell,hxn]
 .simp[rW,BP];rw[za3 (Z3 _),za9,za3 (Z3 _),za9];refine⟨d,UInt64.ofNat l,i0,by omega,rfl,⟨?_,hok,hn,fun j hj _=> ?_,by omega,Z3 _,fun _=> ?_⟩,?_,hD1.symm⟩
  .unfold zb8;rw[TG,Z50 (by omega),TG,Z50 (by omega)];exact gR
  .rw[TG,Z50 (by omega),TG,Z50 (by omega)]
  .rw[TG,Z50 (by omega),TG,Z50 (by omega)]
  .rw[UInt64.toNat_ofNat_of_lt' (by show l<18446744073709551616;omega)]
 .rintro x s ⟨rfl,HS⟩;simp[rW,zpF];exact⟨HS,fun e _=>HS.fin hid e⟩
end Go.Proofs.YtflgmemhalhdbaaGreatDoor
end
