/- slices.SortFunc: the heap. -/
import Derived.Test.YtflgmemhalhdbaaGreatDoorPe
import Derived.KernelRfl
import Derived.IntWalk
set_option linter.all false
set_option maxRecDepth 100000
set_option maxHeartbeats 4000000
section
namespace Go.Proofs.YtflgmemhalhdbaaGreatDoor
open Go Go.Vse Go.Vse.Sm
def fn144:pr.fn 144=some zzz:=by kernel_rfl
def fn123:pr.fn 123=some zzi:=by kernel_rfl
def zga(a b:Int):Go.Vse.za7 .mul (.i .i64 a) (.i .i64 b)=some (.i .i64 (IntKind.i64.wrap (a*b))):=rfl
def H1(h:T Ob)(c id n hi first:Nat)(D1:Array Trm)(k:Nat)(s:St):Prop:=∃(d:Array Trm) (r:Nat),(k=hi - r/\r<=n)/\(s.tm.get 0=some (.sl id 0 n 4 n false)/\s.tm.get 2=some (.f (.i .i64 hi))/\s.tm.get 3=some (.f (.i .i64 first))/\s.tm.get 4=some (.f (.fn 86))/\s.tm.get 10=some (.f (.i .i64 r)))/\zaR h c id n d s.h s.c s.lw/\Go.Sort.siftDown ltT hi first r d=D1
theorem zBS{h:T Ob}{c id n lo hi first:Nat}(d:Array Trm)(gR:zb8 h id d)(hok:OkA d)(hn:d.size=n)(hsz:n<100000)(hb:first+hi<=n)(hlo:lo<=n)(hid:id<c):
  zhz pr 144 [.sl id 0 n 4 n false,.f (.i .i64 lo),.f (.i .i64 hi),.f (.i .i64 first),.f (.fn 86)] h c fun _ h' c' lw=>zaR h c id n (Go.Sort.siftDown ltT hi first lo d) h' c' lw:=by
 refine zfL fn144 ?_;simp only[zzz,rU];simp[rW,st0,zah];generalize hD0:Go.Sort.siftDown ltT hi first lo d=D1;refine zcN (H1 h c id n hi first D1) (fun x s=>(x= .exit 0\/x= .ret)/\zaR h c id n D1 s.h s.c s.lw) ?_ (hi - lo) _ ?_ ?_
 .rintro k s ⟨d,r,⟨rfl,hrn⟩,⟨h0,h2,h3,h4,h10⟩,HS,hD⟩
  .obtain⟨r2,hr2⟩ :∃r2,r2=2*r:=⟨_,rfl⟩
   obtain⟨ch,hch⟩ :∃ch,ch=2*r+1:=⟨_,rfl⟩
   obtain⟨c2,hc2⟩ :∃c2,c2=2*r+2:=⟨_,rfl⟩
   have hw1:IntKind.i64.wrap (2*(r:Int))=(r2:Int):=by rw[za4 _ (by omega) (by omega)];omega
   have hw2:IntKind.i64.wrap ((r2:Int)+1)=(ch:Int):=by rw[za4 _ (by omega) (by omega)];omega
   have hw3:IntKind.i64.wrap ((ch:Int)+1)=(c2:Int):=by rw[za4 _ (by omega) (by omega)];omega
   by_cases hchi:hi<=ch
   .have e:D1=d:=by rw[<-hD,Go.Sort.siftDown];simp;omega
    simp[rW,h0,h2,h3,h4,h10,hw1,hw2,hchi,zga];rw[e];exact HS
   .obtain⟨fr,hfr0⟩ :∃fr,fr=first+r:=⟨_,rfl⟩
    obtain⟨fc,hfc0⟩ :∃fc,fc=first+ch:=⟨_,rfl⟩
    obtain⟨fc2,hfc20⟩ :∃fc2,fc2=first+c2:=⟨_,rfl⟩
    have hwr:IntKind.i64.wrap ((first:Int)+(r:Int))=(fr:Int):=by rw[za4 _ (by omega) (by omega)];omega
    have hwc:IntKind.i64.wrap ((first:Int)+(ch:Int))=(fc:Int):=by rw[za4 _ (by omega) (by omega)];omega
    have hwc2:IntKind.i64.wrap ((first:Int)+(c2:Int))=(fc2:Int):=by rw[za4 _ (by omega) (by omega)];omega
    have hwc1:IntKind.i64.wrap ((fc:Int)+1)=(fc2:Int):=by rw[za4 _ (by omega) (by omega)];omega
    have hlo:=HS.low;have hle:=HS.le;have gR:=HS.row;unfold zb8 at gR
    by_cases hc2i:c2<hi
    .have e1:=zaK d (i:=fc) (by rw[HS.sz];omega);have e0:=zaK d (i:=fc2) (by rw[HS.sz];omega);have hRO:=fun(H':Vse.T Ob) (c':Nat)=>zht d[fc]! d[fc2]! (HS.ok fc) (HS.ok fc2) (h:=H') (c:=c')
     have hfc:fc<n:=by omega
     have hfc2:fc2<n:=by omega
     by_cases hlt:zaX d[fc]! d[fc2]! <0
     .have hsd:Go.Sort.siftDown ltT hi first r d=if !ltT d[fr]! d[fc2]! then d else Go.Sort.siftDown ltT hi first c2 (Go.Sort.swp d fr fc2):=by
       rw[Go.Sort.siftDown];subst hr2 hch hc2 hfr0 hfc0 hfc20;rw[dif_neg (by omega),Z52 (by simp[ltT];exact⟨by omega,by simpa [Z83]using hlt⟩),dif_pos (by omega)]
      generalize hU1:d[fc]! =u1 at e1 hRO hlt;generalize hU2:d[fc2]! =u2 at e0 hRO hlt;simp only[tmD]at e1 e0 hRO;simp[rW,h0,h2,h3,h4,h10,hw1,hw2,hchi,zga];refine za5 ?_;simp[rW,h0,h2,h3,h4,h10,gR,hw3,hwc,hwc1,hc2i,hfc,hfc2,e1,e0];refine zbS (d:= .f (.i .i64 (zaX u1 u2))) (hRO _ _) ?_ ?_ ?_
      .simp only[rG];omega
      .simp[ckG,ck1]
      intro mx hmx;simp only[rG]at hmx;simp[rW,h0,h2,h3,h4,h10,hlt,hw3];refine zfu (Q:=fun S=>WD pr _ S _) (P:=fun s=>(s.tm.get 0=some (.sl id 0 n 4 n false)/\s.tm.get 2=some (.f (.i .i64 hi))/\s.tm.get 3=some (.f (.i .i64 first))/\s.tm.get 4=some (.f (.fn 86))/\s.tm.get 10=some (.f (.i .i64 r))/\s.tm.get 11=some (.f (.i .i64 c2)))/\zaR h c id n d s.h s.c s.lw) ?_ ?_
      .simp[rW,h0,h2,h3,h4,h10];exact HS.cc (by omega)
      rintro s ⟨⟨h0,h2,h3,h4,h10,h11⟩,HS⟩;have gR:=HS.row;unfold zb8 at gR;have hlo:=HS.low;have hle:=HS.le;have e1:=zaK d (i:=fr) (by rw[HS.sz];omega);have e0:=zaK d (i:=fc2) (by rw[HS.sz];omega);have e0':=zcf d fr (j:=fc2) (by rw[HS.sz];omega);have hRO:=fun(H':Vse.T Ob) (c':Nat)=>zht d[fr]! d[fc2]! (HS.ok fr) (HS.ok fc2) (h:=H') (c:=c')
      have hsw:=zdq d fr fc2;have hfr:fr<n:=by omega
      have hfx:fc2<n:=by omega
      generalize hT1:d[fr]! =t1 at*;generalize hT2:d[fc2]! =t2 at*;have hh8:hd8 ((zaH d.toList).set fr (tmD t2))=false:=zcY _ _ _;simp only[tmD]at e1 e0 e0' hRO hsw hh8;refine za5 ?_;simp[rW,h0,h2,h3,h4,h10,h11,gR,hwr,hwc2,hfr,hfx,e1,e0]
      by_cases hlt:zaX t1 t2<0
      .refine zbS (d:= .f (.i .i64 (zaX t1 t2))) (hRO _ _) ?_ ?_ ?_
       .simp only[rG];omega
       .simp[ckG,ck1]
       intro mx hmx;simp only[rG]at hmx;simp[rW,h0,h2,h3,h4,h10,h11,hlt];refine zaF ?_;simp[rW,h0,h2,h3,h4,h10,h11,gR,hwr,hwc2,hfr,hfx,e1,e0,e0',hh8,zcF,hsw];refine⟨by omega,by omega,?_⟩;rw[zcc];refine⟨hi - c2,by omega,Go.Sort.swp d fr fc2,c2,⟨rfl,by omega⟩,?_,?_⟩
       .simp[rW,h0,h2,h3,h4,h10,h11]
       .simp[rW,];refine⟨HS.swp hid fr fc2 (by omega) (by rw[TG,Z52 rfl]) (fun q hq=>by rw[TG,Z50 hq,TG,Z50 hq]) (zdU _ _ _ _),?_⟩;rw[<-hD,hsd];simp[ltT,hlt]
        skip
      .refine zbS (d:= .f (.i .i64 (zaX t1 t2))) (hRO _ _) ?_ ?_ ?_
       .simp only[rG];omega
       .simp[ckG,ck1]
       intro mx hmx;simp only[rG]at hmx;simp[rW,h0,h2,h3,h4,h10,h11,hlt];have e:D1=d:=by
        rw[<-hD,hsd];simp[ltT,hlt]
       rw[e];exact HS.cc (by omega)
     .have hsd:Go.Sort.siftDown ltT hi first r d=if !ltT d[fr]! d[fc]! then d else Go.Sort.siftDown ltT hi first ch (Go.Sort.swp d fr fc):=by
       rw[Go.Sort.siftDown];subst hr2 hch hc2 hfr0 hfc0 hfc20;rw[dif_neg (by omega),Z50 (by simp[ltT];intro _;simpa [Z83]using hlt)]
      generalize hU1:d[fc]! =u1 at e1 hRO hlt;generalize hU2:d[fc2]! =u2 at e0 hRO hlt;simp only[tmD]at e1 e0 hRO;simp[rW,h0,h2,h3,h4,h10,hw1,hw2,hchi,zga];refine za5 ?_;simp[rW,h0,h2,h3,h4,h10,gR,hw3,hwc,hwc1,hc2i,hfc,hfc2,e1,e0];refine zbS (d:= .f (.i .i64 (zaX u1 u2))) (hRO _ _) ?_ ?_ ?_
      .simp only[rG];omega
      .simp[ckG,ck1]
      intro mx hmx;simp only[rG]at hmx;simp[rW,h0,h2,h3,h4,h10,hlt,hw3];refine zfu (Q:=fun S=>WD pr _ S _) (P:=fun s=>(s.tm.get 0=some (.sl id 0 n 4 n false)/\s.tm.get 2=some (.f (.i .i64 hi))/\s.tm.get 3=some (.f (.i .i64 first))/\s.tm.get 4=some (.f (.fn 86))/\s.tm.get 10=some (.f (.i .i64 r))/\s.tm.get 11=some (.f (.i .i64 ch)))/\zaR h c id n d s.h s.c s.lw) ?_ ?_
      .simp[rW,h0,h2,h3,h4,h10];exact HS.cc (by omega)
      rintro s ⟨⟨h0,h2,h3,h4,h10,h11⟩,HS⟩;have gR:=HS.row;unfold zb8 at gR;have hlo:=HS.low;have hle:=HS.le;have e1:=zaK d (i:=fr) (by rw[HS.sz];omega);have e0:=zaK d (i:=fc) (by rw[HS.sz];omega);have e0':=zcf d fr (j:=fc) (by rw[HS.sz];omega);have hRO:=fun(H':Vse.T Ob) (c':Nat)=>zht d[fr]! d[fc]! (HS.ok fr) (HS.ok fc) (h:=H') (c:=c')
      have hsw:=zdq d fr fc;have hfr:fr<n:=by omega
      have hfx:fc<n:=by omega
      generalize hT1:d[fr]! =t1 at*;generalize hT2:d[fc]! =t2 at*;have hh8:hd8 ((zaH d.toList).set fr (tmD t2))=false:=zcY _ _ _;simp only[tmD]at e1 e0 e0' hRO hsw hh8;refine za5 ?_;simp[rW,h0,h2,h3,h4,h10,h11,gR,hwr,hwc,hfr,hfx,e1,e0]
      by_cases hlt:zaX t1 t2<0
      .refine zbS (d:= .f (.i .i64 (zaX t1 t2))) (hRO _ _) ?_ ?_ ?_
       .simp only[rG];omega
       .simp[ckG,ck1]
       intro mx hmx;simp only[rG]at hmx;simp[rW,h0,h2,h3,h4,h10,h11,hlt];refine zaF ?_;simp[rW,h0,h2,h3,h4,h10,h11,gR,hwr,hwc,hfr,hfx,e1,e0,e0',hh8,zcF,hsw];refine⟨by omega,by omega,?_⟩;rw[zcc];refine⟨hi - ch,by omega,Go.Sort.swp d fr fc,ch,⟨rfl,by omega⟩,?_,?_⟩
       .simp[rW,h0,h2,h3,h4,h10,h11]
       .simp[rW,];refine⟨HS.swp hid fr fc (by omega) (by rw[TG,Z52 rfl]) (fun q hq=>by rw[TG,Z50 hq,TG,Z50 hq]) (zdU _ _ _ _),?_⟩;rw[<-hD,hsd];simp[ltT,hlt]
        skip
      .refine zbS (d:= .f (.i .i64 (zaX t1 t2))) (hRO _ _) ?_ ?_ ?_
       .simp only[rG];omega
       .simp[ckG,ck1]
       intro mx hmx;simp only[rG]at hmx;simp[rW,h0,h2,h3,h4,h10,h11,hlt];have e:D1=d:=by
        rw[<-hD,hsd];simp[ltT,hlt]
       rw[e];exact HS.cc (by omega)
    .have hsd:Go.Sort.siftDown ltT hi first r d=if !ltT d[fr]! d[fc]! then d else Go.Sort.siftDown ltT hi first ch (Go.Sort.swp d fr fc):=by
      rw[Go.Sort.siftDown];subst hr2 hch hc2 hfr0 hfc0 hfc20;rw[dif_neg (by omega),Z50 (by simp;omega)]
     simp[rW,h0,h2,h3,h4,h10,hw1,hw2,hchi,zga];refine za5 ?_;simp[rW,h0,h2,h3,h4,h10,hw3,hc2i];refine zfu (Q:=fun S=>WD pr _ S _) (P:=fun s=>(s.tm.get 0=some (.sl id 0 n 4 n false)/\s.tm.get 2=some (.f (.i .i64 hi))/\s.tm.get 3=some (.f (.i .i64 first))/\s.tm.get 4=some (.f (.fn 86))/\s.tm.get 10=some (.f (.i .i64 r))/\s.tm.get 11=some (.f (.i .i64 ch)))/\zaR h c id n d s.h s.c s.lw) ?_ ?_
     .simp[rW,h0,h2,h3,h4,h10];exact HS.cc (by omega)
     rintro s ⟨⟨h0,h2,h3,h4,h10,h11⟩,HS⟩;have gR:=HS.row;unfold zb8 at gR;have hlo:=HS.low;have hle:=HS.le;have e1:=zaK d (i:=fr) (by rw[HS.sz];omega);have e0:=zaK d (i:=fc) (by rw[HS.sz];omega);have e0':=zcf d fr (j:=fc) (by rw[HS.sz];omega);have hRO:=fun(H':Vse.T Ob) (c':Nat)=>zht d[fr]! d[fc]! (HS.ok fr) (HS.ok fc) (h:=H') (c:=c')
     have hsw:=zdq d fr fc;have hfr:fr<n:=by omega
     have hfx:fc<n:=by omega
     generalize hT1:d[fr]! =t1 at*;generalize hT2:d[fc]! =t2 at*;have hh8:hd8 ((zaH d.toList).set fr (tmD t2))=false:=zcY _ _ _;simp only[tmD]at e1 e0 e0' hRO hsw hh8;refine za5 ?_;simp[rW,h0,h2,h3,h4,h10,h11,gR,hwr,hwc,hfr,hfx,e1,e0]
     by_cases hlt:zaX t1 t2<0
     .refine zbS (d:= .f (.i .i64 (zaX t1 t2))) (hRO _ _) ?_ ?_ ?_
      .simp only[rG];omega
      .simp[ckG,ck1]
      intro mx hmx;simp only[rG]at hmx;simp[rW,h0,h2,h3,h4,h10,h11,hlt];refine zaF ?_;simp[rW,h0,h2,h3,h4,h10,h11,gR,hwr,hwc,hfr,hfx,e1,e0,e0',hh8,zcF,hsw];refine⟨by omega,by omega,?_⟩;rw[zcc];refine⟨hi - ch,by omega,Go.Sort.swp d fr fc,ch,⟨rfl,by omega⟩,?_,?_⟩
      .simp[rW,h0,h2,h3,h4,h10,h11]
      .simp[rW,];refine⟨HS.swp hid fr fc (by omega) (by rw[TG,Z52 rfl]) (fun q hq=>by rw[TG,Z50 hq,TG,Z50 hq]) (zdU _ _ _ _),?_⟩;rw[<-hD,hsd];simp[ltT,hlt]
       skip
     .refine zbS (d:= .f (.i .i64 (zaX t1 t2))) (hRO _ _) ?_ ?_ ?_
      .simp only[rG];omega
      .simp[ckG,ck1]
      intro mx hmx;simp only[rG]at hmx;simp[rW,h0,h2,h3,h4,h10,h11,hlt];have e:D1=d:=by
       rw[<-hD,hsd];simp[ltT,hlt]
      rw[e];exact HS.cc (by omega)
 .simp[rW,H1];exact⟨d,lo,⟨rfl,hlo⟩,rfl,zaR.refl gR hok hn,hD0⟩
 .rintro x s ⟨rfl|rfl,HS⟩
  .simp[rW,zpF];exact⟨HS,fun e _=>HS.fin hid e⟩
  .simp[rW,zhh];exact⟨HS,fun e _=>HS.fin hid e⟩
def ztV(a:Int):Go.Vse.za7 .quo (.i .i64 a) (.i .i64 2)=some (.i .i64 (IntKind.i64.wrap (a.tdiv 2))):=rfl
def HB(h:T Ob)(c id n a hi:Nat)(D1:Array Trm)(k:Nat)(s:St):Prop:=∃(d:Array Trm) (z:Int),(z=(k:Int) - 1/\k<=n)/\(s.tm.get 0=some (.sl id 0 n 4 n false)/\s.tm.get 8=some (.f (.i .i64 a))/\s.tm.get 9=some (.f (.i .i64 0))/\s.tm.get 10=some (.f (.i .i64 hi))/\s.tm.get 3=some (.f (.fn 86))/\s.tm.get 11=some (.f (.i .i64 z)))/\zaR h c id n d s.h s.c s.lw/\Go.Sort.heapBuild ltT hi a k d=D1
def HP(h:T Ob)(c id n a hi:Nat)(D1:Array Trm)(k:Nat)(s:St):Prop:=∃(d:Array Trm) (z:Int),(z=(k:Int) - 1/\k<=hi)/\(s.tm.get 0=some (.sl id 0 n 4 n false)/\s.tm.get 8=some (.f (.i .i64 a))/\s.tm.get 9=some (.f (.i .i64 0))/\s.tm.get 3=some (.f (.fn 86))/\s.tm.get 12=some (.f (.i .i64 z)))/\zaR h c id n d s.h s.c s.lw/\Go.Sort.heapPop ltT a k d=D1
theorem zQZ{h:T Ob}{c id n a b:Nat}(d:Array Trm)(gR:zb8 h id d)(hok:OkA d)(hn:d.size=n)(hsz:n<100000)(hb:b<=n)(hab:a<b)(hid:id<c):
  zhz pr 123 [.sl id 0 n 4 n false,.f (.i .i64 a),.f (.i .i64 b),.f (.fn 86)] h c fun _ h' c' lw=>zaR h c id n (Go.Sort.heapSort ltT d a b) h' c' lw:=by
 refine zfL fn123 ?_;simp only[zzi,rU];obtain⟨hi,hhi⟩ :∃hi,hi=b - a:=⟨_,rfl⟩
 have hw1:IntKind.i64.wrap ((b:Int) - a)=(hi:Int):=by rw[za4 _ (by omega) (by omega)];omega
 obtain⟨h1,hh1⟩ :∃h1:Nat,h1=hi - 1:=⟨_,rfl⟩
 have hw2:IntKind.i64.wrap ((hi:Int) - 1)=(h1:Int):=by rw[za4 _ (by omega) (by omega)];omega
 obtain⟨q,hq⟩ :∃q:Nat,q=(hi - 1)/2:=⟨_,rfl⟩
 have hw3:IntKind.i64.wrap ((h1:Int)/2)=(q:Int):=by rw[za4 _ (by omega) (by omega)];omega
 simp[rW,st0,zah,hw1,hw2,ztV,hw3];refine zcN (HB h c id n a hi (Go.Sort.heapBuild ltT hi a (q+1) d)) (fun x s=>x= .exit 0/\∃d1,d1=Go.Sort.heapBuild ltT hi a (q+1) d/\(s.tm.get 0=some (.sl id 0 n 4 n false)/\s.tm.get 8=some (.f (.i .i64 a))/\s.tm.get 9=some (.f (.i .i64 0))/\s.tm.get 10=some (.f (.i .i64 hi))/\s.tm.get 3=some (.f (.fn 86)))/\zaR h c id n d1 s.h s.c s.lw) ?_ (q+1) _ ?_ ?_
 .rintro k s ⟨d,z,⟨hz,hk⟩,⟨h0,h8,h9,h10,h3,h11⟩,HS,hD⟩;cases k with
  |zero=>
   have hz0:¬(0<=z):=by omega
   simp[rW,h0,h8,h9,h10,h3,h11,hz0];rw[<-hD];exact HS
  |succ j=>
   have hz1:z=(j:Int):=by omega
   subst hz1;obtain⟨z2,hz2⟩ :∃z2:Int,z2=(j:Int) - 1:=⟨_,rfl⟩
   have hw:IntKind.i64.wrap ((j:Int) - 1)=z2:=by rw[za4 _ (by omega) (by omega)];omega
   simp[rW,h0,h8,h9,h10,h3,h11];refine ze5 ?_ ?_ (zBS (h:=s.h) (c:=s.c) (lo:=j) (hi:=hi) (first:=a) d HS.row HS.ok HS.sz hsz (by omega) (by omega) (by have:=HS.le;omega)) ?_
   .simp only[rG]
   .simp only[rG]
   rintro d' h' c' lw mx HS2 hcc;have HS3:=HS.trans HS2;simp[rW,h0,h8,h9,h10,h3,h11,hw];refine⟨j,by omega,_,z2,⟨hz2,by omega⟩,?_,HS3,hD⟩;simp[rW,h0,h8,h9,h10,h3,h11]
 .simp[rW,HB,hw3];exact⟨d,_,⟨rfl,by omega⟩,rfl,zaR.refl gR hok hn,rfl⟩
 .rintro x s ⟨rfl,d1,hd1,⟨h0,h8,h9,h10,h3⟩,HS⟩;simp[rW,h0,h8,h9,h10,h3,hw2];refine zcN (HP h c id n a hi (Go.Sort.heapPop ltT a hi d1)) (fun x s=>x= .exit 2/\zaR h c id n (Go.Sort.heapPop ltT a hi d1) s.h s.c s.lw) ?_ hi _ ?_ ?_
  .rintro k s ⟨d,z,⟨hz,hk⟩,⟨h0,h8,h9,h3,h12⟩,HS,hD⟩;cases k with
   |zero=>
    have hz0:¬(0<=z):=by omega
    simp[rW,h0,h8,h9,h3,h12,hz0];rw[<-hD];exact HS
   |succ j=>
    have hz1:z=(j:Int):=by omega
    subst hz1;obtain⟨z2,hz2⟩ :∃z2:Int,z2=(j:Int) - 1:=⟨_,rfl⟩
    have hw:IntKind.i64.wrap ((j:Int) - 1)=z2:=by rw[za4 _ (by omega) (by omega)];omega
    obtain⟨fj,hfj⟩ :∃fj,fj=a+j:=⟨_,rfl⟩
    have hwj:IntKind.i64.wrap ((a:Int)+(j:Int))=(fj:Int):=by rw[za4 _ (by omega) (by omega)];omega
    have gR:=HS.row;unfold zb8 at gR;have hlo:=HS.low;have hle:=HS.le;have e1:=zaK d (i:=a) (by rw[HS.sz];omega);have e0:=zaK d (i:=fj) (by rw[HS.sz];omega);have e0':=zcf d a (j:=fj) (by rw[HS.sz];omega);have hsw:=zdq d a fj;have han:a<n:=by omega
    have hfn:fj<n:=by omega
    generalize hT1:d[a]! =t1 at*;generalize hT2:d[fj]! =t2 at*;have hh8:hd8 ((zaH d.toList).set a (tmD t2))=false:=zcY _ _ _;simp only[tmD]at e1 e0 e0' hsw hh8;simp[rW,h0,h8,h9,h3,h12];refine zaF ?_;simp[rW,h0,h8,h9,h3,h12,gR,hwj,han,hfn,e1,e0,e0',hh8,zcF,hsw];refine⟨by omega,by omega,?_⟩;refine zfu (Q:=fun S=>WQ pr 144 _ S _ _ _) (P:=fun s=>(s.tm.get 0=some (.sl id 0 n 4 n false)/\s.tm.get 8=some (.f (.i .i64 a))/\s.tm.get 9=some (.f (.i .i64 0))/\s.tm.get 3=some (.f (.fn 86))/\s.tm.get 12=some (.f (.i .i64 j)))/\zaR h c id n (Go.Sort.swp d a fj) s.h s.c s.lw) ?_ ?_
    .simp[rW,h0,h8,h9,h3,h12];exact HS.swp hid a fj (by omega) (by rw[TG,Z52 rfl]) (fun q hq=>by rw[TG,Z50 hq,TG,Z50 hq]) (zdU _ _ _ _)
    rintro s ⟨⟨h0,h8,h9,h3,h12⟩,HSs⟩;refine ze5 (h:=s.h) (c:=s.c) rfl rfl (zBS (lo:=0) (hi:=j) (first:=a) (Go.Sort.swp d a fj) HSs.row HSs.ok HSs.sz hsz (by omega) (by omega) (by have:=HSs.le;omega)) ?_;rintro d' h' c' lw mx HS2 hcc;have HS3:=HSs.trans HS2;simp[rW,h0,h8,h9,h3,h12,hw];refine⟨j,by omega,_,z2,⟨hz2,by omega⟩,?_,HS3,?_⟩
    .simp[rW,h0,h8,h9,h3,h12]
    .rw[<-hD,Go.Sort.heapPop,hfj]
  .simp[rW,HP,h0,h8,h9,h3];exact⟨by omega,d1,HS,rfl⟩
  .rintro x s ⟨rfl,HS⟩;simp[rW,zpF];subst hd1;have e:Go.Sort.heapSort ltT d a b=Go.Sort.heapPop ltT a hi (Go.Sort.heapBuild ltT hi a (q+1) d):=by rw[hhi,hq,hhi];rfl
   rw[e];exact⟨HS,fun e _=>HS.fin hid e⟩
def fn155:pr.fn 155=some zzN:=by kernel_rfl
def fn148:pr.fn 148=some zzI:=by kernel_rfl
def fn125:pr.fn 125=some zzk:=by kernel_rfl
def fn127:pr.fn 127=some zzm:=by kernel_rfl
def zi6(a:Int):Go.Vse.za7 .quo (.i .i64 a) (.i .i64 4)=some (.i .i64 (IntKind.i64.wrap (a.tdiv 4))):=rfl
structure zcy(h:T Ob)(c p:Nat)(z:F)(h':T Ob)(c' lw:Nat):Prop where
 cell:h'.get p=some (.arr 1 0 [[.f z]])
 fr:∀j,j<c->j≠p->h'.get j=h.get j
 le:c<=c'
 low:lw<=c
 ge:p<=lw
 same:p<lw->h'.get p=h.get p
def zcy.fin{h:T Ob}{c p:Nat}{z:F}{h':T Ob}{c' lw:Nat}(H:zcy h c p z h' c' lw)(hp:p<c):lw=c->zcy h c p z h c c:=fun e=>
 ⟨by rw[<-H.same (by omega)];exact H.cell,fun _ _ _=>rfl,Z3 _,Z3 _,Z111 hp,fun _=>rfl⟩
def zcy.cc{h:T Ob}{c p:Nat}{z:F}{h':T Ob}{c' c'' lw:Nat}(H:zcy h c p z h' c' lw)(hc:c'<=c''):zcy h c p z h' c'' lw:=⟨H.cell,H.fr,Z4 H.le hc,H.low,H.ge,H.same⟩
def zcy.trans{h h1 h2:T Ob}{c c1 c2 p lw1 lw2:Nat}{z z2:F}(H:zcy h c p z h1 c1 lw1)(H2:zcy h1 c1 p z2 h2 c2 lw2):zcy h c p z2 h2 c2 (min lw1 lw2):=by
 refine⟨H2.cell,fun j hj hne=>(H2.fr j (by have:=H.le;omega) hne).trans (H.fr j hj hne),Z4 H.le H2.le,Z4 (Z65 _ _) H.low,by have:=H.ge;have:=H2.ge;omega,fun e=> ?_⟩;exact (H2.same (by omega)).trans (H.same (by omega))
def zcy.row{h:T Ob}{c p id:Nat}{z:F}{d:Array Trm}{h':T Ob}{c' lw:Nat}(H:zcy h c p z h' c' lw)(hid:id<c)(hne:id≠p)(hr:zb8 h id d):zb8 h' id d:=by
 unfold zb8 at*;rw[H.fr id hid hne];exact hr
def nn(x y:Nat):D:= .tu [.f (.i .i64 x),.f (.i .i64 y)]
def zTO{c p:Nat}{o:Option Ob}(h:p<c):zda c [(p,o)]=p:=by rw[zm9,Z52 h,za9]
def zcy.set{h:T Ob}{c p c':Nat}{z:F}(hp:p<c)(hc:c<=c'){lw:Nat}(hl:lw=p):zcy h c p z (h.set p (.arr 1 0 [[.f z]])) c' lw:=
 ⟨by rw[TG,Z52 rfl],fun j _ hne=>by rw[TG,Z50 hne],hc,by omega,by omega,fun e=>by omega⟩
def zcy.id{h:T Ob}{c p c':Nat}{z:F}(hp:p<c)(hc:c<=c')(h1:h.get p=some (.arr 1 0 [[.f z]])):zcy h c p z h c' c:=
 ⟨h1,fun _ _ _=>rfl,hc,Z3 _,Z111 hp,fun _=>rfl⟩
def zis{d:Array Trm}{a b sw n:Nat}(ha:a<n)(hb:b<n):(Go.Sort.order2 ltT d a b sw).1<n/\(Go.Sort.order2 ltT d a b sw).2.1<n/\(Go.Sort.order2 ltT d a b sw).2.2<=sw+1:=by
 unfold Go.Sort.order2;split
 .exact⟨hb,ha,Z3 _⟩
 .exact⟨ha,hb,Z129 _⟩
theorem zuq{h:T Ob}{c id n a b p sw:Nat}(d:Array Trm)(gR:zb8 h id d)(hok:OkA d)(hn:d.size=n)(ha:a<n)(hb:b<n)(hid:id<c)(hp:p<c)(hne:id≠p)(hc:h.get p=some (.arr 1 0 [[.f (.i .i64 sw)]]))(hsw:sw<1000):
  zhz pr 155 [.sl id 0 n 4 n false,.f (.i .i64 a),.f (.i .i64 b),.ptr p 1 0 0,.f (.fn 86)] h c fun v h' c' lw=>v=nn (Go.Sort.order2 ltT d a b sw).1 (Go.Sort.order2 ltT d a b sw).2.1/\zcy h c p (.i .i64 (Go.Sort.order2 ltT d a b sw).2.2) h' c' lw:=by
 refine zfL fn155 ?_;simp only[zzN,rU];have e1:=zaK d (i:=a) (by omega);have e0:=zaK d (i:=b) (by omega);have hRO:=fun(H':Vse.T Ob) (c':Nat)=>zht d[b]! d[a]! (hok b) (hok a) (h:=H') (c:=c')
 have hor:Go.Sort.order2 ltT d a b sw=if zaX d[b]! d[a]! <0 then(b,a,sw+1)else(a,b,sw):=by simp[Go.Sort.order2,ltT]
 have hw:=za4 ((sw:Int)+1) (by omega) (by omega);generalize hT1:d[a]! =t1 at*;generalize hT2:d[b]! =t2 at*;unfold zb8 at gR;simp only[tmD]at e1 e0 hRO;simp[rW,st0,zah];refine za5 ?_;simp[rW,zah,gR,ha,hb,e1,e0];refine zbS (d:= .f (.i .i64 (zaX t2 t1))) (hRO _ _) ?_ ?_ ?_
 .simp only[rG];omega
 .simp[ckG,ck1]
 intro mx hmx;simp only[rG]at hmx
 by_cases hlt:zaX t2 t1<0
 .rw[Z52 hlt]at hor;rw[hor];simp[rW,hlt,hc,hw,zhh,nn];have hz:=@zcy.set h c p (mx+1) (.i .i64 ((sw:Int)+1)) hp (by omega) _ (zTO hp (o:=some (Ob.arr 1 0 [[D.f (F.i IntKind.i64 ((sw:Int)+1))]])));exact⟨by omega,hz,hz.fin hp⟩
 .rw[Z50 hlt]at hor;rw[hor];simp[rW,hlt,zhh,nn];exact⟨zcy.id hp (by omega) hc,zcy.id hp (Z3 _) hc⟩
theorem zQ3{h:T Ob}{c id n a b e p sw:Nat}(d:Array Trm)(gR:zb8 h id d)(hok:OkA d)(hn:d.size=n)(ha:a<n)(hb:b<n)(he:e<n)(hid:id<c)(hp:p<c)(hne:id≠p)(hc:h.get p=some (.arr 1 0 [[.f (.i .i64 sw)]]))(hsw:sw<900):
  zhz pr 148 [.sl id 0 n 4 n false,.f (.i .i64 a),.f (.i .i64 b),.f (.i .i64 e),.ptr p 1 0 0,.f (.fn 86)] h c fun v h' c' lw=>v= .f (.i .i64 (Go.Sort.median ltT d a b e sw).1)/\zcy h c p (.i .i64 (Go.Sort.median ltT d a b e sw).2) h' c' lw:=by
 refine zfL fn148 ?_;simp only[zzI,rU];obtain⟨r1,hr1⟩ :∃r,r=Go.Sort.order2 ltT d a b sw:=⟨_,rfl⟩
 obtain⟨r2,hr2⟩ :∃r,r=Go.Sort.order2 ltT d r1.2.1 e r1.2.2:=⟨_,rfl⟩
 obtain⟨r3,hr3⟩ :∃r,r=Go.Sort.order2 ltT d r1.1 r2.1 r2.2.2:=⟨_,rfl⟩
 have hm:Go.Sort.median ltT d a b e sw=(r3.2.1,r3.2.2):=by rw[hr3,hr2,hr1];rfl
 have b1:=zis (d:=d) (sw:=sw) ha hb;rw[<-hr1]at b1;have b2:=zis (d:=d) (sw:=r1.2.2) b1.2.1 he;rw[<-hr2]at b2;rw[hm];simp[rW,st0,zah];refine ze5 (h:=h) (c:=c) (by simp only[rG]) (by simp only[rG]) (zuq (p:=p) (sw:=sw) d gR hok hn ha hb hid hp hne hc (by omega)) ?_;rintro _ ha1 c1 lw1 mx ⟨rfl,HC1⟩ hcc;rw[<-hr1]at HC1|-;obtain⟨x1,y1,s1⟩ :=r1;simp only at b1 b2 HC1 hr2 hr3;simp[rW,nn];refine ze5 (h:=ha1) (c:=c1) (by simp only[rG]) (by simp only[rG]) (zuq (p:=p) (sw:=s1) d (HC1.row hid hne gR) hok hn b1.2.1 he (by have:=HC1.le;omega) (by have:=HC1.le;omega) hne HC1.cell (by omega)) ?_;rintro _ ha2 c2 lw2 mx2 ⟨rfl,HC2⟩ hcc2;rw[<-hr2]at HC2|-;obtain⟨x2,y2,s2⟩ :=r2;simp only at b2 HC2 hr3;have HC12:=HC1.trans HC2;simp[rW,nn];refine ze5 (h:=ha2) (c:=c2) (by simp only[rG]) (by simp only[rG]) (zuq (p:=p) (sw:=s2) d (HC12.row hid hne gR) hok hn b1.1 b2.1 (by have:=HC12.le;omega) (by have:=HC12.le;omega) hne HC2.cell (by omega)) ?_;rintro _ ha3 c3 lw3 mx3 ⟨rfl,HC3⟩ hcc3;rw[<-hr3]at HC3|-;have HC:=HC12.trans HC3;simp[rW,nn,zhh];rw[show min c (min lw1 (min lw2 lw3))=min (min lw1 lw2) lw3 by have:=HC1.low;omega];exact⟨HC,HC.fin hp⟩
def zhn:Go.Sort.Hint->Nat
 | .unknown=>0
 | .increasing=>1
 | .decreasing=>2
def zsj{d:Array Trm}{a b e n:Nat}(ha:a<n)(hb:b<n)(he:e<n):(Go.Sort.median ltT d a b e 0).1<n/\(Go.Sort.median ltT d a b e 0).2<=3:=by
 obtain⟨r1,hr1⟩ :∃r,r=Go.Sort.order2 ltT d a b 0:=⟨_,rfl⟩
 obtain⟨r2,hr2⟩ :∃r,r=Go.Sort.order2 ltT d r1.2.1 e r1.2.2:=⟨_,rfl⟩
 obtain⟨r3,hr3⟩ :∃r,r=Go.Sort.order2 ltT d r1.1 r2.1 r2.2.2:=⟨_,rfl⟩
 have hm:Go.Sort.median ltT d a b e 0=(r3.2.1,r3.2.2):=by rw[hr3,hr2,hr1];rfl
 have b1:=zis (d:=d) (sw:=0) ha hb;rw[<-hr1]at b1;have b2:=zis (d:=d) (sw:=r1.2.2) b1.2.1 he;rw[<-hr2]at b2;have b3:=zis (d:=d) (sw:=r2.2.2) b1.1 b2.1;rw[<-hr3]at b3;rw[hm];exact⟨b3.2.1,by show r3.2.2<=3;omega⟩
def zH3{d:Array Trm}{a b:Nat}(h1:12<b - a)(h2:b - a<50)(hb:b<=d.size):Go.Sort.choosePivot ltT d a b=((Go.Sort.median ltT d (a+(b - a)/4) (a+(b - a)/4*2) (a+(b - a)/4*3) 0).1,if(Go.Sort.median ltT d (a+(b - a)/4) (a+(b - a)/4*2) (a+(b - a)/4*3) 0).2=0 then .increasing else .unknown):=by
 have hm:=zsj (d:=d) (a:=a+(b - a)/4) (b:=a+(b - a)/4*2) (e:=a+(b - a)/4*3) (n:=d.size) (by omega) (by omega) (by omega);unfold Go.Sort.choosePivot;simp only[show b - a≥8 by omega,show ¬(b - a≥50) by omega,Z61,Z64,Z179];rw[Z50 (show ¬(Go.Sort.median ltT d (a+(b - a)/4) (a+(b - a)/4*2) (a+(b - a)/4*3) 0).2=12 by omega)]
theorem zJx{h:T Ob}{c id n a b:Nat}(d:Array Trm)(gR:zb8 h id d)(hok:OkA d)(hn:d.size=n)(hb:b<=n)(h1:12<b - a)(h2:b - a<50)(hsz:n<1000)(hid:id<c):
  RO pr 125 [.sl id 0 n 4 n false,.f (.i .i64 a),.f (.i .i64 b),.f (.fn 86)] h c (nn (Go.Sort.choosePivot ltT d a b).1 (zhn (Go.Sort.choosePivot ltT d a b).2)):=by
 refine zcA za0 fn125 rfl ?_;simp only[zzk,rU];rw[zH3 h1 h2 (by omega)];obtain⟨l,hl⟩ :∃l,l=b - a:=⟨_,rfl⟩
 obtain⟨q,hq⟩ :∃q,q=l/4:=⟨_,rfl⟩
 obtain⟨q2,hq2⟩ :∃q2,q2=q*2:=⟨_,rfl⟩
 obtain⟨q3,hq3⟩ :∃q3,q3=q*3:=⟨_,rfl⟩
 obtain⟨i,hi⟩ :∃i,i=a+q:=⟨_,rfl⟩
 obtain⟨j,hj⟩ :∃j,j=a+q2:=⟨_,rfl⟩
 obtain⟨k,hk⟩ :∃k,k=a+q3:=⟨_,rfl⟩
 have hwl:IntKind.i64.wrap ((b:Int) - a)=(l:Int):=by rw[za4 _ (by omega) (by omega)];omega
 have hwq:IntKind.i64.wrap ((l:Int)/4)=(q:Int):=by rw[za4 _ (by omega) (by omega)];omega
 have hwq1:IntKind.i64.wrap (q:Int)=(q:Int):=by rw[za4 _ (by omega) (by omega)]
 have hwq2:IntKind.i64.wrap ((q:Int)*2)=(q2:Int):=by rw[za4 _ (by omega) (by omega)];omega
 have hwq3:IntKind.i64.wrap ((q:Int)*3)=(q3:Int):=by rw[za4 _ (by omega) (by omega)];omega
 have hwi:IntKind.i64.wrap ((a:Int)+q)=(i:Int):=by rw[za4 _ (by omega) (by omega)];omega
 have hwj:IntKind.i64.wrap ((a:Int)+q2)=(j:Int):=by rw[za4 _ (by omega) (by omega)];omega
 have hwk:IntKind.i64.wrap ((a:Int)+q3)=(k:Int):=by rw[za4 _ (by omega) (by omega)];omega
 rw[<-hl,<-hq,<-hq2,<-hq3,<-hi,<-hj,<-hk];have hm:=zsj (d:=d) (a:=i) (b:=j) (e:=k) (n:=n) (by omega) (by omega) (by omega);have hl8:(8:Int)<=l:=by omega
 have hl50:¬(50:Int)<=l:=by omega
 simp[rW,st0,zah,hwl,hwq,hwq1,hwq2,hwq3,hwi,hwj,hwk,zi6,ztV,zga,hl8,hl50];refine ze5 (h:=h.set c (.arr 1 0 [[.f (.i .i64 0)]])) (c:=c+1) (by simp only[rG]) (by simp only[rG]) (zQ3 (p:=c) (sw:=0) d ?_ hok hn (by omega) (by omega) (by omega) (by omega) (by omega) (by omega) ?_ (by omega)) ?_
 .unfold zb8;rw[TG,Z50 (by omega)];exact gR
 .rw[TG,Z52 rfl];rfl
 rintro _ ha1 c1 lw1 mx ⟨rfl,HC⟩ hcc;have hc:=HC.cell;have hge:=HC.ge;obtain⟨m,hm0⟩ :∃m,m=Go.Sort.median ltT d i j k 0:=⟨_,rfl⟩
 rw[<-hm0]at hm hc|-;obtain⟨mi,sw⟩ :=m;simp only at hm hc|-
 by_cases hz:sw=0
 .subst hz;simp[rW,hc,zaO,nn,zhn];rw[za3 (Z3 _),za9];show min c lw1=c;omega
 .have hz0:¬((sw:Int)=0):=by omega
  have hz12:¬((sw:Int)=12):=by omega
  simp[rW,hc,zaO,nn,zhn,hz,hz0,hz12];rw[za3 (Z3 _),za9];show min c lw1=c;omega
def zCM{d:Array Trm}{a b:Nat}(h2:b - a<50):Go.Sort.partialInsertionSort ltT d a b=(d,decide (Go.Sort.scanSorted ltT d b (a+1)=b)):=by
 unfold Go.Sort.partialInsertionSort Go.Sort.partialIns
 by_cases h:Go.Sort.scanSorted ltT d b (a+1)=b
 .simp[h]
 .simp[h,h2]
def PS(h:T Ob)(c id n a b:Nat)(d:Array Trm)(r:Nat)(k:Nat)(s:St):Prop:=∃i:Nat,(k=b - i/\a+1<=i/\i<=b)/\(s.tm.get 0=some (.sl id 0 n 4 n false)/\s.tm.get 1=some (.f (.i .i64 a))/\s.tm.get 2=some (.f (.i .i64 b))/\s.tm.get 3=some (.f (.fn 86))/\s.tm.get 9=some (.f (.i .i64 i))/\s.tm.get 10=some (.f (.i .i64 0)))/\(s.h=h/\c<=s.c/\s.lw=c)/\Go.Sort.scanSorted ltT d b i=r
def PS0(h:T Ob)(c id n a b a1:Nat)(_k:Nat)(s:St):Prop:=(s.tm.get 0=some (.sl id 0 n 4 n false)/\s.tm.get 1=some (.f (.i .i64 a))/\s.tm.get 2=some (.f (.i .i64 b))/\s.tm.get 3=some (.f (.fn 86))/\s.tm.get 10=some (.f (.i .i64 0))/\s.tm.get 9=some (.f (.i .i64 a1)))/\s.h=h/\c<=s.c/\s.lw=c
theorem ro127{h:T Ob}{c id n a b:Nat}(d:Array Trm)(gR:zb8 h id d)(hok:OkA d)(hn:d.size=n)(hb:b<=n)(hab:a<b)(h2:b - a<50)(hsz:n<1000)(hid:id<c):
  RO pr 127 [.sl id 0 n 4 n false,.f (.i .i64 a),.f (.i .i64 b),.f (.fn 86)] h c (.f (.b (Go.Sort.partialInsertionSort ltT d a b).2)):=by
 refine zcA za0 fn127 rfl ?_;simp only[zzm,rU];rw[zCM h2];obtain⟨a1,ha1⟩ :∃a1,a1=a+1:=⟨_,rfl⟩
 have hwa:IntKind.i64.wrap ((a:Int)+1)=(a1:Int):=by rw[za4 _ (by omega) (by omega)];omega
 obtain⟨r,hr⟩ :∃r,r=Go.Sort.scanSorted ltT d b a1:=⟨_,rfl⟩
 rw[<-ha1,<-hr];have hwd:IntKind.i64.wrap ((b:Int) - a)=(b:Int) - a:=by rw[za4 _ (by omega) (by omega)]
 have h50:(b:Int) - a<50:=by omega
 simp[rW,st0,zah,hwa];refine zcN (PS0 h c id n a b a1) (fun x s=>x= .ret/\s.tm.get 8=some (.f (.b (decide (r=b))))/\s.lw=c) ?_ 0 _ ?_ ?_
 .rintro k s ⟨⟨h0,h1,h2,h3,h10,h9⟩,hsh,hsc,hsl⟩;simp[rW,h0,h1,h2,h3,h10,h9];refine zcN (PS h c id n a b d r) (fun x s=>x= .exit 2/\(s.tm.get 1=some (.f (.i .i64 a))/\s.tm.get 2=some (.f (.i .i64 b))/\s.tm.get 9=some (.f (.i .i64 r)))/\s.lw=c) ?_ (b - a1) _ ?_ ?_
  .clear hsh hsc hsl h0 h1 h2 h3 h10 h9 s;rintro k s ⟨i,⟨rfl,hil,hib⟩,⟨h0,h1,h2,h3,h9,h10⟩,⟨hsh,hsc,hsl⟩,hD⟩
   by_cases hij:i<b
   .obtain⟨i1,hi1⟩ :∃i1,i1=i+1:=⟨_,rfl⟩
    obtain⟨i0,hi0⟩ :∃i0,i0=i - 1:=⟨_,rfl⟩
    have hwi:IntKind.i64.wrap ((i:Int)+1)=(i1:Int):=by rw[za4 _ (by omega) (by omega)];omega
    have hwj:IntKind.i64.wrap ((i:Int) - 1)=(i0:Int):=by rw[za4 _ (by omega) (by omega)];omega
    have hX:i<n:=by omega
    have hY:i0<n:=by omega
    have e1:=zaK d (i:=i) (by omega);have e0:=zaK d (i:=i0) (by omega);have hRO:=fun(H':Vse.T Ob) (c':Nat)=>zht d[i]! d[i0]! (hok i) (hok i0) (h:=H') (c:=c')
    have hsc2:Go.Sort.scanSorted ltT d b i=if ¬(zaX d[i]! d[i0]! <0)then Go.Sort.scanSorted ltT d b i1 else i:=by
     rw[Go.Sort.scanSorted,hi1,hi0];simp[hij,ltT]
    unfold zb8 at gR
    by_cases hlt:zaX d[i]! d[i0]! <0
    .rw[hsc2,Z50 (by simpa using hlt)]at hD;generalize hT1:d[i]! =t1 at e1 hRO hlt;generalize hT2:d[i0]! =t2 at e0 hRO hlt;simp only[tmD]at e1 e0 hRO;simp[rW,h0,h1,h2,h3,h9,h10,hij];refine za5 ?_;simp[rW,h0,h1,h2,h3,h9,h10,hij,hsh,hwj,gR,hX,hY,e1,e0];refine zbS (d:= .f (.i .i64 (zaX t1 t2))) (hRO _ _) ?_ ?_ ?_
     .simp only[rG];omega
     .simp[ckG,ck1]
     intro mx hmx;simp only[rG]at hmx;simp[rW,h0,h1,h2,h3,h9,h10,hlt];exact⟨by omega,hsl⟩
    .rw[hsc2,Z52 (by simpa using hlt)]at hD;generalize hT1:d[i]! =t1 at e1 hRO hlt;generalize hT2:d[i0]! =t2 at e0 hRO hlt;simp only[tmD]at e1 e0 hRO;simp[rW,h0,h1,h2,h3,h9,h10,hij];refine za5 ?_;simp[rW,h0,h1,h2,h3,h9,h10,hij,hsh,hwj,gR,hX,hY,e1,e0];refine zbS (d:= .f (.i .i64 (zaX t1 t2))) (hRO _ _) ?_ ?_ ?_
     .simp only[rG];omega
     .simp[ckG,ck1]
     intro mx hmx;simp only[rG]at hmx;simp[rW,h0,h1,h2,h3,h9,h10,hlt];rw[zcc];refine⟨b - i1,by omega,i1,⟨rfl,by omega,by omega⟩,?_,⟨?_,?_,?_⟩,hD⟩
     .simp[rW,h0,h1,h2,h3,h9,h10,hwi]
     .simp[rW,hsh]
     .simp[rW,];omega
     .simp[rW,hsl]
   .have hsc2:Go.Sort.scanSorted ltT d b i=i:=by
     rw[Go.Sort.scanSorted];simp[hij]
    rw[hsc2]at hD;simp[rW,h0,h1,h2,h3,h9,h10,hij];refine za5 ?_;simp[rW,h0,h1,h2,h3,h9,h10,hij];exact⟨by omega,hsl⟩
  .simp[rW,PS,h0,h1,h2,h3,h10,h9,hsh,hsl];exact⟨a1,⟨rfl,by omega,by omega⟩,rfl,by omega,hr.symm⟩
  .clear hsh hsc hsl h0 h1 h2 h3 h10 h9 s;rintro x s ⟨rfl,⟨h1,h2,h9⟩,hsl⟩
   by_cases hrb:r=b
   .have hrb':(r:Int)=b:=by omega
    simp[rW,h1,h2,h9,hrb,hrb',hsl]
   .have hrb':¬((r:Int)=b):=by omega
    simp[rW,h1,h2,h9,hrb,hrb',hwd,h50,hsl]
 .simp[rW,PS0]
 .rintro x s ⟨rfl,h8,hsl⟩;simp[rW,zaO,h8,hsl]
def fn128:pr.fn 128=some g128:=by kernel_rfl
def zaR.fin2{A:Prop}{h:T Ob}{c id n:Nat}{d:Array Trm}{h':T Ob}{c' lw:Nat}(hA:A)(H:zaR h c id n d h' c' lw)(hid:id<c):(A/\zaR h c id n d h' c' lw)/\(lw=c->A/\zaR h c id n d h c c):=⟨⟨hA,H⟩,fun e=>⟨hA,H.fin hid e⟩⟩
def EU(h:T Ob)(c id n a b lo j:Nat)(d:Array Trm)(r:Nat)(k:Nat)(s:St):Prop:=∃i:Nat,(k=n+1 - i/\lo<=i/\i<=b)/\(s.tm.get 0=some (.sl id 0 n 4 n false)/\s.tm.get 1=some (.f (.i .i64 a))/\s.tm.get 4=some (.f (.fn 86))/\s.tm.get 12=some (.f (.i .i64 j))/\s.tm.get 11=some (.f (.i .i64 i)))/\zaR h c id n d s.h s.c s.lw/\Go.Sort.scanUp (fun x=>!ltT d[a]! x) d j i=r
def EUp(h:T Ob)(c id n a b lo j:Nat)(d:Array Trm)(r:Nat)(s:St):Prop:=(lo<=r/\r<=b)/\(s.tm.get 0=some (.sl id 0 n 4 n false)/\s.tm.get 1=some (.f (.i .i64 a))/\s.tm.get 4=some (.f (.fn 86))/\s.tm.get 12=some (.f (.i .i64 j))/\s.tm.get 11=some (.f (.i .i64 r)))/\zaR h c id n d s.h s.c s.lw
def ED(h:T Ob)(c id n a b i hi:Nat)(d:Array Trm)(r:Nat)(k:Nat)(s:St):Prop:=∃j:Nat,(k=j/\j<=hi)/\(s.tm.get 0=some (.sl id 0 n 4 n false)/\s.tm.get 1=some (.f (.i .i64 a))/\s.tm.get 4=some (.f (.fn 86))/\s.tm.get 11=some (.f (.i .i64 i))/\s.tm.get 12=some (.f (.i .i64 j)))/\zaR h c id n d s.h s.c s.lw/\Go.Sort.scanDown (fun x=>ltT d[a]! x) d i j=r
def EDp(h:T Ob)(c id n a b i hi:Nat)(d:Array Trm)(r:Nat)(s:St):Prop:=r<=hi/\(s.tm.get 0=some (.sl id 0 n 4 n false)/\s.tm.get 1=some (.f (.i .i64 a))/\s.tm.get 4=some (.f (.fn 86))/\s.tm.get 11=some (.f (.i .i64 i))/\s.tm.get 12=some (.f (.i .i64 r)))/\zaR h c id n d s.h s.c s.lw
def EQ(h:T Ob)(c id n a b:Nat)(D1:Nat×Array Trm)(k:Nat)(s:St):Prop:=∃(d:Array Trm) (i j:Nat),(k=j+1 - i/\a+1<=i/\i<=b/\j<b)/\(s.tm.get 0=some (.sl id 0 n 4 n false)/\s.tm.get 1=some (.f (.i .i64 a))/\s.tm.get 4=some (.f (.fn 86))/\s.tm.get 11=some (.f (.i .i64 i))/\s.tm.get 12=some (.f (.i .i64 j)))/\zaR h c id n d s.h s.c s.lw/\Go.Sort.partEqLoop ltT a i j d=D1
theorem zQ1{h:T Ob}{c id n a b pv:Nat}(d:Array Trm)(gR:zb8 h id d)(hok:OkA d)(hn:d.size=n)(hsz:n<100000)(hb:b<=n)(hab:a<b)(hpv:pv<n)(hid:id<c):
  zhz pr 128 [.sl id 0 n 4 n false,.f (.i .i64 a),.f (.i .i64 b),.f (.i .i64 pv),.f (.fn 86)] h c fun v h' c' lw=>v= .f (.i .i64 (Go.Sort.partitionEqual ltT d a b pv).1)/\(a< (Go.Sort.partitionEqual ltT d a b pv).1/\(Go.Sort.partitionEqual ltT d a b pv).1<=b)/\zaR h c id n (Go.Sort.partitionEqual ltT d a b pv).2 h' c' lw:=by
 refine zfL fn128 ?_;simp only[g128,rU];obtain⟨a1,ha1⟩ :∃a1,a1=a+1:=⟨_,rfl⟩
 obtain⟨b1,hb1⟩ :∃b1,b1=b - 1:=⟨_,rfl⟩
 have hwa:IntKind.i64.wrap ((a:Int)+1)=(a1:Int):=by rw[za4 _ (by omega) (by omega)];omega
 have hwb:IntKind.i64.wrap ((b:Int) - 1)=(b1:Int):=by rw[za4 _ (by omega) (by omega)];omega
 obtain⟨D1,hD1⟩ :∃D1,D1=Go.Sort.partitionEqual ltT d a b pv:=⟨_,rfl⟩
 have hD1':Go.Sort.partEqLoop ltT a a1 b1 (Go.Sort.swp d a pv)=D1:=by rw[hD1,ha1,hb1];rfl
 rw[<-hD1];clear hD1;have HS:=zaR.refl (c:=c) gR hok hn;simp[rW,st0,zah];have hX:a<n:=by omega
 have hY:pv<n:=by omega
 have gR:=HS.row;unfold zb8 at gR;have hlo:=HS.low;have hle:=HS.le;have e1:=zaK d (i:=a) (by rw[HS.sz];omega);have e0:=zaK d (i:=pv) (by rw[HS.sz];omega);have e0':=zcf d a (j:=pv) (by rw[HS.sz];omega);have hsw:=zdq d a pv
 skip
 generalize hT1:d[a]! =t1 at e1 e0 e0' hsw;generalize hT2:d[pv]! =t2 at e1 e0 e0' hsw;have hh8:hd8 ((zaH d.toList).set a (tmD t2))=false:=zcY _ _ _;simp only[tmD]at e1 e0 e0' hsw hh8;refine zaF ?_;simp[rW,gR,hX,hY,e1,e0,e0',hh8,zcF,hsw,hwa,hwb,zah];refine⟨by omega,by omega,?_⟩;refine zcN (EQ h c id n a b D1) (fun x s=>x= .exit 0/\(a<D1.1/\D1.1<=b)/\(s.tm.get 11=some (.f (.i .i64 D1.1)))/\zaR h c id n D1.2 s.h s.c s.lw) ?_ (b1+1 - a1) _ ?_ ?_
 .clear hD1' HS gR hlo hle hX hY e1 e0 e0' hsw hh8 hT1 hT2;rintro k s ⟨d,i,j,⟨rfl,hai,hin,hjb⟩,⟨h0,h1,h4,h11,h12⟩,HS,hD⟩;simp[rW,h0,h1,h4,h11,h12];obtain⟨i2,hi2⟩ :∃i2,i2=Go.Sort.scanUp (fun x=>!ltT d[a]! x) d j i:=⟨_,rfl⟩
  refine zcN (EU h c id n a b i j d i2) (fun x s=>x= .exit 2/\EUp h c id n a b i j d i2 s) ?_ (n+1 - i) _ ?_ ?_
  .rintro k s ⟨i,⟨rfl,hil,hin0⟩,⟨h0,h1,h4,h12,h11⟩,HS,hD⟩;obtain⟨i1,hi1⟩ :∃i1,i1=i+1:=⟨_,rfl⟩
   have hwi:IntKind.i64.wrap ((i:Int)+1)=(i1:Int):=by rw[za4 _ (by omega) (by omega)];omega
   by_cases hij:i<=j
   .have hX:a<n:=by omega
    have hY:i<n:=by omega
    have e1:=zaK d (i:=a) (by rw[HS.sz];omega);have e0:=zaK d (i:=i) (by rw[HS.sz];omega);have hRO:=fun(H':Vse.T Ob) (c':Nat)=>zht d[a]! d[i]! (HS.ok a) (HS.ok i) (h:=H') (c:=c')
    have gR:=HS.row;unfold zb8 at gR;have hlo:=HS.low;have hle:=HS.le;have hsc:Go.Sort.scanUp (fun x=>!ltT d[a]! x) d j i=if ¬(zaX d[a]! d[i]! <0)then Go.Sort.scanUp (fun x=>!ltT d[a]! x) d j i1 else i:=by
     rw[Go.Sort.scanUp,hi1];simp[hij,ltT]
    rw[hsc]at hD;clear hsc
    by_cases hlt:zaX d[a]! d[i]! <0
    .rw[Z50 (by simpa using hlt)]at hD;generalize hT1:d[a]! =t1 at e1 hRO hlt;generalize hT2:d[i]! =t2 at e0 hRO hlt;simp only[tmD]at e1 e0 hRO;simp[rW,h0,h1,h4,h12,h11,hij];refine za5 ?_;simp[rW,h0,h1,h4,h12,h11,hij,gR,hX,hY,e1,e0];refine zbS (d:= .f (.i .i64 (zaX t1 t2))) (hRO _ _) ?_ ?_ ?_
     .simp only[rG];omega
     .simp[ckG,ck1]
     intro mx hmx;simp only[rG]at hmx;simp[rW,h0,h1,h4,h12,h11,hlt];rw[<-hD,EUp];simp[rW,h0,h1,h4,h12,h11];exact⟨by omega,HS.cc (by omega)⟩
    .rw[Z52 (by simpa using hlt)]at hD;generalize hT1:d[a]! =t1 at e1 hRO hlt;generalize hT2:d[i]! =t2 at e0 hRO hlt;simp only[tmD]at e1 e0 hRO;simp[rW,h0,h1,h4,h12,h11,hij];refine za5 ?_;simp[rW,h0,h1,h4,h12,h11,hij,gR,hX,hY,e1,e0];refine zbS (d:= .f (.i .i64 (zaX t1 t2))) (hRO _ _) ?_ ?_ ?_
     .simp only[rG];omega
     .simp[ckG,ck1]
     intro mx hmx;simp only[rG]at hmx;simp[rW,h0,h1,h4,h12,h11,hlt];rw[zcc];refine⟨n+1 - i1,by omega,i1,⟨rfl,by omega,by omega⟩,?_,?_,hD⟩
     .simp[rW,h0,h1,h4,h12,h11,hwi]
     .simp[rW,];exact HS.cc (by omega)
   .have hsc:Go.Sort.scanUp (fun x=>!ltT d[a]! x) d j i=i:=by
     rw[Go.Sort.scanUp];simp[hij]
    rw[hsc]at hD;simp[rW,h0,h1,h4,h12,h11,hij];refine za5 ?_;simp[rW,h0,h1,h4,h12,h11,hij];rw[<-hD,EUp];simp[rW,h0,h1,h4,h12,h11];exact⟨by omega,HS.cc (by omega)⟩
  .simp[rW,EU,h0,h1,h4,h11,h12];exact⟨i,⟨rfl,Z3 _,by omega⟩,rfl,HS,hi2.symm⟩
  .rintro x s ⟨rfl,⟨hb1,hb2⟩,⟨h0,h1,h4,h12,h11⟩,HS⟩;simp[rW,h0,h1,h4,h11,h12];obtain⟨j2,hj2⟩ :∃j2,j2=Go.Sort.scanDown (fun x=>ltT d[a]! x) d i2 j:=⟨_,rfl⟩
   refine zcN (ED h c id n a b i2 j d j2) (fun x s=>x= .exit 4/\EDp h c id n a b i2 j d j2 s) ?_ j _ ?_ ?_
   .rintro k s ⟨j,⟨hkj,hjl⟩,⟨h0,h1,h4,h11,h12⟩,HS,hD⟩;obtain⟨j1,hj1⟩ :∃j1,j1=j - 1:=⟨_,rfl⟩
    by_cases hij:i2<=j
    .have hX:a<n:=by omega
     have hY:j<n:=by omega
     have e1:=zaK d (i:=a) (by rw[HS.sz];omega);have e0:=zaK d (i:=j) (by rw[HS.sz];omega);have hRO:=fun(H':Vse.T Ob) (c':Nat)=>zht d[a]! d[j]! (HS.ok a) (HS.ok j) (h:=H') (c:=c')
     have gR:=HS.row;unfold zb8 at gR;have hlo:=HS.low;have hle:=HS.le;have hwj:IntKind.i64.wrap ((j:Int) - 1)=(j1:Int):=by rw[za4 _ (by omega) (by omega)];omega
     have hsc:Go.Sort.scanDown (fun x=>ltT d[a]! x) d i2 j=if(zaX d[a]! d[j]! <0)then Go.Sort.scanDown (fun x=>ltT d[a]! x) d i2 j1 else j:=by
      obtain⟨j2,rfl⟩ :∃j2,j=j2+1:=⟨j - 1,by omega⟩
      rw[Go.Sort.scanDown,hj1];simp[hij,ltT]
     rw[hsc]at hD;clear hsc
     by_cases hlt:zaX d[a]! d[j]! <0
     .rw[Z52 (by simpa using hlt)]at hD;generalize hT1:d[a]! =t1 at e1 hRO hlt;generalize hT2:d[j]! =t2 at e0 hRO hlt;simp only[tmD]at e1 e0 hRO;simp[rW,h0,h1,h4,h11,h12,hij];refine za5 ?_;simp[rW,h0,h1,h4,h11,h12,hij,gR,hX,hY,e1,e0];refine zbS (d:= .f (.i .i64 (zaX t1 t2))) (hRO _ _) ?_ ?_ ?_
      .simp only[rG];omega
      .simp[ckG,ck1]
      intro mx hmx;simp only[rG]at hmx;simp[rW,h0,h1,h4,h11,h12,hlt];rw[zcc];refine⟨j1,by omega,j1,⟨rfl,by omega⟩,?_,?_,hD⟩
      .simp[rW,h0,h1,h4,h11,h12,hwj]
      .simp[rW,];exact HS.cc (by omega)
     .rw[Z50 (by simpa using hlt)]at hD;generalize hT1:d[a]! =t1 at e1 hRO hlt;generalize hT2:d[j]! =t2 at e0 hRO hlt;simp only[tmD]at e1 e0 hRO;simp[rW,h0,h1,h4,h11,h12,hij];refine za5 ?_;simp[rW,h0,h1,h4,h11,h12,hij,gR,hX,hY,e1,e0];refine zbS (d:= .f (.i .i64 (zaX t1 t2))) (hRO _ _) ?_ ?_ ?_
      .simp only[rG];omega
      .simp[ckG,ck1]
      intro mx hmx;simp only[rG]at hmx;simp[rW,h0,h1,h4,h11,h12,hlt];rw[<-hD,EDp];simp[rW,h0,h1,h4,h11,h12];exact⟨by omega,HS.cc (by omega)⟩
    .have hsc:Go.Sort.scanDown (fun x=>ltT d[a]! x) d i2 j=j:=by
      cases j with
      |zero=>rfl
      |succ j2=>rw[Go.Sort.scanDown];simp[hij]
     rw[hsc]at hD;simp[rW,h0,h1,h4,h11,h12,hij];refine za5 ?_;simp[rW,h0,h1,h4,h11,h12,hij];rw[<-hD,EDp];simp[rW,h0,h1,h4,h11,h12];exact⟨by omega,HS.cc (by omega)⟩
   .simp[rW,ED,h0,h1,h4,h11,h12];exact⟨j,⟨rfl,Z3 _⟩,rfl,HS,hj2.symm⟩
   .rintro x s ⟨rfl,hjl,⟨h0,h1,h4,h11,h12⟩,HS⟩;rw[Go.Sort.partEqLoop]at hD;simp only[<-hi2,<-hj2]at hD
    by_cases hgt:j2<i2
    .rw[Z52 hgt]at hD;simp[rW,h0,h1,h4,h11,h12,hgt];rw[<-hD];exact⟨⟨by show a<i2;omega,by show i2<=b;omega⟩,rfl,HS⟩
    .rw[Z50 hgt,dif_pos (by omega)]at hD;obtain⟨i3,hi3⟩ :∃i3,i3=i2+1:=⟨_,rfl⟩
     obtain⟨j3,hj3⟩ :∃j3,j3=j2 - 1:=⟨_,rfl⟩
     have hwi:IntKind.i64.wrap ((i2:Int)+1)=(i3:Int):=by rw[za4 _ (by omega) (by omega)];omega
     have hwj:IntKind.i64.wrap ((j2:Int) - 1)=(j3:Int):=by rw[za4 _ (by omega) (by omega)];omega
     rw[<-hi3,<-hj3]at hD;simp[rW,h0,h1,h4,h11,h12,hgt];have hX:i2<n:=by omega
     have hY:j2<n:=by omega
     have gR:=HS.row;unfold zb8 at gR;have hlo:=HS.low;have hle:=HS.le;have e1:=zaK d (i:=i2) (by rw[HS.sz];omega);have e0:=zaK d (i:=j2) (by rw[HS.sz];omega);have e0':=zcf d i2 (j:=j2) (by rw[HS.sz];omega);have hsw:=zdq d i2 j2
     skip
     generalize hT1:d[i2]! =t1 at e1 e0 e0' hsw;generalize hT2:d[j2]! =t2 at e1 e0 e0' hsw;have hh8:hd8 ((zaH d.toList).set i2 (tmD t2))=false:=zcY _ _ _;simp only[tmD]at e1 e0 e0' hsw hh8;refine zaF ?_;simp[rW,h0,h1,h4,h11,h12,gR,hX,hY,e1,e0,e0',hh8,zcF,hsw,hwi,hwj];refine⟨by omega,by omega,?_⟩;rw[zcc];refine⟨j3+1 - i3,by omega,Go.Sort.swp d i2 j2,i3,j3,⟨rfl,by omega,by omega,by omega⟩,?_,?_,hD⟩
     .simp[rW,h0,h1,h4,h11,h12]
     .simp[rW,];exact HS.swp hid i2 j2 (by omega) (by rw[TG,Z52 rfl]) (fun q hq=>by rw[TG,Z50 hq,TG,Z50 hq]) (zdU _ _ _ _)
 .simp[rW,EQ];exact⟨_,a1,b1,⟨rfl,by omega,by omega,by omega⟩,⟨rfl,rfl⟩,HS.swp hid a pv (by omega) (by rw[TG,Z52 rfl]) (fun q hq=>by rw[TG,Z50 hq,TG,Z50 hq]) (zdU _ _ _ _),hD1'⟩
 .rintro x s ⟨rfl,hbd,h11,HS⟩;simp[rW,h11,zhh];exact zaR.fin2 hbd HS hid
end Go.Proofs.YtflgmemhalhdbaaGreatDoor
end
