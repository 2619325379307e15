/- slices.SortFunc: pdq. -/
import Derived.Test.YtflgmemhalhdbaaGreatDoorPg
import Derived.KernelRfl
import Derived.IntWalk
set_option linter.all false
set_option maxRecDepth 100000
set_option maxHeartbeats 4000000
noncomputable section
section
namespace Go.Proofs.YtflgmemhalhdbaaGreatDoor
open Go Go.Vse Go.Vse.Sm
def zId:pr.fn 105=some zuE:=by kernel_rfl
def zla(a:Int):Go.Vse.za7 .quo (.i .i64 a) (.i .i64 8)=some (.i .i64 (IntKind.i64.wrap (a.tdiv 8))):=rfl
def znq{d:Array Trm}{a b:Nat}(h1:12<b - a)(h2:b - a<50)(hb:b<=d.size):(Go.Sort.choosePivot ltT d a b).2≠ .decreasing:=by
 rw[zH3 h1 h2 hb];simp only;split<;>simp
def zqv(d:Array Trm)(a b piv lm:Nat)(wb wp:Bool):Array Trm:=
 if decide (a>0)&& !ltT d[a - 1]! d[piv]! then
  if _h:a< (Go.Sort.partitionEqual ltT d a b piv).1/\(Go.Sort.partitionEqual ltT d a b piv).1<=b then Go.Sort.pdq ltT (Go.Sort.partitionEqual ltT d a b piv).2 (Go.Sort.partitionEqual ltT d a b piv).1 b lm wb wp else(Go.Sort.partitionEqual ltT d a b piv).2
 else
  if _h:a<=(Go.Sort.partition ltT d a b piv).1/\(Go.Sort.partition ltT d a b piv).1<b then
   if(Go.Sort.partition ltT d a b piv).1 - a<b - (Go.Sort.partition ltT d a b piv).1 then
    Go.Sort.pdq ltT (Go.Sort.pdq ltT (Go.Sort.partition ltT d a b piv).2.2 a (Go.Sort.partition ltT d a b piv).1 lm true true) ((Go.Sort.partition ltT d a b piv).1+1) b lm (decide ((Go.Sort.partition ltT d a b piv).1 - a≥(b - a)/8)) (Go.Sort.partition ltT d a b piv).2.1
   else
    Go.Sort.pdq ltT (Go.Sort.pdq ltT (Go.Sort.partition ltT d a b piv).2.2 ((Go.Sort.partition ltT d a b piv).1+1) b lm true true) a (Go.Sort.partition ltT d a b piv).1 lm (decide (b - (Go.Sort.partition ltT d a b piv).1≥(b - a)/8)) (Go.Sort.partition ltT d a b piv).2.1
  else(Go.Sort.partition ltT d a b piv).2.2
def zmV(d:Array Trm)(a b lm:Nat)(wb wp:Bool):Array Trm:=
 if(wb&&wp&&decide ((Go.Sort.choosePivot ltT d a b).2= .increasing))&&(Go.Sort.partialInsertionSort ltT d a b).2 then d else zqv d a b (Go.Sort.choosePivot ltT d a b).1 lm wb wp
def pdq_eq{d:Array Trm}{a b lm:Nat}{wb wp:Bool}(h1:12<b - a)(h2:b - a<50)(hb:b<=d.size)(h0:lm≠0)(hbp:(Go.Sort.breakPatterns d a b).size=d.size):Go.Sort.pdq ltT d a b lm wb wp=zmV (if wb then d else Go.Sort.breakPatterns d a b) a b (if wb then lm else lm - 1) wb wp:=by
 rw[Go.Sort.pdq,Z50 (by omega),Z50 h0];cases wb
 .have hc:=znq (d:=Go.Sort.breakPatterns d a b) h1 h2 (by omega);simp only[Bool.not_false,Z61,hc,Z64,Z177,Z53,zmV,zqv]
 .have hc:=znq (d:=d) h1 h2 (by omega);simp only[Z90,Z61,hc,Z64,Z104,Z53,zmV,zqv,zCM h2];have e:∀(x q:Bool),(if x=true then(d,q)else(d,false))=(d,x&&q):=by intro x q;cases x<;>rfl
  simp only[e]
def PQ(h:T Ob)(c id n N:Nat)(D1:Array Trm)(k:Nat)(s:St):Prop:=∃(d:Array Trm) (a b lm:Nat) (wb wp:Bool),(k=b - a/\a<=b/\b<=n/\b - a<=N)/\(s.tm.get 0=some (.sl id 0 n 4 n false)/\s.tm.get 1=some (.f (.i .i64 a))/\s.tm.get 2=some (.f (.i .i64 b))/\s.tm.get 3=some (.f (.i .i64 lm))/\s.tm.get 4=some (.f (.fn 86))/\s.tm.get 10=some (.f (.b wb))/\s.tm.get 11=some (.f (.b wp)))/\zaR h c id n d s.h s.c s.lw/\lm<100/\Go.Sort.pdq ltT d a b lm wb wp=D1
def IH88(N:Nat):Prop:=∀m,m<N->∀{h:T Ob} {c id n a b lm:Nat} (d:Array Trm),b - a<=m->zb8 h id d->OkA d->d.size=n->n<50->b<=n->a<=b->lm<100->id<c->zhz pr 105 [.sl id 0 n 4 n false,.f (.i .i64 a),.f (.i .i64 b),.f (.i .i64 lm),.f (.fn 86)] h c fun _ h' c' lw=>zaR h c id n (Go.Sort.pdq ltT d a b lm true true) h' c' lw
def zJH:List (Go.Vse.Op×Nat):=[(oM 81 1,0),(oR 82 (.bin .gtr (.t 81) (.k (.i .i64 0))),0),(oM 83 82,0),(oG 84 83 (.mv (.t 4)),0),(oG 85 83 (.mv (.t 0)),8),(oG 86 83 (.mv (.t 1)),24),(oG 87 83 (.bin .sub (.t 86) (.k (.i .i64 1))),24),(oG 88 83 (.ia 4 (.t 85) (.t 87)),8),(oG 89 83 (.ld true 4 (.t 88)),8),(oG 90 83 (.mv (.t 0)),504),(oG 91 83 (.mv (.t 13)),1016),(oG 92 83 (.ia 4 (.t 90) (.t 91)),504),(oG 93 83 (.ld true 4 (.t 92)),504),(oG 94 83 (.callv (.t 84) [(.t 89),(.t 93)]),0),(oG 95 83 (.bin .lss (.t 94) (.k (.i .i64 0))),0),(oG 96 83 (.un .not (.t 95)),0),(oR 97 (.pick (.t 83) (.t 96) (.k (.b false))),0)]
def zJD:C:=(.cond (.t 97) (oZ [oM 98 0,oM 99 1,oM 100 2,oM 101 13,oM 102 4,oR 103 (.call 128 [(.t 98),(.t 99),(.t 100),(.t 101),(.t 102)]),oM 15 103]
 (oZ [oM 104 15,oM 1 104]
 (.exit 1))) .skip)
def zJJ:C:=(oZ [oM 106 0,oM 107 1,oM 108 2,oM 109 13,oM 110 4,oR 111 (.call 129 [(.t 106),(.t 107),(.t 108),(.t 109),(.t 110)]),oM 105 111,oR 112 (.ext (.t 105) 0),oR 113 (.ext (.t 105) 1),oM 16 112,oM 17 113]
 (oZ [oM 114 17,oM 11 114]
 (oZ [oM 115 16,oM 116 1,oR 117 (.bin .sub (.t 115) (.t 116)),oM 118 2,oM 119 16,oR 120 (.bin .sub (.t 118) (.t 119)),oM 18 117,oM 19 120]
 (oZ [oM 121 12,oR 122 (.bin .quo (.t 121) (.k (.i .i64 8))),oM 20 122]
 (oD [oM 123 18,oM 124 19,oR 125 (.bin .lss (.t 123) (.t 124))] 125 (oZ [oM 126 18,oM 127 20,oR 128 (.bin .geq (.t 126) (.t 127)),oM 10 128]
 (oZ [oM 129 0,oM 130 1,oM 131 16,oM 132 3,oM 133 4,oR 134 (.call 105 [(.t 129),(.t 130),(.t 131),(.t 132),(.t 133)])]
 (.reg [oM 135 16,oR 136 (.bin .add (.t 135) (.k (.i .i64 1))),oM 1 136]))) (oZ [oM 137 19,oM 138 20,oR 139 (.bin .geq (.t 137) (.t 138)),oM 10 139]
 (oZ [oM 140 0,oM 141 16,oR 142 (.bin .add (.t 141) (.k (.i .i64 1))),oM 143 2,oM 144 3,oM 145 4,oR 146 (.call 105 [(.t 140),(.t 142),(.t 143),(.t 144),(.t 145)])]
 (.reg [oM 147 16,oM 2 147]))))))))
def zqu{N:Nat}(ih:IH88 N){h:T Ob}{c id n a b lm l piv:Nat}{d D1:Array Trm}{wb wp:Bool}(hl:l=b - a)(hl12:¬l<=12)(hN:b - a<=N)(hn50:n<50)(hbn:b<=n)(hab:a<=b)(hlm:lm<100)(hid:id<c)(hp1:a<=piv)(hp2:piv<b)(hT:zqv d a b piv lm wb wp=D1)(Q:Ex->St->Prop)(hQn:∀s',(∃k',k'<b - a/\PQ h c id n N D1 k' s')->Q .nrm s')(hQx:∀s',(∃k',k'<b - a/\PQ h c id n N D1 k' s')->Q (.exit 1) s')(s:St)(hs:(s.tm.get 0=some (.sl id 0 n 4 n false)/\s.tm.get 1=some (.f (.i .i64 a))/\s.tm.get 2=some (.f (.i .i64 b))/\s.tm.get 3=some (.f (.i .i64 lm))/\s.tm.get 4=some (.f (.fn 86))/\s.tm.get 10=some (.f (.b wb))/\s.tm.get 11=some (.f (.b wp))/\s.tm.get 12=some (.f (.i .i64 l))/\s.tm.get 13=some (.f (.i .i64 piv)))/\zaR h c id n d s.h s.c s.lw):WD pr zJH s (sq pr zJD (sq pr zJJ Q)):=by
 obtain⟨⟨h0,h1,h2,h3,h4,h10,h11,h12,h13⟩,HS⟩ :=hs;unfold zJH zJD zJJ;simp only[rU];unfold zqv at hT
 by_cases ha0:0<a
 .have ha0':(0:Int)<a:=by omega
  obtain⟨p1,hp1e⟩ :∃p1,p1=a - 1:=⟨_,rfl⟩
  have hwp1:IntKind.i64.wrap ((a:Int) - 1)=(p1:Int):=by rw[za4 _ (by omega) (by omega)];omega
  have hX:p1<n:=by omega
  have hY:piv<n:=by omega
  have e1:=zaK d (i:=p1) (by rw[HS.sz];omega);have e0:=zaK d (i:=piv) (by rw[HS.sz];omega);have hRO:=fun(H':Vse.T Ob) (c':Nat)=>zht d[p1]! d[piv]! (HS.ok p1) (HS.ok piv) (h:=H') (c:=c')
  have gR:=HS.row;unfold zb8 at gR;have hlo:=HS.low;have hle:=HS.le;rw[<-hp1e]at hT;have hcond:(decide (a>0)&& !ltT d[p1]! d[piv]!)= !ltT d[p1]! d[piv]! :=by simp[ha0]
  rw[hcond]at hT
  by_cases hlt:zaX d[p1]! d[piv]! <0
  .rw[Z50 (by simp[ltT,hlt])]at hT;generalize hT1:d[p1]! =t1 at e1 hRO hlt;generalize hT2:d[piv]! =t2 at e0 hRO hlt;simp only[tmD]at e1 e0 hRO;refine za5 ?_;simp[rW,h0,h1,h2,h3,h4,h10,h11,h12,h13,ha0,ha0',hwp1,gR,hX,hY,e1,e0];refine zbS (d:= .f (.i .i64 (zaX t1 t2))) (hRO _ _) ?_ ?_ ?_
   .simp only[rG];omega
   .simp[ckG,ck1]
   intro mx hmx;simp only[rG]at hmx;simp[rW,h0,h1,h2,h3,h4,h10,h11,h12,h13,hlt];refine zfu (Q:=fun S=>WQ pr 129 _ S _ _ _) (P:=fun s=>(s.tm.get 0=some (.sl id 0 n 4 n false)/\s.tm.get 1=some (.f (.i .i64 a))/\s.tm.get 2=some (.f (.i .i64 b))/\s.tm.get 3=some (.f (.i .i64 lm))/\s.tm.get 4=some (.f (.fn 86))/\s.tm.get 10=some (.f (.b wb))/\s.tm.get 11=some (.f (.b wp))/\s.tm.get 12=some (.f (.i .i64 l))/\s.tm.get 13=some (.f (.i .i64 piv)))/\zaR h c id n d s.h s.c s.lw) ?_ ?_
   .simp[rW,h0,h1,h2,h3,h4,h10,h11,h12,h13];exact HS.cc (by omega)
   clear HS h0 h1 h2 h3 h4 h10 h11 h12 h13 gR hlo hle hRO e1 e0;rintro s ⟨⟨h0,h1,h2,h3,h4,h10,h11,h12,h13⟩,HS⟩;obtain⟨r,hr⟩ :∃r,r=Go.Sort.partition ltT d a b piv:=⟨_,rfl⟩
   have hrg:=Go.Sort.partition_holds ltT zAs d a b piv hp1 hp2 (by rw[HS.sz];exact hbn);have E:=zBR (h:=s.h) (c:=s.c) (a:=a) (b:=b) d HS.row HS.ok HS.sz (by omega) hbn (by omega) (by omega:piv<n) (by have:=HS.le;omega);rw[<-hr]at hrg E;rw[<-hr]at hT;obtain⟨mid,ap,d4⟩ :=r;simp only at hrg E hT;obtain⟨hm1,hm2,-⟩ :=hrg;rw[dif_pos ⟨hm1,hm2⟩]at hT;obtain⟨sl,hsl⟩ :∃sl,sl=mid - a:=⟨_,rfl⟩
   obtain⟨sr,hsr⟩ :∃sr,sr=b - mid:=⟨_,rfl⟩
   obtain⟨l8,hl8⟩ :∃l8,l8=l/8:=⟨_,rfl⟩
   obtain⟨mid1,hmid1⟩ :∃mid1,mid1=mid+1:=⟨_,rfl⟩
   have hwsl:IntKind.i64.wrap ((mid:Int) - a)=(sl:Int):=by rw[za4 _ (by omega) (by omega)];omega
   have hwsr:IntKind.i64.wrap ((b:Int) - mid)=(sr:Int):=by rw[za4 _ (by omega) (by omega)];omega
   have hw8:IntKind.i64.wrap ((l:Int)/8)=(l8:Int):=by rw[za4 _ (by omega) (by omega)];omega
   have hwm1:IntKind.i64.wrap ((mid:Int)+1)=(mid1:Int):=by rw[za4 _ (by omega) (by omega)];omega
   rw[<-hsl,<-hsr,<-hl,<-hl8,<-hmid1]at hT
   by_cases hlr:sl<sr
   .have hlr':(sl:Int)<sr:=by omega
    rw[Z52 hlr]at hT;have hdec:decide (sl≥l8)=decide ((l8:Int)<=sl):=decide_eq_decide.2 (by omega);rw[hdec]at hT;refine ze5 (h:=s.h) (c:=s.c) (by simp only[rG]) (by simp only[rG]) E ?_;rintro _ h' c' lw mx ⟨rfl,HS2⟩ hcc;have HS3:=HS.trans HS2;simp[rW,h0,h1,h2,h3,h4,h10,h11,h12,h13,hwsl,hwsr,hw8,hwm1,zla,hlr'];refine ze5 (h:=h') (c:=c') (by simp only[rG]) (by simp only[rG]) (ih (mid - a) (by omega) d4 (Z3 _) HS3.row HS3.ok HS3.sz hn50 (by omega) hm1 hlm (by have:=HS3.le;omega)) ?_;rintro d5 h5 c5 lw5 mx5 HS4 hcc5;have HS5:=HS3.trans HS4;simp[rW,h0,h1,h2,h3,h4,h10,h11,h12,h13,hwm1];refine hQn _ ⟨b - mid1,by omega,_,mid1,b,lm,decide ((l8:Int)<=sl),ap,⟨rfl,by omega,hbn,by omega⟩,?_,?_,hlm,hT⟩
    .simp[rW,h0,h1,h2,h3,h4,h10,h11,h12,h13]
    .simp[rW,];rw[<-Z187];exact HS5
   .have hlr':¬((sl:Int)<sr):=by omega
    rw[Z50 hlr]at hT;have hdec:decide (sr≥l8)=decide ((l8:Int)<=sr):=decide_eq_decide.2 (by omega);rw[hdec]at hT;refine ze5 (h:=s.h) (c:=s.c) (by simp only[rG]) (by simp only[rG]) E ?_;rintro _ h' c' lw mx ⟨rfl,HS2⟩ hcc;have HS3:=HS.trans HS2;simp[rW,h0,h1,h2,h3,h4,h10,h11,h12,h13,hwsl,hwsr,hw8,hwm1,zla,hlr'];refine ze5 (h:=h') (c:=c') (by simp only[rG]) (by simp only[rG]) (ih (b - mid1) (by omega) d4 (Z3 _) HS3.row HS3.ok HS3.sz hn50 hbn (by omega) hlm (by have:=HS3.le;omega)) ?_;rintro d5 h5 c5 lw5 mx5 HS4 hcc5;have HS5:=HS3.trans HS4;simp[rW,h0,h1,h2,h3,h4,h10,h11,h12,h13,hwm1];refine hQn _ ⟨mid - a,by omega,_,a,mid,lm,decide ((l8:Int)<=sr),ap,⟨rfl,by omega,by omega,by omega⟩,?_,?_,hlm,hT⟩
    .simp[rW,h0,h1,h2,h3,h4,h10,h11,h12,h13]
    .simp[rW,];rw[<-Z187];exact HS5
  .rw[Z52 (by simp[ltT,hlt])]at hT;have E:=fun(s:St) (HS:zaR h c id n d s.h s.c s.lw)=>zQ1 (h:=s.h) (c:=s.c) (a:=a) (b:=b) d HS.row HS.ok HS.sz (by omega) hbn (by omega) (by omega:piv<n) (by have:=HS.le;omega)
   obtain⟨r,hr⟩ :∃r,r=Go.Sort.partitionEqual ltT d a b piv:=⟨_,rfl⟩
   rw[<-hr]at E hT;obtain⟨mid,d4⟩ :=r;simp only at E hT;generalize hT1:d[p1]! =t1 at e1 hRO hlt;generalize hT2:d[piv]! =t2 at e0 hRO hlt;simp only[tmD]at e1 e0 hRO;refine za5 ?_;simp[rW,h0,h1,h2,h3,h4,h10,h11,h12,h13,ha0,ha0',hwp1,gR,hX,hY,e1,e0];refine zbS (d:= .f (.i .i64 (zaX t1 t2))) (hRO _ _) ?_ ?_ ?_
   .simp only[rG];omega
   .simp[ckG,ck1]
   intro mx hmx;simp only[rG]at hmx;simp[rW,h0,h1,h2,h3,h4,h10,h11,h12,h13,hlt];refine zfu (Q:=fun S=>WQ pr 128 _ S _ _ _) (P:=fun s=>(s.tm.get 0=some (.sl id 0 n 4 n false)/\s.tm.get 1=some (.f (.i .i64 a))/\s.tm.get 2=some (.f (.i .i64 b))/\s.tm.get 3=some (.f (.i .i64 lm))/\s.tm.get 4=some (.f (.fn 86))/\s.tm.get 10=some (.f (.b wb))/\s.tm.get 11=some (.f (.b wp))/\s.tm.get 12=some (.f (.i .i64 l))/\s.tm.get 13=some (.f (.i .i64 piv)))/\zaR h c id n d s.h s.c s.lw) ?_ ?_
   .simp[rW,h0,h1,h2,h3,h4,h10,h11,h12,h13];exact HS.cc (by omega)
   clear HS h0 h1 h2 h3 h4 h10 h11 h12 h13 gR hlo hle hRO e1 e0;rintro s ⟨⟨h0,h1,h2,h3,h4,h10,h11,h12,h13⟩,HS⟩;refine ze5 (h:=s.h) (c:=s.c) (by simp only[rG]) (by simp only[rG]) (E s HS) ?_;rintro _ h' c' lw mx ⟨rfl,⟨hm1,hm2⟩,HS2⟩ hcc;have HS3:=HS.trans HS2;rw[dif_pos ⟨hm1,hm2⟩]at hT;simp[rW,h0,h1,h2,h3,h4,h10,h11,h12,h13];refine hQx _ ⟨b - mid,by omega,_,mid,b,lm,wb,wp,⟨rfl,by omega,hbn,by omega⟩,?_,?_,hlm,hT⟩
   .simp[rW,h0,h1,h2,h3,h4,h10,h11,h12,h13]
   .simp[rW,];exact HS3
 .have ha0':¬((0:Int)<a):=by omega
  rw[Z50 (by simp;omega)]at hT;refine za5 ?_;simp[rW,h0,h1,h2,h3,h4,h10,h11,h12,h13,ha0,ha0'];refine zfu (Q:=fun S=>WQ pr 129 _ S _ _ _) (P:=fun s=>(s.tm.get 0=some (.sl id 0 n 4 n false)/\s.tm.get 1=some (.f (.i .i64 a))/\s.tm.get 2=some (.f (.i .i64 b))/\s.tm.get 3=some (.f (.i .i64 lm))/\s.tm.get 4=some (.f (.fn 86))/\s.tm.get 10=some (.f (.b wb))/\s.tm.get 11=some (.f (.b wp))/\s.tm.get 12=some (.f (.i .i64 l))/\s.tm.get 13=some (.f (.i .i64 piv)))/\zaR h c id n d s.h s.c s.lw) ?_ ?_
  .simp[rW,h0,h1,h2,h3,h4,h10,h11,h12,h13];exact HS.cc (by omega)
  clear HS h0 h1 h2 h3 h4 h10 h11 h12 h13;rintro s ⟨⟨h0,h1,h2,h3,h4,h10,h11,h12,h13⟩,HS⟩;obtain⟨r,hr⟩ :∃r,r=Go.Sort.partition ltT d a b piv:=⟨_,rfl⟩
  have hrg:=Go.Sort.partition_holds ltT zAs d a b piv hp1 hp2 (by rw[HS.sz];exact hbn);have E:=zBR (h:=s.h) (c:=s.c) (a:=a) (b:=b) d HS.row HS.ok HS.sz (by omega) hbn (by omega) (by omega:piv<n) (by have:=HS.le;omega);rw[<-hr]at hrg E;rw[<-hr]at hT;obtain⟨mid,ap,d4⟩ :=r;simp only at hrg E hT;obtain⟨hm1,hm2,-⟩ :=hrg;rw[dif_pos ⟨hm1,hm2⟩]at hT;obtain⟨sl,hsl⟩ :∃sl,sl=mid - a:=⟨_,rfl⟩
  obtain⟨sr,hsr⟩ :∃sr,sr=b - mid:=⟨_,rfl⟩
  obtain⟨l8,hl8⟩ :∃l8,l8=l/8:=⟨_,rfl⟩
  obtain⟨mid1,hmid1⟩ :∃mid1,mid1=mid+1:=⟨_,rfl⟩
  have hwsl:IntKind.i64.wrap ((mid:Int) - a)=(sl:Int):=by rw[za4 _ (by omega) (by omega)];omega
  have hwsr:IntKind.i64.wrap ((b:Int) - mid)=(sr:Int):=by rw[za4 _ (by omega) (by omega)];omega
  have hw8:IntKind.i64.wrap ((l:Int)/8)=(l8:Int):=by rw[za4 _ (by omega) (by omega)];omega
  have hwm1:IntKind.i64.wrap ((mid:Int)+1)=(mid1:Int):=by rw[za4 _ (by omega) (by omega)];omega
  rw[<-hsl,<-hsr,<-hl,<-hl8,<-hmid1]at hT
  by_cases hlr:sl<sr
  .have hlr':(sl:Int)<sr:=by omega
   rw[Z52 hlr]at hT;have hdec:decide (sl≥l8)=decide ((l8:Int)<=sl):=decide_eq_decide.2 (by omega);rw[hdec]at hT;refine ze5 (h:=s.h) (c:=s.c) (by simp only[rG]) (by simp only[rG]) E ?_;rintro _ h' c' lw mx ⟨rfl,HS2⟩ hcc;have HS3:=HS.trans HS2;simp[rW,h0,h1,h2,h3,h4,h10,h11,h12,h13,hwsl,hwsr,hw8,hwm1,zla,hlr'];refine ze5 (h:=h') (c:=c') (by simp only[rG]) (by simp only[rG]) (ih (mid - a) (by omega) d4 (Z3 _) HS3.row HS3.ok HS3.sz hn50 (by omega) hm1 hlm (by have:=HS3.le;omega)) ?_;rintro d5 h5 c5 lw5 mx5 HS4 hcc5;have HS5:=HS3.trans HS4;simp[rW,h0,h1,h2,h3,h4,h10,h11,h12,h13,hwm1];refine hQn _ ⟨b - mid1,by omega,_,mid1,b,lm,decide ((l8:Int)<=sl),ap,⟨rfl,by omega,hbn,by omega⟩,?_,?_,hlm,hT⟩
   .simp[rW,h0,h1,h2,h3,h4,h10,h11,h12,h13]
   .simp[rW,];rw[<-Z187];exact HS5
  .have hlr':¬((sl:Int)<sr):=by omega
   rw[Z50 hlr]at hT;have hdec:decide (sr≥l8)=decide ((l8:Int)<=sr):=decide_eq_decide.2 (by omega);rw[hdec]at hT;refine ze5 (h:=s.h) (c:=s.c) (by simp only[rG]) (by simp only[rG]) E ?_;rintro _ h' c' lw mx ⟨rfl,HS2⟩ hcc;have HS3:=HS.trans HS2;simp[rW,h0,h1,h2,h3,h4,h10,h11,h12,h13,hwsl,hwsr,hw8,hwm1,zla,hlr'];refine ze5 (h:=h') (c:=c') (by simp only[rG]) (by simp only[rG]) (ih (b - mid1) (by omega) d4 (Z3 _) HS3.row HS3.ok HS3.sz hn50 hbn (by omega) hlm (by have:=HS3.le;omega)) ?_;rintro d5 h5 c5 lw5 mx5 HS4 hcc5;have HS5:=HS3.trans HS4;simp[rW,h0,h1,h2,h3,h4,h10,h11,h12,h13,hwm1];refine hQn _ ⟨mid - a,by omega,_,a,mid,lm,decide ((l8:Int)<=sr),ap,⟨rfl,by omega,by omega,by omega⟩,?_,?_,hlm,hT⟩
   .simp[rW,h0,h1,h2,h3,h4,h10,h11,h12,h13]
   .simp[rW,];rw[<-Z187];exact HS5
def zQV(N:Nat):∀{h:T Ob} {c id n a b lm:Nat} (d:Array Trm),b - a<=N->zb8 h id d->OkA d->d.size=n->n<50->b<=n->a<=b->lm<100->id<c->zhz pr 105 [.sl id 0 n 4 n false,.f (.i .i64 a),.f (.i .i64 b),.f (.i .i64 lm),.f (.fn 86)] h c fun _ h' c' lw=>zaR h c id n (Go.Sort.pdq ltT d a b lm true true) h' c' lw:=by
 induction N using Nat.strongRecOn with
 |ind N ih=>
 intro h c id n a b lm d hN gR hok hn hn50 hbn hab hlm hid;refine zfL zId ?_;simp only[zuE,rU];obtain⟨D1,hD1⟩ :∃D1,D1=Go.Sort.pdq ltT d a b lm true true:=⟨_,rfl⟩
 rw[<-hD1];simp[rW,st0,zah];refine zcN (PQ h c id n N D1) (fun x s=>x= .ret/\zaR h c id n D1 s.h s.c s.lw) ?_ (b - a) _ ?_ ?_
 .clear hD1 gR hok hn hbn hab hlm hN;clear d a b lm;rintro k s ⟨d,a,b,lm,wb,wp,⟨rfl,hab,hbn,hN⟩,⟨h0,h1,h2,h3,h4,h10,h11⟩,HS,hlm,hD⟩;obtain⟨l,hl⟩ :∃l,l=b - a:=⟨_,rfl⟩
  have hwl:IntKind.i64.wrap ((b:Int) - a)=(l:Int):=by rw[za4 _ (by omega) (by omega)];omega
  by_cases hl12:l<=12
  .have hq12:(l:Int)<=12:=by omega
   rw[Go.Sort.pdq,Z52 (by omega)]at hD;simp[rW,h0,h1,h2,h3,h4,h10,h11,hwl,hq12];refine ze5 (h:=s.h) (c:=s.c) (by simp only[rG]) (by simp only[rG]) (zQX d HS.row HS.ok HS.sz (by omega) hbn hab (by have:=HS.le;omega)) ?_;rintro d' h' c' lw mx HS2 hcc;simp[rW,];rw[<-hD];exact HS.trans HS2
  have hq12:¬((l:Int)<=12):=by omega
  by_cases hl0:lm=0
  .have hq0:(lm:Int)=0:=by omega
   rw[Go.Sort.pdq,Z50 (by omega),Z52 hl0]at hD;simp[rW,h0,h1,h2,h3,h4,h10,h11,hwl,hq12,hq0];refine ze5 (h:=s.h) (c:=s.c) (by simp only[rG]) (by simp only[rG]) (zQZ d HS.row HS.ok HS.sz (by omega) hbn (by omega) (by have:=HS.le;omega)) ?_;rintro d' h' c' lw mx HS2 hcc;simp[rW,];rw[<-hD];exact HS.trans HS2
  have hq0:¬((lm:Int)=0):=by omega
  have hbpsz:=(Go.Sort.breakPatterns_holds d a b hab (by rw[HS.sz];exact hbn)).1;rw[pdq_eq (by omega) (by omega) (by rw[HS.sz];exact hbn) hl0 hbpsz]at hD;clear hbpsz;cases wb
  .simp only[Z53,Z64]at hD;have hw0:∃y:Nat,IntKind.i64.wrap ((lm:Int) - 1)=(y:Int)/\y=lm - 1:=⟨lm - 1,by rw[za4 _ (by omega) (by omega)];omega,rfl⟩
   have E:=zQ0 (h:=s.h) (c:=s.c) (a:=a) (b:=b) d HS.row HS.ok HS.sz hbn (by omega) (by omega) (by omega) (by have:=HS.le;omega);simp[rW,h0,h1,h2,h3,h4,h10,h11,hwl,hq12,hq0,hl0];refine ze5 (h:=s.h) (c:=s.c) (by simp only[rG]) (by simp only[rG]) E ?_;clear E;rintro _ h' c' lw mx HS2 hcc;have HS3:=HS.trans HS2;obtain⟨d,hd⟩ :∃x,x=Go.Sort.breakPatterns d a b:=⟨_,rfl⟩
   rw[<-hd]at HS3 hD HS2;obtain⟨lm,hwlm,hlmn⟩ :=hw0;rw[<-hlmn]at hD;simp[rW,h0,h1,h2,h3,h4,h10,h11,hwlm];have hlm:lm<100:=by omega
   refine zfu (Q:=fun S=>WQ pr 125 _ S _ _ _) (P:=fun s=>(s.tm.get 0=some (.sl id 0 n 4 n false)/\s.tm.get 1=some (.f (.i .i64 a))/\s.tm.get 2=some (.f (.i .i64 b))/\s.tm.get 3=some (.f (.i .i64 lm))/\s.tm.get 4=some (.f (.fn 86))/\s.tm.get 10=some (.f (.b false))/\s.tm.get 11=some (.f (.b wp))/\s.tm.get 12=some (.f (.i .i64 l)))/\zaR h c id n d s.h s.c s.lw) ?_ ?_
   .simp[rW,h0,h1,h2,h3,h4,h10,h11,hwlm];exact HS3
   clear HS2 HS3 HS h0 h1 h2 h3 h4 h10 h11;rintro s ⟨⟨h0,h1,h2,h3,h4,h10,h11,h12⟩,HS⟩;unfold zmV at hD;have R118:=zJx (h:=s.h) (c:=s.c) (a:=a) (b:=b) d HS.row HS.ok HS.sz hbn (by omega) (by omega) (by omega) (by have:=HS.le;omega);have hpv:=Go.Sort.choosePivot_holds ltT d a b (by omega);have hhint:=znq (d:=d) (a:=a) (b:=b) (by omega) (by omega) (by rw[HS.sz];exact hbn);obtain⟨cp,hcp⟩ :∃cp,cp=Go.Sort.choosePivot ltT d a b:=⟨_,rfl⟩
   rw[<-hcp]at R118 hpv hhint hD;obtain⟨piv,hint⟩ :=cp;simp only at R118 hpv hhint hD;obtain⟨hp1,hp2⟩ :=hpv;have hh2:¬((zhn hint:Int)=2):=by cases hint<;>simp_all [zhn]
   try simp only[Z177,Z53,Z64]at hD
   have hT:=hD;clear hD;refine zbW R118 ?_ ?_
   .try simp only[rG]
    have:=HS.low;have:=HS.le;omega
   intro mx;simp[rW,h0,h1,h2,h3,h4,h10,h11,h12,nn,hh2];refine zqu (h:=h) ih hl hl12 hN hn50 hbn hab hlm hid hp1 hp2 hT _ ?_ ?_ _ ⟨?_,?_⟩
   .intro s' hs';simp[rW,];exact hs'
   .intro s' hs';simp[rW,];exact hs'
   .simp[rW,h0,h1,h2,h3,h4,h10,h11,h12]
   .simp[rW,];exact HS
  .simp only[Z61]at hD;simp[rW,h0,h1,h2,h3,h4,h10,h11,hwl,hq12,hq0,hl0];refine zfu (Q:=fun S=>WQ pr 125 _ S _ _ _) (P:=fun s=>(s.tm.get 0=some (.sl id 0 n 4 n false)/\s.tm.get 1=some (.f (.i .i64 a))/\s.tm.get 2=some (.f (.i .i64 b))/\s.tm.get 3=some (.f (.i .i64 lm))/\s.tm.get 4=some (.f (.fn 86))/\s.tm.get 10=some (.f (.b true))/\s.tm.get 11=some (.f (.b wp))/\s.tm.get 12=some (.f (.i .i64 l)))/\zaR h c id n d s.h s.c s.lw) ?_ ?_
   .simp[rW,h0,h1,h2,h3,h4,h10,h11];exact HS
   clear  HS h0 h1 h2 h3 h4 h10 h11;rintro s ⟨⟨h0,h1,h2,h3,h4,h10,h11,h12⟩,HS⟩;unfold zmV at hD;have R118:=zJx (h:=s.h) (c:=s.c) (a:=a) (b:=b) d HS.row HS.ok HS.sz hbn (by omega) (by omega) (by omega) (by have:=HS.le;omega);have hpv:=Go.Sort.choosePivot_holds ltT d a b (by omega);have hhint:=znq (d:=d) (a:=a) (b:=b) (by omega) (by omega) (by rw[HS.sz];exact hbn);obtain⟨cp,hcp⟩ :∃cp,cp=Go.Sort.choosePivot ltT d a b:=⟨_,rfl⟩
   rw[<-hcp]at R118 hpv hhint hD;obtain⟨piv,hint⟩ :=cp;simp only at R118 hpv hhint hD;obtain⟨hp1,hp2⟩ :=hpv;have hh2:¬((zhn hint:Int)=2):=by cases hint<;>simp_all [zhn]
   cases wp
   .try simp only[Bool.and_false,Z177,Z53,Z64]at hD
    have hT:=hD;clear hD;refine zbW R118 ?_ ?_
    .try simp only[rG]
     have:=HS.low;have:=HS.le;omega
    intro mx;simp[rW,h0,h1,h2,h3,h4,h10,h11,h12,nn,hh2];refine zqu (h:=h) ih hl hl12 hN hn50 hbn hab hlm hid hp1 hp2 hT _ ?_ ?_ _ ⟨?_,?_⟩
    .intro s' hs';simp[rW,];exact hs'
    .intro s' hs';simp[rW,];exact hs'
    .simp[rW,h0,h1,h2,h3,h4,h10,h11,h12]
    .simp[rW,];exact HS
   .have hD2:=hD;clear hD;simp only[Z188,Z104]at hD2
    by_cases hh:hint= .increasing
    .subst hh;have R120:=fun(H':Vse.T Ob) (c':Nat) (g:zb8 H' id d) (hc:id<c')=>ro127 (h:=H') (c:=c') (a:=a) (b:=b) d g HS.ok HS.sz hbn (by omega) (by omega) (by omega) hc
     have gR:=HS.row;have hle:=HS.le
     by_cases hq:(Go.Sort.partialInsertionSort ltT d a b).2=true
     .rw[Z52 (by simp[hq])]at hD2;rw[hq]at R120;refine zbW R118 ?_ ?_
      .try simp only[rG]
       have:=HS.low;have:=HS.le;omega
      intro mx;simp[rW,h0,h1,h2,h3,h4,h10,h11,h12,nn,hh2,zhn];refine zbW (R120 _ _ (by(try simp only[rG]);exact gR) (by(try simp only[rG]);omega)) ?_ ?_
      .try simp only[rG]
       have:=HS.low;omega
      intro mx2;simp[rW,];rw[<-hD2];exact HS
     .rw[Z50 (by simp[hq])]at hD2;have hT:=hD2;simp only[Bool.not_eq_true]at hq;rw[hq]at R120;refine zbW R118 ?_ ?_
      .try simp only[rG]
       have:=HS.low;have:=HS.le;omega
      intro mx;simp[rW,h0,h1,h2,h3,h4,h10,h11,h12,nn,hh2,zhn];refine zbW (R120 _ _ (by(try simp only[rG]);exact gR) (by(try simp only[rG]);omega)) ?_ ?_
      .try simp only[rG]
       have:=HS.low;omega
      intro mx2;simp[rW,h0,h1,h2,h3,h4,h10,h11,h12,nn];clear gR R120;refine zqu (h:=h) ih hl hl12 hN hn50 hbn hab hlm hid hp1 hp2 hT _ ?_ ?_ _ ⟨?_,?_⟩
      .intro s' hs';simp[rW,];exact hs'
      .intro s' hs';simp[rW,];exact hs'
      .simp[rW,h0,h1,h2,h3,h4,h10,h11,h12]
      .simp[rW,];exact HS
    .have hT:=hD2;rw[Z50 (by simp[hh])]at hT;have hh1:¬((zhn hint:Int)=1):=by cases hint<;>simp_all [zhn]
     refine zbW R118 ?_ ?_
     .try simp only[rG]
      have:=HS.low;have:=HS.le;omega
     intro mx;simp[rW,h0,h1,h2,h3,h4,h10,h11,h12,nn,hh2,hh1];refine zqu (h:=h) ih hl hl12 hN hn50 hbn hab hlm hid hp1 hp2 hT _ ?_ ?_ _ ⟨?_,?_⟩
     .intro s' hs';simp[rW,];exact hs'
     .intro s' hs';simp[rW,];exact hs'
     .simp[rW,h0,h1,h2,h3,h4,h10,h11,h12]
     .simp[rW,];exact HS
 .simp[rW,PQ];exact⟨d,a,b,⟨rfl,hab,hbn,by omega⟩,lm,⟨rfl,rfl,rfl⟩,zaR.refl gR hok hn,hlm,hD1.symm⟩
 .rintro x s ⟨rfl,HS⟩;simp[rW,zhh];exact⟨HS,fun e _=>HS.fin hid e⟩
def fn85:pr.fn 85=some g85:=by kernel_rfl
def zfc(l:List Trm):List Trm:=l.mergeSort fun x y=>!decide (zaX y x<0)
def zqm(s:St):resD s []=some (.tu []):=rfl
def pdqT(l:List Trm)(lm:Nat):(Go.Sort.pdq ltT l.toArray 0 l.length lm true true).toList=zfc l:=by
 have h:=Go.Sort.pdq_sorts ltT zAs l.toArray 0 l.length lm true true (Z62 _) (by simp) (Or.inl rfl);have hs:l.toArray.size=l.length:=by simp
 rw[<-hs]at h|-;have:=Go.Sort.sorted_unique_holds zAs totT l.toArray _ h.1 h.2;rw[this];simp[zfc,ltT]
def zSf{l:List Trm}(h:∀t∈l,zaL t):OkA l.toArray:=by
 intro i
 by_cases hi:i<l.length
 .rw[getElem!_pos l.toArray i (by simpa using hi)];exact h _ (by simp)
 .rw[getElem!_neg l.toArray i (by simpa using hi)];trivial
theorem zRd(l:List Trm)(hok:∀t∈l,zaL t)(hl:l.length<50){h:T Ob}{id c:Nat}(hid:id<c)(hg:h.get id=some (.arr 4 0 (zaH l))):
  Eff pr 85 [.sl id 0 l.length 4 l.length false,.f (.fn 86)] h c fun _ h' _=>h'.get id=some (.arr 4 0 (zaH (zfc l)))/\∀j,j<c->id≠j->h'.get j=h.get j:=by
 refine zcG za0 fn85 ?_;simp only[g85,rU];have hu:IntKind.u64.wrap (l.length:Int)=(l.length:Int):=by rw[IntKind.wrap_u64];omega
 have t2:=zoG ⟨l.length,by omega⟩;simp only at t2;simp[rW,st0,zah,hu];refine zbW (zAn (x:=l.length) (by omega)) ?_ ?_
 .simp only[rG];omega
 intro mx0;generalize hlm:Go.Sort.bitsLen l.length=lm at t2;simp[rW,zah];refine ze5 (h:=h) (c:=c) (by simp only[rG]) (by simp only[rG]) (zQV l.length l.toArray (by omega) (by unfold zb8;simpa using hg) (zSf hok) (by simp) hl (Z3 _) (Z62 _) (by omega:lm<100) hid) ?_;rintro d' h' c' lw mx HS hcc;have hr:=HS.row;unfold zb8 at hr;rw[pdqT]at hr;simp[rW,zfl,zqm];refine⟨⟨hr,fun j hj hne=>HS.fr j hj (fun e=>hne e.symm)⟩,fun e=> ?_⟩;have hlo:=HS.low;have e2:lw=c:=by
  have e3:min c lw=c:=e;omega
 rw[<-HS.same (by omega)];exact hr
def I0(h:T Ob)(c:Nat)(_k:Nat)(s:St):Prop:=(s.tm.get 2=some (.f (.i .i64 0))/\s.tm.get 8=some (.f (.i .i64 1)))/\s.h=h/\s.lw=c
def zSx{h:T Ob}{c:Nat}:Eff pr 122 [.f .nils,.f (.i .i64 0),.f (.i .i64 0),.f (.fn 86)] h c fun _ h' _=>h'=h:=by
 refine zcG za0 zIe ?_;simp only[zuF,rU];simp[rW,st0,zah];refine zcN (I0 h c) (fun x s=>x= .exit 0/\s.h=h) ?_ 0 _ ?_ ?_
 .rintro k s ⟨⟨h2,h8⟩,hsh,hsl⟩;simp[rW,h2,h8];exact hsh
 .simp[rW,I0];rfl
 .rintro x s ⟨rfl,hsh⟩;simp[rW,zfl,hsh,zqm]
def I8(h:T Ob)(c:Nat)(_k:Nat)(s:St):Prop:=(s.tm.get 0=some (.f .nils)/\s.tm.get 1=some (.f (.i .i64 0))/\s.tm.get 2=some (.f (.i .i64 0))/\s.tm.get 4=some (.f (.fn 86)))/\s.h=h/\s.lw=c
def zSw{h:T Ob}{c:Nat}:Eff pr 105 [.f .nils,.f (.i .i64 0),.f (.i .i64 0),.f (.i .i64 0),.f (.fn 86)] h c fun _ h' _=>h'=h:=by
 refine zcG za0 zId ?_;simp only[zuE,rU];simp[rW,st0,zah];refine zcN (I8 h c) (fun x s=>x= .ret/\s.h=h) ?_ 0 _ ?_ ?_
 .rintro k s ⟨⟨h0,h1,h2,h4⟩,hsh,hsl⟩;have hw:IntKind.i64.wrap 0=0:=rfl;simp[rW,h0,h1,h2,h4,hw];refine zer (h:=h) (c:=s.c) (by simp only[rG];exact hsh) (by simp only[rG]) zSx ?_;rintro d' h' c' lw mx rfl hcc;simp[rW,]
 .simp[rW,I8]
 .rintro x s ⟨rfl,hsh⟩;simp[rW,zcp,hsh,zqm]
def zRm{h:T Ob}{c:Nat}:Eff pr 85 [.f .nils,.f (.fn 86)] h c fun _ h' _=>h'=h:=by
 refine zcG za0 fn85 ?_;simp only[g85,rU];have hu:IntKind.u64.wrap 0=0:=rfl;simp[rW,st0,zah,hu];refine zbW (zAn (x:=0) (by omega)) ?_ ?_
 .simp only[rG];omega
 intro mx0;have h0:Go.Sort.bitsLen 0=0:=rfl;rw[h0];simp[rW,zah];refine zer (h:=h) (c:=c) (by simp only[rG]) (by simp only[rG]) zSw ?_;rintro d' h' c' lw mx rfl hcc;simp[rW,zfl,zqm]
end Go.Proofs.YtflgmemhalhdbaaGreatDoor
end
