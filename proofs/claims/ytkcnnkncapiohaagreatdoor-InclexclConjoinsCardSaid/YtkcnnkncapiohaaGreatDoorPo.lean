/- The law's builders: PositiveQuery. -/
import Derived.Test.YtkcnnkncapiohaaGreatDoorPn
import Derived.KernelRfl
import Derived.IntWalk
import Derived.Test.YtkcnnkncapiohaaGreatDoorPc
import Derived.Test.YtkcnnkncapiohaaGreatDoorPl
import Derived.Test.YtkcnnkncapiohaaGreatDoorPg
import Derived.Test.YtkcnnkncapiohaaGreatDoorPj
set_option linter.all false
set_option maxRecDepth 100000
set_option maxHeartbeats 4000000
noncomputable section
section
namespace Go.Proofs.YtkcnnkncapiohaaGreatDoor
open Go Go.Vse Go.Vse.Sm
def atZ{x:F}(hx:zc1 x):∃z:Nat->Nat,∀i,i<1000->z i<100000/\Ans pr 28 [x,.i .i64 i] (.i .i64 (z i)):=by
 have:∀i:Nat,∃n:Nat,i<1000->n<100000/\Ans pr 28 [x,.i .i64 i] (.i .i64 n):=fun i=>by
  by_cases hi:i<1000
  .obtain⟨n,h⟩ :=ziK hx i hi;exact⟨n,fun _=>h⟩
  .exact⟨0,fun h=>absurd h hi⟩
 exact Z207.1 this
def zqx{x:F}(hx:zc1 x):x.d= .f x:=by
 rcases hx with rfl|⟨zs,rfl⟩
 .rfl
 .rfl
def zOx{h:T Ob}{lo c id:Nat}{l:List Str}(hl:l≠[])(hg:h.get id=some (.arr 1 0 (zaQ l)))(h1:lo<=id)(h2:id<c):Own h lo c (.sl id 0 l.length 1 l.length true) (zbh l):=by
 refine⟨.inr ⟨_,_,_,_,_,_,rfl⟩,rfl,fun x hx=> ?_,fun h' hh k=>⟨[id],?_⟩⟩
 .simp only[D.oid,Z45]at hx;omega
 .rw[zfQ,hh id rfl,hg,zcE,zfC];simp only[true_and,Z25,zaW,Z2,Z60,Z34,ziC,zeF,zcE];rw[zlM hl]
def XQ(x:F)(hd:List Str)(L:List CQ)(P:Nat)(s:St):Prop:=∃d dh,(s.tm.get 0=some (.f x)/\s.tm.get 2=some (.ptr 0 2 0 0)/\s.tm.get 3=some (.ptr 1 2 0 0)/\s.h.get 0=some (.arr 2 0 [[.f .nils,.f .nils]])/\s.h.get 1=some (.arr 2 0 [[dh,d]]))/\2<=P/\P<=s.c/\Own s.h 2 P dh (zbh hd)/\Gro s.h P s.c 2 d (zmS L)
def b13:C:= .seq (oD [oM 12 4,oM 13 0,oR 14 (.callp 28 [(.t 13),(.k (.i .i64 1))]),oR 15 (.bin .rem (.t 14) (.k (.i .i64 3))),oR 16 (.bin .leq (.t 12) (.t 15))] 16 .skip (.exit 0))
 (.seq (.blk 1 (.dreg [(oF 19 1 3,0),(oK 20 1 19,0),(oM 21 0,3),(oM 22 4,7),(oR 23 (.bin .add (.k (.i .i64 2)) (.t 22)),7),(oR 24 (.callp 28 [(.t 21),(.t 23)]),3),(oR 25 (.callp 30 [(.t 24)]),3),(oR 26 (.bsf 2 [.nils,.nils] 1 [(0,(.t 25))]),3),(oR 27 (.app 2 48 (.t 20) (.t 26)),0),(oF 28 1 3,0),(oS 1 28 27,0)]))
 (.reg [oM 17 4,oR 18 (.bin .add (.t 17) (.k (.i .i64 1))),oM 4 18]))
def zru(cf:Nat->CQ)(n:Nat):(List.range (n+1)).map cf=(List.range n).map cf++[cf n]:=by
 rw[Z136,Z20];rfl
def lp13{x:F}(hx:zc1 x){z:Nat->Nat}(hz:∀i,i<1000->z i<100000/\Ans pr 28 [x,.i .i64 i] (.i .i64 (z i))){cf:Nat->CQ}(hcf:∀i,i<10->Ans pr 30 [.i .i64 (z (2+i))] (.ag (cqF (cf i)))){hd:List Str}{P:Nat}{Q:Ex->St->Prop}(s:St)(h:XQ x hd [] P s)(h4:s.tm.get 4=some (.f (.i .i64 0)))(hQ:∀s,XQ x hd ((List.range (z 1%3+1)).map cf) P s->Q (.exit 0) s):WL pr b13 s Q:=by
 have h36:Ans pr 28 [x,.i .i64 1] (.i .i64 (z 1)):=(hz 1 (by omega)).2;have q36:=fun k=>zad (k:=k) h36
 have hrem:=zcX (z 1) 3 (by omega);rw[show((3:Nat):Int)=3 from rfl]at hrem;have hm:z 1%3<3:=Z124 _ (by omega);generalize z 1%3=m at hrem hm hQ;refine zbS (fun k s=>∃n:Nat,(k=m+1 - n/\n<=m+1)/\XQ x hd ((List.range n).map cf) P s/\s.tm.get 4=some (.f (.i .i64 n))) (fun e s=>e= .exit 0/\XQ x hd ((List.range (m+1)).map cf) P s) ?_ (m+1) _ ⟨0,⟨rfl,by omega⟩,h,h4⟩ (by rintro e s ⟨rfl,h⟩;exact hQ s h);clear h h4 hQ s;rintro k s ⟨n,⟨rfl,hn⟩,⟨d,dh,⟨h0,h2,h3,g0,g1⟩,hP,hPc,hO,hg⟩,h4⟩;unfold b13;simp only[rU]
 by_cases hle:n<=m
 .have h36n:=(hz (2+n) (by omega)).2;rw[Int.natCast_add,show((2:Nat):Int)=2 from rfl]at h36n;have q36n:=fun k=>zad (k:=k) h36n
  have q39:=fun k=>zad (k:=k) (hcf n (by omega))
  have hw:=zaB n (by omega);have hw2:IntKind.i64.wrap (2+(n:Int))=2+(n:Int):=wrap_i64 _ (by omega) (by omega);simp only[cqE]at q39;simp[rW,h0,h2,h3,g0,g1,h4,q36,hrem,hle];refine zaq ?_;simp[rW,h0,h2,h3,g0,g1,h4,hw2,q36n,q39,cqE,zdL,zea];refine zb6 (zbB hg (by omega) fun _ _ _=>rfl) (by omega) (by rw[zwz];simp;omega) (by omega) ?_;intro r hr1 hr2 hr3 hr4 hr5;have e0:=hr4 0 (by omega) (zcC hg (by omega));have e1:=hr4 1 (by omega) (zcC hg (by omega));rw[g0]at e0;rw[g1]at e1;refine⟨hr1,?_⟩;simp[rW,e1,zbW hr2];rw[za1];refine⟨m+1 - (n+1),by omega,n+1,⟨rfl,by omega⟩,⟨r.d,dh,?_,hP,?_,?_,?_⟩,?_⟩
  .simp[rW,h0,h2,h3,e0,e1]
  .simp[rW];omega
  .refine hO.up (fun y hy=> ?_) (Z2 _) (Z2 _);have hy2:=hO.2.2.1 y hy;have e:=hr4 y (by omega) (zcC hg (by omega));have ny:¬(y=1):=by omega
   simp[rW,ny,e]
  .rw[zru,ztw];refine zbB hr2 (by simp[rW];omega) fun y h1 h2=> ?_
   have ny:¬(y=1):=by omega
   simp[rW,ny]
  .simp[rW,hw]
 .have e:n=m+1:=by omega
  subst e;have hl:¬((m:Int)+1<=m):=by omega
  simp[rW,h0,h2,h3,g0,g1,h4,q36,hrem,hl];refine⟨d,dh,?_,hP,?_,?_,?_⟩
  .simp[rW,h0,h2,h3,g0,g1]
  .simp[rW];exact hPc
  .simp[rW];exact hO
  .simp[rW];exact hg
def zHk{x:F}{hd:List Str}{L:List CQ}{P:Nat}{s:St}(h:XQ x hd L P s):∃d dh,(s.tm.get 2=some (.ptr 0 2 0 0)/\s.tm.get 3=some (.ptr 1 2 0 0)/\s.h.get 0=some (.arr 2 0 [[.f .nils,.f .nils]])/\s.h.get 1=some (.arr 2 0 [[dh,d]]))/\d.cells=some [d]/\dh.cells=some [dh]/\(∃rd,frz (s.h.set 0 (.arr 2 0 [[dh,d]])).get 11 d=some (qsF L,rd))/\(∃rd,frz (s.h.set 0 (.arr 2 0 [[dh,d]])).get 11 dh=some (zbh hd,rd))/\2<=s.c:=by
 obtain⟨d,dh,⟨h0,h2,h3,g0,g1⟩,hP,hPc,hO,hg⟩ :=h;have hh2:∀y,y≠0->(s.h.set 0 (.arr 2 0 [[dh,d]])).get y=s.h.get y:=fun y hy=>by simp[TG,hy]
 exact⟨d,dh,⟨h2,h3,g0,g1⟩,zbW hg,hO.2.1,zi3 (k:=10) (zbB (h':=s.h.set 0 (.arr 2 0 [[dh,d]])) hg (Z2 _) (fun y h1 _=>hh2 y (by omega))) (zHf _ 9 _) (by simp[zmS]),hO.2.2.2 _ (fun y hy=>hh2 y (by have:=hO.2.2.1 y hy;omega)) 9,by omega⟩
def clF{cf:Nat->CQ}(h:∀i,cf i∈CQl)(n:Nat):∀c∈(List.range n).map cf,c∈CQl:=by
 intro c hc;obtain⟨i,_,rfl⟩ :=Z12.1 hc;exact h i
def QN(l:List CQ):Prop:=l≠[]/\l.length<=3/\∀c∈l,c∈CQl
def ans13{x:F}(hx:zc1 x):∃hd l,hd.length<10/\QN l/\Ans pr 13 [x] (.ag [zbh hd,qsF l]):=by
 obtain⟨z,hz⟩ :=atZ hx;obtain⟨cf,hcf⟩ :=Z207.1 fun i=>ans30 (z (2+i))
 have h0:Ans pr 28 [x,.i .i64 0] (.i .i64 (z 0)):=(hz 0 (by omega)).2;have q0:=fun k=>zad (k:=k) h0
 have hrem:=zcX (z 0) 2 (by omega);rw[show((2:Nat):Int)=2 from rfl]at hrem;have hr2:z 0%2<2:=Z124 _ (by omega);generalize z 0%2=r at hrem hr2;have hm:z 1%3<3:=Z124 _ (by omega);have hc2:(D.f x).cells=some [.f x]:=by rcases hx with rfl|⟨zs,rfl⟩ <;>rfl
 refine⟨if r=1 then[[120]]else[],(List.range (z 1%3+1)).map cf,by split<;>simp,⟨by simp,by simp;omega,clF (fun i=>(hcf i).1) _⟩,zbN fn13 ?_⟩;simp only[g13,rU]
 by_cases h1:r=1
 .have h1':((r:Int)=1):=by omega
  rw[Z51 h1];simp[rW,st0,zal,zqx hx,q0,hrem,h1',hc2];refine lp13 hx hz (fun i _=>(hcf i).2) (P:=3) (hd:=[[120]]) _ ⟨.f .nils,.sl 2 0 1 1 1 true,?_,by omega,?_,zOx (l:=[[120]]) (by simp) (by simp[rW,zaQ]) (by omega) (by omega),.inl ⟨rfl,rfl⟩⟩ ?_ fun s h=> ?_
  .simp[rW]
  .simp[rW]
  .simp[rW]
  .obtain⟨d,dh,⟨h2,h3,g0,g1⟩,c1,c2,⟨rd,z1⟩,⟨rd2,z2⟩,hc⟩ :=zHk h;simp[rW,h2,h3,g0,g1,c1,c2,z1,z2];omega
 .have h1':¬((r:Int)=1):=by omega
  rw[Z49 h1];simp[rW,st0,zal,zqx hx,q0,hrem,h1',hc2];refine lp13 hx hz (fun i _=>(hcf i).2) (P:=2) (hd:=[]) _ ⟨.f .nils,.f .nils,?_,by omega,?_,zoe (rows:=[]) (.inl ⟨rfl,rfl⟩),.inl ⟨rfl,rfl⟩⟩ ?_ fun s h=> ?_
  .simp[rW]
  .simp[rW]
  .simp[rW]
  .obtain⟨d,dh,⟨h2,h3,g0,g1⟩,c1,c2,⟨rd,z1⟩,⟨rd2,z2⟩,hc⟩ :=zHk h;simp[rW,h2,h3,g0,g1,c1,c2,z1,z2];omega
def fn12:pr.fn 12=some g12:=by kernel_rfl
def fn4:pr.fn 4=some g4:=by kernel_rfl
def b8B:C:=(.seq (oD [oM 6 4,oM 7 0,oR 8 (.callp 28 [(.t 7),(.k (.i .i64 0))]),oR 9 (.bin .rem (.t 8) (.k (.i .i64 3))),oR 10 (.bin .leq (.t 6) (.t 9))] 10 .skip (.exit 0))
 (.seq (.blk 1 (.dreg [(oF 13 1 3,0),(oK 14 1 13,0),(oM 15 0,3),(oM 16 4,7),(oR 17 (.bin .add (.k (.i .i64 1)) (.t 16)),7),(oR 18 (.callp 28 [(.t 15),(.t 17)]),3),(oR 19 (.callp 29 [(.t 18)]),3),(oR 20 (.bsf 2 [.nils,.nils] 1 [(0,(.t 19))]),3),(oR 21 (.app 2 48 (.t 14) (.t 20)),0),(oF 22 1 3,0),(oS 1 22 21,0)]))
 (.reg [oM 11 4,oR 12 (.bin .add (.t 11) (.k (.i .i64 1))),oM 4 12])))
def lpB{x:F}(hx:zc1 x){z:Nat->Nat}(hz:∀i,i<1000->z i<100000/\Ans pr 28 [x,.i .i64 i] (.i .i64 (z i))){cf:Nat->CQ}(hcf:∀i,i<10->Ans pr 29 [.i .i64 (z (1+i))] (.ag (cqF (cf i)))){hd:List Str}{P:Nat}{Q:Ex->St->Prop}(s:St)(h:XQ x hd [] P s)(h4:s.tm.get 4=some (.f (.i .i64 0)))(hQ:∀s,XQ x hd ((List.range (z 0%3+1)).map cf) P s->Q (.exit 0) s):WL pr b8B s Q:=by
 have h36:Ans pr 28 [x,.i .i64 0] (.i .i64 (z 0)):=(hz 0 (by omega)).2;have q36:=fun k=>zad (k:=k) h36
 have hrem:=zcX (z 0) 3 (by omega);rw[show((3:Nat):Int)=3 from rfl]at hrem;have hm:z 0%3<3:=Z124 _ (by omega);generalize z 0%3=m at hrem hm hQ;refine zbS (fun k s=>∃n:Nat,(k=m+1 - n/\n<=m+1)/\XQ x hd ((List.range n).map cf) P s/\s.tm.get 4=some (.f (.i .i64 n))) (fun e s=>e= .exit 0/\XQ x hd ((List.range (m+1)).map cf) P s) ?_ (m+1) _ ⟨0,⟨rfl,by omega⟩,h,h4⟩ (by rintro e s ⟨rfl,h⟩;exact hQ s h);clear h h4 hQ s;rintro k s ⟨n,⟨rfl,hn⟩,⟨d,dh,⟨h0,h2,h3,g0,g1⟩,hP,hPc,hO,hg⟩,h4⟩;unfold b8B;simp only[rU]
 by_cases hle:n<=m
 .have h36n:=(hz (1+n) (by omega)).2;rw[Int.natCast_add,show((1:Nat):Int)=1 from rfl]at h36n;have q36n:=fun k=>zad (k:=k) h36n
  have q39:=fun k=>zad (k:=k) (hcf n (by omega))
  have hw:=zaB n (by omega);have hw2:IntKind.i64.wrap (1+(n:Int))=1+(n:Int):=wrap_i64 _ (by omega) (by omega);simp only[cqE]at q39;simp[rW,h0,h2,h3,g0,g1,h4,q36,hrem,hle];refine zaq ?_;simp[rW,h0,h2,h3,g0,g1,h4,hw2,q36n,q39,cqE,zdL,zea];refine zb6 (zbB hg (by omega) fun _ _ _=>rfl) (by omega) (by rw[zwz];simp;omega) (by omega) ?_;intro r hr1 hr2 hr3 hr4 hr5;have e0:=hr4 0 (by omega) (zcC hg (by omega));have e1:=hr4 1 (by omega) (zcC hg (by omega));rw[g0]at e0;rw[g1]at e1;refine⟨hr1,?_⟩;simp[rW,e1,zbW hr2];rw[za1];refine⟨m+1 - (n+1),by omega,n+1,⟨rfl,by omega⟩,⟨r.d,dh,?_,hP,?_,?_,?_⟩,?_⟩
  .simp[rW,h0,h2,h3,e0,e1]
  .simp[rW];omega
  .refine hO.up (fun y hy=> ?_) (Z2 _) (Z2 _);have hy2:=hO.2.2.1 y hy;have e:=hr4 y (by omega) (zcC hg (by omega));have ny:¬(y=1):=by omega
   simp[rW,ny,e]
  .rw[zru,ztw];refine zbB hr2 (by simp[rW];omega) fun y h1 h2=> ?_
   have ny:¬(y=1):=by omega
   simp[rW,ny]
  .simp[rW,hw]
 .have e:n=m+1:=by omega
  subst e;have hl:¬((m:Int)+1<=m):=by omega
  simp[rW,h0,h2,h3,g0,g1,h4,q36,hrem,hl];refine⟨d,dh,?_,hP,?_,?_,?_⟩
  .simp[rW,h0,h2,h3,g0,g1]
  .simp[rW];exact hPc
  .simp[rW];exact hO
  .simp[rW];exact hg
def ans12{x:F}(hx:zc1 x):∃l,QN l/\Ans pr 12 [x] (.ag [.nils,qsF l]):=by
 obtain⟨z,hz⟩ :=atZ hx;obtain⟨cf,hcf⟩ :=Z207.1 fun i=>ans29 (z (1+i))
 have hm:z 0%3<3:=Z124 _ (by omega);have hc2:(D.f x).cells=some [.f x]:=by rcases hx with rfl|⟨zs,rfl⟩ <;>rfl
 refine⟨(List.range (z 0%3+1)).map cf,⟨by simp,by simp;omega,clF (fun i=>(hcf i).1) _⟩,zbN fn12 ?_⟩;simp only[g12,rU];simp[rW,st0,zal,zqx hx,hc2];refine lpB hx hz (fun i _=>(hcf i).2) (P:=2) (hd:=[]) _ ⟨.f .nils,.f .nils,?_,by omega,?_,zoe (rows:=[]) (.inl ⟨rfl,rfl⟩),.inl ⟨rfl,rfl⟩⟩ ?_ fun s h=> ?_
 .simp[rW]
 .simp[rW]
 .simp[rW]
 .obtain⟨d,dh,⟨h2,h3,g0,g1⟩,c1,c2,⟨rd,z1⟩,⟨rd2,z2⟩,hc⟩ :=zHk h;simp[rW,h2,h3,g0,g1,c1,c2,z1,z2];exact⟨by omega,rfl⟩
def zDK(a:Int):∃r:Nat,r<=3/\zaN .and (.i .u8 a) (.i .u8 3)=some (.i .u8 r):=by
 refine⟨(BitVec.ofInt 8 a&&& BitVec.ofInt 8 3).toNat,?_,?_⟩
 .rw[BitVec.toNat_and];exact Z203
 .have hle:(BitVec.ofInt 8 a&&& BitVec.ofInt 8 3).toNat<=3:=by
   rw[BitVec.toNat_and];exact Z203
  have e:zaN .and (.i .u8 a) (.i .u8 3)=some (.i .u8 (IntKind.u8.wrap ((BitVec.ofInt 8 a&&& BitVec.ofInt 8 3).toNat:Int))):=rfl;rw[e];generalize (BitVec.ofInt 8 a&&& BitVec.ofInt 8 3).toNat=r at hle;obtain rfl|rfl|rfl|rfl:r=0\/r=1\/r=2\/r=3:=by omega
  all_goals rfl
def hdL:Nat->List Str
 |2=>[[120]]
 |3=>[[121],[120,95,49]]
 |_=>[]
def ans4{x:F}(hx:zc1 x)(p:Bool)(h:Int):∃r l,r<=3/\QN l/\Ans pr 4 [x,.b p,.i .u8 h] (.ag [zbh (hdL r),qsF l]):=by
 obtain⟨r,hr,he⟩ :=zDK h;obtain⟨l8,hl8,a8⟩ :=ans12 hx;obtain⟨hd9,l9,hd9l,hl9,a9⟩ :=ans13 hx;have q8:=fun k=>zad (k:=k) a8
 have q9:=fun k=>zad (k:=k) a9
 have hc2:(D.f x).cells=some [.f x]:=by rcases hx with rfl|⟨zs,rfl⟩ <;>rfl
 have m1:(1<=zax)=True:=zaH (by omega);have m2:(16<=zax)=True:=zaH (by omega);cases p with
 |false=>
  refine⟨r,l8,hr,hl8,zbN fn4 ?_⟩;simp only[g4,rU];obtain rfl|rfl|rfl|rfl:r=0\/r=1\/r=2\/r=3:=by omega
  all_goals simp[rW,st0,zal,zqx hx,hc2,q8,he,zpe,zyZ,za5]
  all_goals rfl
 |true=>
  refine⟨r,l9,hr,hl9,zbN fn4 ?_⟩;simp only[g4,rU];obtain rfl|rfl|rfl|rfl:r=0\/r=1\/r=2\/r=3:=by omega
  all_goals simp[rW,st0,zal,zqx hx,hc2,q8,q9,he,zpe,zyZ,za5]
  all_goals rfl
def fn58:pr.fn 58=some g58:=by kernel_rfl
def fn10:pr.fn 10=some g10:=by kernel_rfl
def fn24:pr.fn 24=some g24:=by kernel_rfl
def ans58(l:List Str)(x:Str)(hl:l.length<1000000):Ans pr 58 [zbh l,.s x] (.b (l.any (· ==x))):=by
  refine zbN fn58 ?_;simp only[g58,rU];simp[rW,st0,zal,za5];refine zvo l (· ==x) (fun n s=>s.tm.get 0=some (.f (zbh l))/\s.tm.get 1=some (.f (.s x))/\s.tm.get 5=some (.f (.i .i64 n))) (fun x s=>x= .exit 0) (fun n y s=>y= .ret/\s.tm.get 4=some (.f (.b true))) ?_ ?_ _ ?_ ?_ ?_
  . rintro n s hn ⟨h0,h1,h5⟩;have hw:=zaB n (by omega)
    by_cases he:l[n]=x
    . simp[rW,h0,h1,h5,zfb,zi4,hn,he]
    . simp[rW,h0,h1,h5,zfb,zi4,hn,he,hw]
  . rintro s ⟨h0,h1,h5⟩;simp[rW,h0,h1,h5,zfb]
  . simp[rW,st0,zal]
  . rintro h x s rfl;rw[zRD h];simp[rW,st0]
  . rintro n hn hp _ x s ⟨rfl,h4⟩;rw[zM6 hn hp];simp[rW,h4]
theorem zA2(l:List Str)(x:Str)(hl:l.length<100000){h:T Ob}{lo c:Nat}{d:D}(hg:Gro h lo c 1 d (zaQ l))(hlo:lo<=c):
  Eff pr 24 [d,.f (.s x)] h c fun d' h' c'=>Gro h' lo c' 1 d' (zaQ (zcQ l x))/\∀id,id<c->d.oid≠some id->h'.get id=h.get id:=by
 refine zfZ zfM fn24 ?_;simp only[g24,rU];have q:=fun k=>zad (k:=k) (ans58 l x (by omega))
 have m1:(1<=zax)=True:=zaH (by omega);have m2:(16<=zax)=True:=zaH (by omega);unfold zcQ;rcases hg with⟨rfl,hn⟩ |⟨id,ro,rfl,hne,hid,hro,hlid,hidc⟩
 .have:=zpq hn;subst this;rw[(show zbh []= .nils from rfl)]at q
  by_cases hx:x=[]
  .simp[rW,st0,zal,hx,zd0];exact .inl ⟨rfl,rfl⟩
  .simp[rW,st0,zal,hx,zd0,q,m1,m2];exact⟨.inr ⟨c,0,rfl,by simp[zaQ],by simp[T.zah,zaQ],Z61 _,hlo,by omega⟩,fun id h1 h2=>by omega⟩
 .rw[zaW]at*;have hl0:l≠[]:=fun e=>hne (by rw[e];rfl)
  have hz:=zlM hl0;have ht:(zaQ l).take l.length=zaQ l:=by rw[<-zaW l,Z7]
  by_cases hx:x=[]
  .simp[rW,st0,zal,hx,zd0];exact .inr ⟨id,ro,by rw[zaW],hne,hid,by rw[zaW];exact hro,hlid,hidc⟩
  .have m3:(l.length+1<=zax)=True:=zaH (by omega);have m4:((l.length+1)*16<=zax)=True:=zaH (by omega);have hlt:(l.length+1<=l.length)=False:=leF (by omega)
   by_cases hr:l.length<=ro
   .by_cases hm:x∈l
    .simp[rW,st0,zal,hx,zd0,q,m1,m2,hid,zaW,zeF,hz,ht,hr,hm,hidc];exact .inr ⟨id,ro,by rw[zaW],hne,hid,by rw[zaW];exact hro,hlid,hidc⟩
    .simp[rW,st0,zal,hx,zd0,q,m1,m2,m3,m4,hid,zaW,zeF,hz,ht,hr,hm,hidc,hro,hlt];refine⟨by omega,.inr ⟨c,ro,by simp[zaQ],by simp[zaQ],by simp[T.zah,zaQ],(by rw[zaW,Z16];omega),hlo,by omega⟩,fun i h1 h2=>by simp[show i≠c by omega,show i≠id from fun e=>h2 e.symm]⟩
   .by_cases hm:x∈l
    .simp[rW,st0,zal,hx,zd0,q,m1,m2,hid,zaW,zeF,hz,ht,hr,hm,hidc];exact⟨.inr ⟨id,l.length,by rw[zaW],hne,by simp[T.zah],by simp[zaQ],hlid,hidc⟩,fun i h1 h2 h3=>absurd h3.symm h2⟩
    .simp[rW,st0,zal,hx,zd0,q,m1,m2,m3,m4,hid,zaW,zeF,hz,ht,hr,hm,hidc,hro,hlt];refine⟨by omega,.inr ⟨c,l.length,by simp[zaQ],by simp[zaQ],by simp[T.zah,zaQ],(by rw[zaW,Z16];omega),hlo,by omega⟩,fun i h1 h2=>by simp[show i≠c by omega,show i≠id from fun e=>h2 e.symm]⟩
def zyB{l:List Atm}(hl:∀a∈l,a.ts.length<=12):∀x:List Str,(l.foldl (fun l a=>zdi l a.ts) x).length<=x.length+12*l.length:=by
 induction l with
 |nil=>intro x;simp
 |cons a l ih=>
  intro x;have h1:=zj2 a.ts x;have h2:=hl a (by simp);have h3:=ih (fun b hb=>hl b (by simp[hb])) (zdi x a.ts);simp only[Z42,Z23];omega
def zNF(l:List Cm):∀x:List Str,(l.foldl (fun l k=>zcQ (zcQ l (tv k.l)) (tv k.r)) x).length<=x.length+2*l.length:=by
 induction l with
 |nil=>intro x;simp
 |cons a l ih=>
  intro x;have h1:=zlq x (tv a.l);have h2:=zlq (zcQ x (tv a.l)) (tv a.r);have h3:=ih (zcQ (zcQ x (tv a.l)) (tv a.r));simp only[Z42,Z23];omega
def Va1(h:T Ob)(Z:Nat)(c:CQ)(l:List Str)(n:Nat)(s:St):Prop:=∃d,s.tm.get 1=some (.ptr Z 2 0 0)/\s.tm.get 4=some (.f (.i .i64 n))/\s.tm.get 3=some (d)/\s.h.get Z=some (.arr 2 0 [[.f (zdU c),.f (zdq c)]])/\Gro s.h (Z+1) s.c 1 d (zaQ l)/\Z+1<=s.c/\∀j,j<Z->s.h.get j=h.get j
def Va2(h:T Ob)(Z:Nat)(c:CQ)(n:Nat)(l:List Str)(m:Nat)(s:St):Prop:=∃d,s.tm.get 1=some (.ptr Z 2 0 0)/\s.tm.get 4=some (.f (.i .i64 n))/\s.tm.get 5=some (.f (.i .i64 m))/\s.tm.get 3=some (d)/\s.h.get Z=some (.arr 2 0 [[.f (zdU c),.f (zdq c)]])/\Gro s.h (Z+1) s.c 1 d (zaQ l)/\Z+1<=s.c/\∀j,j<Z->s.h.get j=h.get j
def Va3(h:T Ob)(Z:Nat)(c:CQ)(l:List Str)(n:Nat)(s:St):Prop:=∃d,s.tm.get 1=some (.ptr Z 2 0 0)/\s.tm.get 6=some (.f (.i .i64 n))/\s.tm.get 3=some (d)/\s.h.get Z=some (.arr 2 0 [[.f (zdU c),.f (zdq c)]])/\Gro s.h (Z+1) s.c 1 d (zaQ l)/\Z+1<=s.c/\∀j,j<Z->s.h.get j=h.get j
def eff10(c:CQ)(hc:CqSm c){h:T Ob}{Z:Nat}:Eff pr 10 [.ag [.f (zdU c),.f (zdq c)]] h Z fun d h' k'=>Gro h' (Z+1) k' 1 d (zaQ (vrs c))/\∀j,j<Z->h'.get j=h.get j:=by
 refine zfZ zfM fn10 ?_;simp only[g10,rU];simp[rW,st0,zal];refine zgd c.as (fun l a=>zdi l a.ts) [] (fun n a s=>Va1 h Z c a n s) (fun x s=>x= .exit 0/\∃n,Va1 h Z c (c.as.foldl (fun l a=>zdi l a.ts) []) n s) ?_ ?_ _ ?_ ?_
 .rintro n a s hn ha ⟨d,h1,h4,h3,gZ,hg,hc1,hfr⟩;have hw:=zaB n (by have:=hc.sa;omega);have hal:a.length<=144:=by
   have:=zyB (l:=c.as.take n) (fun b hb=>hc.st b (Z13 hb)) [];rw[<-ha]at this;have:=hc.sa;simp at*;omega
  have hat:=hc.as _ (Z1 hn);have hst:=hc.st _ (Z1 hn);generalize hA:c.as[n]=A at hat hst|-;simp[rW,h1,h4,h3,gZ,zdr,hn];refine zgd A.ts (fun l t=>zcQ l (tv t)) a (fun m b s=>Va2 h Z c n b m s) (fun x s=>x= .exit 2/\∃m,Va2 h Z c n (zdi a A.ts) m s) ?_ ?_ _ ?_ ?_
  .rintro m b s hm hb ⟨d,h1,h4,h5,h3,gZ,hg,hc1,hfr⟩;have hwm:=zaB m (by omega);have hbl:b.length<=200:=by
    have:=zj2 (A.ts.take m) a;rw[show zdi a (A.ts.take m)=b from hb.symm]at this;simp at this;omega
   simp[rW,h1,h4,h5,h3,gZ,zdr,zfi,zhh,zx3,hn,hA,atE,hm,tmE,zh2];refine zez ?_ ?_ (zA2 b (tv A.ts[m]) (by omega) hg hc1) ?_
   .simp only[rG]
   .simp only[rG]
   rintro d' h' c' lw' mx' ⟨hg',hf⟩ hcc;have e0:=hf Z (by omega) (zcC hg (by omega));have hfr2:∀j,j<Z->h'.get j=h.get j:=fun j hj=>(hf j (by omega) (zcC hg (by omega))).trans (hfr j hj)
   simp[rW,h1,h4,h5,h3,gZ,e0,hwm,Va2,hg'];exact⟨Z3 hc1 hcc,hfr2⟩
  .rintro s ⟨d,h1,h4,h5,h3,gZ,hg,hc1,hfr⟩;simp[rW,h1,h4,h5,h3,gZ,zdr,zfi,zhh,zx3,hn,hA,atE,zh2,Va2,hc1];exact⟨⟨_,rfl⟩,hg,hfr⟩
  .simp[rW,h1,h4,h3,gZ,Va2,hc1,hg];exact hfr
  .rintro x s ⟨rfl,m,d,h1,h4,h5,h3,gZ,hg,hc1,hfr⟩;simp[rW,h1,h4,h5,h3,gZ,Va1,hg,hc1,hw];exact hfr
 .rintro s ⟨d,h1,h4,h3,gZ,hg,hc1,hfr⟩;simp[rW,h1,h4,h3,gZ,zdr,Va1,hg,hc1];exact⟨⟨_,rfl⟩,hfr⟩
 .simp[rW,Va1,Gro.nil];exact⟨.inl ⟨rfl,rfl⟩,fun j hj e=>absurd e (by omega)⟩
 .rintro x s ⟨rfl,n,d,h1,h4,h3,gZ,hg,hc1,hfr⟩;have h0:=zyB (l:=c.as) hc.st [];have hv:vrs c=c.cs.foldl (fun l k=>zcQ (zcQ l (tv k.l)) (tv k.r)) (c.as.foldl (fun l a=>zdi l a.ts) []):=rfl;rw[hv];clear hv;generalize c.as.foldl (fun l a=>zdi l a.ts) []=x0 at h0 hg|-;have hx0:x0.length<=144:=by have:=hc.sa;simp at h0;omega
  generalize hres:c.cs.foldl (fun l k=>zcQ (zcQ l (tv k.l)) (tv k.r)) x0=res;simp[rW,h1,h3,gZ];refine zgd c.cs (fun l k=>zcQ (zcQ l (tv k.l)) (tv k.r)) x0 (fun n a s=>Va3 h Z c a n s) (fun x s=>x= .exit 4/\∃n,Va3 h Z c res n s) ?_ ?_ _ ?_ ?_
  .rintro n a s hn ha ⟨d,h1,h6,h3,gZ,hg,hc1,hfr⟩;have hw:=zaB n (by have:=hc.sc;omega);have hal:a.length<=200:=by
    have:=zNF (c.cs.take n) x0;rw[<-ha]at this;have:=hc.sc;simp at*;omega
   generalize hK:c.cs[n]=K;simp[rW,h1,h6,h3,gZ,zgb,hn];refine zEy ?_;simp[rW,h1,h6,h3,gZ,zgb,zeU,hn,hK,cmF,tmE];refine zDs (c:=s.c+8) ?_ ?_ (zA2 a (tv K.l) (by omega) (zbB hg (Nat.le_add_right _ _) fun _ _ _=>rfl) (by omega)) ?_
   .simp only[rG]
   .simp only[rG]
   rintro d1 h1' c1 lw1 mx1 ⟨hg1,hf1⟩ hcc1 hm1;have e0:=hf1 Z (by omega) (zcC hg (by omega));simp[rW,h1,h6,h3,gZ,e0,zeU,hn,hK,cmF,tmE];have hal2:=zlq a (tv K.l);refine zDs (h:=h1') (c:=mx1+7) ?_ ?_ (zA2 (zcQ a (tv K.l)) (tv K.r) (by omega) (zbB hg1 (by omega) fun _ _ _=>rfl) (by omega)) ?_
   .simp only[rG]
   .simp only[rG]
   rintro d2 h2' c2 lw2 mx2 ⟨hg2,hf2⟩ hcc2 hm2;have e2:=hf2 Z (by omega) (zcC hg1 (by omega));have hfr2:∀j,j<Z->h2'.get j=h.get j:=fun j hj=>((hf2 j (by omega) (zcC hg1 (by omega))).trans (hf1 j (by omega) (zcC hg (by omega)))).trans (hfr j hj)
   simp[rW,h1,h6,h3,gZ,e0,e2,Va3,hw];exact⟨zbB hg2 (by omega) fun _ _ _=>rfl,by omega,hfr2⟩
  .rintro s ⟨d,h1,h6,h3,gZ,hg,hc1,hfr⟩;rw[hres]at hg;simp[rW,h1,h6,h3,gZ,zgb,Va3,hg,hc1];exact⟨⟨_,rfl⟩,hfr⟩
  .simp[rW,h1,h3,gZ,Va3,hg,hc1];exact hfr
  .rintro x s ⟨rfl,n,d,h1,h6,h3,gZ,hg,hc1,hfr⟩;simp[rW,h1,h6,h3,gZ,zd0];refine⟨⟨hg,hfr⟩,fun e hF=> ?_⟩;rcases hg with⟨rfl,hn⟩ |⟨id,ro,rfl,_⟩
   .exact .inl ⟨rfl,hn⟩
   .simp[D.isF]at hF
def zNQ{f:Nat}{fs:List F}{y:F}{P:D->T Ob->Nat->Prop}(he:Eff pr f (F.dL fs) .e 0 P)(hz:∀d h c,P d h c->∃rd,frz h.get 12 d=some (y,rd)):Ans pr f fs y:=by
 obtain⟨q,h1,h2,h3,h4⟩ :=he;obtain⟨rd,h5⟩ :=hz _ _ _ h2;exact⟨q,rd,h1,h5⟩
def zJp(c:CQ)(hc:CqSm c):Ans pr 10 [.ag (cqF c)] (zbh (vrs c)):=by
 have e:F.dL [.ag (cqF c)]=[.ag [.f (zdU c),.f (zdq c)]]:=by simp[F.dL,F.d,cqE,zdL,zea]
 refine zNQ (e▸eff10 c hc) fun d h k hp=> ?_
 obtain⟨rd,hf⟩ :=zi3 (k:=11) hp.1 (zeF _ 10 _) (by simp[zaQ]);exact⟨rd,hf⟩
def CqM.x{n:Nat}{c:CQ}(h:CqM n c)(hn:n<=3):CqX c:=
 ⟨by have:=h.la;omega,by have:=h.lc;omega,fun a ha=>⟨by have:=(h.al a ha).2.1;omega,(h.al a ha).1.1⟩,h.cs⟩
def CqM.tc{n:Nat}{c:CQ}(h:CqM n c):TC c:=by
 intro t ht;unfold tsC tsA ts2 at ht;simp only[Z4,Z38]at ht;rcases ht with⟨a,ha,h1⟩ |⟨k,hk,h1⟩
 .exact (h.al a ha).1.1 t h1
 .have:=h.cs k hk;simp only[Z5,Z164,or_false]at h1;rcases h1 with rfl|rfl
  .exact this.1
  .exact this.2
theorem zsG{l:zhA}{cs:List CQ}(h:∀c∈cs,c∈CQl)(hl:cs.length<=3):
  holdsOne l (zev [] cs)=cs.all (holdsOne l)/\(vrs (zev [] cs)).length=(cs.map fun c=>(vrs c).length).sum/\(zev [] cs).as.length=(cs.map fun c=>c.as.length).sum:=
 zG8 (fun c hc=>⟨(zp4 c (h c hc)).m.tc,sfAll c (h c hc),zDn c (h c hc)⟩) hl
def fn3:pr.fn 3=some g3:=by kernel_rfl
def zo5{x:F}(h:zc1 x):x.d= .f x:=by
 rcases h with rfl|⟨zs,rfl⟩ <;>rfl
def A3(hd:List Str)(l:List CQ)(c:CQ)(C:List (List F))(s:St):Prop:=(s.tm.get 7=some (.ptr 0 2 0 0)/\s.tm.get 8=some (.ptr 1 2 0 0)/\s.tm.get 9=some (.f (slc 5 C))/\s.h.get 0=some (.arr 2 0 [[.f (zbh hd),.f (qsF l)]])/\s.h.get 1=some (.arr 2 0 [[.f (zdU c),.f (zdq c)]]))/\2<=s.c
def A3.up{hd:List Str}{l:List CQ}{c:CQ}{C:List (List F)}{s S:St}(H:A3 hd l c C s)(hh:S.h=s.h)(hc:s.c<=S.c)(t7:S.tm.get 7=s.tm.get 7)(t8:S.tm.get 8=s.tm.get 8)(t9:S.tm.get 9=s.tm.get 9):A3 hd l c C S:=by
 obtain⟨⟨h7,h8,h9,g0,g1⟩,hc1⟩ :=H;exact⟨⟨t7.trans h7,t8.trans h8,t9.trans h9,by rw[hh];exact g0,by rw[hh];exact g1⟩,by omega⟩
def J3(hd:List Str)(l:List CQ)(c:CQ)(C:List (List F))(n:Nat)(s:St):Prop:=A3 hd l c C s/\s.tm.get 10=some (.f (.i .i64 n))
def K3(hd:List Str)(l:List CQ)(c:CQ)(C:List (List F))(L:List Rl)(n k:Nat)(s:St):Prop:=J3 hd l c C n s/\(s.tm.get 11=some (.f (.b ((l.take k).all (holdsOne (zcJ L)))))/\s.tm.get 12=some (.f (.i .i64 k)))
def nV(l:List CQ):Nat:=(l.map fun c=>(vrs c).length).sum
def nA(l:List CQ):Nat:=(l.map fun c=>c.as.length).sum
def M3(hd:List Str)(l:List CQ)(c:CQ)(C:List (List F))(k:Nat)(s:St):Prop:=A3 hd l c C s/\(s.tm.get 13=some (.f (.i .i64 (nV (l.take k):Nat)))/\s.tm.get 14=some (.f (.i .i64 (nA (l.take k):Nat)))/\s.tm.get 15=some (.f (.i .i64 k)))
def zM3{α:Type}(f:α->Bool)(l:List α)(k:Nat)(h:k<l.length):(l.take (k+1)).all f=((l.take k).all f&&f l[k]):=by
 rw[Z105,Z0 h,List.all_append];simp
def zSz(l:List CQ)(k:Nat)(h:k<l.length):nV (l.take (k+1))=nV (l.take k)+(vrs l[k]).length:=by
 unfold nV;rw[Z105,Z0 h,Z20,List.sum_append];simp
def zSx(l:List CQ)(k:Nat)(h:k<l.length):nA (l.take (k+1))=nA (l.take k)+l[k].as.length:=by
 unfold nA;rw[Z105,Z0 h,Z20,List.sum_append];simp
theorem zCu:∀l:List CQ,(∀c∈l,c∈CQl)->nV l<=8*l.length
 |[],_=>by simp[nV]
 |c::l,h=>by
  have h1:=zCu l fun d hd=>h d (by simp[hd])
  have h2:=zDn c (h c (by simp));simp only[nV,Z10,Z159,Z23]at h1|-;omega
theorem zCt:∀l:List CQ,(∀c∈l,c∈CQl)->nA l<=3*l.length
 |[],_=>by simp[nA]
 |c::l,h=>by
  have h1:=zCt l fun d hd=>h d (by simp[hd])
  have h2:=(zp4 c (h c (by simp))).la;simp only[nA,Z10,Z159,Z23]at h1|-;omega
def ans3{x y:F}(hx:zc1 x)(hy:zc1 y)(p:Bool):Ans pr 3 [x,y,.b p] (.b true):=by
 obtain⟨r,l,hr,⟨hne,hl3,hl⟩,abu⟩ :=ans4 hy p 0;obtain⟨ta,tb,tc,td,ha,hb,hc,hd,apg⟩ :=ans7 x hx (zo5 hx);obtain⟨hr8,hru,hrl⟩ :=zSN ha hb hc hd;obtain⟨C,⟨hCn,hC⟩,aca⟩ :=ans6 (rl4 ta tb tc td) hr8 hru hrl;have hN:∀c∈l,CqN 1 c:=fun c h=>zp4 c (hl c h)
 have acj:=ans5 [] l (by simp) hl3 hN;have hcm:=zEo (hd:=[]) hN;have hcx:CqX (zev [] l):=hcm.x hl3;have hcs:CqSm (zev [] l):=(hcm.g (by omega)).toCqSm;have acv:=zJp (zev [] l) hcs;have a1c:=ans9 (zev [] l);have lawV:(vrs (zev [] l)).length=nV l:=(zsG (l:=[]) hl hl3).2.1;have lawA:(zev [] l).as.length=nA l:=(zsG (l:=[]) hl hl3).2.2;have lawH:∀L:List Rl,holdsOne (zcJ L) (zev [] l)=l.all (holdsOne (zcJ L)):=fun L=>(zsG (l:=zcJ L) hl hl3).1
 generalize zev [] l=c at acj hcx hcs acv a1c lawV lawA lawH;generalize hdL r=hdl at abu;have q1:=fun k=>zad (k:=k) abu
 have q2:=fun k=>zad (k:=k) acj
 have q3:=fun k=>zad (k:=k) apg
 have q4:=fun k=>zad (k:=k) aca
 have q5:=fun k=>zad (k:=k) acv
 have q6:=fun k=>zad (k:=k) a1c
 have q7:=fun k=>zad (k:=k) ans11
 have eN:zbh []= .nils:=rfl;simp only[cqE,eN]at q2 q5 q6;simp only[pgF]at q3 q4;have hVle:=zCu l hl;have hAle:=zCt l hl;refine zbN fn3 ?_;simp only[g3,rU];simp[rW,st0,zal,zo5 hx,zo5 hy,q1,za5,zpe,q2,zdL,zea,q3,q4,zcY,zf4];have hclen:∀(c:CQ),zbj (.f (zbh (vrs c)))=some (vrs c).length:=fun c=>zfb _
 refine zex C.length (J3 hdl l c C) (fun x s=>x= .exit 0/\A3 hdl l c C s) ?_ ?_ _ ⟨⟨⟨?_,?_,?_,?_,?_⟩,?_⟩,?_⟩ ?_
 .rintro n s hn ⟨hA,h10⟩;have hwn:IntKind.i64.wrap ((n:Int)+1)=((n+1:Nat):Int):=zaB n (by omega);have hx:C[n]? =some C[n]:=Z0 hn;obtain⟨w,L,p0,p1,p2,hce,hXL⟩ :=hC _ (Z1 hn);generalize hA':C[n]=ca at hx hce;subst hce;have hlaw:=lawH L;have h0:=ans8 L c hXL hcx;have q8:=fun k=>zad (k:=k) h0
  obtain⟨⟨h7,h8,h9,g0,g1⟩,hc2⟩ :=id hA;simp[rW,h7,h8,h9,h10,g0,g1,hn];refine zex l.length (K3 hdl l c C L n) (fun x s=>x= .exit 2/\K3 hdl l c C L n l.length s) ?_ ?_ _ ⟨⟨hA.up ?_ ?_ ?_ ?_ ?_,?_⟩,?_,?_⟩ ?_
  .clear h7 h8 h9 g0 g1 hc2 h10 hA s;rintro k s hk ⟨⟨hA,h10⟩,h11,h12⟩;obtain⟨⟨h7,h8,h9,g0,g1⟩,hc2⟩ :=id hA;have hwk:=zaB k (by omega);have hxk:l[k]? =some l[k]:=Z0 hk;have hcq:=hl _ (Z1 hk);have hal:=zM3 (holdsOne (zcJ L)) l k hk;generalize hD:l[k]=e at hxk hcq hal;have he:=zp4 e hcq;have h3:=ans8 L e hXL (he.m.x (by omega));have q9:=fun k=>zad (k:=k) (ans9 e)
   have q10:=fun k=>zad (k:=k) h3
   simp only[cqE]at q9;cases hb:(l.take k).all (holdsOne (zcJ L))with
   |true=>
    rw[hb,Z103]at hal;rw[hb]at h11;simp[rW,h7,h8,h9,h10,h11,h12,g0,g1,zjF,hk];refine zaq ?_;simp[rW,h7,h8,h9,h10,h11,h12,g0,g1,zjF,hk,hn,hx,hA',zvz,hxk,hD,zpe,cqE,zdL,zea,zcY,q9,q10,hwk];refine⟨⟨hA.up ?_ ?_ ?_ ?_ ?_,?_⟩,?_,?_⟩
    all_goals simp[rW,h10,hal,hwk]
    all_goals omega
   |false=>
    rw[hb,Z176]at hal;rw[hb]at h11;simp[rW,h7,h8,h9,h10,h11,h12,g0,g1,zjF,hk];refine zaq ?_;simp[rW,h7,h8,h9,h10,h11,h12,g0,g1,hwk];refine⟨⟨hA.up ?_ ?_ ?_ ?_ ?_,?_⟩,?_,?_⟩
    all_goals simp[rW,h10,hal,hwk]
    all_goals omega
  .clear h7 h8 h9 g0 g1 hc2 h10 hA s;rintro s ⟨⟨hA,h10⟩,h11,h12⟩;obtain⟨⟨h7,h8,h9,g0,g1⟩,hc2⟩ :=id hA;simp[rW,h7,h12,g0,zjF];exact⟨⟨hA.up (by simp[rW]) (by simp[rW]) (by simp[rW]) (by simp[rW]) (by simp[rW]),by simp[rW,h10]⟩,by simp[rW,h11],by simp[rW,h12]⟩
  .simp[rW]
  .simp[rW]
  .simp[rW]
  .simp[rW]
  .simp[rW]
  .simp[rW,h10]
  .simp[rW]
  .simp[rW]
  .clear h7 h8 h9 g0 g1 hc2 h10 hA s;rintro x s ⟨rfl,⟨hA,h10⟩,h11,h12⟩;obtain⟨⟨h7,h8,h9,g0,g1⟩,hc2⟩ :=id hA;rw[Z7,<-hlaw]at h11;generalize holdsOne (zcJ L) c=hb at h11 q8;simp[rW];refine zaq ?_;cases hb with
   |true=>
    simp[rW,h7,h8,h9,h10,h11,g0,g1,hn,hx,hA',q6,q8,zcY,zpe,hwn];refine⟨hA.up ?_ ?_ ?_ ?_ ?_,?_⟩
    all_goals simp[rW,hwn]
    all_goals omega
   |false=>
    simp[rW,h7,h8,h9,h10,h11,g0,g1,hn,hx,hA',q6,q8,zcY,zpe,hwn];refine⟨hA.up ?_ ?_ ?_ ?_ ?_,?_⟩
    all_goals simp[rW,hwn]
    all_goals omega
 .rintro s ⟨hA,h10⟩;obtain⟨⟨h7,h8,h9,g0,g1⟩,hc2⟩ :=id hA;simp[rW,h9,h10];exact hA.up (by simp[rW]) (by simp[rW]) (by simp[rW]) (by simp[rW]) (by simp[rW])
 .simp[rW]
 .simp[rW]
 .simp[rW]
 .simp[rW]
 .simp[rW]
 .simp[rW]
 .simp[rW]
 .rintro x s ⟨rfl,hA⟩;obtain⟨⟨h7,h8,h9,g0,g1⟩,hc2⟩ :=id hA;simp[rW,h7,h8,h9,g0,g1];refine zex l.length (M3 hdl l c C) (fun x s=>x= .exit 4/\M3 hdl l c C l.length s) ?_ ?_ _ ⟨hA.up ?_ ?_ ?_ ?_ ?_,?_,?_,?_⟩ ?_
  .clear h7 h8 h9 g0 g1 hc2 hA s;rintro k s hk ⟨hA,h13,h14,h15⟩;obtain⟨⟨h7,h8,h9,g0,g1⟩,hc2⟩ :=id hA;have hwk:=zaB k (by omega);have hxk:l[k]? =some l[k]:=Z0 hk;have hcq:=hl _ (Z1 hk);have e1:=zSz l k hk;have e2:=zSx l k hk;have b1:=zCu (l.take k) fun c h=>hl c (Z13 h)
   have b2:=zCt (l.take k) fun c h=>hl c (Z13 h)
   have b3:(l.take k).length<=3:=by rw[Z41];omega
   generalize hD:l[k]=e at hxk hcq e1 e2;have he:=zp4 e hcq;have b4:=zDn e hcq;have b5:=he.la;have w1:=zmC (nV (l.take k)) (vrs e).length (by omega) (by omega);have w2:=zmC (nA (l.take k)) e.as.length (by omega) (by omega);have q9:=fun k=>zad (k:=k) (zJp e (he.m.g (by omega)).toCqSm)
   simp only[cqE]at q9;rw[<-e1]at w1;rw[<-e2]at w2;simp[rW,h7,h8,h9,h13,h14,h15,g0,g1,zjF,hk,zvz,hxk,hD,cqE,zdL,zea,za5,q9,hclen,zdr,w1,w2,hwk];refine⟨hA.up ?_ ?_ ?_ ?_ ?_,?_,?_,?_⟩
   all_goals simp[rW,w1,w2,hwk]
  .clear h7 h8 h9 g0 g1 hc2 hA s;rintro s ⟨hA,h13,h14,h15⟩;obtain⟨⟨h7,h8,h9,g0,g1⟩,hc2⟩ :=id hA;simp[rW,h7,h15,g0,zjF];exact⟨hA.up (by simp[rW]) (by simp[rW]) (by simp[rW]) (by simp[rW]) (by simp[rW]),by simp[rW,h13],by simp[rW,h14],by simp[rW,h15]⟩
  .simp[rW]
  .simp[rW]
  .simp[rW]
  .simp[rW]
  .simp[rW]
  .simp[rW,nV]
  .simp[rW,nA]
  .simp[rW]
  .clear h7 h8 h9 g0 g1 hc2 hA s;rintro x s ⟨rfl,hA,h13,h14,h15⟩;obtain⟨⟨h7,h8,h9,g0,g1⟩,hc2⟩ :=id hA;rw[Z7]at h13 h14;simp[rW,h7,h8,h9,h13,h14,g0,g1,q5,za5,hclen,lawV,zdr,zdL,lawA,q7]
end Go.Proofs.YtkcnnkncapiohaaGreatDoor
end
