/- Rounds: C. -/
import Derived.Test.YtbhholaillniiaaGreatDoorPzi
import Derived.KernelRfl
import Derived.IntWalk
import Derived.Test.YtbhholaillniiaaGreatDoorPzh
import Derived.Test.YtbhholaillniiaaGreatDoorPo
import Derived.Test.YtbhholaillniiaaGreatDoorPu
import Derived.Test.YtbhholaillniiaaGreatDoorPze
import Derived.Test.YtbhholaillniiaaGreatDoorPzb
set_option linter.all false
set_option maxRecDepth 100000
set_option maxHeartbeats 4000000
noncomputable section
section
namespace Go.Proofs.YtbhholaillniiaaGreatDoor
open Go Go.Vse Go.Vse.Sm
def stepC(x:F)(hx:zdg x)(hxd:x.d= .f x)(id:Nat)(dO:D)(els:List (List D)):∀k s,KI [67] true coC zj2 3 x id dO els k s->wpC pr lo2 s (lp (KI [67] true coC zj2 3 x id dO els) k (KR [67] true coC zj2 3 x id dO els)):=by
 unfold lo2 g9;simp only[rU,C.l,C.r,C.b,C.o];rintro k s ⟨n,tu,hn,rfl,htl,h7,⟨hT,hG⟩,h0,h4,h5,h6,h3,g,hg,c0⟩;obtain⟨a,ha,h14⟩ :=ziz hx 3 (by omega);obtain⟨b,hb,h14b⟩ :=ziz hx (13+n) (by omega);have q14:=fun k=>zad (k:=k) h14
 have hrm:=zc7 a 4 (by omega);have hm4:a%4<4:=Z124 _ (by omega);have hs:zdv[3]? =some [.s [67],.b true,coC]:=rfl;have hmul:zaH .mul (.i .i64 3) (.i .i64 3)=some (.i .i64 9):=rfl;have hw:=zau n (by omega);rw[show((3:Nat):Int)=3 from rfl]at q14;rw[show((4:Nat):Int)=4 from rfl]at hrm;generalize a%4=m4 at hrm hm4
 by_cases hlt:n<m4
 .by_cases hgo:True
  .have hw4:IntKind.i64.wrap (13:Int)=13:=rfl;have hwn:IntKind.i64.wrap ((13:Int)+(n:Int))=((13+n:Nat):Int):=wrap_i64 _ (by omega) (by omega);have q14b:=fun k=>zad (k:=k) h14b
   have hci:((13+n:Nat):Int)=(13:Int)+(n:Int):=rfl;rw[hci]at q14b hwn;obtain⟨z,hz⟩ :∃r:Int,zaH .shr (.i .i64 b) (.i .u64 4)=some (.i .i64 r):=⟨_,rfl⟩
   obtain⟨p,hp,h15⟩ :=zsl z;obtain⟨p0,p1,p2,rfl,hd0,hd1,hd2⟩ :=zaR _ hp;have q15:=fun k=>zad (k:=k) h15
   have q16:=fun k=>zad (k:=k) zm9
   have hr1:=zc7 b 3 (by omega);have hq1:=zf6 b 3 (by omega) (by omega);have hr2:=zc7 (b/3) 3 (by omega);have hq2:=zf6 (b/3) 3 (by omega) (by have:b/3<=b:=Nat.div_le_self _ _;omega);rw[show((3:Nat):Int)=3 from rfl]at hr1 hq1 hr2 hq2;have hb1:b%3<3:=Z124 _ (by omega);have hb2:b/3%3<3:=Z124 _ (by omega);generalize b/3%3=b2 at hr2 hb2;generalize b/3/3=b4 at hq2;generalize b/3=b3 at hq1 hr2 hq2;generalize b%3=b1 at hr1 hb1;have k1:¬id=s.c:=by omega
   have hok0:TuC ([1+(b1:Int),1+(b2:Int)],[.b false,.sl 1 [[.i .u32 1]],.sl 1 [[.i .u32 1]]]):=⟨pp1,1+(b1:Int),1+(b2:Int),rfl,rfl⟩
   have hok:zj2 ([1+(b1:Int),1+(b2:Int)],[.b false,.sl 1 [[.i .u32 1]],.sl 1 [[.i .u32 1]]]):=⟨hok0,fun z hz=>by simp only[Z5,Z164,or_false]at hz;omega⟩
   obtain⟨y,hy,h17⟩ :=zsp zqh [67] true coC tu (okC tu (by omega) fun t h=>(hT t h).1) (by omega) ([1+(b1:Int),1+(b2:Int)],[.b false,.sl 1 [[.i .u32 1]],.sl 1 [[.i .u32 1]]]) pp1 (ckC _ hok.1) (fun m hm=>okC _ (by rw[zgR m hm];omega) fun t h=>(zgW m hT hok t h).1);have h17:Ans pr 30 [.ag [.s [67],.b true,coC,slc 4 (tu.map tuF)],.ag [.sl 3 [[.i .i64 1,.i .i64 (1+(b1:Int)),.s []],[.i .i64 1,.i .i64 (1+(b2:Int)),.s []]],.b false,.sl 1 [[.i .u32 1]],.sl 1 [[.i .u32 1]]]] y:=h17;simp -implicitDefEqProofs [Vse.rR,h0,h4,h5,h6,h3,h7,g,hxd,q14,hrm,hlt,hs,hgo,hmul,hw4,hwn,q14b,hz,q15,q16,hd0,hd1,hd2];refine zzs s.h x 3 id dO n [.f (.s [67]),.f (.b true),.f coC,.f (slc 4 (tu.map tuF))] s.c (.f (.b false)) (.f (.sl 1 [[.i .u32 1]])) (.f (.sl 1 [[.i .u32 1]])) [67] true coC rfl rfl rfl b b1 b2 b3 b4 hr1 hq1 hr2 hq2 hb1 hb2 _ _ ⟨?_,?_,?_,?_,?_,?_,?_,?_,?_,?_,?_⟩ ?_ ?_ ?_ ?_
   any_goals (simp -implicitDefEqProofs [Vse.rR,h0,h4,h5,h6,h3,h7,g,k1];done)
   .omega
   .intro j hj;simp only[zbi,zb8,zb7,za8,zbW,zbU,zbf,zb6,zb2,zbj,zcb,zca,zaU,zbd,za9,zcf,zci,zcc]
    repeat first|rw[TG,Z49 (by omega)]|rw[Vse.T.zbt,Z49 (by omega)]
   .clear h0 h4 h5 h6 h3 h7 g k1;intro S idv hS gg9 gv hi4 hi5;obtain⟨h0,h4,h5,h6,h3,h7,h9,g,hi1,hi2,hk⟩ :=hS;rw[show((3:Nat):Int)=3 from rfl]at h5;have hcd:coC.d= .f coC:=rfl;have hcc:(D.f coC).cells=some [.f coC]:=rfl;have j1:¬id=s.c:=by omega
    have j2:¬id=idv:=by omega
    have j3:¬id=S.c:=by omega
    have j4:¬s.c=id:=by omega
    have j5:¬s.c=idv:=by omega
    have j6:¬s.c=S.c:=by omega
    have j7:¬idv=id:=by omega
    have j8:¬idv=s.c:=by omega
    have j9:¬idv=S.c:=by omega
    have j10:¬S.c=id:=by omega
    have j11:¬S.c=s.c:=by omega
    have j12:¬S.c=idv:=by omega
    have keep:∀h':Vse.T Ob,(∀j,j<id->h'.get j=S.h.get j)->Grow h' 0 id 4 dO els:=fun h' hh=>Vse.zeA hg (fun j hj=>(hh j hj).trans (hk j hj)) (Z2 _)
    rcases hy with⟨e,he,rfl⟩ |⟨m,hm,hgd,rfl⟩
    .have q17:=fun k=>zad (k:=k) h17
     simp only[zRl]at q17;simp -implicitDefEqProofs [Vse.rR,h0,h4,h5,h6,h3,h7,h9,g,gg9,gv,hcd,hcc,hd0,hd1,hd2,hi2,hi5,j1,j2,j3,j4,j5,j6,j7,j8,j9,j10,j11,j12,q17,he,hw];rw[zdi];refine⟨3 - (n+1),by omega,n+1,tu,by omega,rfl,by omega,?_,⟨hT,hG⟩,?_,?_,?_,?_,?_,?_,?_,?_⟩
     any_goals (simp -implicitDefEqProofs [Vse.rR,h0,h4,h5,h6,h3,h7,h9,g,gg9,gv,hcd,hcc,hd0,hd1,hd2,hi2,hi5,j1,j2,j3,j4,j5,j6,j7,j8,j9,j10,j11,j12];done)
     .simp only[zbi,zb8,zb7,za8,zbW,zbU,zbf,zb6,zb2,zbj,zcb,zca,zaU,zbd,za9,zcf,zci,zcc];refine keep _ ?_;intro j hj
      repeat first|rw[TG,Z49 (by omega)]|rw[Vse.T.zbt,Z49 (by omega)]
     all_goals (simp only[zbi,zb8,zb7,za8,zbW,zbU,zbf,zb6,zb2,zbj,zcb,zca,zaU,zbd,za9,zcf,zci,zcc];omega)
    .have q17:=fun k=>zad (k:=k) h17
     simp only[rlF]at q17;simp -implicitDefEqProofs [Vse.rR,h0,h4,h5,h6,h3,h7,h9,g,gg9,gv,hcd,hcc,hd0,hd1,hd2,hi2,hi5,j1,j2,j3,j4,j5,j6,j7,j8,j9,j10,j11,j12,q17,hw];refine⟨by omega,?_⟩;rw[zdi];refine⟨3 - (n+1),by omega,n+1,tu.take m++([1+(b1:Int),1+(b2:Int)],[.b false,.sl 1 [[.i .u32 1]],.sl 1 [[.i .u32 1]]])::tu.drop m,by omega,rfl,by rw[zgR m hm];omega,?_,⟨zgW m hT hok,hgd⟩,?_,?_,?_,?_,?_,?_,?_,?_⟩
     any_goals (simp -implicitDefEqProofs [Vse.rR,h0,h4,h5,h6,h3,h7,h9,g,gg9,gv,hcd,hcc,hd0,hd1,hd2,hi2,hi5,j1,j2,j3,j4,j5,j6,j7,j8,j9,j10,j11,j12];done)
     .simp only[zbi,zb8,zb7,za8,zbW,zbU,zbf,zb6,zb2,zbj,zcb,zca,zaU,zbd,za9,zcf,zci,zcc];refine keep _ ?_;intro j hj
      repeat first|rw[TG,Z49 (by omega)]|rw[Vse.T.zbt,Z49 (by omega)]
     all_goals (simp only[zbi,zb8,zb7,za8,zbW,zbU,zbf,zb6,zb2,zbj,zcb,zca,zaU,zbd,za9,zcf,zci,zcc];omega)
  .exact absurd trivial hgo
 .simp -implicitDefEqProofs [Vse.rR,h0,h4,h5,h6,h3,h7,g,hxd,q14,hrm,hlt,hs];refine⟨rfl,tu,by omega,⟨hT,hG⟩,?_,?_,?_,?_,?_,?_,?_,?_⟩
  all_goals simp -implicitDefEqProofs [Vse.rR,h0,h4,h5,h6,h3,g,hg,c0]
def fn9:pr.fn 9=some g9:=by kernel_rfl
def lo4:C:=g9.body.r.r.r.l.r.b.o
def rlG(L:List Rl):List (List D):=L.map fun r=>(rlF r).map D.f
def zKO(h:Nat->Option Ob)(k:Nat)(L:List Rl):zaQ (frz h (k+1)) (rlG L)=some (L.map rlF,[]):=by
 have:=zlA h k (L.map rlF)
 rwa[Z33]at this
def gd0R:Gd (rR []):=⟨rA,fun m h _=>by simp[rR]at h,[],rA,⟨by simp,by simp⟩,by simp⟩
def gd0S:Gd (rS []):=⟨rA,fun m h _=>by simp[rS]at h,[],rA,⟨by simp,by simp⟩,by simp⟩
def gd0K:Gd (rK []):=⟨rA,fun m h _=>by simp[rK]at h,[],rA,⟨by simp,by simp⟩,by simp⟩
def gd0C:Gd (rC []):=⟨rA,fun m h _=>by simp[rC]at h,[],rA,⟨by simp,by simp⟩,by simp⟩
def OB(x:F)(i:Int)(L:List Rl)(S:St):Prop:=S.tm.get 0=some (.f x)/\S.tm.get 4=some (.f (.sl 3 zdv))/\S.tm.get 5=some (.f (.i .i64 i))/\∃dO,S.tm.get 3=some dO/\Grow S.h 0 S.c 4 dO (rlG L)
def zPq(x:F)(hx:zdg x)(hxd:x.d= .f x)(L:List Rl)(hL:L.length<10)(S:St)(Q:Ex->St->Prop)(hS:OB x 0 L S)(hQ:∀S' tu,tu.length<=3->(∀t∈tu,zj8 t)->Gd (rR tu)->OB x 1 (L++[rR tu]) S'->WL pr lo4 S' Q):WL pr lo4 S Q:=by
 unfold lo4 g9 at hQ|-;simp only[rU,C.l,C.r,C.b,C.o]at hQ|-;obtain⟨h0,h4,h5,dO,h3,hg⟩ :=hS;have hs:zdv[0]? =some [.s [82],.b false,coR]:=rfl;have hs2:∀h:0<zdv.length,zdv[0]=[.s [82],.b false,coR]:=fun _=>rfl
 have hsl:zdv.length=4:=rfl;have hcd:coR.d= .f coR:=rfl;have hcc:(D.f coR).cells=some [.f coR]:=rfl;have hw:IntKind.i64.wrap 1=1:=rfl;refine round ?_;simp -implicitDefEqProofs [Vse.rR,h0,h4,h5,h3,hs,hs2,hsl,hcd,hcc];refine zcJ (KI [82] false coR zj8 0 x S.c dO (rlG L)) (KR [82] false coR zj8 0 x S.c dO (rlG L)) (stepR x hx hxd S.c dO (rlG L)) 3 _ ⟨0,[],by omega,rfl,by simp,?_,⟨by simp,gd0R⟩,?_,?_,?_,?_,?_,?_,?_,?_⟩ ?_
 any_goals (simp -implicitDefEqProofs [Vse.rR,h0,h4,h5,h3,hcd];done)
 any_goals (simp -implicitDefEqProofs [Vse.rR,h0,h4,h5,h3,hcd,Z85,zbv];done)
 .simp only[zbi,zb8,zb7,za8,zbW,zbU,zbf,zb6,zb2,zbj,zcb,zca,zaU,zbd,za9,zcf,zci,zcc];refine Vse.zeA hg ?_ (Z2 _);intro j hj
  repeat first|rw[TG,Z49 (by omega)]|rw[Vse.T.zbt,Z49 (by omega)]
 .rintro e S' ⟨rfl,tu,htl,⟨hT,hG⟩,h0,h4,h5,h6,h3,g,hg,hc⟩;simp -implicitDefEqProofs [zAT,Z67,Z79,zpW,zpP,zpQ,zpO,zpM,zpN,zpL,zpR,zpU,zpV,zpS,zpZ,zp0,zpY,h0,h4,h5,h6,h3,g,hcd,hcc];refine Vse.zno (new:=[(rlF (rR tu)).map D.f]) (Vse.zeA hg (fun _ _=>rfl) (Z110 hc)) (Z61 _) (by simp[rlG];omega) (by omega) ?_;intro r hr1 hr2 hr3 _;refine⟨hr1,?_⟩;simp -implicitDefEqProofs [Vse.rR,h5,hw];refine hQ _ tu htl hT hG ⟨?_,?_,?_,r.d,?_,?_⟩
  any_goals (simp -implicitDefEqProofs [Vse.rR,h0,h4,h5,h3];done)
  simp only[zbi,zb8,zb7,za8,zbW,zbU,zbf,zb6,zb2,zbj,zcb,zca,zaU,zbd,za9,zcf,zci,zcc];have e:rlG (L++[rR tu])=rlG L++[(rlF (rR tu)).map D.f]:=by simp[rlG]
  rw[e];exact hr2
def zPr(x:F)(hx:zdg x)(hxd:x.d= .f x)(L:List Rl)(hL:L.length<10)(S:St)(Q:Ex->St->Prop)(hS:OB x 1 L S)(hQ:∀S' tu,tu.length<=3->(∀t∈tu,zj9 t)->Gd (rS tu)->OB x 2 (L++[rS tu]) S'->WL pr lo4 S' Q):WL pr lo4 S Q:=by
 unfold lo4 g9 at hQ|-;simp only[rU,C.l,C.r,C.b,C.o]at hQ|-;obtain⟨h0,h4,h5,dO,h3,hg⟩ :=hS;have hs:zdv[1]? =some [.s [83],.b false,coS]:=rfl;have hs2:∀h:1<zdv.length,zdv[1]=[.s [83],.b false,coS]:=fun _=>rfl
 have hsl:zdv.length=4:=rfl;have hcd:coS.d= .f coS:=rfl;have hcc:(D.f coS).cells=some [.f coS]:=rfl;have hw:IntKind.i64.wrap 2=2:=rfl;refine round ?_;simp -implicitDefEqProofs [Vse.rR,h0,h4,h5,h3,hs,hs2,hsl,hcd,hcc];refine zcJ (KI [83] false coS zj9 1 x S.c dO (rlG L)) (KR [83] false coS zj9 1 x S.c dO (rlG L)) (stepS x hx hxd S.c dO (rlG L)) 3 _ ⟨0,[],by omega,rfl,by simp,?_,⟨by simp,gd0S⟩,?_,?_,?_,?_,?_,?_,?_,?_⟩ ?_
 any_goals (simp -implicitDefEqProofs [Vse.rR,h0,h4,h5,h3,hcd];done)
 any_goals (simp -implicitDefEqProofs [Vse.rR,h0,h4,h5,h3,hcd,Z85,zbv];done)
 .simp only[zbi,zb8,zb7,za8,zbW,zbU,zbf,zb6,zb2,zbj,zcb,zca,zaU,zbd,za9,zcf,zci,zcc];refine Vse.zeA hg ?_ (Z2 _);intro j hj
  repeat first|rw[TG,Z49 (by omega)]|rw[Vse.T.zbt,Z49 (by omega)]
 .rintro e S' ⟨rfl,tu,htl,⟨hT,hG⟩,h0,h4,h5,h6,h3,g,hg,hc⟩;simp -implicitDefEqProofs [zAT,Z67,Z79,zpW,zpP,zpQ,zpO,zpM,zpN,zpL,zpR,zpU,zpV,zpS,zpZ,zp0,zpY,h0,h4,h5,h6,h3,g,hcd,hcc];refine Vse.zno (new:=[(rlF (rS tu)).map D.f]) (Vse.zeA hg (fun _ _=>rfl) (Z110 hc)) (Z61 _) (by simp[rlG];omega) (by omega) ?_;intro r hr1 hr2 hr3 _;refine⟨hr1,?_⟩;simp -implicitDefEqProofs [Vse.rR,h5,hw];refine hQ _ tu htl hT hG ⟨?_,?_,?_,r.d,?_,?_⟩
  any_goals (simp -implicitDefEqProofs [Vse.rR,h0,h4,h5,h3];done)
  simp only[zbi,zb8,zb7,za8,zbW,zbU,zbf,zb6,zb2,zbj,zcb,zca,zaU,zbd,za9,zcf,zci,zcc];have e:rlG (L++[rS tu])=rlG L++[(rlF (rS tu)).map D.f]:=by simp[rlG]
  rw[e];exact hr2
def zPp(x:F)(hx:zdg x)(hxd:x.d= .f x)(L:List Rl)(hL:L.length<10)(S:St)(Q:Ex->St->Prop)(hS:OB x 2 L S)(hQ:∀S' tu,tu.length<=3->(∀t∈tu,zj6 t)->Gd (rK tu)->OB x 3 (L++[rK tu]) S'->WL pr lo4 S' Q):WL pr lo4 S Q:=by
 unfold lo4 g9 at hQ|-;simp only[rU,C.l,C.r,C.b,C.o]at hQ|-;obtain⟨h0,h4,h5,dO,h3,hg⟩ :=hS;have hs:zdv[2]? =some [.s [75],.b false,coK]:=rfl;have hs2:∀h:2<zdv.length,zdv[2]=[.s [75],.b false,coK]:=fun _=>rfl
 have hsl:zdv.length=4:=rfl;have hcd:coK.d= .f coK:=rfl;have hcc:(D.f coK).cells=some [.f coK]:=rfl;have hw:IntKind.i64.wrap 3=3:=rfl;refine round ?_;simp -implicitDefEqProofs [Vse.rR,h0,h4,h5,h3,hs,hs2,hsl,hcd,hcc];refine zcJ (KI [75] false coK zj6 2 x S.c dO (rlG L)) (KR [75] false coK zj6 2 x S.c dO (rlG L)) (stepK x hx hxd S.c dO (rlG L)) 3 _ ⟨0,[],by omega,rfl,by simp,?_,⟨by simp,gd0K⟩,?_,?_,?_,?_,?_,?_,?_,?_⟩ ?_
 any_goals (simp -implicitDefEqProofs [Vse.rR,h0,h4,h5,h3,hcd];done)
 any_goals (simp -implicitDefEqProofs [Vse.rR,h0,h4,h5,h3,hcd,Z85,zbv];done)
 .simp only[zbi,zb8,zb7,za8,zbW,zbU,zbf,zb6,zb2,zbj,zcb,zca,zaU,zbd,za9,zcf,zci,zcc];refine Vse.zeA hg ?_ (Z2 _);intro j hj
  repeat first|rw[TG,Z49 (by omega)]|rw[Vse.T.zbt,Z49 (by omega)]
 .rintro e S' ⟨rfl,tu,htl,⟨hT,hG⟩,h0,h4,h5,h6,h3,g,hg,hc⟩;simp -implicitDefEqProofs [zAT,Z67,Z79,zpW,zpP,zpQ,zpO,zpM,zpN,zpL,zpR,zpU,zpV,zpS,zpZ,zp0,zpY,h0,h4,h5,h6,h3,g,hcd,hcc];refine Vse.zno (new:=[(rlF (rK tu)).map D.f]) (Vse.zeA hg (fun _ _=>rfl) (Z110 hc)) (Z61 _) (by simp[rlG];omega) (by omega) ?_;intro r hr1 hr2 hr3 _;refine⟨hr1,?_⟩;simp -implicitDefEqProofs [Vse.rR,h5,hw];refine hQ _ tu htl hT hG ⟨?_,?_,?_,r.d,?_,?_⟩
  any_goals (simp -implicitDefEqProofs [Vse.rR,h0,h4,h5,h3];done)
  simp only[zbi,zb8,zb7,za8,zbW,zbU,zbf,zb6,zb2,zbj,zcb,zca,zaU,zbd,za9,zcf,zci,zcc];have e:rlG (L++[rK tu])=rlG L++[(rlF (rK tu)).map D.f]:=by simp[rlG]
  rw[e];exact hr2
def zPn(x:F)(hx:zdg x)(hxd:x.d= .f x)(L:List Rl)(hL:L.length<10)(S:St)(Q:Ex->St->Prop)(hS:OB x 3 L S)(hQ:∀S' tu,tu.length<=3->(∀t∈tu,zj2 t)->Gd (rC tu)->OB x 4 (L++[rC tu]) S'->WL pr lo4 S' Q):WL pr lo4 S Q:=by
 unfold lo4 g9 at hQ|-;simp only[rU,C.l,C.r,C.b,C.o]at hQ|-;obtain⟨h0,h4,h5,dO,h3,hg⟩ :=hS;have hs:zdv[3]? =some [.s [67],.b true,coC]:=rfl;have hs2:∀h:3<zdv.length,zdv[3]=[.s [67],.b true,coC]:=fun _=>rfl
 have hsl:zdv.length=4:=rfl;have hcd:coC.d= .f coC:=rfl;have hcc:(D.f coC).cells=some [.f coC]:=rfl;have hw:IntKind.i64.wrap 4=4:=rfl;refine round ?_;simp -implicitDefEqProofs [Vse.rR,h0,h4,h5,h3,hs,hs2,hsl,hcd,hcc];refine zcJ (KI [67] true coC zj2 3 x S.c dO (rlG L)) (KR [67] true coC zj2 3 x S.c dO (rlG L)) (stepC x hx hxd S.c dO (rlG L)) 3 _ ⟨0,[],by omega,rfl,by simp,?_,⟨by simp,gd0C⟩,?_,?_,?_,?_,?_,?_,?_,?_⟩ ?_
 any_goals (simp -implicitDefEqProofs [Vse.rR,h0,h4,h5,h3,hcd];done)
 any_goals (simp -implicitDefEqProofs [Vse.rR,h0,h4,h5,h3,hcd,Z85,zbv];done)
 .simp only[zbi,zb8,zb7,za8,zbW,zbU,zbf,zb6,zb2,zbj,zcb,zca,zaU,zbd,za9,zcf,zci,zcc];refine Vse.zeA hg ?_ (Z2 _);intro j hj
  repeat first|rw[TG,Z49 (by omega)]|rw[Vse.T.zbt,Z49 (by omega)]
 .rintro e S' ⟨rfl,tu,htl,⟨hT,hG⟩,h0,h4,h5,h6,h3,g,hg,hc⟩;simp -implicitDefEqProofs [zAT,Z67,Z79,zpW,zpP,zpQ,zpO,zpM,zpN,zpL,zpR,zpU,zpV,zpS,zpZ,zp0,zpY,h0,h4,h5,h6,h3,g,hcd,hcc];refine Vse.zno (new:=[(rlF (rC tu)).map D.f]) (Vse.zeA hg (fun _ _=>rfl) (Z110 hc)) (Z61 _) (by simp[rlG];omega) (by omega) ?_;intro r hr1 hr2 hr3 _;refine⟨hr1,?_⟩;simp -implicitDefEqProofs [Vse.rR,h5,hw];refine hQ _ tu htl hT hG ⟨?_,?_,?_,r.d,?_,?_⟩
  any_goals (simp -implicitDefEqProofs [Vse.rR,h0,h4,h5,h3];done)
  simp only[zbi,zb8,zb7,za8,zbW,zbU,zbf,zb6,zb2,zbj,zcb,zca,zaU,zbd,za9,zcf,zci,zcc];have e:rlG (L++[rC tu])=rlG L++[(rlF (rC tu)).map D.f]:=by simp[rlG]
  rw[e];exact hr2
def zMu(y:F):Prop:=∃a b c d,((a.length<=3/\∀t∈a,zj8 t)/\Gd (rR a))/\((b.length<=3/\∀t∈b,zj9 t)/\Gd (rS b))/\((c.length<=3/\∀t∈c,zj6 t)/\Gd (rK c))/\((d.length<=3/\∀t∈d,zj2 t)/\Gd (rC d))/\y=slc 4 ([rR a,rS b,rK c,rC d].map rlF)
def ans9(x:F)(hx:zdg x)(hxd:x.d= .f x):∃a b c d,((a.length<=3/\∀t∈a,zj8 t)/\Gd (rR a))/\((b.length<=3/\∀t∈b,zj9 t)/\Gd (rS b))/\((c.length<=3/\∀t∈c,zj6 t)/\Gd (rK c))/\((d.length<=3/\∀t∈d,zj2 t)/\Gd (rC d))/\Ans pr 9 [x] (slc 4 ([rR a,rS b,rK c,rC d].map rlF)):=by
 have main:∃y,zMu y/\Ans pr 9 [x] y:=by
  refine zqI fn9 ?_;have q13:=fun k=>zad (k:=k) zMy
  have hsl:zdv.length=4:=rfl;simp only[g9,rU];simp -implicitDefEqProofs [Vse.rR,st0,zal,hxd,q13];refine zPq x hx hxd [] (by simp) _ _ ⟨?_,?_,?_,.f .nils,?_,Grow.nil⟩ ?_
  any_goals (simp -implicitDefEqProofs [Vse.rR,zal];done)
  intro S1 a ha1 ha2 ha3 h1;refine zPr x hx hxd _ (by simp) _ _ h1 ?_;intro S2 b hb1 hb2 hb3 h2;refine zPp x hx hxd _ (by simp) _ _ h2 ?_;intro S3 c hc1 hc2 hc3 h3;refine zPn x hx hxd _ (by simp) _ _ h3 ?_;rintro S4 d hd1 hd2 hd3 ⟨h0,h4,h5,dO,h3,hg⟩;unfold lo4 g9;simp only[rU,C.l,C.r,C.b,C.o];refine round ?_;obtain⟨rd,hf⟩ :=zE8 (k:=11) hg (zKO _ 10 _);simp -implicitDefEqProofs [Vse.rR,h0,h4,h5,h3,hsl,hf];exact⟨a,b,c,d,⟨⟨ha1,ha2⟩,ha3⟩,⟨⟨hb1,hb2⟩,hb3⟩,⟨⟨hc1,hc2⟩,hc3⟩,⟨⟨hd1,hd2⟩,hd3⟩,rfl⟩
 obtain⟨y,⟨a,b,c,d,h1,h2,h3,h4,rfl⟩,ha⟩ :=main;exact⟨a,b,c,d,h1,h2,h3,h4,ha⟩
def Ans.uniq{f:Nat}{fs:List F}{x y:F}(h1:Ans pr f fs x)(h2:Ans pr f fs y):x=y:=by
 obtain⟨q1,r1,⟨n1,c1⟩,f1⟩ :=h1;obtain⟨q2,r2,⟨n2,c2⟩,f2⟩ :=h2;have e1:zbQ pr (n1+n2) f (F.dL fs) .e 0=some q1:=c1 (n1+n2) (by omega);have e2:zbQ pr (n1+n2) f (F.dL fs) .e 0=some q2:=c2 (n1+n2) (by omega);rw[e1]at e2;cases e2;rw[f1]at f2;cases f2;rfl
def zOO{a b:List Nat}(h:ixF a=ixF b):a=b:=by
 unfold ixF at h;injection h with _ h
 induction a generalizing b with
 |nil=>cases b with
  |nil=>rfl
  |cons _ _=>cases h
 |cons x a ih=>cases b with
  |nil=>cases h
  |cons y b=>
   simp only[Z10,List.cons.injEq,F.i.injEq,and_true,true_and]at h;rw[ih h.2,Int.ofNat_inj.1 h.1]
def zJJ{A B:List (List Nat)}(h:zcy A=zcy B):A=B:=by
 cases A with
 |nil=>cases B with
  |nil=>rfl
  |cons b B=>cases h
 |cons a A=>cases B with
  |nil=>cases h
  |cons b B=>
   have h:(F.sl 1 (((a::A):List (List Nat)).map fun b=>[ixF b]))= .sl 1 ((b::B).map fun b=>[ixF b]):=h;injection h with _ h
   generalize a::A=X at h|-;generalize b::B=Y at h|-
   induction X generalizing Y with
   |nil=>cases Y with
    |nil=>rfl
    |cons _ _=>cases h
   |cons x X ih=>cases Y with
    |nil=>cases h
    |cons y Y=>
     simp only[Z10,List.cons.injEq,and_true]at h;rw[ih _ h.2,zOO h.1]
structure Gx(r:Rl)(B:List (List Nat)):Prop where
 k:zeF SSp PPp r
 s:zk8 r r.tu.length
 v:Ans pr 57 [.ag (rlF r)] (.i .i64 0)
 g:Ans pr 99 [.ag (rlF r)] (zcy B)
 gp:Ans pr 108 [.ag (rlF r)] (zcy B)
 n:B.length<=3
 b:∀b∈B,b.length<=3/\(∀i∈b,i<r.tu.length)/\∃ns,Bks r b ns/\le1 (sN ns)=true
 d:B.flatten.Nodup
 z:∀b∈B,b≠[]
 ce:r.ce=true->B=[]
 cp:∀t∈r.tu,Ans pr 107 [.ag [.s r.nm,.b r.ce,r.co],.ag (tuF t)] (.i .i64 0)
 vp:Ans pr 74 [.ag [.s r.nm,.b r.ce,r.co]] (.b true)
 cl:∃rows,r.co= .sl 3 rows/\rows≠[]/\rows.length<=10
 nz:∀t∈r.tu,t.1≠[]
theorem zsG{r:Rl}(hk:zeF SSp PPp r)(hg:Gd r){B:List (List Nat)}(g:Ans pr 99 [.ag (rlF r)] (zcy B))(gp:Ans pr 108 [.ag (rlF r)] (zcy B))(n:B.length<=3)(hb:∀b∈B,b.length<=3/\∀i∈b,i<r.tu.length)(d:B.flatten.Nodup)(z:∀b∈B,b≠[])(ce:r.ce=true->B=[])
  (cp:∀t∈r.tu,Ans pr 107 [.ag [.s r.nm,.b r.ce,r.co],.ag (tuF t)] (.i .i64 0))(vp:Ans pr 74 [.ag [.s r.nm,.b r.ce,r.co]] (.b true))(cl:∃rows,r.co= .sl 3 rows/\rows≠[]/\rows.length<=10)(nz:∀t∈r.tu,t.1≠[]):Gx r B:=by
 refine⟨hk,hg.s,hg.v,g,gp,n,fun b h=>⟨(hb b h).1,(hb b h).2,?_⟩,d,z,ce,cp,vp,cl,nz⟩;obtain⟨B2,g2,-,hs⟩ :=hg.b;have e:=zJJ (Ans.uniq g g2);subst e;obtain⟨p,a1,a2⟩ :=hs b h;obtain⟨ns,hB⟩ :=zBF r hk.p b (hb b h).2;have e1:=Ans.uniq a1 (zJr r hk.co hk.cc b ns (hb b h).1 hB);injection e1 with e1
 subst e1;have hI:=allL uI _ (zGc ns (by rw[hB.1];exact (hb b h).1) hB.mem);have e2:=Ans.uniq hI a2;injection e2 with e2
 exact⟨ns,hB,e2⟩
def gxR{tu:List (List Int×List F)}(hn:tu.length<=3)(h:∀t∈tu,TuR t)(hg:Gd (rR tu)):∃B,Gx (rR tu) B:=by
 obtain⟨B,g,gp,n,b,d,z⟩ :=gqR tu hn h hg.s;exact⟨B,zsG (okR tu hn h) hg g gp n b d z (fun e=>by simp[rR]at e) (fun t ht=>cpR t (h t ht)) vqR ⟨_,rfl,by simp,by simp⟩ (fun t ht=>by obtain⟨_,a,b,he,_,_⟩ :=h t ht;rw[he];simp)⟩
def gxS{tu:List (List Int×List F)}(hn:tu.length<=3)(h:∀t∈tu,TuS t)(hg:Gd (rS tu)):∃B,Gx (rS tu) B:=by
 obtain⟨B,g,gp,n,b,d,z⟩ :=gqS tu hn h hg.s;exact⟨B,zsG (okS tu hn h) hg g gp n b d z (fun e=>by simp[rS]at e) (fun t ht=>cpS t (h t ht)) vqS ⟨_,rfl,by simp,by simp⟩ (fun t ht=>by obtain⟨_,a,he⟩ :=h t ht;rw[he];simp)⟩
def gxK{tu:List (List Int×List F)}(hn:tu.length<=3)(h:∀t∈tu,TuK t)(hg:Gd (rK tu)):∃B,Gx (rK tu) B:=by
 obtain⟨B,g,gp,n,b,d,z⟩ :=gqK tu hn h hg.s;exact⟨B,zsG (okK tu hn h) hg g gp n b d z (fun e=>by simp[rK]at e) (fun t ht=>cpK t (h t ht)) vqK ⟨_,rfl,by simp,by simp⟩ (fun t ht=>by obtain⟨_,a,b,he,_,_⟩ :=h t ht;rw[he];simp)⟩
def gxC{tu:List (List Int×List F)}(hn:tu.length<=3)(h:∀t∈tu,TuC t)(hg:Gd (rC tu)):∃B,Gx (rC tu) B:=by
 obtain⟨B,g,gp,n,b,d,z,e⟩ :=gqC tu;exact⟨B,zsG (okC tu hn h) hg g gp n b d z (fun _=>e) (fun t ht=>cpC t (h t ht)) vqC ⟨_,rfl,by simp,by simp⟩ (fun t ht=>by obtain⟨_,a,b,he,_⟩ :=h t ht;rw[he];simp)⟩
def fn62:pr.fn 62=some g62:=by kernel_rfl
def V62(r:Rl)(s:St):Prop:=(s.tm.get 1=some (.ptr 0 4 0 0)/\s.h.get 0=some (.arr 4 0 [[.f (.s r.nm),.f (.b r.ce),.f r.co,.f (zbB r.tu)]]))/\1<=s.c
def J62(r:Rl)(n:Nat)(s:St):Prop:=V62 r s/\(s.tm.get 20=some (.f (zbB r.tu))/\s.tm.get 21=some (.f (.i .i64 r.tu.length))/\s.tm.get 22=some (.f (.i .i64 n)))
def K62(r:Rl)(B:List (List Nat))(n:Nat)(s:St):Prop:=V62 r s/\(s.tm.get 6=some (.f (zcy B))/\s.tm.get 53=some (.f (zcy B))/\s.tm.get 54=some (.f (.i .i64 B.length))/\s.tm.get 55=some (.f (.i .i64 n)))
def M62(r:Rl)(B:List (List Nat))(n:Nat)(s:St):Prop:=V62 r s/\(s.tm.get 63=some (.f (zcy B))/\s.tm.get 64=some (.f (.i .i64 B.length))/\s.tm.get 65=some (.f (.i .i64 n)))
def zPV(s:Nat×Nat):∃z:Int,0<=z/\sgN s= .i .i64 z:=⟨_,by split<;>omega,rfl⟩
def ans62{r:Rl}{B:List (List Nat)}(h:Gx r B):Ans pr 62 [.ag (rlF r)] (.i .i64 0):=by
 refine zcx fn62 ?_;have qv:=fun k=>zad (k:=k) h.vp
 have hco:=h.k.co;have hcc:=h.k.cc;have hn:=h.k.n;have hd:(zbB r.tu).d= .f (zbB r.tu):=znD _;have hc2:(D.f (zbB r.tu)).cells=some [.f (zbB r.tu)]:=zcs _ _;have h64:¬(64:Int)< (r.tu.length:Nat):=by omega
 simp only[g62,rU];simp[rW,st0,zal,rlE,hco,hd,hcc,hc2,qv,zyt,h64];refine zcA r.tu.length (J62 r) (fun e s=>e= .exit 0/\V62 r s) ?_ ?_ _ ⟨⟨⟨?_,?_⟩,?_⟩,?_,?_,?_⟩ ?_
 .rintro n s hlt ⟨⟨⟨h1,g0⟩,hc⟩,h20,h21,h22⟩;have hw:=zau n (by omega);have hx:r.tu[n]? =some r.tu[n]:=Z0 hlt;have hpT:=h.k.p _ (Z1 hlt);have hcp:=h.cp _ (Z1 hlt);have hlT:=h.k.l;have nc:¬0=s.c:=by omega
  have nd:¬s.c=0:=by omega
  cases n with
  |zero=>
   generalize hTt:r.tu[0]=T at hx hpT hcp;obtain⟨p0,p1,p2,hpe,d0,d1,d2⟩ :=zaR _ hpT;have htu:tuF T=[valsF T.1,p0,p1,p2]:=by unfold tuF;rw[hpe]
   rw[htu]at hcp;have qc:=fun k=>zad (k:=k) hcp
   have hw1:IntKind.i64.wrap 1=1:=rfl;simp[rW,h1,h20,h21,h22,g0,hlt,zjt,hx,hTt,htu,qc,hco,hcc,d0,d1,d2,nc,nd,hw];exact⟨⟨⟨by simp[rW,h1],by simp[rW,g0,nc]⟩,by simp[rW]<;>omega⟩,by simp[rW,h20],by simp[rW,h21],by simp[rW,hw1]⟩
  |succ m=>
   have hml:m<r.tu.length:=by omega
   have hxm:r.tu[m]? =some r.tu[m]:=Z0 hml;have hcmp:=h.s m hlt (by omega);have hac:=zGL (r.tu[m]).1 (r.tu[m+1]).1 (by have:=h.k.l _ (Z1 hml);omega) (by have:=h.k.l _ (Z1 (show m+1<r.tu.length by omega));omega);rw[<-zlg]at hac;have hpM:=h.k.p _ (Z1 hml);generalize hTt:r.tu[m+1]=T at hx hpT hcp hcmp hac;generalize hMt:r.tu[m]=U at hxm hcmp hac hpM;obtain⟨p0,p1,p2,hpe,d0,d1,d2⟩ :=zaR _ hpT;obtain⟨u0,u1,u2,hue,-,-,-⟩ :=zaR _ hpM;have htu:tuF T=[valsF T.1,p0,p1,p2]:=by unfold tuF;rw[hpe]
   have htm:tuF U=[valsF U.1,u0,u1,u2]:=by unfold tuF;rw[hue]
   rw[htu]at hcp;have qc:=fun k=>zad (k:=k) hcp
   have qk:=fun k=>zad (k:=k) hac
   generalize cmpL U.1 T.1=z at hcmp qk;have z0:¬z=0:=by omega
   have z1:¬z=1:=by omega
   have hwm:IntKind.i64.wrap (m:Int)=(m:Int):=wrap_i64 _ (by omega) (by omega);have hw2:IntKind.i64.wrap ((m:Int)+1+1)=((m+2:Nat):Int):=wrap_i64 _ (by omega) (by omega);have hne:¬((m:Int)+1=0):=by omega
   have hp0:(0:Int)<=(m:Int)+1:=by omega
   have hltI:(m:Int)+1<r.tu.length:=by omega
   simp[rW,h1,h20,h21,h22,g0,hlt,hltI,zjt,hx,hTt,htu,qc,hco,hcc,d0,d1,d2,nc,nd,hne,hp0];refine zay ?_;simp[rW,h1,h20,h21,h22,g0,hlt,hml,zjt,hx,hxm,hTt,hMt,htu,htm,hwm,nc,nd,qk,z0,z1,hw2];exact⟨⟨⟨by simp[rW,h1],by simp[rW,g0,nc]⟩,by simp[rW]<;>omega⟩,by simp[rW,h20],by simp[rW,h21],by simp[rW]<;>omega⟩
 .rintro s ⟨⟨⟨h1,g0⟩,hc⟩,h20,h21,h22⟩;simp[rW,h1,h20,h21,h22];exact⟨⟨by simp[rW,h1],by simp[rW,g0]⟩,by simp[rW,hc]⟩
 .simp[rW]
 .simp[rW]
 .simp[rW]
 .simp[rW]
 .simp[rW]
 .simp[rW]
 .rintro e s ⟨rfl,⟨h1,g0⟩,hc⟩;have qg:=fun k=>zad (k:=k) h.gp
  simp only[rlE]at qg;have hBn:=h.n;simp[rW,h1,g0,hco,hd,hcc,hc2,qg,zGW,zf0];refine zcA B.length (K62 r B) (fun e s=>e= .exit 3/\V62 r s/\s.tm.get 6=some (.f (zcy B))) ?_ ?_ _ ⟨⟨⟨?_,?_⟩,?_⟩,?_,?_,?_,?_⟩ ?_
  .clear h1 g0 hc s;rintro n s hlt ⟨⟨⟨h1,g0⟩,hc⟩,h6,h53,h54,h55⟩;have hw:=zau n (by omega);have hx:B[n]? =some B[n]:=Z0 hlt;have hbl:=(h.b _ (Z1 hlt)).1;generalize hb:B[n]=b at hx hbl;have h16:¬(16:Int)< (b.length:Nat):=by omega
   simp[rW,h1,h6,h53,h54,h55,g0,hlt,zf0,zmc,hx,hb,zkV,zoa,h16,hw];exact⟨⟨⟨by simp[rW,h1],by simp[rW,g0]⟩,by simp[rW,hc]⟩,by simp[rW,h6],by simp[rW,h53],by simp[rW,h54],by simp[rW]⟩
  .clear h1 g0 hc s;rintro s ⟨⟨⟨h1,g0⟩,hc⟩,h6,h53,h54,h55⟩;simp[rW,h53,h54,h55];exact⟨⟨⟨by simp[rW,h1],by simp[rW,g0]⟩,by simp[rW,hc]⟩,by simp[rW,h6]⟩
  .simp[rW,h1]
  .simp[rW,g0]
  .simp[rW,hc]
  .simp[rW]
  .simp[rW]
  .simp[rW]
  .simp[rW]
  .clear h1 g0 hc s;rintro e s ⟨rfl,⟨⟨h1,g0⟩,hc⟩,h6⟩;simp[rW,h6,zf0];refine zcA B.length (M62 r B) (fun e s=>e= .exit 5) ?_ ?_ _ ⟨⟨⟨?_,?_⟩,?_⟩,?_,?_,?_⟩ ?_
   .clear h1 g0 hc h6 s;rintro n s hlt ⟨⟨⟨h1,g0⟩,hc⟩,h63,h64,h65⟩;have hw:=zau n (by omega);have hx:B[n]? =some B[n]:=Z0 hlt;obtain⟨hbl,hbi,ns,hB,hle⟩ :=h.b _ (Z1 hlt);generalize hb:B[n]=b at hx hbl hbi hB;have aS:=zJs r h.k.co h.k.cc b ns hbl hB hle;have hI:=allL uC _ (zGc ns (by rw[hB.1];exact hbl) hB.mem) hle;obtain⟨-,-,-,a4,a5⟩ :=hI;generalize sN ns=sm at aS a4 a5;obtain⟨z,hz0,hz⟩ :=zPV (cmN sm);rw[hz]at a5;simp only[frE,rlE]at aS a4 a5;have q1:=fun k=>zad (k:=k) aS
    have q2:=fun k=>zad (k:=k) a4
    have q3:=fun k=>zad (k:=k) a5
    have hzn:¬z<0:=by omega
    simp[rW,h1,h63,h64,h65,g0,hlt,zf0,zmc,hx,hb,zkV,zoa,hco,hd,hcc,hc2,q1,q2,q3,zlz,hzn,hw];exact⟨⟨⟨by simp[rW,h1],by simp[rW,g0]⟩,by simp[rW,hc]⟩,by simp[rW,h63],by simp[rW,h64],by simp[rW]⟩
   .rintro s ⟨⟨⟨h1,g0⟩,hc⟩,h63,h64,h65⟩;simp[rW,h63,h64,h65]
   .simp[rW,h1]
   .simp[rW,g0]
   .simp[rW,hc]
   .simp[rW]
   .simp[rW]
   .simp[rW]
   .rintro e s rfl;simp[rW]
def zGn{r:Rl}(h:zk8 r r.tu.length):Srt r.tu:=by
 intro a b hab hb;obtain⟨k,rfl⟩ :∃k,b=a+1+k:=⟨b - (a+1),by omega⟩
 have get:∀(m:Nat) (hm:m<r.tu.length),(r.tu[m]?.getD ([],[]))=r.tu[m]:=fun m hm=>by rw[Z0 hm];rfl
 clear hab
 induction k with
 |zero=>
  have h1:=h a (by simpa using hb) (by simpa using hb);rw[zlg]at h1;rw[get a (by omega),get (a+1+0) hb];exact h1
 |succ k ih=>
  have h1:=h (a+1+k) hb hb;rw[zlg]at h1;have h2:=ih (by omega);rw[get (a+1+k) (by omega)]at h2;rw[get (a+1+(k+1)) hb];exact ziV _ _ _ h2 h1
structure zta(L:List Rl):Prop where
 n:L.length<=8
 g:∀r∈L,∃B,Gx r B
 v:∀r∈L,∀t∈r.tu,Bd t.1
def zta.lr{L:List Rl}(H:zta L):LR L:=⟨H.n,fun r hr=>by
 obtain⟨B,h⟩ :=H.g r hr;exact h.k.n,fun r hr=>by
 obtain⟨B,h⟩ :=H.g r hr;exact⟨h.k.co,h.k.cc⟩⟩
def zta.ro{L:List Rl}(H:zta L):zjZ L:=⟨by have:=H.n;omega,H.lr.o,fun r hr=>by
 obtain⟨B,h⟩ :=H.g r hr;exact⟨h.k.n,fun t ht=>by have:=h.k.l t ht;omega,zGn h.s⟩⟩
def L4(a b c d:List (List Int×List F)):List Rl:=[rR a,rS b,rK c,rC d]
def zKN(x:F)(hx:zdg x)(hxd:x.d= .f x):∃a b c d,zta (L4 a b c d)/\((∀t∈a,zj8 t)/\(∀t∈b,zj9 t)/\(∀t∈c,zj6 t)/\∀t∈d,zj2 t)/\Ans pr 9 [x] (zbS (L4 a b c d)):=by
 obtain⟨a,b,c,d,⟨⟨a1,a2⟩,a3⟩,⟨⟨b1,b2⟩,b3⟩,⟨⟨c1,c2⟩,c3⟩,⟨⟨d1,d2⟩,d3⟩,h⟩ :=ans9 x hx hxd;refine⟨a,b,c,d,⟨by simp[L4],fun r hr=> ?_,fun r hr t ht=> ?_⟩,⟨a2,b2,c2,d2⟩,h⟩
 .simp only[L4,Z5,Z164,or_false]at hr;rcases hr with rfl|rfl|rfl|rfl
  .exact gxR a1 (fun t h=>(a2 t h).1) a3
  .exact gxS b1 (fun t h=>(b2 t h).1) b3
  .exact gxK c1 (fun t h=>(c2 t h).1) c3
  .exact gxC d1 (fun t h=>(d2 t h).1) d3
 .simp only[L4,Z5,Z164,or_false]at hr;rcases hr with rfl|rfl|rfl|rfl
  .exact (a2 t ht).2
  .exact (b2 t ht).2
  .exact (c2 t ht).2
  .exact (d2 t ht).2
def ztd(A:F):Prop:=A= .nils\/∃X,A= .sl 4 X
def zA3(l:List (List Int×List F)):ztd (zbB l):=by
 cases l with
 |nil=>exact .inl rfl
 |cons a l=>exact .inr ⟨_,rfl⟩
def zPQ(A B C D:F)(hA:ztd A)(hB:ztd B)(hC:ztd C)(hD:ztd D):Ans pr 63 [.sl 4 [[.s [82],.b false,coR,A],[.s [83],.b false,coS,B],[.s [75],.b false,coK,C],[.s [67],.b true,coC,D]]] zjr:=by
 rcases hA with rfl|⟨A,rfl⟩ <;>rcases hB with rfl|⟨B,rfl⟩ <;>rcases hC with rfl|⟨C,rfl⟩ <;>rcases hD with rfl|⟨D,rfl⟩ <;>exact rA
def zss{v:List Int}(h:Bd v):∀z∈v,z∈VzL:=fun z hz=>by
 have:=h z hz;simp only[VzL,Z5,Z164,or_false];omega
def zPj{x:F}(hx:zdg x):∃L,zk7 L/\Ans pr 9 [x] (zbS L):=by
 obtain⟨a,b,c,d,H,⟨ha,hb,hc,hd⟩,h⟩ :=zKN x hx (zpy hx);have hsc:Ans pr 63 [zbS (L4 a b c d)] zjr:=zPQ (zbB a) (zbB b) (zbB c) (zbB d) (zA3 _) (zA3 _) (zA3 _) (zA3 _);refine⟨L4 a b c d,⟨⟨rR a,rS b,rK c,rC d,rfl,?_,?_,?_,?_⟩,fun r hr=> ?_,hsc⟩,h⟩
 .have h0:rR a∈L4 a b c d:=by simp[L4]
  exact⟨rfl,⟨rfl,rfl⟩,H.lr.t _ h0,fun t ht=>⟨by obtain⟨⟨_,_,_,e,_⟩,_⟩ :=ha t ht;rw[e];rfl,zss (ha t ht).2⟩,(H.ro.r _ h0).s⟩
 .have h0:rS b∈L4 a b c d:=by simp[L4]
  exact⟨rfl,⟨rfl,rfl⟩,H.lr.t _ h0,fun t ht=>⟨by obtain⟨⟨_,_,e⟩,_⟩ :=hb t ht;rw[e];rfl,zss (hb t ht).2⟩,(H.ro.r _ h0).s⟩
 .have h0:rK c∈L4 a b c d:=by simp[L4]
  exact⟨rfl,⟨rfl,rfl⟩,H.lr.t _ h0,fun t ht=>⟨by obtain⟨⟨_,_,_,e,_⟩,_⟩ :=hc t ht;rw[e];rfl,zss (hc t ht).2⟩,(H.ro.r _ h0).s⟩
 .have h0:rC d∈L4 a b c d:=by simp[L4]
  exact⟨rfl,⟨rfl,rfl⟩,H.lr.t _ h0,fun t ht=>⟨by obtain⟨⟨_,_,_,e,_⟩,_⟩ :=hd t ht;rw[e];rfl,zss (hd t ht).2⟩,(H.ro.r _ h0).s⟩
 .obtain⟨B,hB⟩ :=H.g r hr;exact ans62 hB
def fn3:pr.fn 3=some g3:=by kernel_rfl
def zMV:CQp=(List.range 22).map cqN:=by kernel_rfl
theorem zHX{b:Bool}:∀{l:List CQ},(∀c∈l,c∈CQp)->∃js,(∀i∈js,i<nH b)/\cqs js=l
 |[],_=>⟨[],by simp,rfl⟩
 |c::l,h=>by
  obtain⟨js,h1,h2⟩ :=zHX (b:=b) (l:=l) fun d hd=>h d (by simp[hd])
  have hc:=h c (by simp);rw[zMV]at hc;obtain⟨i,hi,rfl⟩ :=Z12.1 hc;have hi':=Z174.1 hi;exact⟨i::js,fun j hj=>by
   rcases Z5.1 hj with rfl|hj
   .cases b<;>simp only[nH]<;>omega
   .exact h1 j hj,by rw[<-h2];rfl⟩
def zIl(l:List CQ):(D.f (qsF l)).cells=some [.f (qsF l)]:=zcs _ _
def zC4(h:Nat->Option Ob)(l:List CQ)(k:Nat)(c:CQ)(hk:l[k]? =some c):sliceB 2 h (.f (qsF l)) (some (.f (.i .i64 k))) (some (.f (.i .i64 ((k:Int)+1)))) none=some (.f (qsF [c]),[]):=by
 have hlt:k<l.length:=(Z8.1 hk).1;have e:qsF l= .sl 2 (l.map cqF):=by
  cases l with
  |nil=>simp at hlt
  |cons a l=>rfl
 have e2:((l.map cqF).drop k).take (k+1 - k)=[cqF c]:=by
  rw[show k+1 - k=1 by omega];have:(l.map cqF).drop k=cqF c::(l.map cqF).drop (k+1):=by
   rw[Z55 (by simpa using hlt)];have:=(Z8.1 hk).2;simp[this]
  rw[this];rfl
 rw[e,zvE];have h1:za3 0 (some (D.f (.i .i64 (k:Int))))=some k:=by simp[za3,zbh]
 have h2:za3 (l.map cqF).length (some (D.f (.i .i64 ((k:Int)+1))))=some (k+1):=by
  rw[show(k:Int)+1=((k+1:Nat):Int) by omega];simp[za3,zbh];omega
 rw[h1,h2];simp only[om];simp only[Z46];rw[Z51 (by refine⟨by trivial,by omega,by simp;omega⟩),e2];rfl
def Q3.k{b:Bool}{l:List Nat}(h:Q3 b l):QOk b l:=⟨h.1,by have:=h.2;omega⟩
def JLw(x:F)(b:Bool)(js m:List Nat)(s:St):Prop:=(s.tm.get 0=some (.f x)/\s.tm.get 5=some (.ptr 0 2 0 0)/\s.tm.get 6=some (.ptr 1 2 0 0)/\s.h.get 0=some (.arr 2 0 [[.f (zah (hdC b)),.f (qsF (cqs js))]])/\s.h.get 1=some (.arr 2 0 [[.f (zah (hdC b)),.f (qsF (cqs m))]]))/\2<=s.c
def ans3{x y:F}(hx:zdg x)(hy:zdg y):Ans pr 3 [x,y] (.b true):=by
 obtain⟨hd,l,hh,⟨hl0,hln,hl⟩,hp⟩ :=ans4 hy;obtain⟨b,rfl⟩ :∃b,hd=hdC b:=by
  rcases hh with rfl|rfl
  .exact⟨false,rfl⟩
  .exact⟨true,rfl⟩
 obtain⟨js,hj,rfl⟩ :=zHX (b:=b) hl;rw[zbY]at hln;have hq:Q3 b js:=⟨hj,hln⟩
 have h0:js≠[]:=fun e=>hl0 (by rw[e];rfl)
 obtain⟨L,HL,hr⟩ :=zPj hx;have H:=mn_ok hq h0;have q5:=fun k=>zad (k:=k) (ans5 hq h0)
 have hm5:=ans5 H.q H.ne;rw[H.fx]at hm5;have q5':=fun k=>zad (k:=k) hm5
 have q6:=fun k=>zad (k:=k) (ans6 hq.k H.q.k H.lm H.ml)
 have q7:=fun k=>zad (k:=k) (ans7 H.q)
 have q11:=fun k=>zad (k:=k) (ev_m HL H.q)
 rw[zK9 HL hq H.q H.lm H.ml]at q11;have q11':=fun k=>zad (k:=k) (ev_m HL hq)
 have q10:=fun k=>zad (k:=k) (zDk L b js)
 have q12:=fun k=>zad (k:=k) (qv_ok H.q)
 have q4:=fun k=>zad (k:=k) hp
 have q9:=fun k=>zad (k:=k) hr
 have q13:=fun k=>zad (k:=k) ans13
 have q14:=fun k=>zad (k:=k) ans14
 generalize zfE L b js=R at q10 q11 q11';generalize zmA b js=m at*;have hxd:=zpy hx;have hyd:=zpy hy;have hsd:zjr.d= .f zjr:=rfl;have hRd:(zfW R).d= .f (zfW R):=zew ..;have hle:=H.le;have hap:=H.ap;have hmq:=H.q;have hp1:¬((m.length:Int)<1):=by have:=Z129.2 H.ne;omega
 have hp2:¬((js.length:Int)<m.length):=by omega
 refine zcx fn3 ?_;simp only[g3,rU];simp[rW,st0,zal,hxd,hyd,q4,q5,za4,zd5];refine zay ?_;simp[rW,q6,q5',q7,zcS,zbY,hp1,hp2,za4,zd5];refine zcA m.length (fun n s=>JLw x b js m s/\s.tm.get 7=some (.f (.i .i64 (n:Nat)))) (fun z s=>z= .exit 0/\JLw x b js m s) ?_ ?_ _ ?_ ?_
 .rintro n s hn ⟨⟨⟨h0,h5,h6,g0,g1⟩,hc⟩,h7⟩;have hw:=zau n (by have:=hmq.2;omega);simp[rW,h0,h5,h6,g0,g1,h7,zcS,zbY,hn];refine zcA m.length (fun k s=>JLw x b js m s/\s.tm.get 7=some (.f (.i .i64 (n:Nat)))/\s.tm.get 8=some (.f (.i .i64 (k:Nat)))) (fun z s=>z= .exit 2/\JLw x b js m s/\s.tm.get 7=some (.f (.i .i64 (n:Nat)))) ?_ ?_ _ ?_ ?_
  .rintro k s hk ⟨⟨⟨h0,h5,h6,g0,g1⟩,hc⟩,h7,h8⟩;have hwk:=zau k (by have:=hmq.2;omega);have hA:=hap n k hn hk;have e1:(cqs m)[n]? =some (cqN m[n]):=by rw[zgN,Z0 hn];rfl
   have e2:(cqs m)[k]? =some (cqN m[k]):=by rw[zgN,Z0 hk];rfl
   have b1:=hmq.1 _ (Z1 hn);have b2:=hmq.1 _ (Z1 hk);have hco:=zEo (b:=b) (l:=[m[n]]) (m:=[m[k]]) ⟨by simpa using b1,by simp⟩ ⟨by simpa using b2,by simp⟩;have hci:zi6 b [m[n]] [m[k]]=exI b m[k] m[n]:=by simp[zi6]
   rw[hci]at hco;have c1:cqs [m[n]]=[cqN m[n]]:=rfl;have c2:cqs [m[k]]=[cqN m[k]]:=rfl;rw[c1,c2]at hco;have s1:=fun h=>zC4 h (cqs m) n _ e1
   have s2:=fun h=>zC4 h (cqs m) k _ e2
   have z1:∀z:Nat,¬(z+1+1=z):=by intro z;omega
   have z2:∀z:Nat,¬(z=z+1+1):=by intro z;omega
   have n0:¬(0=s.c):=by omega
   have n1:¬(1=s.c):=by omega
   generalize m[n]=A at*;generalize m[k]=B at*
   by_cases hnk:n=k
   .subst hnk;simp[rW,h0,h5,h6,g0,g1,h7,h8,zcS,zbY,hk];refine zay ?_;simp[rW,h0,h5,h6,g0,g1,h7,h8,hwk,s1,s2,za4,zd5,zIl,zri,z1,z2,n0,n1];exact⟨⟨by simp[rW,h0],by simp[rW,h5],by simp[rW,h6],by simp[rW,g0],by simp[rW,g1]⟩,by simp only[rG];omega⟩
   .have q8:=fun k=>zad (k:=k) hco
    rw[hA hnk]at q8;have hne:¬((n:Int)=k):=by omega
    have hbe:((n:Int)==(k:Int))=false:=by simpa using hne
    simp[rW,h0,h5,h6,g0,g1,h7,h8,zcS,zbY,hk];refine zay ?_;simp[rW,h0,h5,h6,g0,g1,h7,h8,hw,hwk,s1,s2,za4,zd5,zIl,zri,z1,z2,n0,n1,hne,hbe,hnk,q8];exact⟨⟨by simp[rW,h0],by simp[rW,h5],by simp[rW,h6],by simp[rW,g0],by simp[rW,g1]⟩,by simp only[rG];omega⟩
  .rintro s ⟨⟨⟨h0,h5,h6,g0,g1⟩,hc⟩,h7,h8⟩;simp[rW,h0,h5,h6,g0,g1,h7,h8,zcS,zbY];exact⟨⟨by simp[rW,h0],by simp[rW,h5],by simp[rW,h6],by simp[rW,g0],by simp[rW,g1]⟩,by simp only[rG];omega⟩
  .exact⟨⟨⟨by simp[rW,h0],by simp[rW,h5],by simp[rW,h6],by simp[rW,g0],by simp[rW,g1]⟩,by simp only[rG];omega⟩,by simp[rW,h7],by simp[rW]⟩
  .rintro z s ⟨rfl,⟨⟨h0,h5,h6,g0,g1⟩,hc⟩,h7⟩;simp[rW,h0,h5,h6,g0,g1,h7,hw];exact⟨⟨by simp[rW,h0],by simp[rW,h5],by simp[rW,h6],by simp[rW,g0],by simp[rW,g1]⟩,by simp only[rG];omega⟩
 .rintro s ⟨⟨⟨h0,h5,h6,g0,g1⟩,hc⟩,h7⟩;simp[rW,h0,h5,h6,g0,g1,h7,zcS,zbY];exact⟨⟨by simp[rW,h0],by simp[rW,h5],by simp[rW,h6],by simp[rW,g0],by simp[rW,g1]⟩,by simp only[rG];omega⟩
 .exact⟨⟨⟨by simp[rW],by simp[rW],by simp[rW],by simp[rW],by simp[rW]⟩,by simp only[rG];omega⟩,by simp[rW]⟩
 .rintro z s ⟨rfl,⟨h0,h5,h6,g0,g1⟩,hc⟩;simp[rW,h0,h5,h6,g0,g1,q9];refine zay ?_;simp[rW,h0,h5,h6,g0,g1,zlH,za4,zd5,q11,q11',q10,q12,q13,q14,hRd,hsd]
end Go.Proofs.YtbhholaillniiaaGreatDoor
end
