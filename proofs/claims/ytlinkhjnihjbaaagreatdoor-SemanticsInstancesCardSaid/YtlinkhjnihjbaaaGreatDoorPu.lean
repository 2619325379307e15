/- Relations. -/
import Derived.Test.YtlinkhjnihjbaaaGreatDoorPt
import Derived.KernelRfl
import Derived.IntWalk
import Derived.Test.YtlinkhjnihjbaaaGreatDoorPs
import Derived.Test.YtlinkhjnihjbaaaGreatDoorPp
set_option linter.all false
set_option maxRecDepth 100000
set_option maxHeartbeats 4000000
noncomputable section
section
namespace Go.Proofs.YtlinkhjnihjbaaaGreatDoor
open Go Go.Vse Go.Vse.Sm
def fn12:pr.fn 12=some g12:=by kernel_rfl
def lo4:C:=(.seq (.seq (.reg [⟨(some 14),none,.mv (.t 5)⟩,⟨(some 15),none,.mv (.t 4)⟩,⟨(some 16),none,.len (.t 15)⟩,⟨(some 17),none,.bin .lss (.t 14) (.t 16)⟩])
 (.cond (.t 17) (.skip) (.exit 0)))
 (.seq (.blk 1 (.seq (.reg [⟨(some 20),none,.mv (.t 4)⟩,⟨(some 21),none,.mv (.t 5)⟩,⟨(some 22),none,.ia 3 (.t 20) (.t 21)⟩,⟨(some 23),none,.ld true 3 (.t 22)⟩,⟨(some 24),none,.bld [.s [],.b false,.nils,.nils] [(0,3,(.t 23))]⟩,⟨(some 6),none,.new [.s [],.b false,.nils,.nils]⟩,⟨none,none,.st 4 (.t 6) (.t 24)⟩])
 (.seq (.seq (.reg [⟨(some 7),none,.mv (.k (.i .i64 0))⟩])
 (.blk 2 (.loop (.seq (.seq (.reg [⟨(some 25),none,.mv (.t 7)⟩,⟨(some 26),none,.mv (.t 0)⟩,⟨(some 27),none,.mv (.t 5)⟩,⟨(some 28),none,.callp 14 [(.t 26),(.t 27)]⟩,⟨(some 29),none,.bin .rem (.t 28) (.k (.i .i64 4))⟩,⟨(some 30),none,.bin .lss (.t 25) (.t 29)⟩,⟨(some 31),none,.mv (.t 30)⟩,⟨(some 32),(some (31,true)),.mv (.t 5)⟩,⟨(some 33),(some (31,true)),.bin .eql (.t 32) (.k (.i .i64 1))⟩,⟨(some 34),(some (31,true)),.mv (.t 33)⟩,⟨(some 35),(some (34,true)),.mv (.t 7)⟩,⟨(some 36),(some (34,true)),.bin .eql (.t 35) (.k (.i .i64 2))⟩,⟨(some 37),(some (31,true)),.pick (.t 34) (.t 36) (.k (.b false))⟩,⟨(some 38),(some (31,true)),.un .not (.t 37)⟩,⟨(some 39),none,.pick (.t 31) (.t 38) (.k (.b false))⟩])
 (.cond (.t 39) (.skip) (.exit 2)))
 (.seq (.blk 3 (.seq (.reg [⟨(some 42),none,.mv (.t 0)⟩,⟨(some 43),none,.mv (.t 5)⟩,⟨(some 44),none,.bin .mul (.k (.i .i64 3)) (.t 43)⟩,⟨(some 45),none,.bin .add (.k (.i .i64 4)) (.t 44)⟩,⟨(some 46),none,.mv (.t 7)⟩,⟨(some 47),none,.bin .add (.t 45) (.t 46)⟩,⟨(some 48),none,.callp 14 [(.t 42),(.t 47)]⟩,⟨(some 8),none,.mv (.t 48)⟩])
 (.seq (.reg [⟨(some 49),none,.mv (.t 8)⟩,⟨(some 50),none,.bin .shr (.t 49) (.k (.i .u64 4))⟩,⟨(some 51),none,.callp 34 [(.t 50)]⟩,⟨(some 52),none,.bld [.nils,.b false,.nils,.nils] [(1,3,(.t 51))]⟩,⟨(some 9),none,.new [.nils,.b false,.nils,.nils]⟩,⟨none,none,.st 4 (.t 9) (.t 52)⟩])
 (.seq (.seq (.reg [⟨(some 53),none,.mv (.t 4)⟩,⟨(some 54),none,.mv (.t 5)⟩,⟨(some 55),none,.ia 3 (.t 53) (.t 54)⟩,⟨(some 56),none,.fa 1 (.t 55)⟩,⟨(some 57),none,.ld false 1 (.t 56)⟩])
 (.cond (.t 57) (.reg [⟨(some 58),none,.callp 35 [(.k (.i .i64 1))]⟩,⟨(some 59),none,.fa 1 (.t 9)⟩,⟨none,none,.st 3 (.t 59) (.t 58)⟩]) (.skip)))
 (.seq (.seq (.reg [⟨(some 10),none,.mv (.k (.i .i64 0))⟩])
 (.blk 4 (.loop (.seq (.seq (.reg [⟨(some 60),none,.mv (.t 10)⟩,⟨(some 61),none,.mv (.t 4)⟩,⟨(some 62),none,.mv (.t 5)⟩,⟨(some 63),none,.ia 3 (.t 61) (.t 62)⟩,⟨(some 64),none,.fa 2 (.t 63)⟩,⟨(some 65),none,.ld false 1 (.t 64)⟩,⟨(some 66),none,.len (.t 65)⟩,⟨(some 67),none,.bin .lss (.t 60) (.t 66)⟩])
 (.cond (.t 67) (.skip) (.exit 4)))
 (.seq (.blk 5 (.seq (.dreg [(⟨(some 70),none,.fa 0 (.t 9)⟩,0),(⟨(some 71),none,.ld false 1 (.t 70)⟩,0),(⟨(some 72),none,.mv (.t 8)⟩,3),(⟨(some 73),none,.bin .rem (.t 72) (.k (.i .i64 3))⟩,3),(⟨(some 74),none,.bin .add (.k (.i .i64 1)) (.t 73)⟩,3),(⟨(some 75),none,.callp 36 [(.t 74)]⟩,3),(⟨(some 76),none,.bsf 3 [.i .i64 0,.i .i64 0,.s []] 1 [(0,(.t 75))]⟩,3),(⟨(some 77),none,.app 3 32 (.t 71) (.t 76)⟩,0),(⟨(some 78),none,.fa 0 (.t 9)⟩,0),(⟨none,none,.st 1 (.t 78) (.t 77)⟩,0)])
 (.reg [⟨(some 79),none,.mv (.t 8)⟩,⟨(some 80),none,.bin .quo (.t 79) (.k (.i .i64 3))⟩,⟨(some 8),none,.mv (.t 80)⟩])))
 (.reg [⟨(some 68),none,.mv (.t 10)⟩,⟨(some 69),none,.bin .add (.t 68) (.k (.i .i64 1))⟩,⟨(some 10),none,.mv (.t 69)⟩]))))))
 (.seq (.reg [⟨(some 82),none,.ld true 4 (.t 6)⟩,⟨(some 83),none,.ld true 4 (.t 9)⟩,⟨(some 84),none,.callp 37 [(.t 82),(.t 83)]⟩,⟨(some 81),none,.mv (.t 84)⟩,⟨(some 85),none,.ext (.t 81) 0⟩,⟨(some 86),none,.ext (.t 81) 1⟩,⟨(some 11),none,.new [.s [],.b false,.nils,.nils]⟩,⟨none,none,.st 4 (.t 11) (.t 85)⟩,⟨(some 12),none,.mv (.t 86)⟩])
 (.seq (.reg [⟨(some 87),none,.mv (.t 12)⟩,⟨(some 88),none,.bin .eql (.t 87) (.k (.i .i64 0))⟩])
 (.cond (.t 88) (.reg [⟨(some 89),none,.ld true 4 (.t 11)⟩,⟨none,none,.st 4 (.t 6) (.t 89)⟩]) (.skip)))))))))
 (.reg [⟨(some 40),none,.mv (.t 7)⟩,⟨(some 41),none,.bin .add (.t 40) (.k (.i .i64 1))⟩,⟨(some 7),none,.mv (.t 41)⟩]))))))
 (.reg [⟨(some 90),none,.mv (.t 3)⟩,⟨(some 91),none,.ld true 4 (.t 6)⟩,⟨(some 92),none,.bsf 4 [.s [],.b false,.nils,.nils] 1 [(0,(.t 91))]⟩,⟨(some 93),none,.app 4 72 (.t 90) (.t 92)⟩,⟨(some 3),none,.mv (.t 93)⟩]))))
 (.reg [⟨(some 18),none,.mv (.t 5)⟩,⟨(some 19),none,.bin .add (.t 18) (.k (.i .i64 1))⟩,⟨(some 5),none,.mv (.t 19)⟩])))
def rlG(L:List Rl):List (List D):=L.map fun r=>(rlF r).map D.f
def zIv(h:Nat->Option Ob)(k:Nat)(L:List Rl):za3 (frz h (k+1)) (rlG L)=some (L.map rlF,[]):=by
 have:=zmS h k (L.map rlF)
 rwa[Z33]at this
def gd0R:Gd (rR []):=⟨zab (n:=1000) (zad pr) (by kernel_rfl),fun m h _=>by simp[rR]at h,[],zab (n:=1000) (zad pr) (by kernel_rfl),⟨by simp,by simp⟩,by simp⟩
def gd0S:Gd (rS []):=⟨zab (n:=1000) (zad pr) (by kernel_rfl),fun m h _=>by simp[rS]at h,[],zab (n:=1000) (zad pr) (by kernel_rfl),⟨by simp,by simp⟩,by simp⟩
def gd0K:Gd (rK []):=⟨zab (n:=1000) (zad pr) (by kernel_rfl),fun m h _=>by simp[rK]at h,[],zab (n:=1000) (zad pr) (by kernel_rfl),⟨by simp,by simp⟩,by simp⟩
def gd0C:Gd (rC []):=⟨zab (n:=1000) (zad pr) (by kernel_rfl),fun m h _=>by simp[rC]at h,[],zab (n:=1000) (zad pr) (by kernel_rfl),⟨by simp,by simp⟩,by simp⟩
def OB(x:F)(i:Int)(L:List Rl)(S:St):Prop:=S.tm.get 0=some (.f x)/\S.tm.get 4=some (.f (.sl 3 zcH))/\S.tm.get 5=some (.f (.i .i64 i))/\∃dO,S.tm.get 3=some dO/\Grow S.h 0 S.c 4 dO (rlG L)
def zLs(x:F)(hx:zdu x)(hxd:x.d= .f x)(L:List Rl)(hL:L.length<10)(S:St)(Q:Ex->St->Prop)(hS:OB x 0 L S)(hQ:∀S' tu,tu.length<=3->(∀t∈tu,TuR t)->Gd (rR tu)->OB x 1 (L++[rR tu]) S'->WL pr lo4 S' Q):WL pr lo4 S Q:=by
 unfold lo4 at hQ|-;obtain⟨h0,h4,h5,dO,h3,hg⟩ :=hS;have hs:zcH[0]? =some [.s [82],.b false,coR]:=rfl;have hs2:∀h:0<zcH.length,zcH[0]=[.s [82],.b false,coR]:=fun _=>rfl
 have hsl:zcH.length=4:=rfl;have hcd:coR.d= .f coR:=rfl;have hcc:(D.f coR).cells=some [.f coR]:=rfl;have hw:IntKind.i64.wrap 1=1:=rfl;refine round ?_;simp -implicitDefEqProofs [zaQ,rR,apO,h0,h4,h5,h3,hs,hs2,hsl,hcd,hcc];refine zeD (KI [82] false coR TuR 0 x S.c dO (rlG L)) (KR [82] false coR TuR 0 x S.c dO (rlG L)) (stepR x hx hxd S.c dO (rlG L)) 3 _ ⟨0,[],by omega,rfl,by simp,?_,⟨by simp,gd0R⟩,?_,?_,?_,?_,?_,?_,?_,?_⟩ ?_
 any_goals (simp -implicitDefEqProofs [zaQ,rR,apO,h0,h4,h5,h3,hcd];done)
 any_goals (simp -implicitDefEqProofs [zaQ,rR,apO,h0,h4,h5,h3,hcd,Z85,zb2];done)
 .simp only[zbf,zbX,zbO,za8,zbS,zbD,zbd,zbW,zbU,zbh,zbY,zbB,za1,za9,za4,zca,zcb,zb8];refine zd8 hg ?_ (Z2 _);intro j hj
  repeat first|rw[TG,Z49 (by omega)]|rw[Vse.T.zbj,Z49 (by omega)]
 .rintro e S' ⟨rfl,tu,htl,⟨hT,hG⟩,h0,h4,h5,h6,h3,g,hg,hc⟩;simp -implicitDefEqProofs [zzO,Z67,Z79,zpW,zpP,zpQ,zpO,zpM,zpN,zpL,zpR,zpU,zpV,zpS,zpZ,zp0,zpY,h0,h4,h5,h6,h3,g,hcd,hcc];refine zmX (new:=[(rlF (rR tu)).map D.f]) (zd8 hg (fun _ _=>rfl) (Z110 hc)) (Z61 _) (by simp[rlG];omega) (by omega) ?_;intro r hr1 hr2 hr3 _;refine⟨hr1,?_⟩;simp -implicitDefEqProofs [zaQ,rR,apO,h5,hw];refine hQ _ tu htl hT hG ⟨?_,?_,?_,r.d,?_,?_⟩
  any_goals (simp -implicitDefEqProofs [zaQ,rR,apO,h0,h4,h5,h3];done)
  simp only[zbf,zbX,zbO,za8,zbS,zbD,zbd,zbW,zbU,zbh,zbY,zbB,za1,za9,za4,zca,zcb,zb8];have e:rlG (L++[rR tu])=rlG L++[(rlF (rR tu)).map D.f]:=by simp[rlG]
  rw[e];exact hr2
def zLx(x:F)(hx:zdu x)(hxd:x.d= .f x)(L:List Rl)(hL:L.length<10)(S:St)(Q:Ex->St->Prop)(hS:OB x 1 L S)(hQ:∀S' tu,tu.length<=3->(∀t∈tu,TuS t)->Gd (rS tu)->OB x 2 (L++[rS tu]) S'->WL pr lo4 S' Q):WL pr lo4 S Q:=by
 unfold lo4 at hQ|-;obtain⟨h0,h4,h5,dO,h3,hg⟩ :=hS;have hs:zcH[1]? =some [.s [83],.b false,coS]:=rfl;have hs2:∀h:1<zcH.length,zcH[1]=[.s [83],.b false,coS]:=fun _=>rfl
 have hsl:zcH.length=4:=rfl;have hcd:coS.d= .f coS:=rfl;have hcc:(D.f coS).cells=some [.f coS]:=rfl;have hw:IntKind.i64.wrap 2=2:=rfl;refine round ?_;simp -implicitDefEqProofs [zaQ,rR,apO,h0,h4,h5,h3,hs,hs2,hsl,hcd,hcc];refine zeD (KI [83] false coS TuS 1 x S.c dO (rlG L)) (KR [83] false coS TuS 1 x S.c dO (rlG L)) (stepS x hx hxd S.c dO (rlG L)) 3 _ ⟨0,[],by omega,rfl,by simp,?_,⟨by simp,gd0S⟩,?_,?_,?_,?_,?_,?_,?_,?_⟩ ?_
 any_goals (simp -implicitDefEqProofs [zaQ,rR,apO,h0,h4,h5,h3,hcd];done)
 any_goals (simp -implicitDefEqProofs [zaQ,rR,apO,h0,h4,h5,h3,hcd,Z85,zb2];done)
 .simp only[zbf,zbX,zbO,za8,zbS,zbD,zbd,zbW,zbU,zbh,zbY,zbB,za1,za9,za4,zca,zcb,zb8];refine zd8 hg ?_ (Z2 _);intro j hj
  repeat first|rw[TG,Z49 (by omega)]|rw[Vse.T.zbj,Z49 (by omega)]
 .rintro e S' ⟨rfl,tu,htl,⟨hT,hG⟩,h0,h4,h5,h6,h3,g,hg,hc⟩;simp -implicitDefEqProofs [zzO,Z67,Z79,zpW,zpP,zpQ,zpO,zpM,zpN,zpL,zpR,zpU,zpV,zpS,zpZ,zp0,zpY,h0,h4,h5,h6,h3,g,hcd,hcc];refine zmX (new:=[(rlF (rS tu)).map D.f]) (zd8 hg (fun _ _=>rfl) (Z110 hc)) (Z61 _) (by simp[rlG];omega) (by omega) ?_;intro r hr1 hr2 hr3 _;refine⟨hr1,?_⟩;simp -implicitDefEqProofs [zaQ,rR,apO,h5,hw];refine hQ _ tu htl hT hG ⟨?_,?_,?_,r.d,?_,?_⟩
  any_goals (simp -implicitDefEqProofs [zaQ,rR,apO,h0,h4,h5,h3];done)
  simp only[zbf,zbX,zbO,za8,zbS,zbD,zbd,zbW,zbU,zbh,zbY,zbB,za1,za9,za4,zca,zcb,zb8];have e:rlG (L++[rS tu])=rlG L++[(rlF (rS tu)).map D.f]:=by simp[rlG]
  rw[e];exact hr2
def zLr(x:F)(hx:zdu x)(hxd:x.d= .f x)(L:List Rl)(hL:L.length<10)(S:St)(Q:Ex->St->Prop)(hS:OB x 2 L S)(hQ:∀S' tu,tu.length<=3->(∀t∈tu,TuK t)->Gd (rK tu)->OB x 3 (L++[rK tu]) S'->WL pr lo4 S' Q):WL pr lo4 S Q:=by
 unfold lo4 at hQ|-;obtain⟨h0,h4,h5,dO,h3,hg⟩ :=hS;have hs:zcH[2]? =some [.s [75],.b false,coK]:=rfl;have hs2:∀h:2<zcH.length,zcH[2]=[.s [75],.b false,coK]:=fun _=>rfl
 have hsl:zcH.length=4:=rfl;have hcd:coK.d= .f coK:=rfl;have hcc:(D.f coK).cells=some [.f coK]:=rfl;have hw:IntKind.i64.wrap 3=3:=rfl;refine round ?_;simp -implicitDefEqProofs [zaQ,rR,apO,h0,h4,h5,h3,hs,hs2,hsl,hcd,hcc];refine zeD (KI [75] false coK TuK 2 x S.c dO (rlG L)) (KR [75] false coK TuK 2 x S.c dO (rlG L)) (stepK x hx hxd S.c dO (rlG L)) 3 _ ⟨0,[],by omega,rfl,by simp,?_,⟨by simp,gd0K⟩,?_,?_,?_,?_,?_,?_,?_,?_⟩ ?_
 any_goals (simp -implicitDefEqProofs [zaQ,rR,apO,h0,h4,h5,h3,hcd];done)
 any_goals (simp -implicitDefEqProofs [zaQ,rR,apO,h0,h4,h5,h3,hcd,Z85,zb2];done)
 .simp only[zbf,zbX,zbO,za8,zbS,zbD,zbd,zbW,zbU,zbh,zbY,zbB,za1,za9,za4,zca,zcb,zb8];refine zd8 hg ?_ (Z2 _);intro j hj
  repeat first|rw[TG,Z49 (by omega)]|rw[Vse.T.zbj,Z49 (by omega)]
 .rintro e S' ⟨rfl,tu,htl,⟨hT,hG⟩,h0,h4,h5,h6,h3,g,hg,hc⟩;simp -implicitDefEqProofs [zzO,Z67,Z79,zpW,zpP,zpQ,zpO,zpM,zpN,zpL,zpR,zpU,zpV,zpS,zpZ,zp0,zpY,h0,h4,h5,h6,h3,g,hcd,hcc];refine zmX (new:=[(rlF (rK tu)).map D.f]) (zd8 hg (fun _ _=>rfl) (Z110 hc)) (Z61 _) (by simp[rlG];omega) (by omega) ?_;intro r hr1 hr2 hr3 _;refine⟨hr1,?_⟩;simp -implicitDefEqProofs [zaQ,rR,apO,h5,hw];refine hQ _ tu htl hT hG ⟨?_,?_,?_,r.d,?_,?_⟩
  any_goals (simp -implicitDefEqProofs [zaQ,rR,apO,h0,h4,h5,h3];done)
  simp only[zbf,zbX,zbO,za8,zbS,zbD,zbd,zbW,zbU,zbh,zbY,zbB,za1,za9,za4,zca,zcb,zb8];have e:rlG (L++[rK tu])=rlG L++[(rlF (rK tu)).map D.f]:=by simp[rlG]
  rw[e];exact hr2
def zLq(x:F)(hx:zdu x)(hxd:x.d= .f x)(L:List Rl)(hL:L.length<10)(S:St)(Q:Ex->St->Prop)(hS:OB x 3 L S)(hQ:∀S' tu,tu.length<=3->(∀t∈tu,TuC t)->Gd (rC tu)->OB x 4 (L++[rC tu]) S'->WL pr lo4 S' Q):WL pr lo4 S Q:=by
 unfold lo4 at hQ|-;obtain⟨h0,h4,h5,dO,h3,hg⟩ :=hS;have hs:zcH[3]? =some [.s [67],.b true,coC]:=rfl;have hs2:∀h:3<zcH.length,zcH[3]=[.s [67],.b true,coC]:=fun _=>rfl
 have hsl:zcH.length=4:=rfl;have hcd:coC.d= .f coC:=rfl;have hcc:(D.f coC).cells=some [.f coC]:=rfl;have hw:IntKind.i64.wrap 4=4:=rfl;refine round ?_;simp -implicitDefEqProofs [zaQ,rR,apO,h0,h4,h5,h3,hs,hs2,hsl,hcd,hcc];refine zeD (KI [67] true coC TuC 3 x S.c dO (rlG L)) (KR [67] true coC TuC 3 x S.c dO (rlG L)) (stepC x hx hxd S.c dO (rlG L)) 3 _ ⟨0,[],by omega,rfl,by simp,?_,⟨by simp,gd0C⟩,?_,?_,?_,?_,?_,?_,?_,?_⟩ ?_
 any_goals (simp -implicitDefEqProofs [zaQ,rR,apO,h0,h4,h5,h3,hcd];done)
 any_goals (simp -implicitDefEqProofs [zaQ,rR,apO,h0,h4,h5,h3,hcd,Z85,zb2];done)
 .simp only[zbf,zbX,zbO,za8,zbS,zbD,zbd,zbW,zbU,zbh,zbY,zbB,za1,za9,za4,zca,zcb,zb8];refine zd8 hg ?_ (Z2 _);intro j hj
  repeat first|rw[TG,Z49 (by omega)]|rw[Vse.T.zbj,Z49 (by omega)]
 .rintro e S' ⟨rfl,tu,htl,⟨hT,hG⟩,h0,h4,h5,h6,h3,g,hg,hc⟩;simp -implicitDefEqProofs [zzO,Z67,Z79,zpW,zpP,zpQ,zpO,zpM,zpN,zpL,zpR,zpU,zpV,zpS,zpZ,zp0,zpY,h0,h4,h5,h6,h3,g,hcd,hcc];refine zmX (new:=[(rlF (rC tu)).map D.f]) (zd8 hg (fun _ _=>rfl) (Z110 hc)) (Z61 _) (by simp[rlG];omega) (by omega) ?_;intro r hr1 hr2 hr3 _;refine⟨hr1,?_⟩;simp -implicitDefEqProofs [zaQ,rR,apO,h5,hw];refine hQ _ tu htl hT hG ⟨?_,?_,?_,r.d,?_,?_⟩
  any_goals (simp -implicitDefEqProofs [zaQ,rR,apO,h0,h4,h5,h3];done)
  simp only[zbf,zbX,zbO,za8,zbS,zbD,zbd,zbW,zbU,zbh,zbY,zbB,za1,za9,za4,zca,zcb,zb8];have e:rlG (L++[rC tu])=rlG L++[(rlF (rC tu)).map D.f]:=by simp[rlG]
  rw[e];exact hr2
def zJQ(y:F):Prop:=∃a b c d,((a.length<=3/\∀t∈a,TuR t)/\Gd (rR a))/\((b.length<=3/\∀t∈b,TuS t)/\Gd (rS b))/\((c.length<=3/\∀t∈c,TuK t)/\Gd (rK c))/\((d.length<=3/\∀t∈d,TuC t)/\Gd (rC d))/\y=slc 4 ([rR a,rS b,rK c,rC d].map rlF)
def ans12(x:F)(hx:zdu x)(hxd:x.d= .f x):∃a b c d,((a.length<=3/\∀t∈a,TuR t)/\Gd (rR a))/\((b.length<=3/\∀t∈b,TuS t)/\Gd (rS b))/\((c.length<=3/\∀t∈c,TuK t)/\Gd (rK c))/\((d.length<=3/\∀t∈d,TuC t)/\Gd (rC d))/\Ans pr 12 [x] (slc 4 ([rR a,rS b,rK c,rC d].map rlF)):=by
 have main:∃y,zJQ y/\Ans pr 12 [x] y:=by
  refine znH fn12 ?_;have q13:=fun k=>zaj (k:=k) ans33
  have hsl:zcH.length=4:=rfl;simp only[g12,rU];simp -implicitDefEqProofs [zaQ,rR,apO,st0,zax,hxd,q13];refine zLs x hx hxd [] (by simp) _ _ ⟨?_,?_,?_,.f .nils,?_,Grow.nil⟩ ?_
  any_goals (simp -implicitDefEqProofs [zaQ,rR,apO,zax];done)
  intro S1 a ha1 ha2 ha3 h1;refine zLx x hx hxd _ (by simp) _ _ h1 ?_;intro S2 b hb1 hb2 hb3 h2;refine zLr x hx hxd _ (by simp) _ _ h2 ?_;intro S3 c hc1 hc2 hc3 h3;refine zLq x hx hxd _ (by simp) _ _ h3 ?_;rintro S4 d hd1 hd2 hd3 ⟨h0,h4,h5,dO,h3,hg⟩;unfold lo4;refine round ?_;obtain⟨rd,hf⟩ :=zDG (k:=11) hg (zIv _ 10 _);simp -implicitDefEqProofs [zaQ,rR,apO,h0,h4,h5,h3,hsl,hf];exact⟨a,b,c,d,⟨⟨ha1,ha2⟩,ha3⟩,⟨⟨hb1,hb2⟩,hb3⟩,⟨⟨hc1,hc2⟩,hc3⟩,⟨⟨hd1,hd2⟩,hd3⟩,rfl⟩
 obtain⟨y,⟨a,b,c,d,h1,h2,h3,h4,rfl⟩,ha⟩ :=main;exact⟨a,b,c,d,h1,h2,h3,h4,ha⟩
def Ans.uniq{f:Nat}{fs:List F}{x y:F}(h1:Ans pr f fs x)(h2:Ans pr f fs y):x=y:=by
 obtain⟨q1,r1,⟨n1,c1⟩,f1⟩ :=h1;obtain⟨q2,r2,⟨n2,c2⟩,f2⟩ :=h2;have e1:zco pr (n1+n2) f (F.dL fs) .e 0=some q1:=c1 (n1+n2) (by omega);have e2:zco pr (n1+n2) f (F.dL fs) .e 0=some q2:=c2 (n1+n2) (by omega);rw[e1]at e2;cases e2;rw[f1]at f2;cases f2;rfl
def zK1{a b:List Nat}(h:ixF a=ixF b):a=b:=by
 unfold ixF at h;injection h with _ h
 induction a generalizing b with
 |nil=>cases b with
  |nil=>rfl
  |cons _ _=>cases h
 |cons x a ih=>cases b with
  |nil=>cases h
  |cons y b=>
   simp only[Z10,List.cons.injEq,F.i.injEq,and_true,true_and]at h;rw[ih h.2,Int.ofNat_inj.1 h.1]
def zHP{A B:List (List Nat)}(h:zcm A=zcm B):A=B:=by
 cases A with
 |nil=>cases B with
  |nil=>rfl
  |cons b B=>cases h
 |cons a A=>cases B with
  |nil=>cases h
  |cons b B=>
   have h:(F.sl 1 (((a::A):List (List Nat)).map fun b=>[ixF b]))= .sl 1 ((b::B).map fun b=>[ixF b]):=h;injection h with _ h
   generalize a::A=X at h|-;generalize b::B=Y at h|-
   induction X generalizing Y with
   |nil=>cases Y with
    |nil=>rfl
    |cons _ _=>cases h
   |cons x X ih=>cases Y with
    |nil=>cases h
    |cons y Y=>
     simp only[Z10,List.cons.injEq,and_true]at h;rw[ih _ h.2,zK1 h.1]
structure Gx(r:Rl)(B:List (List Nat)):Prop where
 k:zee SSp PPp r
 s:Srt r r.tu.length
 v:Ans pr 38 [.ag (rlF r)] (.i .i64 0)
 g:Ans pr 102 [.ag (rlF r)] (zcm B)
 gp:Ans pr 209 [.ag (rlF r)] (zcm B)
 n:B.length<=3
 b:∀b∈B,b.length<=3/\(∀i∈b,i<r.tu.length)/\∃ns,Bks r b ns/\le1 (sN ns)=true
 d:B.flatten.Nodup
 z:∀b∈B,b≠[]
 ce:r.ce=true->B=[]
 cp:∀t∈r.tu,Ans pr 207 [.ag [.s r.nm,.b r.ce,r.co],.ag (tuF t)] (.i .i64 0)
 vp:Ans pr 206 [.ag [.s r.nm,.b r.ce,r.co]] (.b true)
 cl:∃rows,r.co= .sl 3 rows/\rows≠[]/\rows.length<=10
 nz:∀t∈r.tu,t.1≠[]
theorem zsW{r:Rl}(hk:zee SSp PPp r)(hg:Gd r){B:List (List Nat)}(g:Ans pr 102 [.ag (rlF r)] (zcm B))(gp:Ans pr 209 [.ag (rlF r)] (zcm B))(n:B.length<=3)(hb:∀b∈B,b.length<=3/\∀i∈b,i<r.tu.length)(d:B.flatten.Nodup)(z:∀b∈B,b≠[])(ce:r.ce=true->B=[])
  (cp:∀t∈r.tu,Ans pr 207 [.ag [.s r.nm,.b r.ce,r.co],.ag (tuF t)] (.i .i64 0))(vp:Ans pr 206 [.ag [.s r.nm,.b r.ce,r.co]] (.b true))(cl:∃rows,r.co= .sl 3 rows/\rows≠[]/\rows.length<=10)(nz:∀t∈r.tu,t.1≠[]):Gx r B:=by
 refine⟨hk,hg.s,hg.v,g,gp,n,fun b h=>⟨(hb b h).1,(hb b h).2,?_⟩,d,z,ce,cp,vp,cl,nz⟩;obtain⟨B2,g2,-,hs⟩ :=hg.b;have e:=zHP (Ans.uniq g g2);subst e;obtain⟨p,a1,a2⟩ :=hs b h;obtain⟨ns,hB⟩ :=zAp r hk.p b (hb b h).2;have e1:=Ans.uniq a1 (zHz r hk.co hk.cc b ns (hb b h).1 hB);injection e1 with e1
 subst e1;have hI:=allL uI _ (zn6 ns (by rw[hB.1];exact (hb b h).1) hB.mem);have e2:=Ans.uniq hI a2;injection e2 with e2
 exact⟨ns,hB,e2⟩
def gxR{tu:List (List Int×List F)}(hn:tu.length<=3)(h:∀t∈tu,TuR t)(hg:Gd (rR tu)):∃B,Gx (rR tu) B:=by
 obtain⟨B,g,gp,n,b,d,z⟩ :=gqR tu hn h hg.s;exact⟨B,zsW (okR tu hn h) hg g gp n b d z (fun e=>by simp[rR]at e) (fun t ht=>cpR t (h t ht)) vqR ⟨_,rfl,by simp,by simp⟩ (fun t ht=>by obtain⟨_,a,b,he,_,_⟩ :=h t ht;rw[he];simp)⟩
def gxS{tu:List (List Int×List F)}(hn:tu.length<=3)(h:∀t∈tu,TuS t)(hg:Gd (rS tu)):∃B,Gx (rS tu) B:=by
 obtain⟨B,g,gp,n,b,d,z⟩ :=gqS tu hn h hg.s;exact⟨B,zsW (okS tu hn h) hg g gp n b d z (fun e=>by simp[rS]at e) (fun t ht=>cpS t (h t ht)) vqS ⟨_,rfl,by simp,by simp⟩ (fun t ht=>by obtain⟨_,a,he⟩ :=h t ht;rw[he];simp)⟩
def gxK{tu:List (List Int×List F)}(hn:tu.length<=3)(h:∀t∈tu,TuK t)(hg:Gd (rK tu)):∃B,Gx (rK tu) B:=by
 obtain⟨B,g,gp,n,b,d,z⟩ :=gqK tu hn h hg.s;exact⟨B,zsW (okK tu hn h) hg g gp n b d z (fun e=>by simp[rK]at e) (fun t ht=>cpK t (h t ht)) vqK ⟨_,rfl,by simp,by simp⟩ (fun t ht=>by obtain⟨_,a,b,he,_,_⟩ :=h t ht;rw[he];simp)⟩
def gxC{tu:List (List Int×List F)}(hn:tu.length<=3)(h:∀t∈tu,TuC t)(hg:Gd (rC tu)):∃B,Gx (rC tu) B:=by
 obtain⟨B,g,gp,n,b,d,z,e⟩ :=gqC tu;exact⟨B,zsW (okC tu hn h) hg g gp n b d z (fun _=>e) (fun t ht=>cpC t (h t ht)) vqC ⟨_,rfl,by simp,by simp⟩ (fun t ht=>by obtain⟨_,a,b,he,_⟩ :=h t ht;rw[he];simp)⟩
def fn39:pr.fn 39=some g39:=by kernel_rfl
def ans39{r:Rl}{B:List (List Nat)}(h:Gx r B):Ans pr 39 [.ag (rlF r)] (zcm B):=by
 have qe:=fun k=>zaj (k:=k) h.v
 have qg:=fun k=>zaj (k:=k) h.g
 have hco:=h.k.co;have hcc:=h.k.cc;have hd:(zaW r.tu).d= .f (zaW r.tu):=zd5 _;have hc2:(D.f (zaW r.tu)).cells=some [.f (zaW r.tu)]:=zcc _ _;refine zb6 fn39 ?_;simp only[g39,rU];simp only[rlE]at qe qg;simp[rW,st0,zax,rlE,hco,hd,hcc,hc2,qe,qg,zmG]
def NE(d1 d2:D):Prop:=∀x,d1.oid=some x->d2.oid≠some x
def rfE(l:List (Nat×Nat)):F:=slc 2 (l.map fun p=>[.i .i64 (p.1:Nat),.i .i64 (p.2:Nat)])
structure zdL(lo:Nat)(h:T Ob)(c:Nat)(dB dR:D)(WB:List (D×List (List F)))(WR:List (D×List (Nat×Nat))):Prop where
 gB:Gro h lo c 1 dB (WB.map fun p=>[p.1])
 gR:Gro h lo c 1 dR (WR.map fun p=>[p.1])
 oB:∀p∈WB,Own h lo c p.1 (slc 3 p.2)
 oR:∀p∈WR,Own h lo c p.1 (rfE p.2)
 nBR:NE dB dR
 nB:∀p∈WB,NE dB p.1/\NE dR p.1
 nR:∀p∈WR,NE dB p.1/\NE dR p.1
def zdL.up{lo:Nat}{h h':T Ob}{c c':Nat}{dB dR:D}{WB:List (D×List (List F))}{WR:List (D×List (Nat×Nat))}(H:zdL lo h c dB dR WB WR)(hf:∀id,lo<=id->id<c->h'.get id=h.get id)(hc:c<=c'):zdL lo h' c' dB dR WB WR:=by
 have key:∀{d:D} {X:F},Own h lo c d X->Own h' lo c' d X:=fun{d X} ho=>ho.up (fun x hx=>by have:=ho.2.2.1 x hx;exact hf x this.1 this.2) (Z2 _) hc
 exact⟨zeI H.gB hc hf,zeI H.gR hc hf,fun p hp=>key (H.oB p hp),fun p hp=>key (H.oR p hp),H.nBR,H.nB,H.nR⟩
theorem zGL{lo:Nat}{h h':T Ob}{c c':Nat}{dB dR d dN:D}{b:List (List F)}{WB:List (D×List (List F))}{WR:List (D×List (Nat×Nat))}(H:zdL lo h c dB dR WB WR)(ho:Own h lo c d (slc 3 b))(n1:NE dB d)(n2:NE dR d)
  (hg:Gro h' lo c' 1 dN ((WB.map fun p=>[p.1])++[[d]]))(hc:c<=c')(hf:∀id,id<c->dB.oid≠some id->h'.get id=h.get id)(hN:∀x,dN.oid=some x->x=c\/dB.oid=some x):zdL lo h' c' dN dR (WB++[(d,b)]) WR:=by
 have key:∀{d:D} {X:F},NE dB d->Own h lo c d X->Own h' lo c' d X:=fun{d X} hn ho=>ho.up (fun x hx=>by
  have:=ho.2.2.1 x hx;exact hf x this.2 fun e=>hn x e hx) (Z2 _) hc
 have kn:∀{d:D},NE dB d->(∀x,d.oid=some x->x<c)->NE dN d:=fun{d} hn hb x hx e=>by
  rcases hN x hx with rfl|h1
  .have:=hb _ e;omega
  .exact hn x h1 e
 have bR:∀x,dR.oid=some x->x<c:=fun x hx=>(zaU H.gR hx).2
 refine⟨by rw[Z20];exact hg,zfy H.gR (fun Y hY=>hf Y (bR Y hY) fun e=>H.nBR Y e hY) hc,fun p hp=> ?_,fun p hp=>key (H.nR p hp).1 (H.oR p hp),kn H.nBR bR,fun p hp=> ?_,fun p hp=>⟨kn (H.nR p hp).1 fun x hx=>((H.oR p hp).2.2.1 x hx).2,(H.nR p hp).2⟩⟩
 .rcases Z4.1 hp with hp|hp
  .exact key (H.nB p hp).1 (H.oB p hp)
  .rw[Z31.1 hp];exact key n1 ho
 .rcases Z4.1 hp with hp|hp
  .exact⟨kn (H.nB p hp).1 fun x hx=>((H.oB p hp).2.2.1 x hx).2,(H.nB p hp).2⟩
  .rw[Z31.1 hp];exact⟨kn n1 fun x hx=>(ho.2.2.1 x hx).2,n2⟩
theorem zGN{lo:Nat}{h h':T Ob}{c c':Nat}{dB dR d dN:D}{b:List (Nat×Nat)}{WB:List (D×List (List F))}{WR:List (D×List (Nat×Nat))}(H:zdL lo h c dB dR WB WR)(ho:Own h lo c d (rfE b))(n1:NE dB d)(n2:NE dR d)
  (hg:Gro h' lo c' 1 dN ((WR.map fun p=>[p.1])++[[d]]))(hc:c<=c')(hf:∀id,id<c->dR.oid≠some id->h'.get id=h.get id)(hN:∀x,dN.oid=some x->x=c\/dR.oid=some x):zdL lo h' c' dB dN WB (WR++[(d,b)]):=by
 have key:∀{d:D} {X:F},NE dR d->Own h lo c d X->Own h' lo c' d X:=fun{d X} hn ho=>ho.up (fun x hx=>by
  have:=ho.2.2.1 x hx;exact hf x this.2 fun e=>hn x e hx) (Z2 _) hc
 have kn:∀{d:D},NE dR d->(∀x,d.oid=some x->x<c)->NE dN d:=fun{d} hn hb x hx e=>by
  rcases hN x hx with rfl|h1
  .have:=hb _ e;omega
  .exact hn x h1 e
 have bB:∀x,dB.oid=some x->x<c:=fun x hx=>(zaU H.gB hx).2
 have hBR:NE dR dB:=fun x hx e=>H.nBR x e hx
 refine⟨zfy H.gB (fun Y hY=>hf Y (bB Y hY) fun e=>H.nBR Y hY e) hc,by rw[Z20];exact hg,fun p hp=>key (H.nB p hp).2 (H.oB p hp),fun p hp=> ?_,fun x hx e=>kn hBR bB x e hx,fun p hp=>⟨(H.nB p hp).1,kn (H.nB p hp).2 fun x hx=>((H.oB p hp).2.2.1 x hx).2⟩,fun p hp=> ?_⟩
 .rcases Z4.1 hp with hp|hp
  .exact key (H.nR p hp).2 (H.oR p hp)
  .rw[Z31.1 hp];exact key n2 ho
 .rcases Z4.1 hp with hp|hp
  .exact⟨(H.nR p hp).1,kn (H.nR p hp).2 fun x hx=>((H.oR p hp).2.2.1 x hx).2⟩
  .rw[Z31.1 hp];exact⟨n1,kn n2 fun x hx=>(ho.2.2.1 x hx).2⟩
theorem zn0{lo:Nat}{h:T Ob}{c:Nat}(k:Nat){α:Type}(f:α->F):∀{W:List (D×α)},(∀p∈W,Own h lo c p.1 (f p.2))->∃rd,za3 (frz h.get (k+2)) (W.map fun p=>[p.1])=some (W.map fun p=>[f p.2],rd)
 |[],_=>⟨[],rfl⟩
 |p::W,hW=>by
  obtain⟨rd,hr⟩ :=zn0 k f (W:=W) fun q hq=>hW q (by simp[hq])
  obtain⟨rd2,h2⟩ :=(hW p (by simp)).2.2.2 h (fun _ _=>rfl) k;have h3:za0 (frz h.get (k+2)) [p.1]=some ([f p.2],rd2):=by simp[za0,h2]
  exact⟨rd2++rd,by
   rw[Z10,zg8,h3];simp[hr]⟩
def spF(B:List (List (List F))):F:=slc 1 (B.map fun b=>[slc 3 b])
def rfF(R:List (List (Nat×Nat))):F:=slc 1 (R.map fun r=>[rfE r])
def zdL.frz{lo:Nat}{h:T Ob}{c:Nat}{dB dR:D}{WB:List (D×List (List F))}{WR:List (D×List (Nat×Nat))}(H:zdL lo h c dB dR WB WR)(k:Nat):(∃rd,frz h.get (k+3) dB=some (spF (WB.map (·.2)),rd))/\∃rd,frz h.get (k+3) dR=some (rfF (WR.map (·.2)),rd):=by
  obtain⟨r1,h1⟩ :=zn0 k (fun b=>slc 3 b) H.oB;obtain⟨r2,h2⟩ :=zn0 k rfE H.oR;obtain⟨s1,k1⟩ :=zfx (k:=k+2) H.gB h1 (by simp);obtain⟨s2,k2⟩ :=zfx (k:=k+2) H.gR h2 (by simp);exact⟨⟨s1,by rw[k1,spF,Z33];rfl⟩,s2,by rw[k2,rfF,Z33];rfl⟩
def fn13:pr.fn 13=some g13:=by kernel_rfl
def bP(r:Rl)(b:List Nat):List (List F):=b.map fun i=>(r.tu[i]?.getD ([],[])).2
def bR(n:Nat)(b:List Nat):List (Nat×Nat):=b.map fun i=>(n,i)
def zAn{r:Rl}{b:List Nat}{j i:Nat}{T:List Int×List F}(h:b[j]? =some i)(hT:r.tu[i]? =some T):bP r (b.take (j+1))=bP r (b.take j)++[T.2]:=by
 unfold bP;rw[Z105,h,Z20];simp[hT]
def zAo{n:Nat}{b:List Nat}{j i:Nat}(h:b[j]? =some i):bR n (b.take (j+1))=bR n (b.take j)++[(n,i)]:=by
 unfold bR;rw[Z105,h,Z20];simp
abbrev RB:=Rl×List (List Nat)
def spL(L:List RB):List (List (List F)):=L.flatMap fun p=>p.2.map (bP p.1)
def rfA:Nat->List RB->List (List (Nat×Nat))
 |_,[]=>[]
 |n,p::L=>p.2.map (bR n)++rfA (n+1) L
def rfL(L:List RB):List (List (Nat×Nat)):=rfA 0 L
def zxy{L:List RB}{n:Nat}{r:Rl}{B:List (List Nat)}(h:L[n]? =some (r,B)):spL (L.take (n+1))=spL (L.take n)++B.map (bP r):=by
 unfold spL;rw[Z105,h,Z183];simp
theorem zw1:∀(A M:List RB) (n:Nat),rfA n (A++M)=rfA n A++rfA (n+A.length) M
 |[],M,n=>by simp[rfA]
 |p::A,M,n=>by
  rw[Z29,rfA,rfA,zw1 A M (n+1),Z32,Z23,Z82,Z198 1]
def zw2{L:List RB}{n:Nat}{r:Rl}{B:List (List Nat)}(h:L[n]? =some (r,B)):rfL (L.take (n+1))=rfL (L.take n)++B.map (bR n):=by
 unfold rfL;have hn:n<L.length:=by
  rcases Z145 n L.length with h1|h1
  .exact h1
  .rw[Z97 h1]at h;cases h
 rw[Z105,h,zw1,Z41,Z73 (by omega),Z25];simp[rfA]
structure LOk(L:List RB):Prop where
 n:L.length<=8
 g:∀p∈L,Gx p.1 p.2
 d:∀(m n:Nat) (p q:RB),L[m]? =some p->L[n]? =some q->m<n->p.1.nm≠q.1.nm
def zib{L:List RB}(h:LOk L):(spL L).length<=24:=by
 have:∀M:List RB,(∀p∈M,p.2.length<=3)->(spL M).length<=3*M.length:=by
  intro M
  induction M with
  |nil=>intro _;simp[spL]
  |cons p M ih=>
   intro hM;have:=ih fun q hq=>hM q (by simp[hq])
   have h2:=hM p (by simp);unfold spL at this|-;rw[Z92,Z16,Z18,Z23];omega
 have h1:=this L fun p hp=>(h.g p hp).n
 have:=h.n;omega
theorem zmw:∀(L:List RB) (n:Nat),(rfA n L).map (·.length)=(spL L).map (·.length)
  |[],_=>rfl
  | p::L,n=>by
    have:=zmw L (n+1);unfold spL at this|-;rw[rfA,Z92,Z20,Z20,this,Z33,Z33]
    congr 1
    exact Z68 fun b _=>by simp[bR,bP]
def rbF(L:List RB):F:=zc3 (L.map (·.1))
def zgj(L:List RB):(rbF L).d= .f (rbF L):=zkW _
def zgV(L:List RB):(D.f (rbF L)).cells=some [.f (rbF L)]:=zcc _ _
def zdv(L:List RB):zcE (.f (rbF L))=some L.length:=by simp[rbF,zeM]
def zet(L:List RB)(n:Nat):iaB 4 (.f (rbF L)) n=(L[n]?).map fun p=>D.fptr (rlF p.1):=by simp[rbF,zj9,Z67]
def rfD(l:List (Nat×Nat)):List (List D):=l.map fun p=>[D.f (.i .i64 (p.1:Nat)),D.f (.i .i64 (p.2:Nat))]
def zGK(l:List (Nat×Nat)):rfD l=(l.map fun p=>[F.i .i64 (p.1:Nat),F.i .i64 (p.2:Nat)]).map fun a=>a.map D.f:=by
 unfold rfD;rw[Z33];rfl
def zqU{h:T Ob}{lo c es:Nat}{d:D}{rows:List (List F)}(hg:Gro h lo c es d (rows.map fun a=>a.map D.f))(hl:2<=lo):Own h 2 c d (slc es rows):=(zm1 hg).up (fun _ _=>rfl) hl (Z2 _)
def zpz{h:T Ob}{lo c es:Nat}{d:D}{els:List (List D)}(hg:Gro h lo c es d els):hd8 [[d]]=false:=by
 rcases hg with⟨rfl,_⟩ |⟨id,ro,rfl,_⟩ <;>rfl
def zhP{d1 d2:D}{P:Nat}(h1:∀x,d1.oid=some x->x<P)(h2:∀x,d2.oid=some x->P<=x):NE d1 d2:=fun x hx e=>by
 have:=h1 x hx;have:=h2 x e;omega
def O13(L:List RB)(XB:List (List (List F)))(XR:List (List (Nat×Nat)))(s:St):Prop:=∃dB dR WB WR,(s.tm.get 0=some (.f (rbF L))/\s.tm.get 2=some (.ptr 0 1 0 0)/\s.tm.get 5=some (.ptr 1 1 0 0)/\s.tm.get 6=some (dR)/\s.h.get 0=some (.arr 1 0 [[.f .nils]])/\s.h.get 1=some (.arr 1 0 [[dB]]))/\zdL 2 s.h s.c dB dR WB WR/\WB.map (·.2)=XB/\WR.map (·.2)=XR/\2<=s.c
def O13.up{L:List RB}{XB:List (List (List F))}{XR:List (List (Nat×Nat))}{s S:St}(H:O13 L XB XR s)(hh:S.h=s.h)(hc:s.c<=S.c)(t0:S.tm.get 0=s.tm.get 0)(t2:S.tm.get 2=s.tm.get 2)(t5:S.tm.get 5=s.tm.get 5)(t6:S.tm.get 6=s.tm.get 6):O13 L XB XR S:=by
 obtain⟨dB,dR,WB,WR,⟨h0,h2,h5,h6,g0,g1⟩,hR,hB,hW,hlo⟩ :=H;exact⟨dB,dR,WB,WR,⟨t0.trans h0,t2.trans h2,t5.trans h5,t6.trans h6,by rw[hh];exact g0,by rw[hh];exact g1⟩,hR.up (fun id _ _=>by rw[hh]) hc,hB,hW,by omega⟩
def J13(L:List RB)(n:Nat)(s:St):Prop:=O13 L (spL (L.take n)) (rfL (L.take n)) s/\s.tm.get 7=some (.f (.i .i64 n))
def R13(L:List RB)(x:Ex)(s:St):Prop:=x= .exit 0/\O13 L (spL L) (rfL L) s
def K13(L:List RB)(n k:Nat)(s:St):Prop:=J13 L n s/\s.tm.get 9=some (.f (.i .i64 k))
def S13(L:List RB)(n:Nat)(x:Ex)(s:St):Prop:=x= .exit 2/\J13 L n s
def M13(L:List RB)(r:Rl)(B:List (List Nat))(n k:Nat)(s:St):Prop:=O13 L (spL (L.take n)++(B.take k).map (bP r)) (rfL (L.take n)++(B.take k).map (bR n)) s/\(s.tm.get 7=some (.f (.i .i64 n))/\s.tm.get 10=some (.f (zcm B))/\s.tm.get 11=some (.f (.i .i64 k)))
def T13(L:List RB)(r:Rl)(B:List (List Nat))(n:Nat)(x:Ex)(s:St):Prop:=x= .exit 4/\O13 L (spL (L.take n)++B.map (bP r)) (rfL (L.take n)++B.map (bR n)) s/\s.tm.get 7=some (.f (.i .i64 n))
def N13(L:List RB)(r:Rl)(B:List (List Nat))(b:List Nat)(n k P:Nat)(h0:T Ob)(dR:D)(j:Nat)(s:St):Prop:=∃(db dr:D),(s.tm.get 0=some (.f (rbF L))/\s.tm.get 2=some (.ptr 0 1 0 0)/\s.tm.get 5=some (.ptr 1 1 0 0)/\s.tm.get 6=some (dR)/\s.tm.get 7=some (.f (.i .i64 n))/\s.tm.get 10=some (.f (zcm B))/\s.tm.get 11=some (.f (.i .i64 k))/\s.tm.get 12=some (.ptr P 1 0 0)/\s.tm.get 13=some (dr)/\s.tm.get 14=some (.f (.i .i64 j))/\s.h.get P=some (.arr 1 0 [[db]]))/\
 (∀id,id<P->s.h.get id=h0.get id)/\Gro s.h (P+1) s.c 3 db ((bP r (b.take j)).map fun a=>a.map D.f)/\Gro s.h (P+1) s.c 2 dr (rfD (bR n (b.take j)))/\NE db dr/\P<s.c
def Y13(L:List RB)(r:Rl)(B:List (List Nat))(b:List Nat)(n k P:Nat)(h0:T Ob)(dR:D)(x:Ex)(s:St):Prop:=x= .exit 6/\N13 L r B b n k P h0 dR b.length s
def zEy{L:List RB}(hL:LOk L):Ans pr 13 [rbF L] (.tu [.ag [spF (spL L)],rfF (rfL L),.i .i64 0]):=by
 refine zb6 fn13 ?_;simp only[g13,rU];have hn8:=hL.n;have h8:¬(8:Int)< (L.length:Nat):=by omega
 simp[rW,st0,zax,zgj,zdv,h8];refine zcz L.length (J13 L) (R13 L) ?_ ?_ _ ⟨⟨.f .nils,.f .nils,[],[],⟨?_,?_,?_,?_,?_,?_⟩,⟨.inl ⟨rfl,rfl⟩,.inl ⟨rfl,rfl⟩,by simp,by simp,fun x hx=>by simp[D.oid]at hx,by simp,by simp⟩,rfl,rfl,?_⟩,?_⟩ ?_
 .rintro n s hlt ⟨hO,h7⟩;have hw:=zaK n (by omega);have hx:L[n]? =some L[n]:=Z0 hlt;have hG:=hL.g _ (Z1 hlt);have hdn:=fun m p hm hmn=>hL.d m n p _ hm hx hmn
  generalize hA:L[n]=q at hx hG hdn;obtain⟨r,B⟩ :=q;simp only at hG hdn;have es:=zxy hx;have er:=zw2 hx;have qe:=fun k=>zaj (k:=k) hG.v
  have qB:=fun k=>zaj (k:=k) (ans39 hG)
  simp only[rlE]at qe qB;have hco:=hG.k.co;have hd:(zaW r.tu).d= .f (zaW r.tu):=zd5 _;obtain⟨dB,dR,WB,WR,⟨h0,h2,h5,h6,g0,g1⟩,hRI,hWB,hWR,hlo⟩ :=id hO;simp[rW,h0,h2,h5,h6,h7,g0,g1,hlt,zdv,zet,hx,hA,rlE,hco,hd,qe];refine zcz n (K13 L n) (S13 L n) ?_ ?_ _ ⟨⟨hO.up ?_ ?_ ?_ ?_ ?_ ?_,?_⟩,?_⟩ ?_
  .clear hO h0 h2 h5 h6 g0 g1 hRI hWB hWR hlo h7 dB dR WB WR s;rintro m s hmn ⟨⟨hO,h7⟩,h9⟩;have hwm:=zaK m (by omega);obtain⟨dB,dR,WB,WR,⟨h0,h2,h5,h6,g0,g1⟩,hRI,hWB,hWR,hlo⟩ :=id hO;have hxm:L[m]? =some L[m]:=Z0 (by omega);have hml:m<L.length:=by omega
   have hnm:=hdn m _ hxm hmn;generalize hM:L[m]=r2 at hxm hnm;simp[rW,h0,h2,h5,h6,h7,h9,g0,g1,hmn];refine zaM ?_;simp[rW,h0,h2,h5,h6,h7,h9,g0,g1,hlt,hml,zdv,zet,hx,hA,hxm,hM,rlE,hnm,hwm];refine⟨⟨hO.up ?_ ?_ ?_ ?_ ?_ ?_,?_⟩,?_⟩
   .simp[rW]
   .simp[rW]<;>omega
   .simp[rW]
   .simp[rW]
   .simp[rW]
   .simp[rW]
   .simp[rW,h7]
   .simp[rW,hwm]
  .clear hO h0 h2 h5 h6 g0 g1 hRI hWB hWR hlo h7 dB dR WB WR s;rintro s ⟨⟨hO,h7⟩,h9⟩;simp[rW,h7,h9];exact⟨rfl,hO.up (by simp[rW]) (by simp[rW]) (by simp[rW]) (by simp[rW]) (by simp[rW]) (by simp[rW]),by simp[rW,h7]⟩
  .simp[rW]
  .simp[rW]
  .simp[rW]
  .simp[rW]
  .simp[rW]
  .simp[rW]
  .simp[rW,h7]
  .simp[rW]
  .clear hO h0 h2 h5 h6 g0 g1 hRI hWB hWR hlo h7 dB dR WB WR s;rintro x s ⟨rfl,hO,h7⟩;obtain⟨dB,dR,WB,WR,⟨h0,h2,h5,h6,g0,g1⟩,hRI,hWB,hWR,hlo⟩ :=id hO;simp[rW,h0,h7,hlt,zdv,zet,hx,hA,rlE,hco,hd,qB,zmG];refine zcz B.length (M13 L r B n) (T13 L r B n) ?_ ?_ _ ⟨by simpa using hO.up (by simp[rW]) (by simp[rW]) (by simp[rW]) (by simp[rW]) (by simp[rW]) (by simp[rW]),by simp[rW,h7],by simp[rW],by simp[rW]⟩ ?_
   .clear hO h0 h2 h5 h6 g0 g1 hRI hWB hWR hlo h7 dB dR WB WR s;rintro k s hk ⟨hO,h7,h10,h11⟩;obtain⟨dB,dR,WB,WR,⟨h0,h2,h5,h6,g0,g1⟩,hRI,hWB,hWR,hlo⟩ :=id hO;have hwk:=zaK k (by have:=hG.n;omega);have hBn:=hG.n;have hxb:B[k]? =some B[k]:=Z0 hk;obtain⟨hbl,hbi,-⟩ :=hG.b _ (Z1 hk);have hbz:=hG.z _ (Z1 hk);have hsnB:(B.take (k+1)).map (bP r)=(B.take k).map (bP r)++[bP r B[k]]:=by rw[Z105,hxb,Z20];rfl
    have hsnR:(B.take (k+1)).map (bR n)=(B.take k).map (bR n)++[bR n B[k]]:=by rw[Z105,hxb,Z20];rfl
    generalize hBk:B[k]=b at hxb hbl hbi hbz hsnB hsnR;obtain⟨P,hP⟩ :∃P,P=s.c:=⟨_,rfl⟩
    have nP0:¬(0=P):=by omega
    have nP1:¬(1=P):=by omega
    have nPa:¬(P=0):=by omega
    have nPb:¬(P=1):=by omega
    simp[rW,h0,h2,h5,h6,h7,h10,h11,g0,g1,hk,zdo,<-hP];refine zcz b.length (N13 L r B b n k P s.h dR) (Y13 L r B b n k P s.h dR) ?_ ?_ _ ⟨.f .nils,.f .nils,⟨?_,?_,?_,?_,?_,?_,?_,?_,?_,?_,?_⟩,?_,.inl ⟨rfl,by simp[bP]⟩,.inl ⟨rfl,by simp[bR,rfD]⟩,fun x hx=>by simp[D.oid]at hx,?_⟩ ?_
    .clear hP;have hP2:2<=P:=by omega
     have g0':=g0;have g1':=g1;clear h0 h2 h5 h6 h7 h10 h11 hO;generalize s.h=H0 at*;clear hRI hlo g0 g1;rintro j s hj ⟨db,dr,⟨h0,h2,h5,h6,h7,h10,h11,h12,h13,h14,gP⟩,hfr,hgb,hgr,hne,hPc⟩;have hwj:=zaK j (by omega);have hxi:b[j]? =some b[j]:=Z0 hj;have hib:=hbi _ (Z1 hj);generalize hI:b[j]=i at hxi hib;have hxt:r.tu[i]? =some r.tu[i]:=Z0 hib;have hpT:=hG.k.p _ (Z1 hib);generalize hTt:r.tu[i]=T at hxt hpT;have sP:=zAn hxi hxt;have sR:=zAo (n:=n) hxi;have lP:(bP r (b.take j)).length<=3:=by simp[bP];omega
     have lR:(bR n (b.take j)).length<=3:=by simp[bR];omega
     obtain⟨p0,p1,p2,hpe,d0,d1,d2⟩ :=zaX _ hpT;have qn:=fun k=>zaj (k:=k) (zGn _ hpT)
     have htu:tuF T=[valsF T.1,p0,p1,p2]:=by unfold tuF;rw[hpe]
     rw[hpe]at qn sP;generalize bP r (b.take j)=ps at hgb sP lP;generalize bR n (b.take j)=rs at hgr sR lR;have hix:ixF b= .sl 1 (b.map fun i=>[.i .i64 (i:Nat)]):=rfl;simp[rW,h0,h2,h5,h6,h7,h10,h11,h12,h13,h14,gP,hk,zdo,zgP,hxb,hBk,zgS,hj,hix];refine zaM ?_;simp[rW,h0,h2,h5,h6,h7,h10,h11,h12,h13,h14,gP,hlt,zet,hx,hA,rlE,hk,zdo,zgP,hxb,hBk,hj,hix,hxi,hI,zfZ,hxt,hTt,htu,qn,d0,d1,d2];refine zde (new:=[[D.f p0,D.f p1,D.f p2]]) (zeI hgb ?_ fun _ _ _=>rfl) ?_ ?_ (by omega) ?_
     .omega
     .omega
     .simp;omega
     intro r1 hr1 hr2 hr3 hr4 hr5;refine⟨hr1,?_⟩;have bdb:∀x,db.oid=some x->P+1<=x/\x<s.c:=fun x hx=>zaU hgb hx
     have bdr:∀x,dr.oid=some x->P+1<=x/\x<s.c:=fun x hx=>zaU hgr hx
     have eP:(wrT s.h r1.wr).get P=some (.arr 1 0 [[db]]):=by rw[hr4 P (by omega) (zBx hgb (by omega))];exact gP
     have hPr:P<r1.c+1+1:=by omega
     have hce:=zcN hr2;have hh8:=zpz hgb;simp[rW,eP,hce,hPr,hh8];have hgr2:Gro ((wrT s.h r1.wr).set P (.arr 1 0 [[r1.d]])) (P+1) (r1.c+1+1+1) 2 dr (rfD rs):=zfy hgr (fun Y hY=>by
      have:=bdr Y hY;have i0:¬Y=P:=by omega
      rw[TG,Z49 i0];exact hr4 Y (by omega) fun e=>hne Y e hY) (by omega)
     refine zde (new:=[[D.f (.i .i64 (n:Nat)),D.f (.i .i64 (i:Nat))]]) hgr2 ?_ ?_ ?_ ?_
     .omega
     .simp[rfD];omega
     .omega
     intro r2 hs1 hs2 hs3 hs4 hs5;refine⟨hs1,?_⟩;have hall:∀Y,Y<r1.c->dr.oid≠some Y->¬Y=P->(wrT ((wrT s.h r1.wr).set P (.arr 1 0 [[r1.d]])) r2.wr).get Y=(wrT s.h r1.wr).get Y:=fun Y h1 h2 h3=>by
      rw[hs4 Y (by omega) h2,TG,Z49 h3]
     refine⟨r1.d,r2.d,⟨?_,?_,?_,?_,?_,?_,?_,?_,?_,?_,?_⟩,?_,?_,?_,?_,?_⟩
     .simp[rW,h0]
     .simp[rW,h2]
     .simp[rW,h5]
     .simp[rW,h6]
     .simp[rW,h7]
     .simp[rW,h10]
     .simp[rW,h11]
     .simp[rW,h12]
     .simp[rW]
     .simp[rW,hwj]
     .have:=hs4 P (by omega) (fun e=>by have:=bdr P e;omega);simp[TG]at this;simp[rW,this]
     .intro id hid;have e1:=hall id (by omega) (fun e=>by have:=bdr id e;omega) (by omega);have e2:=hr4 id (by omega) (fun e=>by have:=bdb id e;omega);simp[rW,e1,e2];exact hfr id hid
     .have e1:Gro (wrT ((wrT s.h r1.wr).set P (.arr 1 0 [[r1.d]])) r2.wr) (P+1) r2.c 3 r1.d (ps.map (fun a=>a.map D.f)++[[D.f p0,D.f p1,D.f p2]]):=zfy hr2 (fun Y hY=>by
       have:=zaU hr2 hY;refine hall Y (by omega) (fun e=> ?_) (by omega);have h9:=bdr Y e;rcases hr5 Y hY with h8|h8
       .omega
       .exact hne Y h8 e) (by omega)
      rw[sP,Z20];simp[rW];exact e1
     .have e1:rfD (rs++[(n,i)])=rfD rs++[[D.f (.i .i64 (n:Nat)),D.f (.i .i64 (i:Nat))]]:=by simp[rfD]
      rw[sR,e1];simp[rW];exact hs2
     .intro x hx e;rcases hr5 x hx with h8|h8
      .rcases hs5 x e with h9|h9
       .omega
       .have:=bdr x h9;omega
      .have:=bdb x h8;rcases hs5 x e with h9|h9
       .omega
       .exact hne x h8 h9
     .simp[rW]<;>omega
    .clear hP;have hP2:2<=P:=by omega
     clear h0 h2 h5 h6 h7 h10 h11 hO;generalize s.h=H0 at*;rintro s ⟨db,dr,⟨h0,h2,h5,h6,h7,h10,h11,h12,h13,h14,gP⟩,hfr,hgb,hgr,hne,hPc⟩;rw[Z7]at hgb hgr;have hix:ixF b= .sl 1 (b.map fun i=>[.i .i64 (i:Nat)]):=rfl;simp[rW,h0,h2,h5,h6,h7,h10,h11,h12,h13,h14,gP,hk,zdo,zgP,hxb,hBk,zgS,hix];exact⟨rfl,db,dr,⟨by simp[rW,h0],by simp[rW,h2],by simp[rW,h5],by simp[rW,h6],by simp[rW,h7],by simp[rW,h10],by simp[rW,h11],by simp[rW,h12],by simp[rW,h13],by simp[rW,h14],by simp[rW,gP]⟩,by simp[rW];exact hfr,by simp[rW];exact hgb,by simp[rW];exact hgr,hne,by simp[rW,hPc]⟩
    .simp[rW,h0]
    .simp[rW,h2]
    .simp[rW,h5]
    .simp[rW,h6]
    .simp[rW,h7]
    .simp[rW,h10]
    .simp[rW,h11]
    .simp[rW]
    .simp[rW]
    .simp[rW]
    .simp[rW]
    .intro id hid;have i0:¬id=P:=by omega
     simp[rW,i0]
    .simp[rW]
    .clear h0 h2 h5 h6 h7 h10 h11 hO;have hP2:2<=P:=by omega
     rw[<-hP]at hRI;clear hP;generalize s.h=H0 at*;clear hlo s;rintro x s ⟨rfl,db,dr,⟨h0,h2,h5,h6,h7,h10,h11,h12,h13,h14,gP⟩,hfr,hgb,hgr,hne,hPc⟩;rw[Z7]at hgb hgr;have g0':=(hfr 0 (by omega)).trans g0;have g1':=(hfr 1 (by omega)).trans g1;have hR1:zdL 2 s.h s.c dB dR WB WR:=hRI.up (fun id _ h=>hfr id h) (by omega);have lWB:WB.length<=30:=by
      have h1:=congrArg List.length hWB;have h2:=zib hL;have h3:(spL (L.take n)).length<=(spL L).length:=by
       have e:=congrArg (fun M=>(spL M).length) (Z94 n L);simp only[spL,Z183,Z16]at e|-;omega
      simp only[Z18,Z16,Z41]at h1;omega
     have lWR:WR.length<=30:=by
      have h0:=congrArg List.length hWB;have h1:=congrArg List.length hWR;have h2:=congrArg List.length (zmw (L.take n) 0);simp only[Z18,Z16,rfL]at h0 h1 h2;omega
     have np:bP r b≠[]:=by simpa [bP]using hbz
     have nr:bR n b≠[]:=by simpa [bR]using hbz
     generalize bP r b=ps at hgb hsnB np;generalize bR n b=rs at hgr hsnR nr;rw[zGK]at hgr;have ob:Own s.h 2 s.c db (slc 3 ps):=zqU hgb (by omega);have or':Own s.h 2 s.c dr (rfE rs):=zqU hgr (by omega);have n1:NE dB db:=zhP (fun x hx=>(zaU hRI.gB hx).2) fun x hx=>by have:=zaU hgb hx;omega
     have n2:NE dR db:=zhP (fun x hx=>(zaU hRI.gR hx).2) fun x hx=>by have:=zaU hgb hx;omega
     have n3:NE dB dr:=zhP (fun x hx=>(zaU hRI.gB hx).2) fun x hx=>by have:=zaU hgr hx;omega
     have n4:NE dR dr:=zhP (fun x hx=>(zaU hRI.gR hx).2) fun x hx=>by have:=zaU hgr hx;omega
     have cb:=zcN hgb;have cr:=zcN hgr;have hd1:∀x,dB.oid=some x->2<=x/\x<P:=fun x hx=>zaU hRI.gB hx
     have hd2:∀x,dR.oid=some x->2<=x/\x<P:=fun x hx=>zaU hRI.gR hx
     have hB8:=zpz hRI.gB;rcases hgb with⟨-,he⟩ |⟨ib,rb,rfl,hn0,gb,hb1,hb2,hb3⟩
     .exact absurd (by simpa using he) np
     rcases hgr with⟨-,he⟩ |⟨ir,rr,rfl,hm0,gr,hc1,hc2,hc3⟩
     .exact absurd (by simpa using he) nr
     simp only[Z18]at gP ob n1 n2 n3 n4 cb cr hne or' h13;simp[rW,h0,h2,h5,h6,h7,h10,h11,h12,h13,h14,gP,g1',zkT];have hR2:zdL 2 (s.h.set s.c (.arr 1 0 [[.sl ib 0 ps.length 3 ps.length false]])) (s.c+1) dB dR WB WR:=hR1.up (fun id _ h2=>by
      have i0:¬id=s.c:=by omega
      simp[TG,i0]) (by omega)
     have ob2:Own (s.h.set s.c (.arr 1 0 [[.sl ib 0 ps.length 3 ps.length false]])) 2 (s.c+1) (.sl ib 0 ps.length 3 ps.length false) (slc 3 ps):=ob.up (fun x hx=>by
      simp only[D.oid,Z45]at hx;have i0:¬x=s.c:=by omega
      simp[TG,i0]) (Z2 _) (by omega)
     refine zde (new:=[[.sl ib 0 ps.length 3 ps.length false]]) hR2.gB (by omega) (by simp;omega) ?_ ?_
     .omega
     intro r1 hr1 hr2 hr3 hr4 hr5;refine⟨hr1,?_⟩;have hR3:=zGL hR2 ob2 n1 n2 hr2 hr3 hr4 hr5;have e1:=hr4 1 (by omega) (fun e=>by have:=hd1 1 e;omega);have e0:=hr4 0 (by omega) (fun e=>by have:=hd1 0 e;omega);have er:=hr4 ir (by omega) (fun e=>n3 ir e rfl);have ns0:¬0=s.c:=by omega
     have ns1:¬1=s.c:=by omega
     have nsr:¬ir=s.c:=by omega
     simp only[TG,ns0,ns1,nsr,Z63,g0',g1',gr]at e0 e1 er;have h1r:1<r1.c:=by omega
     simp[rW,e1,zcN hr2,hB8,h1r,zkT];have hR4:zdL 2 (((wrT (s.h.set s.c (.arr 1 0 [[.sl ib 0 ps.length 3 ps.length false]])) r1.wr).set 1 (.arr 1 0 [[r1.d]])).set r1.c (.arr 1 0 [[.sl ir 0 rs.length 2 rs.length false]])) (r1.c+1) r1.d dR (WB++[(.sl ib 0 ps.length 3 ps.length false,ps)]) WR:=hR3.up (fun id h1 h2=>by
      have i0:¬id=1:=by omega
      have i1:¬id=r1.c:=by omega
      simp[TG,i0,i1]) (by omega)
     have or2:Own (((wrT (s.h.set s.c (.arr 1 0 [[.sl ib 0 ps.length 3 ps.length false]])) r1.wr).set 1 (.arr 1 0 [[r1.d]])).set r1.c (.arr 1 0 [[.sl ir 0 rs.length 2 rs.length false]])) 2 (r1.c+1) (.sl ir 0 rs.length 2 rs.length false) (rfE rs):=or'.up (fun x hx=>by
      simp only[D.oid,Z45]at hx;subst hx;have i0:¬ir=1:=by omega
      have i1:¬ir=r1.c:=by omega
      simp only[TG,i0,i1,Z63,er,gr]) (Z2 _) (by omega)
     refine zde (new:=[[.sl ir 0 rs.length 2 rs.length false]]) hR4.gR (by omega) (by simp;omega) ?_ ?_
     .omega
     intro r2 hs1 hs2 hs3 hs4 hs5;refine⟨hs1,?_⟩;have hR5:=zGN hR4 or2 (fun x hx e=>by
      simp only[D.oid,Z45]at e;rcases hr5 x hx with h8|h8
      .omega
      .have:=hd1 x h8;omega) n4 hs2 hs3 hs4 hs5
     have f0:=hs4 0 (by omega) (fun e=>by have:=hd2 0 e;omega);have f1:=hs4 1 (by omega) (fun e=>by have:=hd2 1 e;omega);have nr0:¬0=r1.c:=by omega
     have nr1:¬1=r1.c:=by omega
     simp[TG,e0,nr0,nr1]at f0 f1;refine⟨⟨r1.d,r2.d,WB++[(.sl ib 0 ps.length 3 ps.length false,ps)],WR++[(.sl ir 0 rs.length 2 rs.length false,rs)],⟨?_,?_,?_,?_,?_,?_⟩,?_,by rw[Z20,hWB,hsnB,Z32];rfl,by rw[Z20,hWR,hsnR,Z32];rfl,?_⟩,?_,?_,?_⟩
     .simp[rW,h0]
     .simp[rW,h2]
     .simp[rW,h5]
     .simp[rW]
     .simp[rW,f0]
     .simp[rW,f1]
     .simp[rW];exact hR5
     .simp[rW]<;>omega
     .simp[rW,h7]
     .simp[rW,h10]
     .simp[rW,hwk]
   .rintro s ⟨hO,h7,h10,h11⟩;rw[Z7]at hO;simp[rW,h10,h11,zdo];exact⟨rfl,hO.up (by simp[rW]) (by simp[rW]) (by simp[rW]) (by simp[rW]) (by simp[rW]) (by simp[rW]),by simp[rW,h7]⟩
   .rintro x s ⟨rfl,hO,h7⟩;rw[<-es,<-er]at hO;simp[rW,h7,hw];exact⟨hO.up (by simp[rW]) (by simp[rW]) (by simp[rW]) (by simp[rW]) (by simp[rW]) (by simp[rW]),by simp[rW,hw]⟩
 .rintro s ⟨hO,h7⟩;rw[Z7]at hO;obtain⟨dB,dR,WB,WR,⟨h0,h2,h5,h6,g0,g1⟩,hRI,hWB,hWR,hlo⟩ :=id hO;simp[rW,h0,h7,zdv];exact⟨rfl,hO.up (by simp[rW]) (by simp[rW]) (by simp[rW]) (by simp[rW]) (by simp[rW]) (by simp[rW])⟩
 .simp[rW]
 .simp[rW]
 .simp[rW]
 .simp[rW]
 .simp[rW]
 .simp[rW]
 .simp[rW]
 .simp[rW]
 .rintro x s ⟨rfl,dB,dR,WB,WR,⟨h0,h2,h5,h6,g0,g1⟩,hRI,hWB,hWR,hlo⟩;have hc0:0<s.c:=by omega
  simp[rW,h0,h2,h5,h6,g0,g1,hc0,zcN hRI.gB,rd_3];have hR2:zdL 2 (s.h.set 0 (.arr 1 0 [[dB]])) s.c dB dR WB WR:=hRI.up (fun id h1 _=>by
   have i0:¬id=0:=by omega
   simp[TG,i0]) (Z2 _)
  obtain⟨⟨r1,k1⟩,-⟩ :=hR2.frz 7;obtain⟨-,r2,k2⟩ :=hR2.frz 8;have k1:frz (s.h.set 0 (.arr 1 0 [[dB]])).get 10 dB=some (spF (WB.map (·.2)),r1):=k1;have k2:frz (s.h.set 0 (.arr 1 0 [[dB]])).get 11 dR=some (rfF (WR.map (·.2)),r2):=k2;rw[k1,k2,hWB,hWR];rfl
end Go.Proofs.YtlinkhjnihjbaaaGreatDoor
end
