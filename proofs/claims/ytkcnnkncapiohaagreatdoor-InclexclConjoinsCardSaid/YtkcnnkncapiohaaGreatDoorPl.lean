/- Relations. -/
import Derived.Test.YtkcnnkncapiohaaGreatDoorPk
import Derived.KernelRfl
import Derived.IntWalk
import Derived.Test.YtkcnnkncapiohaaGreatDoorPg
import Derived.Test.YtkcnnkncapiohaaGreatDoorPd
set_option linter.all false
set_option maxRecDepth 100000
set_option maxHeartbeats 4000000
noncomputable section
section
namespace Go.Proofs.YtkcnnkncapiohaaGreatDoor
open Go Go.Vse Go.Vse.Sm
def fn22:pr.fn 22=some g22:=by kernel_rfl
def lo4:C:=(.seq (.seq (.reg [⟨(some 14),none,.mv (.t 5)⟩,⟨(some 15),none,.mv (.t 4)⟩,⟨(some 16),none,.len (.t 15)⟩,⟨(some 17),none,.bin .lss (.t 14) (.t 16)⟩])
 (.cond (.t 17) (.skip) (.exit 0)))
 (.seq (.blk 1 (.seq (.reg [⟨(some 20),none,.mv (.t 4)⟩,⟨(some 21),none,.mv (.t 5)⟩,⟨(some 22),none,.ia 3 (.t 20) (.t 21)⟩,⟨(some 23),none,.ld true 3 (.t 22)⟩,⟨(some 24),none,.bld [.s [],.b false,.nils,.nils] [(0,3,(.t 23))]⟩,⟨(some 6),none,.new [.s [],.b false,.nils,.nils]⟩,⟨none,none,.st 4 (.t 6) (.t 24)⟩])
 (.seq (.seq (.reg [⟨(some 7),none,.mv (.k (.i .i64 0))⟩])
 (.blk 2 (.loop (.seq (.seq (.reg [⟨(some 25),none,.mv (.t 7)⟩,⟨(some 26),none,.mv (.t 0)⟩,⟨(some 27),none,.mv (.t 5)⟩,⟨(some 28),none,.callp 28 [(.t 26),(.t 27)]⟩,⟨(some 29),none,.bin .rem (.t 28) (.k (.i .i64 4))⟩,⟨(some 30),none,.bin .lss (.t 25) (.t 29)⟩,⟨(some 31),none,.mv (.t 30)⟩,⟨(some 32),(some (31,true)),.mv (.t 5)⟩,⟨(some 33),(some (31,true)),.bin .eql (.t 32) (.k (.i .i64 1))⟩,⟨(some 34),(some (31,true)),.mv (.t 33)⟩,⟨(some 35),(some (34,true)),.mv (.t 7)⟩,⟨(some 36),(some (34,true)),.bin .eql (.t 35) (.k (.i .i64 2))⟩,⟨(some 37),(some (31,true)),.pick (.t 34) (.t 36) (.k (.b false))⟩,⟨(some 38),(some (31,true)),.un .not (.t 37)⟩,⟨(some 39),none,.pick (.t 31) (.t 38) (.k (.b false))⟩])
 (.cond (.t 39) (.skip) (.exit 2)))
 (.seq (.blk 3 (.seq (.reg [⟨(some 42),none,.mv (.t 0)⟩,⟨(some 43),none,.mv (.t 5)⟩,⟨(some 44),none,.bin .mul (.k (.i .i64 3)) (.t 43)⟩,⟨(some 45),none,.bin .add (.k (.i .i64 4)) (.t 44)⟩,⟨(some 46),none,.mv (.t 7)⟩,⟨(some 47),none,.bin .add (.t 45) (.t 46)⟩,⟨(some 48),none,.callp 28 [(.t 42),(.t 47)]⟩,⟨(some 8),none,.mv (.t 48)⟩])
 (.seq (.reg [⟨(some 49),none,.mv (.t 8)⟩,⟨(some 50),none,.bin .shr (.t 49) (.k (.i .u64 4))⟩,⟨(some 51),none,.callp 52 [(.t 50)]⟩,⟨(some 52),none,.bld [.nils,.b false,.nils,.nils] [(1,3,(.t 51))]⟩,⟨(some 9),none,.new [.nils,.b false,.nils,.nils]⟩,⟨none,none,.st 4 (.t 9) (.t 52)⟩])
 (.seq (.seq (.reg [⟨(some 53),none,.mv (.t 4)⟩,⟨(some 54),none,.mv (.t 5)⟩,⟨(some 55),none,.ia 3 (.t 53) (.t 54)⟩,⟨(some 56),none,.fa 1 (.t 55)⟩,⟨(some 57),none,.ld false 1 (.t 56)⟩])
 (.cond (.t 57) (.reg [⟨(some 58),none,.callp 42 [(.k (.i .i64 1))]⟩,⟨(some 59),none,.fa 1 (.t 9)⟩,⟨none,none,.st 3 (.t 59) (.t 58)⟩]) (.skip)))
 (.seq (.seq (.reg [⟨(some 10),none,.mv (.k (.i .i64 0))⟩])
 (.blk 4 (.loop (.seq (.seq (.reg [⟨(some 60),none,.mv (.t 10)⟩,⟨(some 61),none,.mv (.t 4)⟩,⟨(some 62),none,.mv (.t 5)⟩,⟨(some 63),none,.ia 3 (.t 61) (.t 62)⟩,⟨(some 64),none,.fa 2 (.t 63)⟩,⟨(some 65),none,.ld false 1 (.t 64)⟩,⟨(some 66),none,.len (.t 65)⟩,⟨(some 67),none,.bin .lss (.t 60) (.t 66)⟩])
 (.cond (.t 67) (.skip) (.exit 4)))
 (.seq (.blk 5 (.seq (.dreg [(⟨(some 70),none,.fa 0 (.t 9)⟩,0),(⟨(some 71),none,.ld false 1 (.t 70)⟩,0),(⟨(some 72),none,.mv (.t 8)⟩,3),(⟨(some 73),none,.bin .rem (.t 72) (.k (.i .i64 3))⟩,3),(⟨(some 74),none,.bin .add (.k (.i .i64 1)) (.t 73)⟩,3),(⟨(some 75),none,.callp 53 [(.t 74)]⟩,3),(⟨(some 76),none,.bsf 3 [.i .i64 0,.i .i64 0,.s []] 1 [(0,(.t 75))]⟩,3),(⟨(some 77),none,.app 3 32 (.t 71) (.t 76)⟩,0),(⟨(some 78),none,.fa 0 (.t 9)⟩,0),(⟨none,none,.st 1 (.t 78) (.t 77)⟩,0)])
 (.reg [⟨(some 79),none,.mv (.t 8)⟩,⟨(some 80),none,.bin .quo (.t 79) (.k (.i .i64 3))⟩,⟨(some 8),none,.mv (.t 80)⟩])))
 (.reg [⟨(some 68),none,.mv (.t 10)⟩,⟨(some 69),none,.bin .add (.t 68) (.k (.i .i64 1))⟩,⟨(some 10),none,.mv (.t 69)⟩]))))))
 (.seq (.reg [⟨(some 82),none,.ld true 4 (.t 6)⟩,⟨(some 83),none,.ld true 4 (.t 9)⟩,⟨(some 84),none,.callp 54 [(.t 82),(.t 83)]⟩,⟨(some 81),none,.mv (.t 84)⟩,⟨(some 85),none,.ext (.t 81) 0⟩,⟨(some 86),none,.ext (.t 81) 1⟩,⟨(some 11),none,.new [.s [],.b false,.nils,.nils]⟩,⟨none,none,.st 4 (.t 11) (.t 85)⟩,⟨(some 12),none,.mv (.t 86)⟩])
 (.seq (.reg [⟨(some 87),none,.mv (.t 12)⟩,⟨(some 88),none,.bin .eql (.t 87) (.k (.i .i64 0))⟩])
 (.cond (.t 88) (.reg [⟨(some 89),none,.ld true 4 (.t 11)⟩,⟨none,none,.st 4 (.t 6) (.t 89)⟩]) (.skip)))))))))
 (.reg [⟨(some 40),none,.mv (.t 7)⟩,⟨(some 41),none,.bin .add (.t 40) (.k (.i .i64 1))⟩,⟨(some 7),none,.mv (.t 41)⟩]))))))
 (.reg [⟨(some 90),none,.mv (.t 3)⟩,⟨(some 91),none,.ld true 4 (.t 6)⟩,⟨(some 92),none,.bsf 4 [.s [],.b false,.nils,.nils] 1 [(0,(.t 91))]⟩,⟨(some 93),none,.app 4 72 (.t 90) (.t 92)⟩,⟨(some 3),none,.mv (.t 93)⟩]))))
 (.reg [⟨(some 18),none,.mv (.t 5)⟩,⟨(some 19),none,.bin .add (.t 18) (.k (.i .i64 1))⟩,⟨(some 5),none,.mv (.t 19)⟩])))
def rlG(L:List Rl):List (List D):=L.map fun r=>(rlF r).map D.f
def zOB(h:Nat->Option Ob)(k:Nat)(L:List Rl):zaU (frz h (k+1)) (rlG L)=some (L.map rlF,[]):=by
 have:=zhO h k (L.map rlF)
 rwa[Z33]at this
def OB(x:F)(i:Int)(L:List Rl)(S:St):Prop:=S.tm.get 0=some (.f x)/\S.tm.get 4=some (.f (.sl 3 zdK))/\S.tm.get 5=some (.f (.i .i64 i))/\∃dO,S.tm.get 3=some dO/\Grow S.h 0 S.c 4 dO (rlG L)
def zST(x:F)(hx:zc1 x)(hxd:x.d= .f x)(L:List Rl)(hL:L.length<10)(S:St)(Q:Ex->St->Prop)(hS:OB x 0 L S)(hQ:∀S' tu,tu.length<=3->(∀t∈tu,TuR t)->OB x 1 (L++[rR tu]) S'->WL pr lo4 S' Q):WL pr lo4 S Q:=by
 unfold lo4 at hQ|-;obtain⟨h0,h4,h5,dO,h3,hg⟩ :=hS;have hs:zdK[0]? =some [.s [82],.b false,coR]:=rfl;have hs2:∀h:0<zdK.length,zdK[0]=[.s [82],.b false,coR]:=fun _=>rfl
 have hsl:zdK.length=4:=rfl;have hcd:coR.d= .f coR:=rfl;have hcc:(D.f coR).cells=some [.f coR]:=rfl;have hw:IntKind.i64.wrap 1=1:=rfl;refine round ?_;simp -implicitDefEqProofs [zaR,rR,apO,h0,h4,h5,h3,hs,hs2,hsl,hcd,hcc];refine zbS (KI [82] false coR TuR 0 x S.c dO (rlG L)) (KR [82] false coR TuR 0 x S.c dO (rlG L)) (stepR x hx hxd S.c dO (rlG L)) 3 _ ⟨0,[],by omega,rfl,by simp,?_,by simp,?_,?_,?_,?_,?_,?_,?_,?_⟩ ?_
 any_goals (simp -implicitDefEqProofs [zaR,rR,apO,h0,h4,h5,h3,hcd];done)
 any_goals (simp -implicitDefEqProofs [zaR,rR,apO,h0,h4,h5,h3,hcd,Z85,zbX];done)
 .simp only[zbt,zcp,zco,zbk,zcf,zcc,zbr,zcn,zcm,zbu,zcs,zcr,za4,zbn,zbl,zcu,zcw,zct];refine zeM hg ?_ (Z2 _);intro j hj
  repeat first|rw[TG,Z49 (by omega)]|rw[Vse.T.zbU,Z49 (by omega)]
 .rintro e S' ⟨rfl,tu,htl,hT,h0,h4,h5,h6,h3,g,hg,hc⟩;simp -implicitDefEqProofs [zC6,Z67,Z79,zra,zq0,zq3,zqZ,zqV,zqW,zqU,zq4,zq7,zq9,zq5,zrh,zri,zre,h0,h4,h5,h6,h3,g,hcd,hcc];refine zn4 (new:=[(rlF (rR tu)).map D.f]) (zeM hg (fun _ _=>rfl) (Z110 hc)) (Z61 _) (by simp[rlG];omega) (by omega) ?_;intro r hr1 hr2 hr3 _;refine⟨hr1,?_⟩;simp -implicitDefEqProofs [zaR,rR,apO,h5,hw];refine hQ _ tu htl hT ⟨?_,?_,?_,r.d,?_,?_⟩
  any_goals (simp -implicitDefEqProofs [zaR,rR,apO,h0,h4,h5,h3];done)
  simp only[zbt,zcp,zco,zbk,zcf,zcc,zbr,zcn,zcm,zbu,zcs,zcr,za4,zbn,zbl,zcu,zcw,zct];have e:rlG (L++[rR tu])=rlG L++[(rlF (rR tu)).map D.f]:=by simp[rlG]
  rw[e];exact hr2
def zSU(x:F)(hx:zc1 x)(hxd:x.d= .f x)(L:List Rl)(hL:L.length<10)(S:St)(Q:Ex->St->Prop)(hS:OB x 1 L S)(hQ:∀S' tu,tu.length<=3->(∀t∈tu,TuS t)->OB x 2 (L++[rS tu]) S'->WL pr lo4 S' Q):WL pr lo4 S Q:=by
 unfold lo4 at hQ|-;obtain⟨h0,h4,h5,dO,h3,hg⟩ :=hS;have hs:zdK[1]? =some [.s [83],.b false,coS]:=rfl;have hs2:∀h:1<zdK.length,zdK[1]=[.s [83],.b false,coS]:=fun _=>rfl
 have hsl:zdK.length=4:=rfl;have hcd:coS.d= .f coS:=rfl;have hcc:(D.f coS).cells=some [.f coS]:=rfl;have hw:IntKind.i64.wrap 2=2:=rfl;refine round ?_;simp -implicitDefEqProofs [zaR,rR,apO,h0,h4,h5,h3,hs,hs2,hsl,hcd,hcc];refine zbS (KI [83] false coS TuS 1 x S.c dO (rlG L)) (KR [83] false coS TuS 1 x S.c dO (rlG L)) (stepS x hx hxd S.c dO (rlG L)) 3 _ ⟨0,[],by omega,rfl,by simp,?_,by simp,?_,?_,?_,?_,?_,?_,?_,?_⟩ ?_
 any_goals (simp -implicitDefEqProofs [zaR,rR,apO,h0,h4,h5,h3,hcd];done)
 any_goals (simp -implicitDefEqProofs [zaR,rR,apO,h0,h4,h5,h3,hcd,Z85,zbX];done)
 .simp only[zbt,zcp,zco,zbk,zcf,zcc,zbr,zcn,zcm,zbu,zcs,zcr,za4,zbn,zbl,zcu,zcw,zct];refine zeM hg ?_ (Z2 _);intro j hj
  repeat first|rw[TG,Z49 (by omega)]|rw[Vse.T.zbU,Z49 (by omega)]
 .rintro e S' ⟨rfl,tu,htl,hT,h0,h4,h5,h6,h3,g,hg,hc⟩;simp -implicitDefEqProofs [zC6,Z67,Z79,zra,zq0,zq3,zqZ,zqV,zqW,zqU,zq4,zq7,zq9,zq5,zrh,zri,zre,h0,h4,h5,h6,h3,g,hcd,hcc];refine zn4 (new:=[(rlF (rS tu)).map D.f]) (zeM hg (fun _ _=>rfl) (Z110 hc)) (Z61 _) (by simp[rlG];omega) (by omega) ?_;intro r hr1 hr2 hr3 _;refine⟨hr1,?_⟩;simp -implicitDefEqProofs [zaR,rR,apO,h5,hw];refine hQ _ tu htl hT ⟨?_,?_,?_,r.d,?_,?_⟩
  any_goals (simp -implicitDefEqProofs [zaR,rR,apO,h0,h4,h5,h3];done)
  simp only[zbt,zcp,zco,zbk,zcf,zcc,zbr,zcn,zcm,zbu,zcs,zcr,za4,zbn,zbl,zcu,zcw,zct];have e:rlG (L++[rS tu])=rlG L++[(rlF (rS tu)).map D.f]:=by simp[rlG]
  rw[e];exact hr2
def zSS(x:F)(hx:zc1 x)(hxd:x.d= .f x)(L:List Rl)(hL:L.length<10)(S:St)(Q:Ex->St->Prop)(hS:OB x 2 L S)(hQ:∀S' tu,tu.length<=3->(∀t∈tu,TuK t)->OB x 3 (L++[rK tu]) S'->WL pr lo4 S' Q):WL pr lo4 S Q:=by
 unfold lo4 at hQ|-;obtain⟨h0,h4,h5,dO,h3,hg⟩ :=hS;have hs:zdK[2]? =some [.s [75],.b false,coK]:=rfl;have hs2:∀h:2<zdK.length,zdK[2]=[.s [75],.b false,coK]:=fun _=>rfl
 have hsl:zdK.length=4:=rfl;have hcd:coK.d= .f coK:=rfl;have hcc:(D.f coK).cells=some [.f coK]:=rfl;have hw:IntKind.i64.wrap 3=3:=rfl;refine round ?_;simp -implicitDefEqProofs [zaR,rR,apO,h0,h4,h5,h3,hs,hs2,hsl,hcd,hcc];refine zbS (KI [75] false coK TuK 2 x S.c dO (rlG L)) (KR [75] false coK TuK 2 x S.c dO (rlG L)) (stepK x hx hxd S.c dO (rlG L)) 3 _ ⟨0,[],by omega,rfl,by simp,?_,by simp,?_,?_,?_,?_,?_,?_,?_,?_⟩ ?_
 any_goals (simp -implicitDefEqProofs [zaR,rR,apO,h0,h4,h5,h3,hcd];done)
 any_goals (simp -implicitDefEqProofs [zaR,rR,apO,h0,h4,h5,h3,hcd,Z85,zbX];done)
 .simp only[zbt,zcp,zco,zbk,zcf,zcc,zbr,zcn,zcm,zbu,zcs,zcr,za4,zbn,zbl,zcu,zcw,zct];refine zeM hg ?_ (Z2 _);intro j hj
  repeat first|rw[TG,Z49 (by omega)]|rw[Vse.T.zbU,Z49 (by omega)]
 .rintro e S' ⟨rfl,tu,htl,hT,h0,h4,h5,h6,h3,g,hg,hc⟩;simp -implicitDefEqProofs [zC6,Z67,Z79,zra,zq0,zq3,zqZ,zqV,zqW,zqU,zq4,zq7,zq9,zq5,zrh,zri,zre,h0,h4,h5,h6,h3,g,hcd,hcc];refine zn4 (new:=[(rlF (rK tu)).map D.f]) (zeM hg (fun _ _=>rfl) (Z110 hc)) (Z61 _) (by simp[rlG];omega) (by omega) ?_;intro r hr1 hr2 hr3 _;refine⟨hr1,?_⟩;simp -implicitDefEqProofs [zaR,rR,apO,h5,hw];refine hQ _ tu htl hT ⟨?_,?_,?_,r.d,?_,?_⟩
  any_goals (simp -implicitDefEqProofs [zaR,rR,apO,h0,h4,h5,h3];done)
  simp only[zbt,zcp,zco,zbk,zcf,zcc,zbr,zcn,zcm,zbu,zcs,zcr,za4,zbn,zbl,zcu,zcw,zct];have e:rlG (L++[rK tu])=rlG L++[(rlF (rK tu)).map D.f]:=by simp[rlG]
  rw[e];exact hr2
def zSR(x:F)(hx:zc1 x)(hxd:x.d= .f x)(L:List Rl)(hL:L.length<10)(S:St)(Q:Ex->St->Prop)(hS:OB x 3 L S)(hQ:∀S' tu,tu.length<=3->(∀t∈tu,TuC t)->OB x 4 (L++[rC tu]) S'->WL pr lo4 S' Q):WL pr lo4 S Q:=by
 unfold lo4 at hQ|-;obtain⟨h0,h4,h5,dO,h3,hg⟩ :=hS;have hs:zdK[3]? =some [.s [67],.b true,coC]:=rfl;have hs2:∀h:3<zdK.length,zdK[3]=[.s [67],.b true,coC]:=fun _=>rfl
 have hsl:zdK.length=4:=rfl;have hcd:coC.d= .f coC:=rfl;have hcc:(D.f coC).cells=some [.f coC]:=rfl;have hw:IntKind.i64.wrap 4=4:=rfl;refine round ?_;simp -implicitDefEqProofs [zaR,rR,apO,h0,h4,h5,h3,hs,hs2,hsl,hcd,hcc];refine zbS (KI [67] true coC TuC 3 x S.c dO (rlG L)) (KR [67] true coC TuC 3 x S.c dO (rlG L)) (stepC x hx hxd S.c dO (rlG L)) 3 _ ⟨0,[],by omega,rfl,by simp,?_,by simp,?_,?_,?_,?_,?_,?_,?_,?_⟩ ?_
 any_goals (simp -implicitDefEqProofs [zaR,rR,apO,h0,h4,h5,h3,hcd];done)
 any_goals (simp -implicitDefEqProofs [zaR,rR,apO,h0,h4,h5,h3,hcd,Z85,zbX];done)
 .simp only[zbt,zcp,zco,zbk,zcf,zcc,zbr,zcn,zcm,zbu,zcs,zcr,za4,zbn,zbl,zcu,zcw,zct];refine zeM hg ?_ (Z2 _);intro j hj
  repeat first|rw[TG,Z49 (by omega)]|rw[Vse.T.zbU,Z49 (by omega)]
 .rintro e S' ⟨rfl,tu,htl,hT,h0,h4,h5,h6,h3,g,hg,hc⟩;simp -implicitDefEqProofs [zC6,Z67,Z79,zra,zq0,zq3,zqZ,zqV,zqW,zqU,zq4,zq7,zq9,zq5,zrh,zri,zre,h0,h4,h5,h6,h3,g,hcd,hcc];refine zn4 (new:=[(rlF (rC tu)).map D.f]) (zeM hg (fun _ _=>rfl) (Z110 hc)) (Z61 _) (by simp[rlG];omega) (by omega) ?_;intro r hr1 hr2 hr3 _;refine⟨hr1,?_⟩;simp -implicitDefEqProofs [zaR,rR,apO,h5,hw];refine hQ _ tu htl hT ⟨?_,?_,?_,r.d,?_,?_⟩
  any_goals (simp -implicitDefEqProofs [zaR,rR,apO,h0,h4,h5,h3];done)
  simp only[zbt,zcp,zco,zbk,zcf,zcc,zbr,zcn,zcm,zbu,zcs,zcr,za4,zbn,zbl,zcu,zcw,zct];have e:rlG (L++[rC tu])=rlG L++[(rlF (rC tu)).map D.f]:=by simp[rlG]
  rw[e];exact hr2
def zP3(y:F):Prop:=∃a b c d,(a.length<=3/\∀t∈a,TuR t)/\(b.length<=3/\∀t∈b,TuS t)/\(c.length<=3/\∀t∈c,TuK t)/\(d.length<=3/\∀t∈d,TuC t)/\y=slc 4 ([rR a,rS b,rK c,rC d].map rlF)
def ans22(x:F)(hx:zc1 x)(hxd:x.d= .f x):∃a b c d,(a.length<=3/\∀t∈a,TuR t)/\(b.length<=3/\∀t∈b,TuS t)/\(c.length<=3/\∀t∈c,TuK t)/\(d.length<=3/\∀t∈d,TuC t)/\Ans pr 22 [x] (slc 4 ([rR a,rS b,rK c,rC d].map rlF)):=by
 have main:∃y,zP3 y/\Ans pr 22 [x] y:=by
  refine zdR fn22 ?_;have q13:=fun k=>zad (k:=k) ans51
  have hsl:zdK.length=4:=rfl;simp only[g22,rU];simp -implicitDefEqProofs [zaR,rR,apO,st0,zal,hxd,q13];refine zST x hx hxd [] (by simp) _ _ ⟨?_,?_,?_,.f .nils,?_,Grow.nil⟩ ?_
  any_goals (simp -implicitDefEqProofs [zaR,rR,apO,zal];done)
  intro S1 a ha1 ha2 h1;refine zSU x hx hxd _ (by simp) _ _ h1 ?_;intro S2 b hb1 hb2 h2;refine zSS x hx hxd _ (by simp) _ _ h2 ?_;intro S3 c hc1 hc2 h3;refine zSR x hx hxd _ (by simp) _ _ h3 ?_;rintro S4 d hd1 hd2 ⟨h0,h4,h5,dO,h3,hg⟩;unfold lo4;refine round ?_;obtain⟨rd,hf⟩ :=zHO (k:=11) hg (zOB _ 10 _);simp -implicitDefEqProofs [zaR,rR,apO,h0,h4,h5,h3,hsl,hf];exact⟨a,b,c,d,⟨ha1,ha2⟩,⟨hb1,hb2⟩,⟨hc1,hc2⟩,⟨hd1,hd2⟩,rfl⟩
 obtain⟨y,⟨a,b,c,d,h1,h2,h3,h4,rfl⟩,ha⟩ :=main;exact⟨a,b,c,d,h1,h2,h3,h4,ha⟩
def fn5:pr.fn 5=some g5:=by kernel_rfl
def RQx(h:T Ob)(lo c:Nat)(dA dC:D)(q:CQ):Prop:=∃xs,AsD h lo c dA q.as xs/\Gro h lo c 9 dC (q.cs.map cmD)/\∀Y,dC.oid=some Y->Y∉xs/\dA.oid≠some Y
def zFJ{h:T Ob}{lo c:Nat}{dA dC:D}{q:CQ}(H:RQx h lo c dA dC q):RdQ h c dA dC q:=by
 obtain⟨xs,hA,hC,hY⟩ :=H;have hz:(List.zipWith atR q.as xs).length=q.as.length:=by rw[Z84,hA.ln,Z121]
 refine⟨zbW hA.gr,zbW hC,by rw[Go.Vse.zfD hA.gr,hz],by rw[Go.Vse.zfD hC,Z18],fun n hn=> ?_,fun n hn=> ?_⟩
 .have hx:n<xs.length:=by rw[hA.ln];exact hn
  obtain⟨X,r0,hi,gX,hX1,hX2⟩ :=zhP hA.gr (n:=n) (by rw[hz];exact hn);have hr:=hA.rw n hn hx;have hg:=hA.rg _ (Z1 hx);refine⟨_,.sl xs[n] 0 q.as[n].ts.length 4 q.as[n].ts.length false,[X],[xs[n]],hi,rfl,fun h' hf=>⟨?_,?_⟩⟩
  .have e:(List.zipWith atR q.as xs)[n]? =some (atR q.as[n] xs[n]):=by
    rw[Z122,Z0 hn,Z0 hx]
   simp[zcb,hf X hX2,gX,e,zcG,atR]
  .have e:=hf xs[n] hg.2;rw[hr]at e;have hl:=zgn q.as[n].ts;have ht:=zx1 q.as[n].ts;rw[zka,e,zcE,zgT,Z51 ⟨rfl,rfl,by omega⟩,Z34,ht]
 .obtain⟨Y,r0,hi,gY,hY1,hY2⟩ :=zhP hC (n:=n) (by rw[Z18];exact hn);refine⟨_,[Y],hi,fun h' hf=> ?_⟩;simp[zcb,hf Y hY2,gY,zcG,hn,cmD,tmD]
def RQx.up{h h':T Ob}{lo c c':Nat}{dA dC:D}{q:CQ}(H:RQx h lo c dA dC q)(hf:∀x,lo<=x->x<c->h'.get x=h.get x)(hc:c<=c'):RQx h' lo c' dA dC q:=by
 obtain⟨xs,hA,hC,hY⟩ :=H;exact⟨xs,hA.up hf (Z2 _) hc,zbB hC hc hf,hY⟩
def zIJ{l m:List Atm}{xs ys:List Nat}(h:xs.length=l.length):List.zipWith atR (l++m) (xs++ys)=List.zipWith atR l xs++List.zipWith atR m ys:=List.zipWith_append h.symm
def zSq{h:T Ob}{lo c es:Nat}{d:D}{els:List (List D)}(hg:Gro h lo c es d els):∃rd,elemsOf es h.get d=some (els,rd):=by
 rcases hg with⟨rfl,rfl⟩ |⟨id,ro,rfl,h2,h3,h4,h5,h6⟩
 .exact⟨[],rfl⟩
 .exact⟨[id],by rw[zka,h3,zcE,zgT,Z51 ⟨rfl,rfl,by omega⟩,Z34,Z7]⟩
def zRP{h:T Ob}{lo c:Nat}{d:D}{q:CQ}(H:CsE h lo c d q):∃rd,elemsOf 9 h.get d=some (q.cs.map cmD,rd):=by
 rcases H with⟨rfl,e,-⟩ |⟨Y,ex,rfl,hY,-,-,h1,h2,-⟩
 .exact⟨[],by rw[e];rfl⟩
 .refine⟨[Y],?_⟩;have hl:(q.cs.map cmD).length=q.cs.length:=Z18 _;rw[zka,hY,zcE,zgT,Z51 ⟨rfl,rfl,by omega⟩,Z34,<-hl,Z7]
def zgP{h h':T Ob}{lo c c' es:Nat}{d:D}{els:List (List D)}(hg:Gro h lo c es d els)(hh:∀Y,d.oid=some Y->h'.get Y=h.get Y)(hc:c<=c'):Gro h' lo c' es d els:=by
 rcases hg with hg|⟨id,ro,rfl,h2,h3,h4,h5,h6⟩
 .exact .inl hg
 .exact .inr ⟨id,ro,rfl,h2,by rw[hh id rfl];exact h3,h4,h5,by omega⟩
theorem zEq{hd:List Str}:∀(l:List CQ) (acc:CQ),acc.ne=false->acc.na=false->(l.foldl (cjS hd) acc).ne=false/\(l.foldl (cjS hd) acc).na=false
 |[],acc,h1,h2=>⟨h1,h2⟩
 |c::l,acc,h1,h2=>zEq l (cjS hd acc c) rfl rfl
def zNa{h:T Ob}{lo c:Nat}{d:D}{l:List Atm}{xs:List Nat}(H:AsD h lo c d l xs)(hl:∀a∈l,a.ts≠[]):∃rd,frz h.get 11 d=some (slc 3 (l.map atF),rd):=by
 have key:∀(l:List Atm) (xs:List Nat),xs.length=l.length->(∀a∈l,a.ts≠[])->(∀x∈xs,lo<=x/\x<c)->(∀k (hk:k<l.length) (hx:k<xs.length),h.get xs[k]=some (.arr 4 0 (zc0 l[k].ts)))->
   ∃W:List (Atm×D),List.zipWith atR l xs=ztd W/\l=W.map (·.1)/\∀p∈W,Own h lo c p.2 (zjO p.1.ts):=by
  intro l
  induction l with
  |nil=>intro xs h1 _ _ _;exact⟨[],by simp[ztd],rfl,by simp⟩
  |cons a l ih=>
   intro xs h1 h2 h3 h4;cases xs with
   |nil=>simp at h1
   |cons x xs=>
    obtain⟨W,e1,e2,e3⟩ :=ih xs (by simpa using h1) (fun b hb=>h2 b (by simp[hb])) (fun y hy=>h3 y (by simp[hy])) fun k hk hx=>by
     have:=h4 (k+1) (by simp;omega) (by simp;omega);simpa using this
    refine⟨(a,.sl x 0 a.ts.length 4 a.ts.length false)::W,?_,by simp[<-e2],fun p hp=> ?_⟩
    .simp only[List.zipWith_cons_cons,e1];rfl
    .rcases Z5.1 hp with rfl|hp
     .have h5:=h4 0 (by simp) (by simp);have h6:=h3 x (by simp);have h7:=h2 a (by simp);refine zoe (es:=4) (rows:=a.ts.map tmF) (.inr ⟨x,0,?_,?_,h5,Z61 _,h6.1,h6.2⟩)
      .simp
      .simpa using h7
     .exact e3 p hp
 obtain⟨W,e1,e2,e3⟩ :=key l xs H.ln hl H.rg H.rw;have hg:=H.gr;rw[e1]at hg;obtain⟨rd,hr⟩ :=zxC 8 e3;have e4:W.map (fun p=>atF p.1)=l.map atF:=by rw[e2,Z33];rfl
 rw[e4]at hr;refine zlD (k:=10) hg hr ?_;rw[e2];unfold ztd;simp
def zHJ{h:T Ob}{lo c:Nat}{d:D}{l:List Cm}(hg:Gro h lo c 9 d (l.map cmD)):∃rd,frz h.get 11 d=some (slc 9 (l.map cmF),rd):=by
 have hf:=zhO h.get 9 (l.map cmF);rw[Z33]at hf;have e:l.map ((fun a=>a.map D.f) ∘ cmF)=l.map cmD:=Z68 fun k _=>zJX k
 rw[e]at hf;exact zi3 (k:=10) hg hf (by simp)
def XJ(hd:List Str)(l:List CQ)(n:Nat)(qr:CQ)(s:St):Prop:=∃A C:D,(s.tm.get 1=some (.f (zbh hd))/\s.tm.get 4=some (.ptr 0 2 0 0)/\s.tm.get 5=some (.ptr 1 2 0 0)/\s.tm.get 8=some (.f (qsF l))/\s.tm.get 9=some (.f (.i .i64 l.length))/\s.tm.get 10=some (.f (.i .i64 n))/\s.h.get 0=some (.arr 2 0 [[.f .nils,.f .nils]])/\s.h.get 1=some (.arr 2 0 [[A,C]]))/\RQx s.h 2 s.c A C qr/\2<=s.c
def ans5(hd:List Str)(l:List CQ)(hh:hd.length<=10)(hl:l.length<=3)(hq:∀c∈l,CqN 1 c):Ans pr 5 [qsF l,zbh hd] (.ag (cqF (zev hd l))):=by
 refine zbN fn5 ?_;simp only[g5,rU];simp[rW,st0,zal,zpe,za5,zjF];refine zgd l (cjS hd) cj0 (fun n qr s=>CqM n qr/\XJ hd l n qr s) (fun x s=>x= .exit 0/\XJ hd l l.length (zev hd l) s) ?_ ?_ _ ?_ ?_
 .rintro n qr s hn - ⟨hM,A,C,⟨h1,h4,h5,h8,h9,h10,g0,g1⟩,hR,hc2⟩;have hw:=zaB n (by omega);have hx:l[n]? =some l[n]:=Z0 hn;have hqn:=hq _ (Z1 hn);generalize hA:l[n]=c at hx hqn|-;have hM2:=zJV (hd:=hd) hM hqn;have hrd:=zFJ hR;have n0:¬(0=s.c):=by omega
  have n1:¬(1=s.c):=by omega
  have n1':¬(s.c=1):=by omega
  simp[rW,h1,h4,h5,h8,h9,h10,g0,g1,hn,zvz,hx,hA,cqE,zdL,zea,zJL,zJM,n0,n1,n1'];refine zEy ?_;simp[rW,h1,h4,h5,h8,h9,h10,g0,g1,hn,zvz,hx,hA,cqE,zdL,zea,zJL,zJM,n0,n1,n1',hrd.ca,hrd.cc];refine zDs rfl rfl (zR1 c (hqn.m.g (by omega))) ?_;rintro d H c' lw mx ⟨hf,dA,dC,rfl,⟨xs,hAs,hCd,hdj⟩,hCs⟩ hcc hcm;simp only[rG]at hf hAs hCd hCs hcc hcm;have e1:=hf 1 (by omega);have ec:=hf s.c (by omega);simp[TG,n1,g1]at e1 ec;have hlow:∀x,x<s.c->H.get x=s.h.get x:=fun x hx=>by
   have nx:¬x=s.c:=by omega
   rw[hf x (by omega)];simp[TG,nx]
  have hqm:=hM.g (show n<=4 by omega);have hcl:=zx7 hqn.m;have hrl:=zx7 hM;simp[rW,h1,h4,h5,h8,h9,h10,g0,g1,n1,e1,ec];refine zDs rfl rfl (eff14 (lo:=s.c+1+1+1) (A:=qr) (q:=cop c) (xs:=xs) ?_ ?_ hqm.toCqSm (zRO (hqn.m.g (by omega)).toCqSm) ?_ ?_ ?_ hqn.vl) ?_
  .simp only[rG];omega
  .refine hrd.up (fun x hx=> ?_) ?_
   .simp only[rG];exact hlow x hx
   .simp only[rG];omega
  .refine⟨hAs.up (fun x h1 h2=> ?_) (Z2 _) ?_,ziu hCs (fun x h1 h2=> ?_) (Z2 _) ?_,hdj⟩
   .simp only[rG]
   .simp only[rG];omega
   .simp only[rG]
   .simp only[rG];omega
  .rcases hAs.gr with⟨-,h2⟩ |⟨id,ro,h2,-⟩
   .have h3:(List.zipWith atR (cop c).as xs).length=0:=by rw[h2];rfl
    rw[Z84,hAs.ln,Z121]at h3;exact absurd (Z17.1 h3) hqn.ne
   .rw[h2];rfl
  .show(vrs qr).length+(vrs c).length+hd.length+(vrs c).length<98;omega
  rintro d2 H2 c2 lw2 mx2 ⟨rfl,hf2,hAs2,hCs2,hdj2⟩ hcc2 hcm2;simp only[rG]at hf2 hAs2 hCs2 hcc2 hcm2;have e12:=hf2 1 (by omega);have ec2:=hf2 s.c (by omega);rw[e1]at e12;rw[ec]at ec2;have hlow2:∀x,x<s.c->H2.get x=s.h.get x:=fun x hx=>(hf2 x (by omega)).trans (hlow x hx)
  have ca:=zbW hAs2.gr;have cc:=zis (zgy hCs2);obtain⟨rd1,hel1⟩ :=zSq (zbB (h':=H2.set s.c (.arr 2 0 [[dA,dC]])) hAs2.gr (Z2 _) fun x h1 h2=>by
   have:¬x=s.c:=by omega
   simp[TG,this])
  simp[rW,h1,h4,h5,h8,h9,h10,g0,g1,n1,n1',e12,ec2,ca,cc,hel1];obtain⟨xr,hAr,hCr,hYr⟩ :=hR;have hAs3:AsD H2 (s.c+1+1+1) (mx+1) dA (c.as.map (rnA (apN (vrs qr) (vrs c) hd))) xs:=hAs2;have hCs3:CsE H2 (s.c+1+1+1) (mx+1) dC ⟨c.as,c.cs.map (rnK (apN (vrs qr) (vrs c) hd)),c.ne,false⟩ :=hCs2;change _/\oB (zca 3 48 (H2.set s.c (Ob.arr 2 0 [[dA,dC]])).get (mx2+1) A (List.zipWith atR (c.as.map (rnA (apN (vrs qr) (vrs c) hd))) xs) rd1) _;have ecj:cjS hd qr c=⟨qr.as++c.as.map (rnA (apN (vrs qr) (vrs c) hd)),qr.cs++c.cs.map (rnK (apN (vrs qr) (vrs c) hd)),false,false⟩ :=rfl;clear hAs2 hCs2 hel1;generalize apN (vrs qr) (vrs c) hd=N at*;generalize hlb:c.as.map (rnA N)=lb at*;generalize hkb:c.cs.map (rnK N)=kb at*;have hAo:∀x,A.oid=some x->2<=x/\x<s.c:=fun x hx=>zbf hAr.gr hx
  have hCo:∀x,C.oid=some x->2<=x/\x<s.c:=fun x hx=>zbf hCr hx
  have hl1:(List.zipWith atR qr.as xr).length<=1000:=by rw[Z84];have:=hM.la;omega
  have hl2:(List.zipWith atR lb xs).length<=1000:=by
   have:=hM2.la;rw[ecj]at this;simp only[Z16]at this;rw[Z84];omega
  have hl3:(qr.cs.map cmD).length+(kb.map cmD).length<=1000:=by
   have:=hM2.lc;rw[ecj]at this;simp only[Z16]at this;simp only[Z18];omega
  refine⟨by omega,?_⟩;refine zb6 (zbB (h':=H2.set s.c (.arr 2 0 [[dA,dC]])) (c':=mx2+1) hAr.gr (by omega) fun x h1 h2=> ?_) (by omega) (by omega) (by omega) ?_
  .have nx:¬x=s.c:=by omega
   simp[TG,nx,hlow2 x h2]
  intro r hr1 hr2 hr3 hr4 hr5;have hr6:∀x,x<mx2+1->x≠s.c->A.oid≠some x->(wrT (H2.set s.c (.arr 2 0 [[dA,dC]])) r.wr).get x=H2.get x:=fun x h1 h2 h3=>by
   rw[hr4 x h1 h3];simp[TG,h2]
  have hP1:(wrT (H2.set s.c (.arr 2 0 [[dA,dC]])) r.wr).get 1=some (.arr 2 0 [[A,C]]):=by
   rw[hr6 1 (by omega) n1 (zcC hAr.gr (by omega))];exact e12
  have hPc:(wrT (H2.set s.c (.arr 2 0 [[dA,dC]])) r.wr).get s.c=some (.arr 2 0 [[dA,dC]]):=by
   rw[hr4 s.c (by omega) fun e=>by have:=hAo _ e;omega];simp[TG]
  refine⟨hr1,?_⟩;obtain⟨rd2,hel2⟩ :=zRP (zwC (h':=(wrT (H2.set s.c (.arr 2 0 [[dA,dC]])) r.wr).set 1 (.arr 2 0 [[r.d,C]])) hCs3 fun Y hY=>by
   have h1:=zy1 (zgy hCs3) hY;have nx:¬Y=1:=by omega
   simp only[TG,Z49 nx];exact hr6 Y (by omega) (by omega) fun e=>by have:=hAo _ e;omega)
  simp[rW,hP1,hPc,zbW hr2,n1',hel2];refine⟨by omega,?_⟩;refine zb6 (h:=(wrT (H2.set s.c (.arr 2 0 [[dA,dC]])) r.wr).set 1 (.arr 2 0 [[r.d,C]])) (lo:=2) (zgP hCr (fun Y hY=> ?_) (by omega)) (by omega) (by omega) (by omega) ?_
  .have h1:=hCo _ hY;have nx:¬Y=1:=by omega
   simp only[TG,Z49 nx];rw[hr6 Y (by omega) (by omega) (hYr Y hY).2,hlow2 Y h1.2]
  intro r2 hq1 hq2 hq3 hq4 hq5;have hq6:∀x,x<r.c->x≠1->C.oid≠some x->(wrT ((wrT (H2.set s.c (.arr 2 0 [[dA,dC]])) r.wr).set 1 (.arr 2 0 [[r.d,C]])) r2.wr).get x=(wrT (H2.set s.c (.arr 2 0 [[dA,dC]])) r.wr).get x:=fun x h1 h2 h3=>by
   rw[hq4 x h1 h3];simp[TG,h2]
  have hP2:(wrT ((wrT (H2.set s.c (.arr 2 0 [[dA,dC]])) r.wr).set 1 (.arr 2 0 [[r.d,C]])) r2.wr).get 1=some (.arr 2 0 [[r.d,C]]):=by
   rw[hq4 1 (by omega) (zcC hCr (by omega))];simp[TG]
  have hP0:(wrT ((wrT (H2.set s.c (.arr 2 0 [[dA,dC]])) r.wr).set 1 (.arr 2 0 [[r.d,C]])) r2.wr).get 0=some (.arr 2 0 [[.f .nils,.f .nils]]):=by
   rw[hq6 0 (by omega) (by omega) (zcC hCr (by omega)),hr6 0 (by omega) n0 (zcC hAr.gr (by omega)),hlow2 0 (by omega)];exact g0
  refine⟨hq1,?_⟩;simp[rW,hP2,zbW hq2];refine⟨by omega,hM2,?_⟩;rw[ecj];refine⟨r.d,r2.d,?_,⟨xr++xs,⟨?_,?_,?_,?_,?_,?_⟩,?_,?_⟩,?_⟩
  .simp[rW,h1,h4,h5,h8,h9,h10,hP0,hw]
  .simp[hAr.ln,hAs3.ln]
  .refine Z90.2 ⟨hAr.nd,hAs3.nd,fun x hx y hy=> ?_⟩;have h1:=hAr.rg x hx;have h2:=hAs3.rg y hy;omega
  .intro x hx;simp[rW];rcases Z4.1 hx with hx|hx
   .have:=hAr.rg x hx;omega
   .have:=hAs3.rg x hx;omega
  .intro k hk hkx;simp[rW]
   by_cases hkn:k<qr.as.length
   .have hkr:k<xr.length:=by rw[hAr.ln];exact hkn
    have h1:=hAr.rg _ (Z1 hkr);have h2:=hAr.rw k hkn hkr;have h3:¬(xr[k]=1):=by omega
    have h4:C.oid≠some xr[k]:=fun e=>(hYr _ e).1 (Z1 hkr)
    have h5:A.oid≠some xr[k]:=fun e=>hAr.oi _ e (Z1 hkr)
    rw[Z59 hkr,Z59 hkn,Z49 h3,hq6 _ (by omega) h3 h4,hr6 _ (by omega) (by omega) h5,hlow2 _ h1.2];exact h2
   .have hk2:k - qr.as.length<lb.length:=by simp at hk;omega
    have hkr:k - qr.as.length<xs.length:=by rw[hAs3.ln];exact hk2
    have h1:=hAs3.rg _ (Z1 hkr);have h2:=hAs3.rw _ hk2 hkr;have h3:¬(xs[k - qr.as.length]=1):=by omega
    have h4:C.oid≠some xs[k - qr.as.length]:=fun e=>by have:=hCo _ e;omega
    have h5:A.oid≠some xs[k - qr.as.length]:=fun e=>by have:=hAo _ e;omega
    have e1:(xr++xs)[k]=xs[k - qr.as.length]:=by
     rw[Z58 (by rw[hAr.ln];omega)];simp only[hAr.ln]
    have e2:(qr.as++lb)[k]=lb[k - qr.as.length]:=Z58 (by omega);rw[e1,e2,Z49 h3,hq6 _ (by omega) h3 h4,hr6 _ (by omega) (by omega) h5];exact h2
  .rw[zIJ hAr.ln];refine zgP hr2 (fun Y hY=> ?_) ?_
   .have h1:=zbf hr2 hY;have h2:C.oid≠some Y:=fun e=>by
     have h3:=hCo _ e;rcases hr5 Y hY with h4|h4
     .omega
     .exact (hYr Y e).2 h4
    have nx:¬Y=1:=by omega
    simp[rW,nx];exact hq6 Y (by omega) nx h2
   .simp[rW];exact hq3
  .intro B hB hm;rcases hr5 B hB with h4|h4
   .rcases Z4.1 hm with hm|hm
    .have:=hAr.rg B hm;omega
    .have:=hAs3.rg B hm;omega
   .rcases Z4.1 hm with hm|hm
    .exact hAr.oi B h4 hm
    .have:=hAs3.rg B hm;have:=hAo _ h4;omega
  .have e9:(qr.cs++kb).map cmD=qr.cs.map cmD++kb.map cmD:=Z20;rw[e9];refine zgP hq2 (fun Y hY=> ?_) ?_
   .have h1:=zbf hq2 hY;have nx:¬Y=1:=by omega
    simp[rW,nx]
   .simp[rW]
  .intro Y hY;rcases hq5 Y hY with h4|h4
   .refine⟨fun hm=> ?_,fun e=>by have:=zbf hr2 e;omega⟩;rcases Z4.1 hm with hm|hm
    .have:=hAr.rg Y hm;omega
    .have:=hAs3.rg Y hm;omega
   .have h5:=hCo _ h4;refine⟨fun hm=> ?_,fun e=> ?_⟩
    .rcases Z4.1 hm with hm|hm
     .exact (hYr Y h4).1 hm
     .have:=hAs3.rg Y hm;omega
    .rcases hr5 Y e with h6|h6
     .omega
     .exact (hYr Y h4).2 h6
  .simp[rW];omega
 .rintro s ⟨hM,A,C,⟨h1,h4,h5,h8,h9,h10,g0,g1⟩,hR,hc2⟩;simp[rW,h1,h4,h5,h8,h9,h10,g0,g1];refine⟨A,C,?_,hR,hc2⟩;simp[rW,h1,h4,h5,h8,h9,h10,g0,g1]
 .refine⟨zJU,.f .nils,.f .nils,?_,⟨[],⟨rfl,List.nodup_nil,by simp,fun k hk=>by simp[cj0]at hk,.inl ⟨rfl,rfl⟩,by simp[D.oid]⟩,.inl ⟨rfl,rfl⟩,by simp[D.oid]⟩,?_⟩
  .simp[rW]
  .simp[rW]
 .rintro x s ⟨rfl,A,C,⟨h1,h4,h5,h8,h9,h10,g0,g1⟩,hR,hc2⟩;have hrd:=zFJ hR;obtain⟨xs,hA,hC,hY⟩ :=hR.up (h':=s.h.set 0 (.arr 2 0 [[A,C]])) (c':=s.c) (fun x h1 h2=>by
   have nx:¬x=0:=by omega
   simp[TG,nx]) (Z2 _)
  obtain⟨rd1,f1⟩ :=zNa hA fun a ha=>((zEo (hd:=hd) hq).al a ha).2.2
  obtain⟨rd2,f2⟩ :=zHJ hC;have hfl:=zEq (hd:=hd) l cj0 rfl rfl;change (zev hd l).ne=false/\(zev hd l).na=false at hfl;have eA:zdU (zev hd l)=slc 3 ((zev hd l).as.map atF):=by unfold zdU Sm.asF;rw[hfl.2];simp
  have eC:zdq (zev hd l)=slc 9 ((zev hd l).cs.map cmF):=by unfold zdq csF;rw[hfl.1];simp
  simp[rW,h1,h4,h5,h8,h9,h10,g0,g1,hrd.ca,hrd.cc,f1,f2,cqE,eA,eC];omega
def zHp:pr.fn 76=some g76:=by kernel_rfl
def ans76(r:Rl)(hr:zd7 SSp PPp r):∃B:List (List Nat),(B.length<=3/\(∀b∈B,b.length<=3/\∀i∈b,i<r.tu.length)/\(r.ce=true->B=[]))/\Ans pr 76 [.ag (rlF r)] (zfW B):=by
 obtain⟨e,ae⟩ :=zhD zla r hr;have qe:=fun k=>zad (k:=k) ae
 have hco:=hr.co;have hcc:=hr.cc;have hd:(zeL r.tu).d= .f (zeL r.tu):=zvI _;have hc2:(D.f (zeL r.tu)).cells=some [.f (zeL r.tu)]:=zdk _ _
 by_cases h0':e=0
 .by_cases hce:r.ce=true
  .have qg:=fun k=>zad (k:=k) (hr.gc hce)
   refine⟨[],⟨by simp,by simp,fun _=>rfl⟩,zbN zHp ?_⟩;simp only[g76,rU];simp only[rlE]at qe qg;simp[rW,st0,zal,rlE,hco,hd,hcc,hc2,qe,h0',qg];rfl
  .obtain⟨B,hB,hBn,hBb⟩ :=hr.g;have qg:=fun k=>zad (k:=k) hB
   refine⟨B,⟨hBn,hBb,fun h=>absurd h hce⟩,zbN zHp ?_⟩;simp only[g76,rU];simp only[rlE]at qe qg;simp[rW,st0,zal,rlE,hco,hd,hcc,hc2,qe,h0',qg,zAS]
 .refine⟨[],⟨by simp,by simp,fun _=>rfl⟩,zbN zHp ?_⟩;simp only[g76,rU];simp only[rlE]at qe;simp[rW,st0,zal,rlE,hco,hd,hcc,hc2,qe,h0'];rfl
def NE(d1 d2:D):Prop:=∀x,d1.oid=some x->d2.oid≠some x
def rfE(l:List (Nat×Nat)):F:=slc 2 (l.map fun p=>[.i .i64 (p.1:Nat),.i .i64 (p.2:Nat)])
structure zfv(h:T Ob)(c:Nat)(dB dR:D)(WB:List (D×List (List F)))(WR:List (D×List (Nat×Nat))):Prop where
 gB:Gro h 2 c 1 dB (WB.map fun p=>[p.1])
 gR:Gro h 2 c 1 dR (WR.map fun p=>[p.1])
 oB:∀p∈WB,Own h 2 c p.1 (slc 3 p.2)
 oR:∀p∈WR,Own h 2 c p.1 (rfE p.2)
 nBR:NE dB dR
 nB:∀p∈WB,NE dB p.1/\NE dR p.1
 nR:∀p∈WR,NE dB p.1/\NE dR p.1
def zfv.up{h h':T Ob}{c c':Nat}{dB dR:D}{WB:List (D×List (List F))}{WR:List (D×List (Nat×Nat))}(H:zfv h c dB dR WB WR)(hf:∀id,2<=id->id<c->h'.get id=h.get id)(hc:c<=c'):zfv h' c' dB dR WB WR:=by
 have key:∀{d:D} {X:F},Own h 2 c d X->Own h' 2 c' d X:=fun{d X} ho=>ho.up (fun x hx=>by have:=ho.2.2.1 x hx;exact hf x this.1 this.2) (Z2 _) hc
 exact⟨zbB H.gB hc hf,zbB H.gR hc hf,fun p hp=>key (H.oB p hp),fun p hp=>key (H.oR p hp),H.nBR,H.nB,H.nR⟩
theorem zL6{h h':T Ob}{c c':Nat}{dB dR d dN:D}{b:List (List F)}{WB:List (D×List (List F))}{WR:List (D×List (Nat×Nat))}(H:zfv h c dB dR WB WR)(ho:Own h 2 c d (slc 3 b))(n1:NE dB d)(n2:NE dR d)
  (hg:Gro h' 2 c' 1 dN ((WB.map fun p=>[p.1])++[[d]]))(hc:c<=c')(hf:∀id,id<c->dB.oid≠some id->h'.get id=h.get id)(hN:∀x,dN.oid=some x->x=c\/dB.oid=some x):zfv h' c' dN dR (WB++[(d,b)]) WR:=by
 have key:∀{d:D} {X:F},NE dB d->Own h 2 c d X->Own h' 2 c' d X:=fun{d X} hn ho=>ho.up (fun x hx=>by
  have:=ho.2.2.1 x hx;exact hf x this.2 fun e=>hn x e hx) (Z2 _) hc
 have kn:∀{d:D},NE dB d->(∀x,d.oid=some x->x<c)->NE dN d:=fun{d} hn hb x hx e=>by
  rcases hN x hx with rfl|h1
  .have:=hb _ e;omega
  .exact hn x h1 e
 have bR:∀x,dR.oid=some x->x<c:=fun x hx=>(zbf H.gR hx).2
 refine⟨by rw[Z20];exact hg,zgP H.gR (fun Y hY=>hf Y (bR Y hY) fun e=>H.nBR Y e hY) hc,fun p hp=> ?_,fun p hp=>key (H.nR p hp).1 (H.oR p hp),kn H.nBR bR,fun p hp=> ?_,fun p hp=>⟨kn (H.nR p hp).1 fun x hx=>((H.oR p hp).2.2.1 x hx).2,(H.nR p hp).2⟩⟩
 .rcases Z4.1 hp with hp|hp
  .exact key (H.nB p hp).1 (H.oB p hp)
  .rw[Z31.1 hp];exact key n1 ho
 .rcases Z4.1 hp with hp|hp
  .exact⟨kn (H.nB p hp).1 fun x hx=>((H.oB p hp).2.2.1 x hx).2,(H.nB p hp).2⟩
  .rw[Z31.1 hp];exact⟨kn n1 fun x hx=>(ho.2.2.1 x hx).2,n2⟩
theorem zL9{h h':T Ob}{c c':Nat}{dB dR d dN:D}{b:List (Nat×Nat)}{WB:List (D×List (List F))}{WR:List (D×List (Nat×Nat))}(H:zfv h c dB dR WB WR)(ho:Own h 2 c d (rfE b))(n1:NE dB d)(n2:NE dR d)
  (hg:Gro h' 2 c' 1 dN ((WR.map fun p=>[p.1])++[[d]]))(hc:c<=c')(hf:∀id,id<c->dR.oid≠some id->h'.get id=h.get id)(hN:∀x,dN.oid=some x->x=c\/dR.oid=some x):zfv h' c' dB dN WB (WR++[(d,b)]):=by
 have key:∀{d:D} {X:F},NE dR d->Own h 2 c d X->Own h' 2 c' d X:=fun{d X} hn ho=>ho.up (fun x hx=>by
  have:=ho.2.2.1 x hx;exact hf x this.2 fun e=>hn x e hx) (Z2 _) hc
 have kn:∀{d:D},NE dR d->(∀x,d.oid=some x->x<c)->NE dN d:=fun{d} hn hb x hx e=>by
  rcases hN x hx with rfl|h1
  .have:=hb _ e;omega
  .exact hn x h1 e
 have bB:∀x,dB.oid=some x->x<c:=fun x hx=>(zbf H.gB hx).2
 have hBR:NE dR dB:=fun x hx e=>H.nBR x e hx
 refine⟨zgP H.gB (fun Y hY=>hf Y (bB Y hY) fun e=>H.nBR Y hY e) hc,by rw[Z20];exact hg,fun p hp=>key (H.nB p hp).2 (H.oB p hp),fun p hp=> ?_,fun x hx e=>kn hBR bB x e hx,fun p hp=>⟨(H.nB p hp).1,kn (H.nB p hp).2 fun x hx=>((H.oB p hp).2.2.1 x hx).2⟩,fun p hp=> ?_⟩
 .rcases Z4.1 hp with hp|hp
  .exact key (H.nR p hp).2 (H.oR p hp)
  .rw[Z31.1 hp];exact key n2 ho
 .rcases Z4.1 hp with hp|hp
  .exact⟨(H.nR p hp).1,kn (H.nR p hp).2 fun x hx=>((H.oR p hp).2.2.1 x hx).2⟩
  .rw[Z31.1 hp];exact⟨n1,kn n2 fun x hx=>(ho.2.2.1 x hx).2⟩
theorem zpa{h:T Ob}{c:Nat}(k:Nat){α:Type}(f:α->F):∀{W:List (D×α)},(∀p∈W,Own h 2 c p.1 (f p.2))->∃rd,zaU (frz h.get (k+2)) (W.map fun p=>[p.1])=some (W.map fun p=>[f p.2],rd)
 |[],_=>⟨[],rfl⟩
 |p::W,hW=>by
  obtain⟨rd,hr⟩ :=zpa k f (W:=W) fun q hq=>hW q (by simp[hq])
  obtain⟨rd2,h2⟩ :=(hW p (by simp)).2.2.2 h (fun _ _=>rfl) k;have h3:za3 (frz h.get (k+2)) [p.1]=some ([f p.2],rd2):=by simp[za3,h2]
  exact⟨rd2++rd,by
   rw[Z10,zh5,h3];simp[hr]⟩
def spF(B:List (List (List F))):F:=slc 1 (B.map fun b=>[slc 3 b])
def rfF(R:List (List (Nat×Nat))):F:=slc 1 (R.map fun r=>[rfE r])
def zfv.frz{h:T Ob}{c:Nat}{dB dR:D}{WB:List (D×List (List F))}{WR:List (D×List (Nat×Nat))}(H:zfv h c dB dR WB WR)(k:Nat):(∃rd,frz h.get (k+3) dB=some (spF (WB.map (·.2)),rd))/\∃rd,frz h.get (k+3) dR=some (rfF (WR.map (·.2)),rd):=by
  obtain⟨r1,h1⟩ :=zpa k (fun b=>slc 3 b) H.oB;obtain⟨r2,h2⟩ :=zpa k rfE H.oR;obtain⟨s1,k1⟩ :=zlD (k:=k+2) H.gB h1 (by simp);obtain⟨s2,k2⟩ :=zlD (k:=k+2) H.gR h2 (by simp);exact⟨⟨s1,by rw[k1,spF,Z33];rfl⟩,s2,by rw[k2,rfF,Z33];rfl⟩
end Go.Proofs.YtkcnnkncapiohaaGreatDoor
end
