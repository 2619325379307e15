/- Rounds: C. -/
import Derived.Test.YtdonnbdegnkflaaGreatDoorPi
import Derived.KernelRfl
import Derived.IntWalk
import Derived.Test.YtdonnbdegnkflaaGreatDoorPd
import Derived.Test.YtdonnbdegnkflaaGreatDoorPe
set_option linter.all false
set_option maxRecDepth 100000
set_option maxHeartbeats 4000000
noncomputable section
section
namespace Go.Proofs.YtdonnbdegnkflaaGreatDoor
open Go Go.Vse Go.Vse.Sm
def stepC(x:F)(hx:ze5 x)(hxd:x.d= .f x)(id:Nat)(dO:D)(els:List (List D)):∀k s,KI [67] true coC TuC 3 x id dO els k s->wpC pr lo2 s (lp (KI [67] true coC TuC 3 x id dO els) k (KR [67] true coC TuC 3 x id dO els)):=by
 unfold lo2;rintro k s ⟨n,tu,hn,rfl,htl,h7,hT,h0,h4,h5,h6,h3,g,hg,c0⟩;obtain⟨a,ha,h14⟩ :=zlm hx 3 (by omega);obtain⟨b,hb,h14b⟩ :=zlm hx (13+n) (by omega);have q14:=fun k=>zah (k:=k) h14
 have hrm:=zei a 4 (by omega);have hm4:a%4<4:=Z124 _ (by omega);have hs:zeO[3]? =some [.s [67],.b true,coC]:=rfl;have hmul:zbS .mul (.i .i64 3) (.i .i64 3)=some (.i .i64 9):=rfl;have hw:=za5 n (by omega);rw[show((3:Nat):Int)=3 from rfl]at q14;rw[show((4:Nat):Int)=4 from rfl]at hrm;generalize a%4=m4 at hrm hm4
 by_cases hlt:n<m4
 .by_cases hgo:True
  .have hw4:IntKind.i64.wrap (13:Int)=13:=rfl;have hwn:IntKind.i64.wrap ((13:Int)+(n:Int))=((13+n:Nat):Int):=wrap_i64 _ (by omega) (by omega);have q14b:=fun k=>zah (k:=k) h14b
   have hci:((13+n:Nat):Int)=(13:Int)+(n:Int):=rfl;rw[hci]at q14b hwn;obtain⟨z,hz⟩ :∃r:Int,zbS .shr (.i .i64 b) (.i .u64 4)=some (.i .i64 r):=⟨_,rfl⟩
   obtain⟨p,hp,h15⟩ :=zx1 z;obtain⟨p0,p1,p2,rfl,hd0,hd1,hd2⟩ :=zdd _ hp;have q15:=fun k=>zah (k:=k) h15
   have q16:=fun k=>zah (k:=k) zrF
   have hr1:=zei b 3 (by omega);have hq1:=zio b 3 (by omega) (by omega);have hr2:=zei (b/3) 3 (by omega);have hq2:=zio (b/3) 3 (by omega) (by have:b/3<=b:=Nat.div_le_self _ _;omega);rw[show((3:Nat):Int)=3 from rfl]at hr1 hq1 hr2 hq2;have hb1:b%3<3:=Z124 _ (by omega);have hb2:b/3%3<3:=Z124 _ (by omega);generalize b/3%3=b2 at hr2 hb2;generalize b/3/3=b4 at hq2;generalize b/3=b3 at hq1 hr2 hq2;generalize b%3=b1 at hr1 hb1;have k1:¬id=s.c:=by omega
   have hok:TuC ([1+(b1:Int),1+(b2:Int)],[.b false,.sl 1 [[.i .u32 1]],.sl 1 [[.i .u32 1]]]):=⟨pp1,1+(b1:Int),1+(b2:Int),rfl⟩
   obtain⟨y,hy,h17⟩ :=zx3 zu7 [67] true coC tu (okC tu (by omega) hT) (by omega) ([1+(b1:Int),1+(b2:Int)],[.b false,.sl 1 [[.i .u32 1]],.sl 1 [[.i .u32 1]]]) pp1 (ckC _ hok) (fun m hm=>okC _ (by rw[zjw m hm];omega) (zjF m hT hok));have h17:Ans pr 18 [.ag [.s [67],.b true,coC,slc 4 (tu.map tuF)],.ag [.sl 3 [[.i .i64 1,.i .i64 (1+(b1:Int)),.s []],[.i .i64 1,.i .i64 (1+(b2:Int)),.s []]],.b false,.sl 1 [[.i .u32 1]],.sl 1 [[.i .u32 1]]]] y:=h17;simp -implicitDefEqProofs [rulA,rR,apO,h0,h4,h5,h6,h3,h7,g,hxd,q14,hrm,hlt,hs,hgo,hmul,hw4,hwn,q14b,hz,q15,q16,hd0,hd1,hd2];refine zFw s.h x 3 id dO n [.f (.s [67]),.f (.b true),.f coC,.f (slc 4 (tu.map tuF))] s.c (.f (.b false)) (.f (.sl 1 [[.i .u32 1]])) (.f (.sl 1 [[.i .u32 1]])) [67] true coC rfl rfl rfl b b1 b2 b3 b4 hr1 hq1 hr2 hq2 hb1 hb2 _ _ ⟨?_,?_,?_,?_,?_,?_,?_,?_,?_,?_,?_⟩ ?_ ?_ ?_ ?_
   any_goals (simp -implicitDefEqProofs [rulA,rR,apO,h0,h4,h5,h6,h3,h7,g,k1];done)
   .omega
   .intro j hj;simp only[zco,zdi,zdg,zcc,zc7,zc3,zcn,zdf,zde,zcp,zdm,zdk,zbr,zci,zcf,zdo,zdp,zdn]
    repeat first|rw[TG,Z49 (by omega)]|rw[Vse.T.zcZ,Z49 (by omega)]
   .clear h0 h4 h5 h6 h3 h7 g k1;intro S idv hS g9 gv hi4 hi5;obtain⟨h0,h4,h5,h6,h3,h7,h9,g,hi1,hi2,hk⟩ :=hS;rw[show((3:Nat):Int)=3 from rfl]at h5;have hcd:coC.d= .f coC:=rfl;have hcc:(D.f coC).cells=some [.f coC]:=rfl;have j1:¬id=s.c:=by omega
    have j2:¬id=idv:=by omega
    have j3:¬id=S.c:=by omega
    have j4:¬s.c=id:=by omega
    have j5:¬s.c=idv:=by omega
    have j6:¬s.c=S.c:=by omega
    have j7:¬idv=id:=by omega
    have j8:¬idv=s.c:=by omega
    have j9:¬idv=S.c:=by omega
    have j10:¬S.c=id:=by omega
    have j11:¬S.c=s.c:=by omega
    have j12:¬S.c=idv:=by omega
    have keep:∀h':Vse.T Ob,(∀j,j<id->h'.get j=S.h.get j)->Grow h' 0 id 4 dO els:=fun h' hh=>zfJ hg (fun j hj=>(hh j hj).trans (hk j hj)) (Z2 _)
    rcases hy with⟨e,he,rfl⟩ |⟨m,hm,rfl⟩
    .have q17:=fun k=>zah (k:=k) h17
     simp only[zRl]at q17;simp -implicitDefEqProofs [rulA,rR,apO,h0,h4,h5,h6,h3,h7,h9,g,g9,gv,hcd,hcc,hd0,hd1,hd2,hi2,hi5,j1,j2,j3,j4,j5,j6,j7,j8,j9,j10,j11,j12,q17,he,hw];rw[zev];refine⟨3 - (n+1),by omega,n+1,tu,by omega,rfl,by omega,?_,hT,?_,?_,?_,?_,?_,?_,?_,?_⟩
     any_goals (simp -implicitDefEqProofs [rulA,rR,apO,h0,h4,h5,h6,h3,h7,h9,g,g9,gv,hcd,hcc,hd0,hd1,hd2,hi2,hi5,j1,j2,j3,j4,j5,j6,j7,j8,j9,j10,j11,j12];done)
     .simp only[zco,zdi,zdg,zcc,zc7,zc3,zcn,zdf,zde,zcp,zdm,zdk,zbr,zci,zcf,zdo,zdp,zdn];refine keep _ ?_;intro j hj
      repeat first|rw[TG,Z49 (by omega)]|rw[Vse.T.zcZ,Z49 (by omega)]
     all_goals (simp only[zco,zdi,zdg,zcc,zc7,zc3,zcn,zdf,zde,zcp,zdm,zdk,zbr,zci,zcf,zdo,zdp,zdn];omega)
    .have q17:=fun k=>zah (k:=k) h17
     simp only[rlF]at q17;simp -implicitDefEqProofs [rulA,rR,apO,h0,h4,h5,h6,h3,h7,h9,g,g9,gv,hcd,hcc,hd0,hd1,hd2,hi2,hi5,j1,j2,j3,j4,j5,j6,j7,j8,j9,j10,j11,j12,q17,hw];refine⟨by omega,?_⟩;rw[zev];refine⟨3 - (n+1),by omega,n+1,tu.take m++([1+(b1:Int),1+(b2:Int)],[.b false,.sl 1 [[.i .u32 1]],.sl 1 [[.i .u32 1]]])::tu.drop m,by omega,rfl,by rw[zjw m hm];omega,?_,zjF m hT hok,?_,?_,?_,?_,?_,?_,?_,?_⟩
     any_goals (simp -implicitDefEqProofs [rulA,rR,apO,h0,h4,h5,h6,h3,h7,h9,g,g9,gv,hcd,hcc,hd0,hd1,hd2,hi2,hi5,j1,j2,j3,j4,j5,j6,j7,j8,j9,j10,j11,j12];done)
     .simp only[zco,zdi,zdg,zcc,zc7,zc3,zcn,zdf,zde,zcp,zdm,zdk,zbr,zci,zcf,zdo,zdp,zdn];refine keep _ ?_;intro j hj
      repeat first|rw[TG,Z49 (by omega)]|rw[Vse.T.zcZ,Z49 (by omega)]
     all_goals (simp only[zco,zdi,zdg,zcc,zc7,zc3,zcn,zdf,zde,zcp,zdm,zdk,zbr,zci,zcf,zdo,zdp,zdn];omega)
  .exact absurd trivial hgo
 .simp -implicitDefEqProofs [rulA,rR,apO,h0,h4,h5,h6,h3,h7,g,hxd,q14,hrm,hlt,hs];refine⟨rfl,tu,by omega,hT,?_,?_,?_,?_,?_,?_,?_,?_⟩
  all_goals simp -implicitDefEqProofs [rulA,rR,apO,h0,h4,h5,h6,h3,g,hg,c0]
def fn4:pr.fn 4=some g4:=by kernel_rfl
def lo4:C:=(.seq (.seq (.reg [⟨(some 14),none,.mv (.t 5)⟩,⟨(some 15),none,.mv (.t 4)⟩,⟨(some 16),none,.len (.t 15)⟩,⟨(some 17),none,.bin .lss (.t 14) (.t 16)⟩])
 (.cond (.t 17) (.skip) (.exit 0)))
 (.seq (.blk 1 (.seq (.reg [⟨(some 20),none,.mv (.t 4)⟩,⟨(some 21),none,.mv (.t 5)⟩,⟨(some 22),none,.ia 3 (.t 20) (.t 21)⟩,⟨(some 23),none,.ld true 3 (.t 22)⟩,⟨(some 24),none,.bld [.s [],.b false,.nils,.nils] [(0,3,(.t 23))]⟩,⟨(some 6),none,.new [.s [],.b false,.nils,.nils]⟩,⟨none,none,.st 4 (.t 6) (.t 24)⟩])
 (.seq (.seq (.reg [⟨(some 7),none,.mv (.k (.i .i64 0))⟩])
 (.blk 2 (.loop (.seq (.seq (.reg [⟨(some 25),none,.mv (.t 7)⟩,⟨(some 26),none,.mv (.t 0)⟩,⟨(some 27),none,.mv (.t 5)⟩,⟨(some 28),none,.callp 14 [(.t 26),(.t 27)]⟩,⟨(some 29),none,.bin .rem (.t 28) (.k (.i .i64 4))⟩,⟨(some 30),none,.bin .lss (.t 25) (.t 29)⟩,⟨(some 31),none,.mv (.t 30)⟩,⟨(some 32),(some (31,true)),.mv (.t 5)⟩,⟨(some 33),(some (31,true)),.bin .eql (.t 32) (.k (.i .i64 1))⟩,⟨(some 34),(some (31,true)),.mv (.t 33)⟩,⟨(some 35),(some (34,true)),.mv (.t 7)⟩,⟨(some 36),(some (34,true)),.bin .eql (.t 35) (.k (.i .i64 2))⟩,⟨(some 37),(some (31,true)),.pick (.t 34) (.t 36) (.k (.b false))⟩,⟨(some 38),(some (31,true)),.un .not (.t 37)⟩,⟨(some 39),none,.pick (.t 31) (.t 38) (.k (.b false))⟩])
 (.cond (.t 39) (.skip) (.exit 2)))
 (.seq (.blk 3 (.seq (.reg [⟨(some 42),none,.mv (.t 0)⟩,⟨(some 43),none,.mv (.t 5)⟩,⟨(some 44),none,.bin .mul (.k (.i .i64 3)) (.t 43)⟩,⟨(some 45),none,.bin .add (.k (.i .i64 4)) (.t 44)⟩,⟨(some 46),none,.mv (.t 7)⟩,⟨(some 47),none,.bin .add (.t 45) (.t 46)⟩,⟨(some 48),none,.callp 14 [(.t 42),(.t 47)]⟩,⟨(some 8),none,.mv (.t 48)⟩])
 (.seq (.reg [⟨(some 49),none,.mv (.t 8)⟩,⟨(some 50),none,.bin .shr (.t 49) (.k (.i .u64 4))⟩,⟨(some 51),none,.callp 15 [(.t 50)]⟩,⟨(some 52),none,.bld [.nils,.b false,.nils,.nils] [(1,3,(.t 51))]⟩,⟨(some 9),none,.new [.nils,.b false,.nils,.nils]⟩,⟨none,none,.st 4 (.t 9) (.t 52)⟩])
 (.seq (.seq (.reg [⟨(some 53),none,.mv (.t 4)⟩,⟨(some 54),none,.mv (.t 5)⟩,⟨(some 55),none,.ia 3 (.t 53) (.t 54)⟩,⟨(some 56),none,.fa 1 (.t 55)⟩,⟨(some 57),none,.ld false 1 (.t 56)⟩])
 (.cond (.t 57) (.reg [⟨(some 58),none,.callp 16 [(.k (.i .i64 1))]⟩,⟨(some 59),none,.fa 1 (.t 9)⟩,⟨none,none,.st 3 (.t 59) (.t 58)⟩]) (.skip)))
 (.seq (.seq (.reg [⟨(some 10),none,.mv (.k (.i .i64 0))⟩])
 (.blk 4 (.loop (.seq (.seq (.reg [⟨(some 60),none,.mv (.t 10)⟩,⟨(some 61),none,.mv (.t 4)⟩,⟨(some 62),none,.mv (.t 5)⟩,⟨(some 63),none,.ia 3 (.t 61) (.t 62)⟩,⟨(some 64),none,.fa 2 (.t 63)⟩,⟨(some 65),none,.ld false 1 (.t 64)⟩,⟨(some 66),none,.len (.t 65)⟩,⟨(some 67),none,.bin .lss (.t 60) (.t 66)⟩])
 (.cond (.t 67) (.skip) (.exit 4)))
 (.seq (.blk 5 (.seq (.dreg [(⟨(some 70),none,.fa 0 (.t 9)⟩,0),(⟨(some 71),none,.ld false 1 (.t 70)⟩,0),(⟨(some 72),none,.mv (.t 8)⟩,3),(⟨(some 73),none,.bin .rem (.t 72) (.k (.i .i64 3))⟩,3),(⟨(some 74),none,.bin .add (.k (.i .i64 1)) (.t 73)⟩,3),(⟨(some 75),none,.callp 17 [(.t 74)]⟩,3),(⟨(some 76),none,.bsf 3 [.i .i64 0,.i .i64 0,.s []] 1 [(0,(.t 75))]⟩,3),(⟨(some 77),none,.app 3 32 (.t 71) (.t 76)⟩,0),(⟨(some 78),none,.fa 0 (.t 9)⟩,0),(⟨none,none,.st 1 (.t 78) (.t 77)⟩,0)])
 (.reg [⟨(some 79),none,.mv (.t 8)⟩,⟨(some 80),none,.bin .quo (.t 79) (.k (.i .i64 3))⟩,⟨(some 8),none,.mv (.t 80)⟩])))
 (.reg [⟨(some 68),none,.mv (.t 10)⟩,⟨(some 69),none,.bin .add (.t 68) (.k (.i .i64 1))⟩,⟨(some 10),none,.mv (.t 69)⟩]))))))
 (.seq (.reg [⟨(some 82),none,.ld true 4 (.t 6)⟩,⟨(some 83),none,.ld true 4 (.t 9)⟩,⟨(some 84),none,.callp 18 [(.t 82),(.t 83)]⟩,⟨(some 81),none,.mv (.t 84)⟩,⟨(some 85),none,.ext (.t 81) 0⟩,⟨(some 86),none,.ext (.t 81) 1⟩,⟨(some 11),none,.new [.s [],.b false,.nils,.nils]⟩,⟨none,none,.st 4 (.t 11) (.t 85)⟩,⟨(some 12),none,.mv (.t 86)⟩])
 (.seq (.reg [⟨(some 87),none,.mv (.t 12)⟩,⟨(some 88),none,.bin .eql (.t 87) (.k (.i .i64 0))⟩])
 (.cond (.t 88) (.reg [⟨(some 89),none,.ld true 4 (.t 11)⟩,⟨none,none,.st 4 (.t 6) (.t 89)⟩]) (.skip)))))))))
 (.reg [⟨(some 40),none,.mv (.t 7)⟩,⟨(some 41),none,.bin .add (.t 40) (.k (.i .i64 1))⟩,⟨(some 7),none,.mv (.t 41)⟩]))))))
 (.reg [⟨(some 90),none,.mv (.t 3)⟩,⟨(some 91),none,.ld true 4 (.t 6)⟩,⟨(some 92),none,.bsf 4 [.s [],.b false,.nils,.nils] 1 [(0,(.t 91))]⟩,⟨(some 93),none,.app 4 72 (.t 90) (.t 92)⟩,⟨(some 3),none,.mv (.t 93)⟩]))))
 (.reg [⟨(some 18),none,.mv (.t 5)⟩,⟨(some 19),none,.bin .add (.t 18) (.k (.i .i64 1))⟩,⟨(some 5),none,.mv (.t 19)⟩])))
def rlG(L:List Rl):List (List D):=L.map fun r=>(rlF r).map D.f
def z0b(h:Nat->Option Ob)(k:Nat)(L:List Rl):zbi (frz h (k+1)) (rlG L)=some (L.map rlF,[]):=by
 have:=zrO h k (L.map rlF)
 rwa[Z33]at this
def OB(x:F)(i:Int)(L:List Rl)(S:St):Prop:=S.tm.get 0=some (.f x)/\S.tm.get 4=some (.f (.sl 3 zeO))/\S.tm.get 5=some (.f (.i .i64 i))/\∃dO,S.tm.get 3=some dO/\Grow S.h 0 S.c 4 dO (rlG L)
def zacI(x:F)(hx:ze5 x)(hxd:x.d= .f x)(L:List Rl)(hL:L.length<10)(S:St)(Q:Ex->St->Prop)(hS:OB x 0 L S)(hQ:∀S' tu,tu.length<=3->(∀t∈tu,TuR t)->OB x 1 (L++[rR tu]) S'->WL pr lo4 S' Q):WL pr lo4 S Q:=by
 unfold lo4 at hQ|-;obtain⟨h0,h4,h5,dO,h3,hg⟩ :=hS;have hs:zeO[0]? =some [.s [82],.b false,coR]:=rfl;have hs2:∀h:0<zeO.length,zeO[0]=[.s [82],.b false,coR]:=fun _=>rfl
 have hsl:zeO.length=4:=rfl;have hcd:coR.d= .f coR:=rfl;have hcc:(D.f coR).cells=some [.f coR]:=rfl;have hw:IntKind.i64.wrap 1=1:=rfl;refine round ?_;simp -implicitDefEqProofs [rulA,rR,apO,h0,h4,h5,h3,hs,hs2,hsl,hcd,hcc];refine zfU (KI [82] false coR TuR 0 x S.c dO (rlG L)) (KR [82] false coR TuR 0 x S.c dO (rlG L)) (stepR x hx hxd S.c dO (rlG L)) 3 _ ⟨0,[],by omega,rfl,by simp,?_,by simp,?_,?_,?_,?_,?_,?_,?_,?_⟩ ?_
 any_goals (simp -implicitDefEqProofs [rulA,rR,apO,h0,h4,h5,h3,hcd];done)
 any_goals (simp -implicitDefEqProofs [rulA,rR,apO,h0,h4,h5,h3,hcd,Z85,zcI];done)
 .simp only[zco,zdi,zdg,zcc,zc7,zc3,zcn,zdf,zde,zcp,zdm,zdk,zbr,zci,zcf,zdo,zdp,zdn];refine zfJ hg ?_ (Z2 _);intro j hj
  repeat first|rw[TG,Z49 (by omega)]|rw[Vse.T.zcZ,Z49 (by omega)]
 .rintro e S' ⟨rfl,tu,htl,hT,h0,h4,h5,h6,h3,g,hg,hc⟩;simp -implicitDefEqProofs [zkI,Z67,Z79,zhK,zhz,zhA,zhy,zhu,zhv,zht,zhB,zhH,zhJ,zhD,zhN,zhO,zhL,h0,h4,h5,h6,h3,g,hcd,hcc];refine zrR (new:=[(rlF (rR tu)).map D.f]) (zfJ hg (fun _ _=>rfl) (Z110 hc)) (Z61 _) (by simp[rlG];omega) (by omega) ?_;intro r hr1 hr2 hr3 _;refine⟨hr1,?_⟩;simp -implicitDefEqProofs [rulA,rR,apO,h5,hw];refine hQ _ tu htl hT ⟨?_,?_,?_,r.d,?_,?_⟩
  any_goals (simp -implicitDefEqProofs [rulA,rR,apO,h0,h4,h5,h3];done)
  simp only[zco,zdi,zdg,zcc,zc7,zc3,zcn,zdf,zde,zcp,zdm,zdk,zbr,zci,zcf,zdo,zdp,zdn];have e:rlG (L++[rR tu])=rlG L++[(rlF (rR tu)).map D.f]:=by simp[rlG]
  rw[e];exact hr2
def zacJ(x:F)(hx:ze5 x)(hxd:x.d= .f x)(L:List Rl)(hL:L.length<10)(S:St)(Q:Ex->St->Prop)(hS:OB x 1 L S)(hQ:∀S' tu,tu.length<=3->(∀t∈tu,TuS t)->OB x 2 (L++[rS tu]) S'->WL pr lo4 S' Q):WL pr lo4 S Q:=by
 unfold lo4 at hQ|-;obtain⟨h0,h4,h5,dO,h3,hg⟩ :=hS;have hs:zeO[1]? =some [.s [83],.b false,coS]:=rfl;have hs2:∀h:1<zeO.length,zeO[1]=[.s [83],.b false,coS]:=fun _=>rfl
 have hsl:zeO.length=4:=rfl;have hcd:coS.d= .f coS:=rfl;have hcc:(D.f coS).cells=some [.f coS]:=rfl;have hw:IntKind.i64.wrap 2=2:=rfl;refine round ?_;simp -implicitDefEqProofs [rulA,rR,apO,h0,h4,h5,h3,hs,hs2,hsl,hcd,hcc];refine zfU (KI [83] false coS TuS 1 x S.c dO (rlG L)) (KR [83] false coS TuS 1 x S.c dO (rlG L)) (stepS x hx hxd S.c dO (rlG L)) 3 _ ⟨0,[],by omega,rfl,by simp,?_,by simp,?_,?_,?_,?_,?_,?_,?_,?_⟩ ?_
 any_goals (simp -implicitDefEqProofs [rulA,rR,apO,h0,h4,h5,h3,hcd];done)
 any_goals (simp -implicitDefEqProofs [rulA,rR,apO,h0,h4,h5,h3,hcd,Z85,zcI];done)
 .simp only[zco,zdi,zdg,zcc,zc7,zc3,zcn,zdf,zde,zcp,zdm,zdk,zbr,zci,zcf,zdo,zdp,zdn];refine zfJ hg ?_ (Z2 _);intro j hj
  repeat first|rw[TG,Z49 (by omega)]|rw[Vse.T.zcZ,Z49 (by omega)]
 .rintro e S' ⟨rfl,tu,htl,hT,h0,h4,h5,h6,h3,g,hg,hc⟩;simp -implicitDefEqProofs [zkI,Z67,Z79,zhK,zhz,zhA,zhy,zhu,zhv,zht,zhB,zhH,zhJ,zhD,zhN,zhO,zhL,h0,h4,h5,h6,h3,g,hcd,hcc];refine zrR (new:=[(rlF (rS tu)).map D.f]) (zfJ hg (fun _ _=>rfl) (Z110 hc)) (Z61 _) (by simp[rlG];omega) (by omega) ?_;intro r hr1 hr2 hr3 _;refine⟨hr1,?_⟩;simp -implicitDefEqProofs [rulA,rR,apO,h5,hw];refine hQ _ tu htl hT ⟨?_,?_,?_,r.d,?_,?_⟩
  any_goals (simp -implicitDefEqProofs [rulA,rR,apO,h0,h4,h5,h3];done)
  simp only[zco,zdi,zdg,zcc,zc7,zc3,zcn,zdf,zde,zcp,zdm,zdk,zbr,zci,zcf,zdo,zdp,zdn];have e:rlG (L++[rS tu])=rlG L++[(rlF (rS tu)).map D.f]:=by simp[rlG]
  rw[e];exact hr2
def zacH(x:F)(hx:ze5 x)(hxd:x.d= .f x)(L:List Rl)(hL:L.length<10)(S:St)(Q:Ex->St->Prop)(hS:OB x 2 L S)(hQ:∀S' tu,tu.length<=3->(∀t∈tu,TuK t)->OB x 3 (L++[rK tu]) S'->WL pr lo4 S' Q):WL pr lo4 S Q:=by
 unfold lo4 at hQ|-;obtain⟨h0,h4,h5,dO,h3,hg⟩ :=hS;have hs:zeO[2]? =some [.s [75],.b false,coK]:=rfl;have hs2:∀h:2<zeO.length,zeO[2]=[.s [75],.b false,coK]:=fun _=>rfl
 have hsl:zeO.length=4:=rfl;have hcd:coK.d= .f coK:=rfl;have hcc:(D.f coK).cells=some [.f coK]:=rfl;have hw:IntKind.i64.wrap 3=3:=rfl;refine round ?_;simp -implicitDefEqProofs [rulA,rR,apO,h0,h4,h5,h3,hs,hs2,hsl,hcd,hcc];refine zfU (KI [75] false coK TuK 2 x S.c dO (rlG L)) (KR [75] false coK TuK 2 x S.c dO (rlG L)) (stepK x hx hxd S.c dO (rlG L)) 3 _ ⟨0,[],by omega,rfl,by simp,?_,by simp,?_,?_,?_,?_,?_,?_,?_,?_⟩ ?_
 any_goals (simp -implicitDefEqProofs [rulA,rR,apO,h0,h4,h5,h3,hcd];done)
 any_goals (simp -implicitDefEqProofs [rulA,rR,apO,h0,h4,h5,h3,hcd,Z85,zcI];done)
 .simp only[zco,zdi,zdg,zcc,zc7,zc3,zcn,zdf,zde,zcp,zdm,zdk,zbr,zci,zcf,zdo,zdp,zdn];refine zfJ hg ?_ (Z2 _);intro j hj
  repeat first|rw[TG,Z49 (by omega)]|rw[Vse.T.zcZ,Z49 (by omega)]
 .rintro e S' ⟨rfl,tu,htl,hT,h0,h4,h5,h6,h3,g,hg,hc⟩;simp -implicitDefEqProofs [zkI,Z67,Z79,zhK,zhz,zhA,zhy,zhu,zhv,zht,zhB,zhH,zhJ,zhD,zhN,zhO,zhL,h0,h4,h5,h6,h3,g,hcd,hcc];refine zrR (new:=[(rlF (rK tu)).map D.f]) (zfJ hg (fun _ _=>rfl) (Z110 hc)) (Z61 _) (by simp[rlG];omega) (by omega) ?_;intro r hr1 hr2 hr3 _;refine⟨hr1,?_⟩;simp -implicitDefEqProofs [rulA,rR,apO,h5,hw];refine hQ _ tu htl hT ⟨?_,?_,?_,r.d,?_,?_⟩
  any_goals (simp -implicitDefEqProofs [rulA,rR,apO,h0,h4,h5,h3];done)
  simp only[zco,zdi,zdg,zcc,zc7,zc3,zcn,zdf,zde,zcp,zdm,zdk,zbr,zci,zcf,zdo,zdp,zdn];have e:rlG (L++[rK tu])=rlG L++[(rlF (rK tu)).map D.f]:=by simp[rlG]
  rw[e];exact hr2
def zacG(x:F)(hx:ze5 x)(hxd:x.d= .f x)(L:List Rl)(hL:L.length<10)(S:St)(Q:Ex->St->Prop)(hS:OB x 3 L S)(hQ:∀S' tu,tu.length<=3->(∀t∈tu,TuC t)->OB x 4 (L++[rC tu]) S'->WL pr lo4 S' Q):WL pr lo4 S Q:=by
 unfold lo4 at hQ|-;obtain⟨h0,h4,h5,dO,h3,hg⟩ :=hS;have hs:zeO[3]? =some [.s [67],.b true,coC]:=rfl;have hs2:∀h:3<zeO.length,zeO[3]=[.s [67],.b true,coC]:=fun _=>rfl
 have hsl:zeO.length=4:=rfl;have hcd:coC.d= .f coC:=rfl;have hcc:(D.f coC).cells=some [.f coC]:=rfl;have hw:IntKind.i64.wrap 4=4:=rfl;refine round ?_;simp -implicitDefEqProofs [rulA,rR,apO,h0,h4,h5,h3,hs,hs2,hsl,hcd,hcc];refine zfU (KI [67] true coC TuC 3 x S.c dO (rlG L)) (KR [67] true coC TuC 3 x S.c dO (rlG L)) (stepC x hx hxd S.c dO (rlG L)) 3 _ ⟨0,[],by omega,rfl,by simp,?_,by simp,?_,?_,?_,?_,?_,?_,?_,?_⟩ ?_
 any_goals (simp -implicitDefEqProofs [rulA,rR,apO,h0,h4,h5,h3,hcd];done)
 any_goals (simp -implicitDefEqProofs [rulA,rR,apO,h0,h4,h5,h3,hcd,Z85,zcI];done)
 .simp only[zco,zdi,zdg,zcc,zc7,zc3,zcn,zdf,zde,zcp,zdm,zdk,zbr,zci,zcf,zdo,zdp,zdn];refine zfJ hg ?_ (Z2 _);intro j hj
  repeat first|rw[TG,Z49 (by omega)]|rw[Vse.T.zcZ,Z49 (by omega)]
 .rintro e S' ⟨rfl,tu,htl,hT,h0,h4,h5,h6,h3,g,hg,hc⟩;simp -implicitDefEqProofs [zkI,Z67,Z79,zhK,zhz,zhA,zhy,zhu,zhv,zht,zhB,zhH,zhJ,zhD,zhN,zhO,zhL,h0,h4,h5,h6,h3,g,hcd,hcc];refine zrR (new:=[(rlF (rC tu)).map D.f]) (zfJ hg (fun _ _=>rfl) (Z110 hc)) (Z61 _) (by simp[rlG];omega) (by omega) ?_;intro r hr1 hr2 hr3 _;refine⟨hr1,?_⟩;simp -implicitDefEqProofs [rulA,rR,apO,h5,hw];refine hQ _ tu htl hT ⟨?_,?_,?_,r.d,?_,?_⟩
  any_goals (simp -implicitDefEqProofs [rulA,rR,apO,h0,h4,h5,h3];done)
  simp only[zco,zdi,zdg,zcc,zc7,zc3,zcn,zdf,zde,zcp,zdm,zdk,zbr,zci,zcf,zdo,zdp,zdn];have e:rlG (L++[rC tu])=rlG L++[(rlF (rC tu)).map D.f]:=by simp[rlG]
  rw[e];exact hr2
def z1h(y:F):Prop:=∃a b c d,(a.length<=3/\∀t∈a,TuR t)/\(b.length<=3/\∀t∈b,TuS t)/\(c.length<=3/\∀t∈c,TuK t)/\(d.length<=3/\∀t∈d,TuC t)/\y=slc 4 ([rR a,rS b,rK c,rC d].map rlF)
def ans4(x:F)(hx:ze5 x)(hxd:x.d= .f x):∃a b c d,(a.length<=3/\∀t∈a,TuR t)/\(b.length<=3/\∀t∈b,TuS t)/\(c.length<=3/\∀t∈c,TuK t)/\(d.length<=3/\∀t∈d,TuC t)/\Ans pr 4 [x] (slc 4 ([rR a,rS b,rK c,rC d].map rlF)):=by
 have main:∃y,z1h y/\Ans pr 4 [x] y:=by
  refine zvX fn4 ?_;have q13:=fun k=>zah (k:=k) ans7
  have hsl:zeO.length=4:=rfl;simp only[g4,rU];simp -implicitDefEqProofs [rulA,rR,apO,st0,zao,hxd,q13];refine zacI x hx hxd [] (by simp) _ _ ⟨?_,?_,?_,.f .nils,?_,Grow.nil⟩ ?_
  any_goals (simp -implicitDefEqProofs [rulA,rR,apO,zao];done)
  intro S1 a ha1 ha2 h1;refine zacJ x hx hxd _ (by simp) _ _ h1 ?_;intro S2 b hb1 hb2 h2;refine zacH x hx hxd _ (by simp) _ _ h2 ?_;intro S3 c hc1 hc2 h3;refine zacG x hx hxd _ (by simp) _ _ h3 ?_;rintro S4 d hd1 hd2 ⟨h0,h4,h5,dO,h3,hg⟩;unfold lo4;refine round ?_;obtain⟨rd,hf⟩ :=zMD (k:=11) hg (z0b _ 10 _);simp -implicitDefEqProofs [rulA,rR,apO,h0,h4,h5,h3,hsl,hf];exact⟨a,b,c,d,⟨ha1,ha2⟩,⟨hb1,hb2⟩,⟨hc1,hc2⟩,⟨hd1,hd2⟩,rfl⟩
 obtain⟨y,⟨a,b,c,d,h1,h2,h3,h4,rfl⟩,ha⟩ :=main;exact⟨a,b,c,d,h1,h2,h3,h4,ha⟩
def fn5:pr.fn 5=some g5:=by kernel_rfl
def Own.up{h h':T Ob}{lo lo' c c':Nat}{d:D}{X:F}(H:Own h lo c d X)(hf:∀x,d.oid=some x->h'.get x=h.get x)(hl:lo'<=lo)(hc:c<=c'):Own h' lo' c' d X:=
 ⟨H.1,H.2.1,fun x hx=>by have:=H.2.2.1 x hx;omega,fun h2 hh=>H.2.2.2 h2 fun x hx=>(hh x hx).trans (hf x hx)⟩
def XQ(x:F)(hd:List Str)(L:List CQ)(P:Nat)(s:St):Prop:=∃d dh,(s.tm.get 0=some (.f x)/\s.tm.get 2=some (.ptr 0 2 0 0)/\s.tm.get 3=some (.ptr 1 2 0 0)/\s.h.get 0=some (.arr 2 0 [[.f .nils,.f .nils]])/\s.h.get 1=some (.arr 2 0 [[dh,d]]))/\2<=P/\P<=s.c/\Own s.h 2 P dh (zbQ hd)/\Gro s.h P s.c 2 d (zqw L)
def zFG{x:F}{hd:List Str}{L:List CQ}{P:Nat}{s:St}(h:XQ x hd L P s):∃d dh,(s.tm.get 2=some (.ptr 0 2 0 0)/\s.tm.get 3=some (.ptr 1 2 0 0)/\s.h.get 0=some (.arr 2 0 [[.f .nils,.f .nils]])/\s.h.get 1=some (.arr 2 0 [[dh,d]]))/\d.cells=some [d]/\dh.cells=some [dh]/\(∃rd,frz (s.h.set 0 (.arr 2 0 [[dh,d]])).get 11 d=some (qsF L,rd))/\(∃rd,frz (s.h.set 0 (.arr 2 0 [[dh,d]])).get 11 dh=some (zbQ hd,rd))/\2<=s.c:=by
 obtain⟨d,dh,⟨h0,h2,h3,g0,g1⟩,hP,hPc,hO,hg⟩ :=h;have hh2:∀y,y≠0->(s.h.set 0 (.arr 2 0 [[dh,d]])).get y=s.h.get y:=fun y hy=>by simp[TG,hy]
 exact⟨d,dh,⟨h2,h3,g0,g1⟩,zqH hg,hO.2.1,zwa (k:=10) (zl2 (h':=s.h.set 0 (.arr 2 0 [[dh,d]])) hg (Z2 _) (fun y h1 _=>hh2 y (by omega))) (zMe _ 9 _) (by simp[zqw]),hO.2.2.2 _ (fun y hy=>hh2 y (by have:=hO.2.2.1 y hy;omega)) 9,by omega⟩
def b12:C:= .seq (oD [oM 25 7,oM 26 0,oR 27 (.callp 14 [(.t 26),(.k (.i .i64 1))]),oR 28 (.bin .rem (.t 27) (.k (.i .i64 2))),oR 29 (.bin .leq (.t 25) (.t 28))] 29 .skip (.exit 1))
 (.seq (.blk 2 (.dreg [(oF 32 1 3,0),(oK 33 1 32,0),(oM 34 5,3),(oM 35 0,7),(oM 36 7,15),(oR 37 (.bin .add (.k (.i .i64 2)) (.t 36)),15),(oR 38 (.callp 14 [(.t 35),(.t 37)]),7),(oM 39 6,127),(oR 40 (.bin .rem (.t 38) (.t 39)),7),(oI 41 1 34 40,3),(oK 42 1 41,3),(oM 43 0,2047),(oM 44 7,4095),(oR 45 (.bin .add (.k (.i .i64 4)) (.t 44)),4095),(oR 46 (.callp 14 [(.t 43),(.t 45)]),1927),(oR 47 (.callp 20 [(.t 42),(.t 46)]),3),(oR 48 (.bsf 2 [.nils,.nils] 1 [(0,(.t 47))]),3),(oR 49 (.app 2 48 (.t 33) (.t 48)),0),(oF 50 1 3,0),(oS 1 50 49,0)]))
 (.reg [oM 30 7,oR 31 (.bin .add (.t 30) (.k (.i .i64 1))),oM 7 31]))
def zGP{x:F}(hx:ze5 x){z:Nat->Nat}(hz:∀i,i<1000->z i<100000/\Ans pr 14 [x,.i .i64 i] (.i .i64 (z i))){cf:Nat->CQ}{S:Nat}(hS:0<S/\S<=24)(hcf:∀i,∃p,paL[z (2+i)%S]? =some [.s p]/\Ans pr 20 [.s p,.i .i64 (z (4+i))] (.ag (cqF (cf i)))){hd:List Str}{P:Nat}{Q:Ex->St->Prop}(s:St)(h:XQ x hd [] P s)(h5:s.tm.get 5=some (.f (.sl 1 paL))/\s.tm.get 6=some (.f (.i .i64 S))/\s.tm.get 7=some (.f (.i .i64 0)))(hQ:∀s,XQ x hd ((List.range (z 1%2+1)).map cf) P s->Q (.exit 1) s):WL pr b12 s Q:=by
 have h36:Ans pr 14 [x,.i .i64 1] (.i .i64 (z 1)):=(hz 1 (by omega)).2;have q36:=fun k=>zah (k:=k) h36
 have hrem:=zei (z 1) 2 (by omega);rw[show((2:Nat):Int)=2 from rfl]at hrem;have hm:z 1%2<2:=Z124 _ (by omega);generalize z 1%2=m at hrem hm hQ;refine zfU (fun k s=>∃n:Nat,(k=m+1 - n/\n<=m+1)/\XQ x hd ((List.range n).map cf) P s/\s.tm.get 5=some (.f (.sl 1 paL))/\s.tm.get 6=some (.f (.i .i64 S))/\s.tm.get 7=some (.f (.i .i64 n))) (fun e s=>e= .exit 1/\XQ x hd ((List.range (m+1)).map cf) P s) ?_ (m+1) _ ⟨0,⟨rfl,by omega⟩,h,h5⟩ (by rintro e s ⟨rfl,h⟩;exact hQ s h);clear h h5 hQ s;rintro k s ⟨n,⟨rfl,hn⟩,⟨d,dh,⟨h0,h2,h3,g0,g1⟩,hP,hPc,hO,hg⟩,h5,h6,h7⟩;unfold b12;simp only[rU]
 by_cases hle:n<=m
 .have h36n:=(hz (2+n) (by omega)).2;rw[Int.natCast_add,show((2:Nat):Int)=2 from rfl]at h36n;have q36n:=fun k=>zah (k:=k) h36n
  have h36m:=(hz (4+n) (by omega)).2;rw[Int.natCast_add,show((4:Nat):Int)=4 from rfl]at h36m;have q36m:=fun k=>zah (k:=k) h36m
  obtain⟨p,hp,h38⟩ :=hcf n;have hrem2:=zei (z (2+n)) S (by omega);have hpl:paL.length=24:=rfl;have hj:z (2+n)%S<24:=Z15 (Z124 _ hS.1) hS.2;have hni:¬((S:Int)=0):=by omega
  have hn0:¬(S=0):=by omega
  generalize z (2+n)%S=j at*;have hp2:∀h:j<paL.length,paL[j]=[.s p]:=fun h=>by
   rw[Z0 h]at hp;exact Z53 hp
  have q38:=fun k=>zah (k:=k) h38
  have hw:=za5 n (by omega);have hw2:IntKind.i64.wrap (2+(n:Int))=2+(n:Int):=wrap_i64 _ (by omega) (by omega);have hw4:IntKind.i64.wrap (4+(n:Int))=4+(n:Int):=wrap_i64 _ (by omega) (by omega);simp only[cqE]at q38;simp -implicitDefEqProofs [rW,h0,h2,h3,h5,h6,h7,g0,g1,q36,hrem,hle];refine zaC ?_;simp -implicitDefEqProofs [rW,h0,h2,h3,h5,h6,h7,g0,g1,hw2,hw4,q36n,q36m,hni,hn0,hrem2,hp,hpl,hp2,hj,q38,cqE,za1,za2];refine zrQ (zl2 hg (by omega) fun _ _ _=>rfl) (by omega) (by rw[zMh];simp;omega) (by omega) ?_;intro r hr1 hr2 hr3 hr4 hr5;have e0:=hr4 0 (by omega) (zAs hg (by omega));have e1:=hr4 1 (by omega) (zAs hg (by omega));rw[g0]at e0;rw[g1]at e1;refine⟨hr1,?_⟩;simp -implicitDefEqProofs [rW,e1,zqH hr2];rw[zev];refine⟨m+1 - (n+1),by omega,n+1,⟨rfl,by omega⟩,⟨r.d,dh,?_,hP,?_,?_,?_⟩,?_⟩
  .simp -implicitDefEqProofs [rW,h0,h2,h3,e0,e1]
  .simp -implicitDefEqProofs [rW,];omega
  .refine hO.up (fun y hy=> ?_) (Z2 _) (Z2 _);have hy2:=hO.2.2.1 y hy;have e:=hr4 y (by omega) (zAs hg (by omega));have ny:¬(y=1):=by omega
   simp -implicitDefEqProofs [rW,ny,e]
  .rw[zG0,zJm];refine zl2 hr2 (by simp -implicitDefEqProofs [rW,];omega) fun y h1 h2=> ?_
   have ny:¬(y=1):=by omega
   simp -implicitDefEqProofs [rW,ny]
  .simp -implicitDefEqProofs [rW,h5,h6,hw]
 .have e:n=m+1:=by omega
  subst e;have hl:¬((m:Int)+1<=m):=by omega
  simp -implicitDefEqProofs [rW,h0,h2,h3,h5,h6,h7,g0,g1,q36,hrem,hl];refine⟨d,dh,?_,hP,?_,?_,?_⟩
  .simp -implicitDefEqProofs [rW,h0,h2,h3,g0,g1]
  .simp -implicitDefEqProofs [rW,];exact hPc
  .simp -implicitDefEqProofs [rW,];exact hO
  .simp -implicitDefEqProofs [rW,];exact hg
def ans5{x:F}(hx:ze5 x):∃hd l,hd.length<10/\QN l/\Ans pr 5 [x] (.ag [zbQ hd,qsF l]):=by
 obtain⟨z,hz⟩ :=atZ hx;have h0:Ans pr 14 [x,.i .i64 0] (.i .i64 (z 0)):=(hz 0 (by omega)).2;have q0:=fun k=>zah (k:=k) h0
 have q37:=fun k=>zah (k:=k) zQN
 have hpl:paL.length=24:=rfl;have hrem:=zei (z 0) 4 (by omega);rw[show((4:Nat):Int)=4 from rfl]at hrem;have hr4:z 0%4<4:=Z124 _ (by omega);generalize z 0%4=r at hrem hr4;obtain⟨cf,hcf⟩ :=Z207.1 fun i=>pick rdA (j:=z (2+i)%(if r=3 then 9 else 24)) (by rw[hpl];split<;>omega) (z (4+i))
 have hm:z 1%2<2:=Z124 _ (by omega);have hc2:(D.f x).cells=some [.f x]:=by rcases hx with rfl|⟨zs,rfl⟩ <;>rfl
 have hQN:QN ((List.range (z 1%2+1)).map cf):=⟨by simp,by simp;omega,clF (fun i=>(hcf i).1) _⟩
 have hcf:=fun i=>(hcf i).2
 obtain rfl|rfl|rfl|rfl:r=0\/r=1\/r=2\/r=3:=by omega
 .refine⟨[],_,by decide,hQN,zdu fn5 ?_⟩;simp only[g5,rU];simp -implicitDefEqProofs [rW,st0,zao,zrS hx,q0,q37,hrem,hpl,hc2];refine zGP hx hz (by decide) hcf (P:=2) (hd:=[]) _ ⟨.f .nils,.f .nils,?_,by omega,?_,zZ6 (rows:=[]) (.inl ⟨rfl,rfl⟩),.inl ⟨rfl,rfl⟩⟩ ?_ fun s h=> ?_
  .simp -implicitDefEqProofs [rW,]
  .simp -implicitDefEqProofs [rW,]
  .simp -implicitDefEqProofs [rW,hpl]
  .obtain⟨d,dh,⟨h2,h3,g0,g1⟩,c1,c2,⟨rd,z1⟩,⟨rd2,z2⟩,hc⟩ :=zFG h;simp -implicitDefEqProofs [rW,h2,h3,g0,g1,c1,c2,z1,z2];omega
 .refine⟨[[120]],_,by decide,hQN,zdu fn5 ?_⟩;simp only[g5,rU];simp -implicitDefEqProofs [rW,st0,zao,zrS hx,q0,q37,hrem,hpl,hc2];refine zGP hx hz (by decide) hcf (P:=3) (hd:=[[120]]) _ ⟨.f .nils,.sl 2 0 1 1 1 true,?_,by omega,?_,zwv (l:=[[120]]) (by simp) (by simp -implicitDefEqProofs [rW,zeF]) (by omega) (by omega),.inl ⟨rfl,rfl⟩⟩ ?_ fun s h=> ?_
  .simp -implicitDefEqProofs [rW,]
  .simp -implicitDefEqProofs [rW,]
  .simp -implicitDefEqProofs [rW,hpl]
  .obtain⟨d,dh,⟨h2,h3,g0,g1⟩,c1,c2,⟨rd,z1⟩,⟨rd2,z2⟩,hc⟩ :=zFG h;simp -implicitDefEqProofs [rW,h2,h3,g0,g1,c1,c2,z1,z2];omega
 .refine⟨[[120]],_,by decide,hQN,zdu fn5 ?_⟩;simp only[g5,rU];simp -implicitDefEqProofs [rW,st0,zao,zrS hx,q0,q37,hrem,hpl,hc2];refine zGP hx hz (by decide) hcf (P:=3) (hd:=[[120]]) _ ⟨.f .nils,.sl 2 0 1 1 1 true,?_,by omega,?_,zwv (l:=[[120]]) (by simp) (by simp -implicitDefEqProofs [rW,zeF]) (by omega) (by omega),.inl ⟨rfl,rfl⟩⟩ ?_ fun s h=> ?_
  .simp -implicitDefEqProofs [rW,]
  .simp -implicitDefEqProofs [rW,]
  .simp -implicitDefEqProofs [rW,hpl]
  .obtain⟨d,dh,⟨h2,h3,g0,g1⟩,c1,c2,⟨rd,z1⟩,⟨rd2,z2⟩,hc⟩ :=zFG h;simp -implicitDefEqProofs [rW,h2,h3,g0,g1,c1,c2,z1,z2];omega
 .refine⟨[[121],[120]],_,by decide,hQN,zdu fn5 ?_⟩;simp only[g5,rU];simp -implicitDefEqProofs [rW,st0,zao,zrS hx,q0,q37,hrem,hpl,hc2];refine zGP hx hz (by decide) hcf (P:=3) (hd:=[[121],[120]]) _ ⟨.f .nils,.sl 2 0 2 1 2 true,?_,by omega,?_,zwv (l:=[[121],[120]]) (by simp) (by simp -implicitDefEqProofs [rW,zeF]) (by omega) (by omega),.inl ⟨rfl,rfl⟩⟩ ?_ fun s h=> ?_
  .simp -implicitDefEqProofs [rW,]
  .simp -implicitDefEqProofs [rW,]
  .simp -implicitDefEqProofs [rW,hpl]
  .obtain⟨d,dh,⟨h2,h3,g0,g1⟩,c1,c2,⟨rd,z1⟩,⟨rd2,z2⟩,hc⟩ :=zFG h;simp -implicitDefEqProofs [rW,h2,h3,g0,g1,c1,c2,z1,z2];omega
theorem zzV{tu:List (List Int×List F)}(h:tu.length<=3)(x:Str)(ts:List Trm):∀i,i<=ts.length->(zh4 tu x ts i).length<=3*(ts.take i).countP fun t=>decide (t= .var x)
 |0,_=>by simp[zh4]
 |i+1,hi=>by
  have ih:=zzV h x ts i (by omega);have hx:ts[i]? =some ts[i]:=Z0 (by omega);rw[zqu,Z6 (by omega),List.countP_append,Z16,hx]
  by_cases e:ts[i]= .var x
  .have:=List.length_filterMap_le (fun t:List Int×List F=>t.1[i]?) tu;rw[e,Z51 rfl];simp;omega
  .rw[Z49 (by simpa using e)];simp[e];exact ih
def zAv(c:CQ):List Trm:=c.as.flatMap fun a=>if a.neg=true then[]else a.ts
def zMl{l:List Rl}(hr:∀r∈l,RlK r)(x:Str)(a:Atm):(zdN l x a).length<=3*(if a.neg=true then[]else a.ts).countP fun t=>decide (t= .var x):=by
 unfold zdN;split
 .simp
 .split
  .rename_i r hf;split
   .simp
   .have:=zzV (hr _ (List.mem_of_find?_eq_some hf)).tn x a.ts a.ts.length (Z2 _);rw[Z7]at this;exact this
  .simp
def zMn{l:List Rl}(hr:∀r∈l,RlK r)(x:Str)(c:CQ):(zmz l x c).length<=3*(zAv c).countP fun t=>decide (t= .var x):=by
 unfold zmz zAv;generalize c.as=al
 induction al with
 |nil=>simp
 |cons a al ih=>
  have:=zMl hr x a;rw[Z92,Z92,List.countP_append,Z16];omega
def zDr{l:List Rl}(hr:∀r∈l,RlK r)(x:Str)(hx:x=[120]\/x=[121]\/x=[122]\/x=[])(L:List CQ)(hL:QN L):(zeE l x L).length<=12:=by
 obtain⟨-,h2,hc⟩ :=hL;have:=zj9 (zmz l x) 6 L fun c hc2=>by
  have hcn:=hc c hc2;have h1:=zMn hr x c;have h3:(zAv c).countP (fun t=>decide (t= .var x))<=2:=by
   rcases hx with rfl|rfl|rfl|rfl
   .exact hcn.p2 _ (by simp)
   .exact hcn.p2 _ (by simp)
   .exact hcn.p2 _ (by simp)
   .have:(zAv c).countP (fun t=>decide (t= .var []))=0:=by
     rw[List.countP_eq_zero];intro t ht;unfold zAv at ht;obtain⟨a,ha,ht⟩ :=Z38.1 ht;split at ht
     .simp at ht
     .have:=(hcn.al a ha).1.1 t ht;cases t with
      |var s=>
       have hs:s≠[]:=this;simpa using hs
      |cst n=>simp
    omega
  omega
 unfold zeE;omega
def zFy{c:CQ}(h:CqN 1 c):CqG c/\c.as.length<=3:=by
 have:=h.la;have:=h.lc;exact⟨⟨⟨⟨fun a ha=>(h.al a ha).1,h.cs,by omega,by omega⟩,by omega,fun a ha=>by have:=(h.al a ha).2;omega,by omega,fun a ha=>(h.al a ha).2⟩,fun a ha=>(h.av a ha).1⟩,by omega⟩
def rlsK(a b c d:List (List Int×List F))(ha:a.length<=3/\∀t∈a,TuR t)(hb:b.length<=3/\∀t∈b,TuS t)(hc:c.length<=3/\∀t∈c,TuK t)(hd:d.length<=3/\∀t∈d,TuC t):∀r∈[rR a,rS b,rK c,rC d],RlK r:=by
 intro r hr;simp only[Z5,Z164,or_false]at hr;rcases hr with rfl|rfl|rfl|rfl
 .exact⟨rfl,rfl,rfl,ha.1,fun t ht=>⟨zdd _ (ha.2 t ht).1,by obtain⟨_,x,y,he⟩ :=ha.2 t ht;rw[he];simp⟩⟩
 .exact⟨rfl,rfl,rfl,hb.1,fun t ht=>⟨zdd _ (hb.2 t ht).1,by obtain⟨_,x,he⟩ :=hb.2 t ht;rw[he];simp⟩⟩
 .exact⟨rfl,rfl,rfl,hc.1,fun t ht=>⟨zdd _ (hc.2 t ht).1,by obtain⟨_,x,y,he,_⟩ :=hc.2 t ht;rw[he];simp⟩⟩
 .exact⟨rfl,rfl,rfl,hd.1,fun t ht=>⟨zdd _ (hd.2 t ht).1,by obtain⟨_,x,y,he⟩ :=hd.2 t ht;rw[he];simp⟩⟩
def vN:List Str:=[[120],[121],[122],[]]
def zLN:C:=(.seq (oD [oM 113 25,oM 114 24,oR 115 (.len (.t 114)),oR 116 (.bin .lss (.t 113) (.t 115))] 116 .skip (.exit 6))
 (.seq (.blk 7 (.seq (.dreg [(oM 119 15,0),(oL 120 2 16,1),(oM 121 24,3),(oM 122 25,7),(oI 123 1 121 122,3),(oK 124 1 123,3),(oR 125 (.callp 11 [(.t 119),(.t 120),(.t 124)]),0),(oM 126 15,127),(oL 127 2 16,255),(oM 128 24,511),(oM 129 25,1023),(oI 130 1 128 129,511),(oK 131 1 130,511),(oR 132 (.callp 12 [(.t 126),(.t 127),(.t 131)]),0),(oR 133 (.callp 10 [(.t 125),(.t 132)]),0),(oR 134 (.un .not (.t 133)),0),(oM 135 134,0),(oH 136 135 (.mv (.t 15)),0),(oH 137 135 (.slc 4 (.t 136) (some (.k (.i .i64 1))) none none),0),(oH 138 135 (.ld true 2 (.t 16)),393216),(oH 139 135 (.mv (.t 24)),917504),(oH 140 135 (.mv (.t 25)),1966080),(oH 141 135 (.ia 1 (.t 139) (.t 140)),917504),(oH 142 135 (.ld false 1 (.t 141)),917504),(oH 143 135 (.callp 11 [(.t 137),(.t 138),(.t 142)]),0),(oH 144 135 (.mv (.t 15)),33423360),(oH 145 135 (.slc 4 (.t 144) (some (.k (.i .i64 1))) none none),33423360),(oH 146 135 (.ld true 2 (.t 16)),134086656),(oH 147 135 (.mv (.t 24)),268304384),(oH 148 135 (.mv (.t 25)),536739840),(oH 149 135 (.ia 1 (.t 147) (.t 148)),268304384),(oH 150 135 (.ld false 1 (.t 149)),268304384),(oH 151 135 (.callp 12 [(.t 145),(.t 146),(.t 150)]),0),(oH 152 135 (.callp 10 [(.t 143),(.t 151)]),0),(oH 153 135 (.un .not (.t 152)),0),(oR 154 (.pick (.t 135) (.k (.b true)) (.t 153)),0)])
 (.cond (.t 154) (oZ [oR 14 (.mv (.k (.b false)))]
 .ret) .skip)))
 (.reg [oM 117 25,oR 118 (.bin .add (.t 117) (.k (.i .i64 1))),oM 25 118])))
def L6(R:List Rl)(hd:List Str)(L:List CQ)(V:Nat)(n:Nat)(s:St):Prop:=(s.tm.get 15=some (.f (zfv R))/\s.tm.get 16=some (.ptr 0 2 0 0)/\s.tm.get 24=some (.sl V 0 4 1 4 true)/\s.tm.get 25=some (.f (.i .i64 n)))/\(∃r,s.h.get 0=some (.arr 2 r [[.f (zbQ hd),.f (qsF L)]]))/\s.h.get V=some (.arr 1 0 (zeF vN))
def k6(R R3:List Rl)(hl:R.length<1000)(hl3:R3.length<1000)(hR:∀r∈R,RlK r)(hR3:∀r∈R3,RlK r)(hsl:∀h:Nat->Option Ob,sliceB 4 h (.f (zfv R)) (some (.f (.i .i64 1))) none none=some (.f (zfv R3),[]))(hd:List Str)(L:List CQ)(hL:QN L)(V:Nat){Q:Ex->St->Prop}(s:St)(h:L6 R hd L V 0 s)(hQ:∀s,Q (.exit 6) s):WL pr zLN s Q:=by
 have hL2:=hL.2.1;have hLg:∀q∈L,CqG q/\q.as.length<=3:=fun q hq=>zFy (hL.2.2 q hq)
 refine zjr 4 (L6 R hd L V) (fun e s=>e= .exit 6) ?_ ?_ _ h (by rintro e s rfl;exact hQ s)
 .clear h hQ s;rintro n s hn ⟨⟨h15,h16,h24,h25⟩,⟨r0,g0⟩,gV⟩;unfold zLN;simp only[rU];have hw:=za5 n (by omega);have hni:(n:Int)<4:=by omega
  obtain⟨x,hx,hxm⟩ :∃x:Str,(zeF vN)[n]? =some [.f (.s x)]/\(x=[120]\/x=[121]\/x=[122]\/x=[]):=by
   match n,hn with
   |0,_=>exact⟨_,rfl,by simp⟩
   |1,_=>exact⟨_,rfl,by simp⟩
   |2,_=>exact⟨_,rfl,by simp⟩
   |3,_=>exact⟨_,rfl,by simp⟩
  have hk1:=zDr hR x hxm L hL;have hk2:=zDr hR3 x hxm L hL;have q11:=fun f=>zah (k:=f) (zQK R hl hR x hd L (by omega) hLg hk1)
  have q12:=fun f=>zah (k:=f) (zQL R hl hR x hd L (by omega) hLg hk1)
  have q11b:=fun f=>zah (k:=f) (zQK R3 hl3 hR3 x hd L (by omega) hLg hk2)
  have q12b:=fun f=>zah (k:=f) (zQL R3 hl3 hR3 x hd L (by omega) hLg hk2)
  rw[zab9]at q11 q11b;have hn1:=zka (zeE R x L) [];have hn2:=zka (zeE R3 x L) [];simp only[Z170]at hn1 hn2;generalize zdw (zeE R x L) []=v1 at*;generalize zdw (zeE R3 x L) []=v2 at*;have q10a:=fun f=>zah (k:=f) (zQJ v1 (by omega))
  have q10b:=fun f=>zah (k:=f) (zQJ v2 (by omega))
  generalize hE:zeF vN=E at gV hx;simp -implicitDefEqProofs [rW,h24,h25,hni,hn];refine zaC ?_;simp -implicitDefEqProofs [rW,h15,h16,h24,h25,g0,gV,hn,hx,zfV,za8,zsG,iF_d,hsl,q11,q12,q11b,q12b,q10a,q10b,hw];refine⟨⟨?_,?_,?_,?_⟩,?_,?_⟩
  .simp -implicitDefEqProofs [rW,h15]
  .simp -implicitDefEqProofs [rW,h16]
  .simp -implicitDefEqProofs [rW,h24]
  .simp -implicitDefEqProofs [rW,hw]
  .exact⟨r0,by simp -implicitDefEqProofs [rW,g0]⟩
  .rw[hE];simp -implicitDefEqProofs [rW,gV]
 .rintro s ⟨⟨h15,h16,h24,h25⟩,⟨r0,g0⟩,gV⟩;unfold zLN;simp only[rU];simp -implicitDefEqProofs [rW,h24,h25]
def row4:List (List D):=[[.f (.s [82]),.f (.b false),.sl 9 0 2 3 2 true],[.f (.s [83]),.f (.b false),.sl 10 0 1 3 1 true],[.f (.s [75]),.f (.b false),.sl 11 0 2 3 2 true],[.f (.s [67]),.f (.b true),.sl 12 0 2 3 2 true]]
def zkw(l:List (Str×Int×Bool)):List (List D):=l.map fun c=>[.f (.s c.1),.f (.i .i64 c.2.1),.f (.b c.2.2)]
def zFB{h:T Ob}:Eff pr 7 [] h 7 fun d h' c'=>d= .sl 13 0 4 3 4 true/\c'=14/\(∀x,x<7->h'.get x=h.get x)/\h'.get 9=some (.arr 3 0 (zkw sR.co))/\h'.get 10=some (.arr 3 0 (zkw sS.co))/\h'.get 11=some (.arr 3 0 (zkw sK.co))/\h'.get 12=some (.arr 3 0 (zkw sC.co))/\h'.get 13=some (.arr 3 0 row4):=by
 refine zl1 zfb fn7 ?_;simp only[g7,rU];simp -implicitDefEqProofs [rW,st0,zao,zn0,zkw,sR,sS,sK,sC,row4];intro x hx;have a7:¬x=7:=by omega
 have a8:¬x=8:=by omega
 have a9:¬x=9:=by omega
 have a10:¬x=10:=by omega
 have a11:¬x=11:=by omega
 have a12:¬x=12:=by omega
 have a13:¬x=13:=by omega
 simp -implicitDefEqProofs [rW,a7,a8,a9,a10,a11,a12,a13]
def zpr:List (List D):=row4++[[.f (.s []),.f (.b false),.f .nils]]
def zot{h:T Ob}(g9:h.get 9=some (.arr 3 0 (zkw sR.co)))(g10:h.get 10=some (.arr 3 0 (zkw sS.co)))(g11:h.get 11=some (.arr 3 0 (zkw sK.co)))(g12:h.get 12=some (.arr 3 0 (zkw sC.co)))(k:Nat)(S:Sch)(hk:zlh[k]? =some S):∃dC,zpr[k]? =some [.f (.s S.nm),.f (.b S.ce),dC]/\zyA h dC (zkX S.co):=by
 match k,hk with
 |0,hk=>cases hk;exact⟨_,rfl,.inr ⟨9,0,zkw sR.co,_,rfl,g9,fun _=>rfl,rfl,by omega,by omega⟩⟩
 |1,hk=>cases hk;exact⟨_,rfl,.inr ⟨10,0,zkw sS.co,_,rfl,g10,fun _=>rfl,rfl,by omega,by omega⟩⟩
 |2,hk=>cases hk;exact⟨_,rfl,.inr ⟨11,0,zkw sK.co,_,rfl,g11,fun _=>rfl,rfl,by omega,by omega⟩⟩
 |3,hk=>cases hk;exact⟨_,rfl,.inr ⟨12,0,zkw sC.co,_,rfl,g12,fun _=>rfl,rfl,by omega,by omega⟩⟩
 |4,hk=>cases hk;exact⟨_,rfl,.inl ⟨rfl,rfl⟩⟩
 |k+5,hk=>rw[Z97 (by simp[zlh])]at hk;cases hk
def zBq(a:Int):∃r:Nat,r<=3/\zbS .and (.i .u8 a) (.i .u8 3)=some (.i .u8 r):=by
 refine⟨(BitVec.ofInt 8 a&&& BitVec.ofInt 8 3).toNat,?_,?_⟩
 .rw[BitVec.toNat_and];refine Z3 Z203 ?_;decide
 .have hle:(BitVec.ofInt 8 a&&& BitVec.ofInt 8 3).toNat<=3:=by
   rw[BitVec.toNat_and];exact Z3 Z203 (by decide)
  have e:zbS .and (.i .u8 a) (.i .u8 3)=some (.i .u8 (IntKind.u8.wrap ((BitVec.ofInt 8 a&&& BitVec.ofInt 8 3).toNat:Int))):=rfl;rw[e];generalize (BitVec.ofInt 8 a&&& BitVec.ofInt 8 3).toNat=m at hle
  match m,hle with
  |0,_=>rfl
  |1,_=>rfl
  |2,_=>rfl
  |3,_=>rfl
def ans3{l q:F}(hl:ze5 l)(hq:ze5 q)(n m p i j:Int):Ans pr 3 [l,q,.i .i64 n,.i .i64 m,.i .u8 p,.i .i8 i,.i .i8 j] (.b true):=by
 have hld:=zrS hl;have hqd:=zrS hq;obtain⟨A,B,C,E,hA,hB,hC,hE,h4⟩ :=ans4 l hl hld;have hR:=rlsK A B C E hA hB hC hE;have hR3:∀r∈[rS B,rK C,rC E],RlK r:=fun r hr=>hR r (Z40 _ hr)
 have hsl:∀h:Nat->Option Ob,sliceB 4 h (.f (zfv [rR A,rS B,rK C,rC E])) (some (.f (.i .i64 1))) none none=some (.f (zfv [rS B,rK C,rC E]),[]):=fun h=>rfl
 have hn4:[rR A,rS B,rK C,rC E].length<1000:=by simp
 have hn3:[rS B,rK C,rC E].length<1000:=by simp
 change Ans pr 4 [l] (zfv [rR A,rS B,rK C,rC E])at h4;generalize [rR A,rS B,rK C,rC E]=R at*;generalize [rS B,rK C,rC E]=R3 at*;obtain⟨hd,L,hhd,hL,h5⟩ :=ans5 hq;obtain⟨a,ha,h6a⟩ :=ans6 n;obtain⟨b,hb,h6b⟩ :=ans6 m;have hag:=(zFy (zFx a ha)).1;have hbg:=(zFy (zFx b hb)).1;obtain⟨r,hr,hmask⟩ :=zBq p;have q4:=fun k=>zah (k:=k) h4
 have q5:=fun k=>zah (k:=k) h5
 have q6a:=fun k=>zah (k:=k) h6a
 have q6b:=fun k=>zah (k:=k) h6b
 have q13:=fun k=>zah (k:=k) ans13
 simp only[cqE]at q6a q6b;have hlc:(D.f l).cells=some [.f l]:=by rcases hl with rfl|⟨zs,rfl⟩ <;>rfl
 have hqc:(D.f q).cells=some [.f q]:=by rcases hq with rfl|⟨zs,rfl⟩ <;>rfl
 have hm5:=zaU (n:=5) (by omega);have hm240:=zaU (n:=240) (by omega);refine zdu fn3 ?_;simp only[g3,rU];obtain rfl|rfl|rfl|rfl:r=0\/r=1\/r=2\/r=3:=by omega
 .simp -implicitDefEqProofs [rW,st0,zao,hld,hqd,q4,q5,q6a,q6b,za8,zsG,za1,za2,zfV,hmask];refine zmR (c:=7) rfl (by simp only[rG]) zFB ?_;rintro d1 h1 c1 lw1 mx1 ⟨rfl,rfl,hlow,g9,g10,g11,g12,g13⟩ hcc;have z0:=hlow 0 (by omega);have z1:=hlow 1 (by omega);have z2:=hlow 2 (by omega);simp only[rG]at z0 z1 z2;simp[TG]at z0 z1 z2;clear hlow;simp -implicitDefEqProofs [rW,g13,row4,hm5,hm240];refine k0 i j (zfv R) hd L a b hag hbg (.f .nils) [] (by simp) zpr _ ⟨⟨⟨?_,?_,?_,?_,?_,?_,?_,?_⟩,⟨0,?_⟩,⟨0,?_⟩,⟨0,?_⟩,⟨0,?_⟩,?_,zot ?_ ?_ ?_ ?_,?_⟩,?_⟩ ?_
  any_goals (simp -implicitDefEqProofs [rW,hld,hqd,z0,z1,z2,g9,g10,g11,g12,zpr,row4,zfV];done)
  .exact .inl ⟨rfl,rfl⟩
  .clear z0 z1 z2 g9 g10 g11 g12 g13 hcc;rintro s ⟨⟨⟨h5,h6,h15,h16,h17,h18,h19,h20⟩,⟨r0,g0⟩,-,-,-,-,-,hlo⟩,h21⟩;simp -implicitDefEqProofs [rW,h15,h16];refine k6 R R3 hn4 hn3 hR hR3 hsl hd L hL s.c _ ⟨⟨?_,?_,?_,?_⟩,⟨r0,?_⟩,?_⟩ ?_
   any_goals (simp -implicitDefEqProofs [rW,h15,h16,g0,zeF,vN];done)
   .have n0:¬0=s.c:=by omega
    simp -implicitDefEqProofs [rW,n0,g0]
   .intro s;simp -implicitDefEqProofs [rW,q13]
 .simp -implicitDefEqProofs [rW,st0,zao,hld,hqd,q4,q5,q6a,q6b,za8,zsG,za1,za2,zfV,hmask];refine zmR (c:=7) rfl (by simp only[rG]) zFB ?_;rintro d1 h1 c1 lw1 mx1 ⟨rfl,rfl,hlow,g9,g10,g11,g12,g13⟩ hcc;have z0:=hlow 0 (by omega);have z1:=hlow 1 (by omega);have z2:=hlow 2 (by omega);have z3:=hlow 3 (by omega);simp only[rG]at z0 z1 z2 z3;simp[TG]at z0 z1 z2 z3;clear hlow;simp -implicitDefEqProofs [rW,g13,row4,hm5,hm240];refine k0 i j (zfv R) hd L a b hag hbg (.sl 3 0 1 1 1 true) [[120]] (by simp) zpr _ ⟨⟨⟨?_,?_,?_,?_,?_,?_,?_,?_⟩,⟨0,?_⟩,⟨0,?_⟩,⟨0,?_⟩,⟨0,?_⟩,?_,zot ?_ ?_ ?_ ?_,?_⟩,?_⟩ ?_
  any_goals (simp -implicitDefEqProofs [rW,hld,hqd,z0,z1,z2,g9,g10,g11,g12,zpr,row4,zfV];done)
  .exact .inr ⟨3,0,zeF [[120]],_,rfl,by simp -implicitDefEqProofs [rW,z3,zeF],fun _=>rfl,rfl,by omega,by omega⟩
  .clear z0 z1 z2 g9 g10 g11 g12 g13 hcc;rintro s ⟨⟨⟨h5,h6,h15,h16,h17,h18,h19,h20⟩,⟨r0,g0⟩,-,-,-,-,-,hlo⟩,h21⟩;simp -implicitDefEqProofs [rW,h15,h16];refine k6 R R3 hn4 hn3 hR hR3 hsl hd L hL s.c _ ⟨⟨?_,?_,?_,?_⟩,⟨r0,?_⟩,?_⟩ ?_
   any_goals (simp -implicitDefEqProofs [rW,h15,h16,g0,zeF,vN];done)
   .have n0:¬0=s.c:=by omega
    simp -implicitDefEqProofs [rW,n0,g0]
   .intro s;simp -implicitDefEqProofs [rW,q13]
 .simp -implicitDefEqProofs [rW,st0,zao,hld,hqd,q4,q5,q6a,q6b,za8,zsG,za1,za2,zfV,hmask];refine zmR (c:=7) rfl (by simp only[rG]) zFB ?_;rintro d1 h1 c1 lw1 mx1 ⟨rfl,rfl,hlow,g9,g10,g11,g12,g13⟩ hcc;have z0:=hlow 0 (by omega);have z1:=hlow 1 (by omega);have z2:=hlow 2 (by omega);have z4:=hlow 4 (by omega);simp only[rG]at z0 z1 z2 z4;simp[TG]at z0 z1 z2 z4;clear hlow;simp -implicitDefEqProofs [rW,g13,row4,hm5,hm240];refine k0 i j (zfv R) hd L a b hag hbg (.sl 4 0 1 1 1 true) [[121]] (by simp) zpr _ ⟨⟨⟨?_,?_,?_,?_,?_,?_,?_,?_⟩,⟨0,?_⟩,⟨0,?_⟩,⟨0,?_⟩,⟨0,?_⟩,?_,zot ?_ ?_ ?_ ?_,?_⟩,?_⟩ ?_
  any_goals (simp -implicitDefEqProofs [rW,hld,hqd,z0,z1,z2,g9,g10,g11,g12,zpr,row4,zfV];done)
  .exact .inr ⟨4,0,zeF [[121]],_,rfl,by simp -implicitDefEqProofs [rW,z4,zeF],fun _=>rfl,rfl,by omega,by omega⟩
  .clear z0 z1 z2 g9 g10 g11 g12 g13 hcc;rintro s ⟨⟨⟨h5,h6,h15,h16,h17,h18,h19,h20⟩,⟨r0,g0⟩,-,-,-,-,-,hlo⟩,h21⟩;simp -implicitDefEqProofs [rW,h15,h16];refine k6 R R3 hn4 hn3 hR hR3 hsl hd L hL s.c _ ⟨⟨?_,?_,?_,?_⟩,⟨r0,?_⟩,?_⟩ ?_
   any_goals (simp -implicitDefEqProofs [rW,h15,h16,g0,zeF,vN];done)
   .have n0:¬0=s.c:=by omega
    simp -implicitDefEqProofs [rW,n0,g0]
   .intro s;simp -implicitDefEqProofs [rW,q13]
 .simp -implicitDefEqProofs [rW,st0,zao,hld,hqd,q4,q5,q6a,q6b,za8,zsG,za1,za2,zfV,hmask];refine zmR (c:=7) rfl (by simp only[rG]) zFB ?_;rintro d1 h1 c1 lw1 mx1 ⟨rfl,rfl,hlow,g9,g10,g11,g12,g13⟩ hcc;have z0:=hlow 0 (by omega);have z1:=hlow 1 (by omega);have z2:=hlow 2 (by omega);have z5:=hlow 5 (by omega);simp only[rG]at z0 z1 z2 z5;simp[TG]at z0 z1 z2 z5;clear hlow;simp -implicitDefEqProofs [rW,g13,row4,hm5,hm240];refine k0 i j (zfv R) hd L a b hag hbg (.sl 5 0 2 1 2 true) [[120],[122]] (by simp) zpr _ ⟨⟨⟨?_,?_,?_,?_,?_,?_,?_,?_⟩,⟨0,?_⟩,⟨0,?_⟩,⟨0,?_⟩,⟨0,?_⟩,?_,zot ?_ ?_ ?_ ?_,?_⟩,?_⟩ ?_
  any_goals (simp -implicitDefEqProofs [rW,hld,hqd,z0,z1,z2,g9,g10,g11,g12,zpr,row4,zfV];done)
  .exact .inr ⟨5,0,zeF [[120],[122]],_,rfl,by simp -implicitDefEqProofs [rW,z5,zeF],fun _=>rfl,rfl,by omega,by omega⟩
  .clear z0 z1 z2 g9 g10 g11 g12 g13 hcc;rintro s ⟨⟨⟨h5,h6,h15,h16,h17,h18,h19,h20⟩,⟨r0,g0⟩,-,-,-,-,-,hlo⟩,h21⟩;simp -implicitDefEqProofs [rW,h15,h16];refine k6 R R3 hn4 hn3 hR hR3 hsl hd L hL s.c _ ⟨⟨?_,?_,?_,?_⟩,⟨r0,?_⟩,?_⟩ ?_
   any_goals (simp -implicitDefEqProofs [rW,h15,h16,g0,zeF,vN];done)
   .have n0:¬0=s.c:=by omega
    simp -implicitDefEqProofs [rW,n0,g0]
   .intro s;simp -implicitDefEqProofs [rW,q13]
end Go.Proofs.YtdonnbdegnkflaaGreatDoor
end
