/- Rounds: C. -/
import Derived.Test.YtlmnmaginhebdaaGreatDoorPe
import Derived.KernelRfl
import Derived.IntWalk
import Derived.Test.YtlmnmaginhebdaaGreatDoorPa
set_option linter.all false
set_option maxRecDepth 100000
set_option maxHeartbeats 4000000
noncomputable section
section
namespace Go.Proofs.YtlmnmaginhebdaaGreatDoor
open Go Go.Vse Go.Vse.Sm
def stepC(x:F)(hx:zgK x)(hxd:x.d= .f x)(id:Nat)(dO:D)(els:List (List D)):∀k s,KI [67] true coC TuC 3 x id dO els k s->wpC pr lo2 s (lp (KI [67] true coC TuC 3 x id dO els) k (KR [67] true coC TuC 3 x id dO els)):=by
 unfold lo2;rintro k s ⟨n,tu,hn,rfl,htl,h7,hT,h0,h4,h5,h6,h3,g,hg,c0⟩;obtain⟨a,ha,h14⟩ :=zmc hx 3 (by omega);obtain⟨b,hb,h14b⟩ :=zmc hx (13+n) (by omega);have q14:=fun k=>zal (k:=k) h14
 have hrm:=zeE a 4 (by omega);have hm4:a%4<4:=Z124 _ (by omega);have hs:zeF[3]? =some [.s [67],.b true,coC]:=rfl;have hmul:zbS .mul (.i .i64 3) (.i .i64 3)=some (.i .i64 9):=rfl;have hw:=zcM n (by omega);rw[show((3:Nat):Int)=3 from rfl]at q14;rw[show((4:Nat):Int)=4 from rfl]at hrm;generalize a%4=m4 at hrm hm4
 by_cases hlt:n<m4
 .by_cases hgo:True
  .have hw4:IntKind.i64.wrap (13:Int)=13:=rfl;have hwn:IntKind.i64.wrap ((13:Int)+(n:Int))=((13+n:Nat):Int):=wrap_i64 _ (by omega) (by omega);have q14b:=fun k=>zal (k:=k) h14b
   have hci:((13+n:Nat):Int)=(13:Int)+(n:Int):=rfl;rw[hci]at q14b hwn;obtain⟨z,hz⟩ :∃r:Int,zbS .shr (.i .i64 b) (.i .u64 4)=some (.i .i64 r):=⟨_,rfl⟩
   obtain⟨p,hp,h15⟩ :=zwi z;obtain⟨p0,p1,p2,rfl,hd0,hd1,hd2⟩ :=zbW _ hp;have q15:=fun k=>zal (k:=k) h15
   have q16:=fun k=>zal (k:=k) zqv
   have hr1:=zeE b 3 (by omega);have hq1:=zh3 b 3 (by omega) (by omega);have hr2:=zeE (b/3) 3 (by omega);have hq2:=zh3 (b/3) 3 (by omega) (by have:b/3<=b:=Nat.div_le_self _ _;omega);rw[show((3:Nat):Int)=3 from rfl]at hr1 hq1 hr2 hq2;have hb1:b%3<3:=Z124 _ (by omega);have hb2:b/3%3<3:=Z124 _ (by omega);generalize b/3%3=b2 at hr2 hb2;generalize b/3/3=b4 at hq2;generalize b/3=b3 at hq1 hr2 hq2;generalize b%3=b1 at hr1 hb1;have k1:¬id=s.c:=by omega
   have hok:TuC ([1+(b1:Int),1+(b2:Int)],[.b false,.sl 1 [[.i .u32 1]],.sl 1 [[.i .u32 1]]]):=⟨pp1,1+(b1:Int),1+(b2:Int),rfl⟩
   obtain⟨y,hy,h17⟩ :=zwo ztw [67] true coC tu (okC tu (by omega) hT) (by omega) ([1+(b1:Int),1+(b2:Int)],[.b false,.sl 1 [[.i .u32 1]],.sl 1 [[.i .u32 1]]]) pp1 (ckC _ hok) (fun m hm=>okC _ (by rw[zi5 m hm];omega) (zjc m hT hok));have h17:Ans pr 16 [.ag [.s [67],.b true,coC,slc 4 (tu.map tuF)],.ag [.sl 3 [[.i .i64 1,.i .i64 (1+(b1:Int)),.s []],[.i .i64 1,.i .i64 (1+(b2:Int)),.s []]],.b false,.sl 1 [[.i .u32 1]],.sl 1 [[.i .u32 1]]]] y:=h17;simp -implicitDefEqProofs [zaS,rR,apO,h0,h4,h5,h6,h3,h7,g,hxd,q14,hrm,hlt,hs,hgo,hmul,hw4,hwn,q14b,hz,q15,q16,hd0,hd1,hd2];refine zCZ s.h x 3 id dO n [.f (.s [67]),.f (.b true),.f coC,.f (slc 4 (tu.map tuF))] s.c (.f (.b false)) (.f (.sl 1 [[.i .u32 1]])) (.f (.sl 1 [[.i .u32 1]])) [67] true coC rfl rfl rfl b b1 b2 b3 b4 hr1 hq1 hr2 hq2 hb1 hb2 _ _ ⟨?_,?_,?_,?_,?_,?_,?_,?_,?_,?_,?_⟩ ?_ ?_ ?_ ?_
   any_goals (simp -implicitDefEqProofs [zaS,rR,apO,h0,h4,h5,h6,h3,h7,g,k1];done)
   .omega
   .intro j hj;simp only[zcc,zda,zc7,zb6,zcZ,zcY,zcb,zc3,zc1,zcf,zde,zdd,zbj,zb8,zb7,zdg,zdi,zdf]
    repeat first|rw[TG,Z49 (by omega)]|rw[Vse.T.zcS,Z49 (by omega)]
   .clear h0 h4 h5 h6 h3 h7 g k1;intro S idv hS g9 gv hi4 hi5;obtain⟨h0,h4,h5,h6,h3,h7,h9,g,hi1,hi2,hk⟩ :=hS;rw[show((3:Nat):Int)=3 from rfl]at h5;have hcd:coC.d= .f coC:=rfl;have hcc:(D.f coC).cells=some [.f coC]:=rfl;have j1:¬id=s.c:=by omega
    have j2:¬id=idv:=by omega
    have j3:¬id=S.c:=by omega
    have j4:¬s.c=id:=by omega
    have j5:¬s.c=idv:=by omega
    have j6:¬s.c=S.c:=by omega
    have j7:¬idv=id:=by omega
    have j8:¬idv=s.c:=by omega
    have j9:¬idv=S.c:=by omega
    have j10:¬S.c=id:=by omega
    have j11:¬S.c=s.c:=by omega
    have j12:¬S.c=idv:=by omega
    have keep:∀h':Vse.T Ob,(∀j,j<id->h'.get j=S.h.get j)->Grow h' 0 id 4 dO els:=fun h' hh=>zfw hg (fun j hj=>(hh j hj).trans (hk j hj)) (Z2 _)
    rcases hy with⟨e,he,rfl⟩ |⟨m,hm,rfl⟩
    .have q17:=fun k=>zal (k:=k) h17
     simp only[zRl]at q17;simp -implicitDefEqProofs [zaS,rR,apO,h0,h4,h5,h6,h3,h7,h9,g,g9,gv,hcd,hcc,hd0,hd1,hd2,hi2,hi5,j1,j2,j3,j4,j5,j6,j7,j8,j9,j10,j11,j12,q17,he,hw];rw[zc0];refine⟨3 - (n+1),by omega,n+1,tu,by omega,rfl,by omega,?_,hT,?_,?_,?_,?_,?_,?_,?_,?_⟩
     any_goals (simp -implicitDefEqProofs [zaS,rR,apO,h0,h4,h5,h6,h3,h7,h9,g,g9,gv,hcd,hcc,hd0,hd1,hd2,hi2,hi5,j1,j2,j3,j4,j5,j6,j7,j8,j9,j10,j11,j12];done)
     .simp only[zcc,zda,zc7,zb6,zcZ,zcY,zcb,zc3,zc1,zcf,zde,zdd,zbj,zb8,zb7,zdg,zdi,zdf];refine keep _ ?_;intro j hj
      repeat first|rw[TG,Z49 (by omega)]|rw[Vse.T.zcS,Z49 (by omega)]
     all_goals (simp only[zcc,zda,zc7,zb6,zcZ,zcY,zcb,zc3,zc1,zcf,zde,zdd,zbj,zb8,zb7,zdg,zdi,zdf];omega)
    .have q17:=fun k=>zal (k:=k) h17
     simp only[rlF]at q17;simp -implicitDefEqProofs [zaS,rR,apO,h0,h4,h5,h6,h3,h7,h9,g,g9,gv,hcd,hcc,hd0,hd1,hd2,hi2,hi5,j1,j2,j3,j4,j5,j6,j7,j8,j9,j10,j11,j12,q17,hw];refine⟨by omega,?_⟩;rw[zc0];refine⟨3 - (n+1),by omega,n+1,tu.take m++([1+(b1:Int),1+(b2:Int)],[.b false,.sl 1 [[.i .u32 1]],.sl 1 [[.i .u32 1]]])::tu.drop m,by omega,rfl,by rw[zi5 m hm];omega,?_,zjc m hT hok,?_,?_,?_,?_,?_,?_,?_,?_⟩
     any_goals (simp -implicitDefEqProofs [zaS,rR,apO,h0,h4,h5,h6,h3,h7,h9,g,g9,gv,hcd,hcc,hd0,hd1,hd2,hi2,hi5,j1,j2,j3,j4,j5,j6,j7,j8,j9,j10,j11,j12];done)
     .simp only[zcc,zda,zc7,zb6,zcZ,zcY,zcb,zc3,zc1,zcf,zde,zdd,zbj,zb8,zb7,zdg,zdi,zdf];refine keep _ ?_;intro j hj
      repeat first|rw[TG,Z49 (by omega)]|rw[Vse.T.zcS,Z49 (by omega)]
     all_goals (simp only[zcc,zda,zc7,zb6,zcZ,zcY,zcb,zc3,zc1,zcf,zde,zdd,zbj,zb8,zb7,zdg,zdi,zdf];omega)
  .exact absurd trivial hgo
 .simp -implicitDefEqProofs [zaS,rR,apO,h0,h4,h5,h6,h3,h7,g,hxd,q14,hrm,hlt,hs];refine⟨rfl,tu,by omega,hT,?_,?_,?_,?_,?_,?_,?_,?_⟩
  all_goals simp -implicitDefEqProofs [zaS,rR,apO,h0,h4,h5,h6,h3,g,hg,c0]
def fn5:pr.fn 5=some g5:=by kernel_rfl
def lo4:C:=(.seq (.seq (.reg [⟨(some 14),none,.mv (.t 5)⟩,⟨(some 15),none,.mv (.t 4)⟩,⟨(some 16),none,.len (.t 15)⟩,⟨(some 17),none,.bin .lss (.t 14) (.t 16)⟩])
 (.cond (.t 17) (.skip) (.exit 0)))
 (.seq (.blk 1 (.seq (.reg [⟨(some 20),none,.mv (.t 4)⟩,⟨(some 21),none,.mv (.t 5)⟩,⟨(some 22),none,.ia 3 (.t 20) (.t 21)⟩,⟨(some 23),none,.ld true 3 (.t 22)⟩,⟨(some 24),none,.bld [.s [],.b false,.nils,.nils] [(0,3,(.t 23))]⟩,⟨(some 6),none,.new [.s [],.b false,.nils,.nils]⟩,⟨none,none,.st 4 (.t 6) (.t 24)⟩])
 (.seq (.seq (.reg [⟨(some 7),none,.mv (.k (.i .i64 0))⟩])
 (.blk 2 (.loop (.seq (.seq (.reg [⟨(some 25),none,.mv (.t 7)⟩,⟨(some 26),none,.mv (.t 0)⟩,⟨(some 27),none,.mv (.t 5)⟩,⟨(some 28),none,.callp 12 [(.t 26),(.t 27)]⟩,⟨(some 29),none,.bin .rem (.t 28) (.k (.i .i64 4))⟩,⟨(some 30),none,.bin .lss (.t 25) (.t 29)⟩,⟨(some 31),none,.mv (.t 30)⟩,⟨(some 32),(some (31,true)),.mv (.t 5)⟩,⟨(some 33),(some (31,true)),.bin .eql (.t 32) (.k (.i .i64 1))⟩,⟨(some 34),(some (31,true)),.mv (.t 33)⟩,⟨(some 35),(some (34,true)),.mv (.t 7)⟩,⟨(some 36),(some (34,true)),.bin .eql (.t 35) (.k (.i .i64 2))⟩,⟨(some 37),(some (31,true)),.pick (.t 34) (.t 36) (.k (.b false))⟩,⟨(some 38),(some (31,true)),.un .not (.t 37)⟩,⟨(some 39),none,.pick (.t 31) (.t 38) (.k (.b false))⟩])
 (.cond (.t 39) (.skip) (.exit 2)))
 (.seq (.blk 3 (.seq (.reg [⟨(some 42),none,.mv (.t 0)⟩,⟨(some 43),none,.mv (.t 5)⟩,⟨(some 44),none,.bin .mul (.k (.i .i64 3)) (.t 43)⟩,⟨(some 45),none,.bin .add (.k (.i .i64 4)) (.t 44)⟩,⟨(some 46),none,.mv (.t 7)⟩,⟨(some 47),none,.bin .add (.t 45) (.t 46)⟩,⟨(some 48),none,.callp 12 [(.t 42),(.t 47)]⟩,⟨(some 8),none,.mv (.t 48)⟩])
 (.seq (.reg [⟨(some 49),none,.mv (.t 8)⟩,⟨(some 50),none,.bin .shr (.t 49) (.k (.i .u64 4))⟩,⟨(some 51),none,.callp 13 [(.t 50)]⟩,⟨(some 52),none,.bld [.nils,.b false,.nils,.nils] [(1,3,(.t 51))]⟩,⟨(some 9),none,.new [.nils,.b false,.nils,.nils]⟩,⟨none,none,.st 4 (.t 9) (.t 52)⟩])
 (.seq (.seq (.reg [⟨(some 53),none,.mv (.t 4)⟩,⟨(some 54),none,.mv (.t 5)⟩,⟨(some 55),none,.ia 3 (.t 53) (.t 54)⟩,⟨(some 56),none,.fa 1 (.t 55)⟩,⟨(some 57),none,.ld false 1 (.t 56)⟩])
 (.cond (.t 57) (.reg [⟨(some 58),none,.callp 14 [(.k (.i .i64 1))]⟩,⟨(some 59),none,.fa 1 (.t 9)⟩,⟨none,none,.st 3 (.t 59) (.t 58)⟩]) (.skip)))
 (.seq (.seq (.reg [⟨(some 10),none,.mv (.k (.i .i64 0))⟩])
 (.blk 4 (.loop (.seq (.seq (.reg [⟨(some 60),none,.mv (.t 10)⟩,⟨(some 61),none,.mv (.t 4)⟩,⟨(some 62),none,.mv (.t 5)⟩,⟨(some 63),none,.ia 3 (.t 61) (.t 62)⟩,⟨(some 64),none,.fa 2 (.t 63)⟩,⟨(some 65),none,.ld false 1 (.t 64)⟩,⟨(some 66),none,.len (.t 65)⟩,⟨(some 67),none,.bin .lss (.t 60) (.t 66)⟩])
 (.cond (.t 67) (.skip) (.exit 4)))
 (.seq (.blk 5 (.seq (.dreg [(⟨(some 70),none,.fa 0 (.t 9)⟩,0),(⟨(some 71),none,.ld false 1 (.t 70)⟩,0),(⟨(some 72),none,.mv (.t 8)⟩,3),(⟨(some 73),none,.bin .rem (.t 72) (.k (.i .i64 3))⟩,3),(⟨(some 74),none,.bin .add (.k (.i .i64 1)) (.t 73)⟩,3),(⟨(some 75),none,.callp 15 [(.t 74)]⟩,3),(⟨(some 76),none,.bsf 3 [.i .i64 0,.i .i64 0,.s []] 1 [(0,(.t 75))]⟩,3),(⟨(some 77),none,.app 3 32 (.t 71) (.t 76)⟩,0),(⟨(some 78),none,.fa 0 (.t 9)⟩,0),(⟨none,none,.st 1 (.t 78) (.t 77)⟩,0)])
 (.reg [⟨(some 79),none,.mv (.t 8)⟩,⟨(some 80),none,.bin .quo (.t 79) (.k (.i .i64 3))⟩,⟨(some 8),none,.mv (.t 80)⟩])))
 (.reg [⟨(some 68),none,.mv (.t 10)⟩,⟨(some 69),none,.bin .add (.t 68) (.k (.i .i64 1))⟩,⟨(some 10),none,.mv (.t 69)⟩]))))))
 (.seq (.reg [⟨(some 82),none,.ld true 4 (.t 6)⟩,⟨(some 83),none,.ld true 4 (.t 9)⟩,⟨(some 84),none,.callp 16 [(.t 82),(.t 83)]⟩,⟨(some 81),none,.mv (.t 84)⟩,⟨(some 85),none,.ext (.t 81) 0⟩,⟨(some 86),none,.ext (.t 81) 1⟩,⟨(some 11),none,.new [.s [],.b false,.nils,.nils]⟩,⟨none,none,.st 4 (.t 11) (.t 85)⟩,⟨(some 12),none,.mv (.t 86)⟩])
 (.seq (.reg [⟨(some 87),none,.mv (.t 12)⟩,⟨(some 88),none,.bin .eql (.t 87) (.k (.i .i64 0))⟩])
 (.cond (.t 88) (.reg [⟨(some 89),none,.ld true 4 (.t 11)⟩,⟨none,none,.st 4 (.t 6) (.t 89)⟩]) (.skip)))))))))
 (.reg [⟨(some 40),none,.mv (.t 7)⟩,⟨(some 41),none,.bin .add (.t 40) (.k (.i .i64 1))⟩,⟨(some 7),none,.mv (.t 41)⟩]))))))
 (.reg [⟨(some 90),none,.mv (.t 3)⟩,⟨(some 91),none,.ld true 4 (.t 6)⟩,⟨(some 92),none,.bsf 4 [.s [],.b false,.nils,.nils] 1 [(0,(.t 91))]⟩,⟨(some 93),none,.app 4 72 (.t 90) (.t 92)⟩,⟨(some 3),none,.mv (.t 93)⟩]))))
 (.reg [⟨(some 18),none,.mv (.t 5)⟩,⟨(some 19),none,.bin .add (.t 18) (.k (.i .i64 1))⟩,⟨(some 5),none,.mv (.t 19)⟩])))
def rlG(L:List Rl):List (List D):=L.map fun r=>(rlF r).map D.f
def zW8(h:Nat->Option Ob)(k:Nat)(L:List Rl):zbk (frz h (k+1)) (rlG L)=some (L.map rlF,[]):=by
 have:=zOx h k (L.map rlF)
 rwa[Z33]at this
def OB(x:F)(i:Int)(L:List Rl)(S:St):Prop:=S.tm.get 0=some (.f x)/\S.tm.get 4=some (.f (.sl 3 zeF))/\S.tm.get 5=some (.f (.i .i64 i))/\∃dO,S.tm.get 3=some dO/\Grow S.h 0 S.c 4 dO (rlG L)
def zaaF(x:F)(hx:zgK x)(hxd:x.d= .f x)(L:List Rl)(hL:L.length<10)(S:St)(Q:Ex->St->Prop)(hS:OB x 0 L S)(hQ:∀S' tu,tu.length<=3->(∀t∈tu,TuR t)->OB x 1 (L++[rR tu]) S'->WL pr lo4 S' Q):WL pr lo4 S Q:=by
 unfold lo4 at hQ|-;obtain⟨h0,h4,h5,dO,h3,hg⟩ :=hS;have hs:zeF[0]? =some [.s [82],.b false,coR]:=rfl;have hs2:∀h:0<zeF.length,zeF[0]=[.s [82],.b false,coR]:=fun _=>rfl
 have hsl:zeF.length=4:=rfl;have hcd:coR.d= .f coR:=rfl;have hcc:(D.f coR).cells=some [.f coR]:=rfl;have hw:IntKind.i64.wrap 1=1:=rfl;refine round ?_;simp -implicitDefEqProofs [zaS,rR,apO,h0,h4,h5,h3,hs,hs2,hsl,hcd,hcc];refine zfm (KI [82] false coR TuR 0 x S.c dO (rlG L)) (KR [82] false coR TuR 0 x S.c dO (rlG L)) (stepR x hx hxd S.c dO (rlG L)) 3 _ ⟨0,[],by omega,rfl,by simp,?_,by simp,?_,?_,?_,?_,?_,?_,?_,?_⟩ ?_
 any_goals (simp -implicitDefEqProofs [zaS,rR,apO,h0,h4,h5,h3,hcd];done)
 any_goals (simp -implicitDefEqProofs [zaS,rR,apO,h0,h4,h5,h3,hcd,Z85,zcE];done)
 .simp only[zcc,zda,zc7,zb6,zcZ,zcY,zcb,zc3,zc1,zcf,zde,zdd,zbj,zb8,zb7,zdg,zdi,zdf];refine zfw hg ?_ (Z2 _);intro j hj
  repeat first|rw[TG,Z49 (by omega)]|rw[Vse.T.zcS,Z49 (by omega)]
 .rintro e S' ⟨rfl,tu,htl,hT,h0,h4,h5,h6,h3,g,hg,hc⟩;simp -implicitDefEqProofs [zjS,Z67,Z79,zhq,zhb,zhg,zha,zg7,zg8,zg5,zhh,zhm,zhn,zhk,zhs,zht,zhr,h0,h4,h5,h6,h3,g,hcd,hcc];refine zqJ (new:=[(rlF (rR tu)).map D.f]) (zfw hg (fun _ _=>rfl) (Z110 hc)) (Z61 _) (by simp[rlG];omega) (by omega) ?_;intro r hr1 hr2 hr3 _;refine⟨hr1,?_⟩;simp -implicitDefEqProofs [zaS,rR,apO,h5,hw];refine hQ _ tu htl hT ⟨?_,?_,?_,r.d,?_,?_⟩
  any_goals (simp -implicitDefEqProofs [zaS,rR,apO,h0,h4,h5,h3];done)
  simp only[zcc,zda,zc7,zb6,zcZ,zcY,zcb,zc3,zc1,zcf,zde,zdd,zbj,zb8,zb7,zdg,zdi,zdf];have e:rlG (L++[rR tu])=rlG L++[(rlF (rR tu)).map D.f]:=by simp[rlG]
  rw[e];exact hr2
def zaaG(x:F)(hx:zgK x)(hxd:x.d= .f x)(L:List Rl)(hL:L.length<10)(S:St)(Q:Ex->St->Prop)(hS:OB x 1 L S)(hQ:∀S' tu,tu.length<=3->(∀t∈tu,TuS t)->OB x 2 (L++[rS tu]) S'->WL pr lo4 S' Q):WL pr lo4 S Q:=by
 unfold lo4 at hQ|-;obtain⟨h0,h4,h5,dO,h3,hg⟩ :=hS;have hs:zeF[1]? =some [.s [83],.b false,coS]:=rfl;have hs2:∀h:1<zeF.length,zeF[1]=[.s [83],.b false,coS]:=fun _=>rfl
 have hsl:zeF.length=4:=rfl;have hcd:coS.d= .f coS:=rfl;have hcc:(D.f coS).cells=some [.f coS]:=rfl;have hw:IntKind.i64.wrap 2=2:=rfl;refine round ?_;simp -implicitDefEqProofs [zaS,rR,apO,h0,h4,h5,h3,hs,hs2,hsl,hcd,hcc];refine zfm (KI [83] false coS TuS 1 x S.c dO (rlG L)) (KR [83] false coS TuS 1 x S.c dO (rlG L)) (stepS x hx hxd S.c dO (rlG L)) 3 _ ⟨0,[],by omega,rfl,by simp,?_,by simp,?_,?_,?_,?_,?_,?_,?_,?_⟩ ?_
 any_goals (simp -implicitDefEqProofs [zaS,rR,apO,h0,h4,h5,h3,hcd];done)
 any_goals (simp -implicitDefEqProofs [zaS,rR,apO,h0,h4,h5,h3,hcd,Z85,zcE];done)
 .simp only[zcc,zda,zc7,zb6,zcZ,zcY,zcb,zc3,zc1,zcf,zde,zdd,zbj,zb8,zb7,zdg,zdi,zdf];refine zfw hg ?_ (Z2 _);intro j hj
  repeat first|rw[TG,Z49 (by omega)]|rw[Vse.T.zcS,Z49 (by omega)]
 .rintro e S' ⟨rfl,tu,htl,hT,h0,h4,h5,h6,h3,g,hg,hc⟩;simp -implicitDefEqProofs [zjS,Z67,Z79,zhq,zhb,zhg,zha,zg7,zg8,zg5,zhh,zhm,zhn,zhk,zhs,zht,zhr,h0,h4,h5,h6,h3,g,hcd,hcc];refine zqJ (new:=[(rlF (rS tu)).map D.f]) (zfw hg (fun _ _=>rfl) (Z110 hc)) (Z61 _) (by simp[rlG];omega) (by omega) ?_;intro r hr1 hr2 hr3 _;refine⟨hr1,?_⟩;simp -implicitDefEqProofs [zaS,rR,apO,h5,hw];refine hQ _ tu htl hT ⟨?_,?_,?_,r.d,?_,?_⟩
  any_goals (simp -implicitDefEqProofs [zaS,rR,apO,h0,h4,h5,h3];done)
  simp only[zcc,zda,zc7,zb6,zcZ,zcY,zcb,zc3,zc1,zcf,zde,zdd,zbj,zb8,zb7,zdg,zdi,zdf];have e:rlG (L++[rS tu])=rlG L++[(rlF (rS tu)).map D.f]:=by simp[rlG]
  rw[e];exact hr2
def zaaE(x:F)(hx:zgK x)(hxd:x.d= .f x)(L:List Rl)(hL:L.length<10)(S:St)(Q:Ex->St->Prop)(hS:OB x 2 L S)(hQ:∀S' tu,tu.length<=3->(∀t∈tu,TuK t)->OB x 3 (L++[rK tu]) S'->WL pr lo4 S' Q):WL pr lo4 S Q:=by
 unfold lo4 at hQ|-;obtain⟨h0,h4,h5,dO,h3,hg⟩ :=hS;have hs:zeF[2]? =some [.s [75],.b false,coK]:=rfl;have hs2:∀h:2<zeF.length,zeF[2]=[.s [75],.b false,coK]:=fun _=>rfl
 have hsl:zeF.length=4:=rfl;have hcd:coK.d= .f coK:=rfl;have hcc:(D.f coK).cells=some [.f coK]:=rfl;have hw:IntKind.i64.wrap 3=3:=rfl;refine round ?_;simp -implicitDefEqProofs [zaS,rR,apO,h0,h4,h5,h3,hs,hs2,hsl,hcd,hcc];refine zfm (KI [75] false coK TuK 2 x S.c dO (rlG L)) (KR [75] false coK TuK 2 x S.c dO (rlG L)) (stepK x hx hxd S.c dO (rlG L)) 3 _ ⟨0,[],by omega,rfl,by simp,?_,by simp,?_,?_,?_,?_,?_,?_,?_,?_⟩ ?_
 any_goals (simp -implicitDefEqProofs [zaS,rR,apO,h0,h4,h5,h3,hcd];done)
 any_goals (simp -implicitDefEqProofs [zaS,rR,apO,h0,h4,h5,h3,hcd,Z85,zcE];done)
 .simp only[zcc,zda,zc7,zb6,zcZ,zcY,zcb,zc3,zc1,zcf,zde,zdd,zbj,zb8,zb7,zdg,zdi,zdf];refine zfw hg ?_ (Z2 _);intro j hj
  repeat first|rw[TG,Z49 (by omega)]|rw[Vse.T.zcS,Z49 (by omega)]
 .rintro e S' ⟨rfl,tu,htl,hT,h0,h4,h5,h6,h3,g,hg,hc⟩;simp -implicitDefEqProofs [zjS,Z67,Z79,zhq,zhb,zhg,zha,zg7,zg8,zg5,zhh,zhm,zhn,zhk,zhs,zht,zhr,h0,h4,h5,h6,h3,g,hcd,hcc];refine zqJ (new:=[(rlF (rK tu)).map D.f]) (zfw hg (fun _ _=>rfl) (Z110 hc)) (Z61 _) (by simp[rlG];omega) (by omega) ?_;intro r hr1 hr2 hr3 _;refine⟨hr1,?_⟩;simp -implicitDefEqProofs [zaS,rR,apO,h5,hw];refine hQ _ tu htl hT ⟨?_,?_,?_,r.d,?_,?_⟩
  any_goals (simp -implicitDefEqProofs [zaS,rR,apO,h0,h4,h5,h3];done)
  simp only[zcc,zda,zc7,zb6,zcZ,zcY,zcb,zc3,zc1,zcf,zde,zdd,zbj,zb8,zb7,zdg,zdi,zdf];have e:rlG (L++[rK tu])=rlG L++[(rlF (rK tu)).map D.f]:=by simp[rlG]
  rw[e];exact hr2
def zaaD(x:F)(hx:zgK x)(hxd:x.d= .f x)(L:List Rl)(hL:L.length<10)(S:St)(Q:Ex->St->Prop)(hS:OB x 3 L S)(hQ:∀S' tu,tu.length<=3->(∀t∈tu,TuC t)->OB x 4 (L++[rC tu]) S'->WL pr lo4 S' Q):WL pr lo4 S Q:=by
 unfold lo4 at hQ|-;obtain⟨h0,h4,h5,dO,h3,hg⟩ :=hS;have hs:zeF[3]? =some [.s [67],.b true,coC]:=rfl;have hs2:∀h:3<zeF.length,zeF[3]=[.s [67],.b true,coC]:=fun _=>rfl
 have hsl:zeF.length=4:=rfl;have hcd:coC.d= .f coC:=rfl;have hcc:(D.f coC).cells=some [.f coC]:=rfl;have hw:IntKind.i64.wrap 4=4:=rfl;refine round ?_;simp -implicitDefEqProofs [zaS,rR,apO,h0,h4,h5,h3,hs,hs2,hsl,hcd,hcc];refine zfm (KI [67] true coC TuC 3 x S.c dO (rlG L)) (KR [67] true coC TuC 3 x S.c dO (rlG L)) (stepC x hx hxd S.c dO (rlG L)) 3 _ ⟨0,[],by omega,rfl,by simp,?_,by simp,?_,?_,?_,?_,?_,?_,?_,?_⟩ ?_
 any_goals (simp -implicitDefEqProofs [zaS,rR,apO,h0,h4,h5,h3,hcd];done)
 any_goals (simp -implicitDefEqProofs [zaS,rR,apO,h0,h4,h5,h3,hcd,Z85,zcE];done)
 .simp only[zcc,zda,zc7,zb6,zcZ,zcY,zcb,zc3,zc1,zcf,zde,zdd,zbj,zb8,zb7,zdg,zdi,zdf];refine zfw hg ?_ (Z2 _);intro j hj
  repeat first|rw[TG,Z49 (by omega)]|rw[Vse.T.zcS,Z49 (by omega)]
 .rintro e S' ⟨rfl,tu,htl,hT,h0,h4,h5,h6,h3,g,hg,hc⟩;simp -implicitDefEqProofs [zjS,Z67,Z79,zhq,zhb,zhg,zha,zg7,zg8,zg5,zhh,zhm,zhn,zhk,zhs,zht,zhr,h0,h4,h5,h6,h3,g,hcd,hcc];refine zqJ (new:=[(rlF (rC tu)).map D.f]) (zfw hg (fun _ _=>rfl) (Z110 hc)) (Z61 _) (by simp[rlG];omega) (by omega) ?_;intro r hr1 hr2 hr3 _;refine⟨hr1,?_⟩;simp -implicitDefEqProofs [zaS,rR,apO,h5,hw];refine hQ _ tu htl hT ⟨?_,?_,?_,r.d,?_,?_⟩
  any_goals (simp -implicitDefEqProofs [zaS,rR,apO,h0,h4,h5,h3];done)
  simp only[zcc,zda,zc7,zb6,zcZ,zcY,zcb,zc3,zc1,zcf,zde,zdd,zbj,zb8,zb7,zdg,zdi,zdf];have e:rlG (L++[rC tu])=rlG L++[(rlF (rC tu)).map D.f]:=by simp[rlG]
  rw[e];exact hr2
def zX9(y:F):Prop:=∃a b c d,(a.length<=3/\∀t∈a,TuR t)/\(b.length<=3/\∀t∈b,TuS t)/\(c.length<=3/\∀t∈c,TuK t)/\(d.length<=3/\∀t∈d,TuC t)/\y=slc 4 ([rR a,rS b,rK c,rC d].map rlF)
def ans5(x:F)(hx:zgK x)(hxd:x.d= .f x):∃a b c d,(a.length<=3/\∀t∈a,TuR t)/\(b.length<=3/\∀t∈b,TuS t)/\(c.length<=3/\∀t∈c,TuK t)/\(d.length<=3/\∀t∈d,TuC t)/\Ans pr 5 [x] (slc 4 ([rR a,rS b,rK c,rC d].map rlF)):=by
 have main:∃y,zX9 y/\Ans pr 5 [x] y:=by
  refine zuq fn5 ?_;have q13:=fun k=>zal (k:=k) ans11
  have hsl:zeF.length=4:=rfl;simp only[g5,rU];simp -implicitDefEqProofs [zaS,rR,apO,st0,zaF,hxd,q13];refine zaaF x hx hxd [] (by simp) _ _ ⟨?_,?_,?_,.f .nils,?_,Grow.nil⟩ ?_
  any_goals (simp -implicitDefEqProofs [zaS,rR,apO,zaF];done)
  intro S1 a ha1 ha2 h1;refine zaaG x hx hxd _ (by simp) _ _ h1 ?_;intro S2 b hb1 hb2 h2;refine zaaE x hx hxd _ (by simp) _ _ h2 ?_;intro S3 c hc1 hc2 h3;refine zaaD x hx hxd _ (by simp) _ _ h3 ?_;rintro S4 d hd1 hd2 ⟨h0,h4,h5,dO,h3,hg⟩;unfold lo4;refine round ?_;obtain⟨rd,hf⟩ :=zJB (k:=11) hg (zW8 _ 10 _);simp -implicitDefEqProofs [zaS,rR,apO,h0,h4,h5,h3,hsl,hf];exact⟨a,b,c,d,⟨ha1,ha2⟩,⟨hb1,hb2⟩,⟨hc1,hc2⟩,⟨hd1,hd2⟩,rfl⟩
 obtain⟨y,⟨a,b,c,d,h1,h2,h3,h4,rfl⟩,ha⟩ :=main;exact⟨a,b,c,d,h1,h2,h3,h4,ha⟩
def cqA(m:Int):CQ:=⟨[⟨[82],false,[.var [120],.cst m]⟩],[],false,false⟩
def cqB(m:Int):CQ:=⟨[⟨[83],false,[.var [120]]⟩,⟨[82],true,[.var [120],.cst m]⟩],[],false,false⟩
def zJh(m:Int)(tu:List (List Int×List F)):List Int:=tu.filterMap fun t=>match t.1 with
 |[a,b]=>if b=m then some a else none
 |_=>none
def zJi(tu:List (List Int×List F)):List Int:=tu.filterMap fun t=>match t.1 with
 |[a]=>some a
 |_=>none
theorem exA(m:Int)(hm:m=1\/m=2\/m=3)(tu:List (List Int×List F))(hn:tu.length<=3)(ht:∀t∈tu,TuR t)(b c d:List (List Int×List F)):
  Ans pr 82 [slc 4 ([rR tu,rS b,rK c,rC d].map rlF),.ag (cqF (cqA m)),.i .i64 0,.ag [.nils,.nils],.b false] (zlX (zJh m tu)):=by
 match tu,hn with
 |[],_=>rcases hm with rfl|rfl|rfl<;>exact zas (n:=1000) (zay pr) (by kernel_rfl)
 |[t0],_=>
  obtain⟨hp0,a0,b0,he0,l0,k0⟩ :=ht t0 (by simp);obtain⟨x0,y0,z0,hx0,_,_,_⟩ :=zbW _ hp0;obtain⟨v0,w0⟩ :=t0;simp only at he0 hx0;subst he0 hx0;have q0:b0=1\/b0=2\/b0=3:=by omega
  rcases hm with rfl|rfl|rfl<;>rcases q0 with rfl|rfl|rfl<;>exact zas (n:=1000) (zay pr) (by kernel_rfl)
 |[t0,t1],_=>
  obtain⟨hp0,a0,b0,he0,l0,k0⟩ :=ht t0 (by simp);obtain⟨x0,y0,z0,hx0,_,_,_⟩ :=zbW _ hp0;obtain⟨v0,w0⟩ :=t0;simp only at he0 hx0;subst he0 hx0;obtain⟨hp1,a1,b1,he1,l1,k1⟩ :=ht t1 (by simp);obtain⟨x1,y1,z1,hx1,_,_,_⟩ :=zbW _ hp1;obtain⟨v1,w1⟩ :=t1;simp only at he1 hx1;subst he1 hx1;have q0:b0=1\/b0=2\/b0=3:=by omega
  have q1:b1=1\/b1=2\/b1=3:=by omega
  rcases hm with rfl|rfl|rfl<;>rcases q0 with rfl|rfl|rfl<;>rcases q1 with rfl|rfl|rfl<;>exact zas (n:=1000) (zay pr) (by kernel_rfl)
 |[t0,t1,t2],_=>
  obtain⟨hp0,a0,b0,he0,l0,k0⟩ :=ht t0 (by simp);obtain⟨x0,y0,z0,hx0,_,_,_⟩ :=zbW _ hp0;obtain⟨v0,w0⟩ :=t0;simp only at he0 hx0;subst he0 hx0;obtain⟨hp1,a1,b1,he1,l1,k1⟩ :=ht t1 (by simp);obtain⟨x1,y1,z1,hx1,_,_,_⟩ :=zbW _ hp1;obtain⟨v1,w1⟩ :=t1;simp only at he1 hx1;subst he1 hx1;obtain⟨hp2,a2,b2,he2,l2,k2⟩ :=ht t2 (by simp);obtain⟨x2,y2,z2,hx2,_,_,_⟩ :=zbW _ hp2;obtain⟨v2,w2⟩ :=t2;simp only at he2 hx2;subst he2 hx2;have q0:b0=1\/b0=2\/b0=3:=by omega
  have q1:b1=1\/b1=2\/b1=3:=by omega
  have q2:b2=1\/b2=2\/b2=3:=by omega
  rcases hm with rfl|rfl|rfl<;>rcases q0 with rfl|rfl|rfl<;>rcases q1 with rfl|rfl|rfl<;>rcases q2 with rfl|rfl|rfl<;>exact zas (n:=1000) (zay pr) (by kernel_rfl)
 |_::_::_::_::_,h=>exact absurd h (by simp)
theorem exB(m:Int)(tu:List (List Int×List F))(hn:tu.length<=3)(ht:∀t∈tu,TuS t)(a c d:List (List Int×List F)):
  Ans pr 82 [slc 4 ([rR a,rS tu,rK c,rC d].map rlF),.ag (cqF (cqB m)),.i .i64 0,.ag [.nils,.nils],.b false] (zlX (zJi tu)):=by
 match tu,hn with
 |[],_=>exact zas (n:=1000) (zay pr) (by kernel_rfl)
 |[t0],_=>
  obtain⟨hp0,a0,he0⟩ :=ht t0 (by simp);obtain⟨x0,y0,z0,hx0,_,_,_⟩ :=zbW _ hp0;obtain⟨v0,w0⟩ :=t0;simp only at he0 hx0;subst he0 hx0;exact zas (n:=1000) (zay pr) (by kernel_rfl)
 |[t0,t1],_=>
  obtain⟨hp0,a0,he0⟩ :=ht t0 (by simp);obtain⟨x0,y0,z0,hx0,_,_,_⟩ :=zbW _ hp0;obtain⟨v0,w0⟩ :=t0;simp only at he0 hx0;subst he0 hx0;obtain⟨hp1,a1,he1⟩ :=ht t1 (by simp);obtain⟨x1,y1,z1,hx1,_,_,_⟩ :=zbW _ hp1;obtain⟨v1,w1⟩ :=t1;simp only at he1 hx1;subst he1 hx1;exact zas (n:=1000) (zay pr) (by kernel_rfl)
 |[t0,t1,t2],_=>
  obtain⟨hp0,a0,he0⟩ :=ht t0 (by simp);obtain⟨x0,y0,z0,hx0,_,_,_⟩ :=zbW _ hp0;obtain⟨v0,w0⟩ :=t0;simp only at he0 hx0;subst he0 hx0;obtain⟨hp1,a1,he1⟩ :=ht t1 (by simp);obtain⟨x1,y1,z1,hx1,_,_,_⟩ :=zbW _ hp1;obtain⟨v1,w1⟩ :=t1;simp only at he1 hx1;subst he1 hx1;obtain⟨hp2,a2,he2⟩ :=ht t2 (by simp);obtain⟨x2,y2,z2,hx2,_,_,_⟩ :=zbW _ hp2;obtain⟨v2,w2⟩ :=t2;simp only at he2 hx2;subst he2 hx2;exact zas (n:=1000) (zay pr) (by kernel_rfl)
 |_::_::_::_::_,h=>exact absurd h (by simp)
def bdA(m:Int):Ans pr 40 [.ag (cqF (cqA m))] (zd8 [[120]]):=zas (n:=1000) (zay pr) (by kernel_rfl)
def bdB(m:Int):Ans pr 40 [.ag (cqF (cqB m))] (zd8 [[120]]):=zas (n:=1000) (zay pr) (by kernel_rfl)
def keyR(x y:Int)(tu:F):Ans pr 23 [.ag [.s [82],.b false,coR],valsF [x,y]] (valsF [x,y]):=zas (n:=1000) (zay pr) (by kernel_rfl)
def fn7:pr.fn 7=some g7:=by kernel_rfl
def im_d(m:Int)(l:List Int):(imF m l).d= .f (imF m l):=zfU ..
def zs5(m:Int)(l:List Int):zej (.f (imF m l))=some l.length:=by simp[imF,zfg]
def im_ia(m:Int)(l:List Int)(n:Nat):iaB 1 (.f (imF m l)) n=(l[n]?).map fun v=>D.fptr [valsF [v,m]]:=by simp[imF,zgO,Z67]
def zaaa{v w m k:Int}(h:m≠k):¬cmpL [v,m] [w,k]=0:=by
 have h2:∀a b:Int,a≠b->¬zdK a b=0:=by
  intro a b hab;unfold zdK;rw[Z49 hab];split<;>decide
 simp only[cmpL];split
 .exact h2 m k h
 .rename_i h3;exact h2 v w h3
def J7(r:F)(L M:F)(n:Nat)(s:St):Prop:=s.tm.get 0=some (.f r)/\s.tm.get 1=some (.f (.i .i64 0))/\s.tm.get 13=some (.f L)/\s.tm.get 14=some (.f M)/\s.tm.get 15=some (.f (.i .i64 n))
theorem ans7(r:F)(hr:r.d= .f r)(tu:F)(hrow:iaB 4 (.f r) 0=some (D.fptr [.s [82],.b false,coR,tu]))(ca cb:CQ)(i j:Nat)(m k:Int)(hm:m≠k)(L M:List Int)(hL:L.length<1000)(hM:M.length<1000)
  (h1:Ans pr 21 [r,.ag (cqF ca),.i .i64 i] (imF m L))(h2:Ans pr 21 [r,.ag (cqF cb),.i .i64 j] (imF k M)):Ans pr 7 [r,.i .i64 0,.ag (cqF ca),.i .i64 i,.ag (cqF cb),.i .i64 j] (.b false):=by
 have q1:=fun k=>zal (k:=k) h1
 have q2:=fun k=>zal (k:=k) h2
 have q3:=fun(v w:Int) (k:F->Prop)=>zal (k:=k) (keyR v w .nils)
 have q4:=fun(v w x y:Int) (k:F->Prop)=>zal (k:=k) (zoa [v,w] [x,y] (by simp))
 simp only[coR]at q3;refine zex fn7 ?_;simp only[g7,rU];simp only[cqE]at q1 q2|-;simp -implicitDefEqProofs [rW,st0,zaF,hr,zd5,zd6];refine zaV ?_;simp -implicitDefEqProofs [rW,st0,zaF,hr,zd5,zd6,q1,q2,im_d];refine zfm (fun k' s=>∃n:Nat,k'=L.length - n/\n<=L.length/\J7 r (imF m L) (imF k M) n s) (fun x s=>x= .exit 0/\True) ?_ L.length _ ⟨0,rfl,Z61 _,?_⟩ ?_
 .rintro k' s ⟨n,rfl,hn,h0,h1,h13,h14,h15⟩;have hw:=zcM n (by omega)
  by_cases hlt:n<L.length
  .have hx:L[n]? =some L[n]:=Z0 hlt;generalize hX:L[n]=v at hx;simp -implicitDefEqProofs [rW,h0,h1,h13,h14,h15,zs5,hlt];refine zfm (fun k' s=>∃p:Nat,k'=M.length - p/\p<=M.length/\J7 r (imF m L) (imF k M) n s/\s.tm.get 16=some (.f (.i .i64 p))) (fun x s=>x= .exit 2/\J7 r (imF m L) (imF k M) n s) ?_ M.length _ ⟨0,rfl,Z61 _,?_,?_⟩ ?_
   .clear h0 h1 h13 h14 h15;rintro k' s ⟨p,rfl,hp,⟨h0,h1,h13,h14,h15⟩,h16⟩;have hw2:=zcM p (by omega)
    by_cases hlt2:p<M.length
    .have hy:M[p]? =some M[p]:=Z0 hlt2;generalize hY:M[p]=w at hy;have hne:=zaaa (v:=v) (w:=w) hm;simp -implicitDefEqProofs [rW,h0,h1,h13,h14,h15,h16,zs5,hlt2];refine zaV ?_;simp -implicitDefEqProofs [rW,h0,h1,h13,h14,h15,h16,hrow,im_ia,hx,hX,hlt,hy,hY,hlt2,q3,q4,coR,zaL,hne,hw2];rw[zc0];refine⟨M.length - (p+1),by omega,p+1,rfl,by omega,?_,?_⟩
     .unfold J7;simp -implicitDefEqProofs [rW,h0,h1,h13,h14,h15]
     .simp -implicitDefEqProofs [rW,hw2]
    .obtain rfl:p=M.length:=by omega
     simp -implicitDefEqProofs [rW,h0,h1,h13,h14,h15,h16,zs5];unfold J7;simp -implicitDefEqProofs [rW,h0,h1,h13,h14,h15]
   .unfold J7;simp -implicitDefEqProofs [rW,h0,h1,h13,h14,h15]
   .simp -implicitDefEqProofs [rW,]
   .rintro x s ⟨rfl,h0,h1,h13,h14,h15⟩;simp -implicitDefEqProofs [rW,h0,h1,h13,h14,h15,hw];rw[zc0];refine⟨L.length - (n+1),by omega,n+1,rfl,by omega,?_⟩;unfold J7;simp -implicitDefEqProofs [rW,h0,h1,h13,h14,hw]
  .obtain rfl:n=L.length:=by omega
   simp -implicitDefEqProofs [rW,h0,h1,h13,h14,h15,zs5]
 .unfold J7;simp -implicitDefEqProofs [rW,]
 .rintro x s ⟨rfl,-⟩;simp -implicitDefEqProofs [rW,]
structure Sch where
 nm:Str
 ce:Bool
 co:List (Str×Int×Bool)
def colF(c:Str×Int×Bool):List F:=[.s c.1,.i .i64 c.2.1,.b c.2.2]
def zme(l:List (Str×Int×Bool)):F:=slc 3 (l.map colF)
def zp0(s:Sch):List F:=[.s s.nm,.b s.ce,zme s.co]
def zhJ(l:List (Str×Int×Bool)):(zme l).d= .f (zme l):=zfU ..
def zri(l:List (Str×Int×Bool)):zej (.f (zme l))=some l.length:=by simp[zme,zfg]
def hasK(s:Sch):Bool:=s.co.any fun c=>c.2.2
def keyAt(s:Sch)(i:Nat):Bool:=match s.co[i]? with
 |some c=>c.2.2
 |none=>false
def zEk(s:Sch)(i:Nat):Bool:=keyAt s i|| !hasK s
def zqM(s:Sch):List Nat:=(List.range s.co.length).filter (keyAt s)
def zkI(s:Sch):List Nat:=if(zqM s).length>0 then zqM s else List.range s.co.length
def zyB(s:Sch):(zqM s).length>0↔hasK s=true:=by
 unfold zqM hasK;rw[gt_iff_lt,List.length_pos_iff_exists_mem,Z30];constructor
 .rintro⟨i,hi⟩;rw[Z57,Z174]at hi;refine⟨s.co[i]'hi.1,Z1 hi.1,?_⟩;have:=hi.2;unfold keyAt at this;rw[Z0 hi.1]at this;exact this
 .rintro⟨c,hc,hk⟩;obtain⟨i,hi,rfl⟩ :=Z101.1 hc;refine⟨i,?_⟩;rw[Z57,Z174];refine⟨hi,?_⟩;unfold keyAt;rw[Z0 hi];exact hk
def zW5(s:Sch)(p:Nat->Bool):(zkI s).any p=(List.range s.co.length).any fun k=>zEk s k&&p k:=by
 unfold zkI
 by_cases h:hasK s=true
 .rw[Z51 ((zyB s).2 h)];unfold zqM;rw[List.any_filter];unfold zEk;simp[h]
 .rw[Z49 (fun h2=>h ((zyB s).1 h2))];unfold zEk;simp[h]
def zW4(s:Sch):∀k∈zkI s,k<s.co.length:=by
 intro k hk;unfold zkI at hk;split at hk
 .exact Z174.1 (Z57.1 hk).1
 .exact Z174.1 hk
def zKb(s:Sch):(zkI s).length<=s.co.length:=by
 unfold zkI zqM;split
 .have:=Z76 (keyAt s) (List.range s.co.length);simpa using this
 .simp
def isV:Trm->Bool
 | .var _=>true
 | .cst _=>false
def grd(ps:List Str):Trm->Bool
  | .var v=>ps.any (· ==v)
  | .cst _=>true
def exk(g z:Trm)(k:Cm):Bool:=(decide (k.op=2)||decide (k.op=3))&&((decide (k.l=g)&&decide (k.r=z))||(decide (k.l=z)&&decide (k.r=g)))
def excl(c:CQ)(g z:Trm):Bool:=c.cs.any (exk g z)
def exP(c:CQ)(z g:Trm)(ps:List Str):Bool:=isV z&&grd ps g&&excl c g z
def dif(a:CQ)(s:Trm)(b:CQ)(t:Trm)(ps:List Str):Bool:=match s,t with
 | .cst m,.cst n=>decide (m≠n)
 |s,t=>exP b t s ps||exP a s t ps
def zC3{a b:CQ}{s t:Trm}{ps:List Str}(h:isV s=true\/isV t=true):dif a s b t ps=(exP b t s ps||exP a s t ps):=by
 cases s<;>cases t<;>first|rfl|simp[isV]at h
def zqH(a:CQ)(x:Atm)(b:CQ)(y:Atm)(ps:List Str)(k:Nat):Bool:=match x.ts[k]?,y.ts[k]? with
 |some u,some v=>dif a u b v ps
 |_,_=>false
def zD1(s:Sch)(a:CQ)(x:Atm)(b:CQ)(y:Atm)(ps:List Str):Bool:=
 if s.ce=true\/x.r≠s.nm\/y.r≠s.nm then true
 else if x.ts.length≠s.co.length\/y.ts.length≠s.co.length then false
 else(List.range s.co.length).any fun k=>zEk s k&&zqH a x b y ps k
def ind(s:Sch)(a:CQ)(i:Int)(b:CQ)(j:Int)(ps:List Str):Bool:=
 if 0<=i/\i<a.as.length/\0<=j/\j<b.as.length then match a.as[i.toNat]?,b.as[j.toNat]? with
  |some x,some y=>zD1 s a x b y ps
  |_,_=>false
 else false
def fn114:pr.fn 114=some zDe:=by kernel_rfl
def fn183:pr.fn 183=some zDl:=by kernel_rfl
def fn77:pr.fn 77=some g77:=by kernel_rfl
def fn80:pr.fn 80=some g80:=by kernel_rfl
def fn141:pr.fn 141=some zDi:=by kernel_rfl
def fn78:pr.fn 78=some g78:=by kernel_rfl
def fn79:pr.fn 79=some g79:=by kernel_rfl
def fn38:pr.fn 38=some g38:=by kernel_rfl
def fn20:pr.fn 20=some g20:=by kernel_rfl
def ixP{α:Type}(l:List α)(p:α->Bool):Int:=match l.findIdx? p with
 |some n=>n
 |none=> -1
def zwB{α:Type}{l:List α}{p:α->Bool}(h:∀a∈l,p a=false):ixP l p= -1:=by
 have:l.findIdx? p=none:=Z43.2 h;simp[ixP,this]
def zyz{α:Type}{l:List α}{p:α->Bool}{n:Nat}(h:n<l.length)(h1:p l[n]=true)(h2:∀m (h':m<n),p (l[m]'(by omega))=false):ixP l p=n:=by
 have:l.findIdx? p=some n:=by
  rw[Z26];exact⟨h,h1,fun j hj=>by simpa using h2 j hj⟩
 simp[ixP,this]
def zyy{α:Type}(l:List α)(p:α->Bool):decide (ixP l p≥0)=l.any p:=by
 cases h:l.any p with
 |true=>
  unfold ixP;cases h2:l.findIdx? p with
  |some n=>simp
  |none=>rw[Z43]at h2;simp at h;obtain⟨x,hx,hp⟩ :=h;rw[h2 x hx]at hp;cases hp
 |false=>
  have:=zwB (l:=l) (p:=p) (by simpa using h);simp[this]
def zIv(l:List Str)(x:Str):l.any (x== ·)=l.any (· ==x):=by
  congr 1;funext a;exact Bool.beq_comm
def z94(l:List Str)(x:Str)(hl:l.length<1000000):Ans pr 183 [zd8 l,.s x] (.i .i64 (ixP l (x== ·))):=by
 refine zex fn183 ?_;simp only[zDl,rU];simp -implicitDefEqProofs [rW,st0,zaF,zdn,zfR];refine zDb l (x== ·) (fun n s=>(s.tm.get 0=some (.f (zd8 l))/\s.tm.get 1=some (.f (.s x))/\s.tm.get 7=some (.f (.i .i64 l.length))/\s.tm.get 8=some (.f (.i .i64 n)))) (fun x s=>x= .exit 0) (fun n y s=>y= .ret/\s.tm.get 4=some (.f (.i .i64 n))) ?_ ?_ _ ?_ ?_ ?_
 .rintro n s hn ⟨h0,h1,h7,h8⟩;have hw:=zcM n (by omega);have hx:l[n]? =some l[n]:=Z0 hn;generalize hA:l[n]=A at hx|-
  by_cases he:x=A
  .simp -implicitDefEqProofs [rW,h0,h1,h7,h8,hn,zfh,hx,hA,he]
  .simp -implicitDefEqProofs [rW,h0,h1,h7,h8,hn,zfh,hx,hA,he,hw]
 .rintro s ⟨h0,h1,h7,h8⟩;simp -implicitDefEqProofs [rW,h0,h1,h7,h8]
 .simp -implicitDefEqProofs [rW,st0,zaF]
 .rintro h z s rfl;rw[zwB h];simp -implicitDefEqProofs [rW,]
 .rintro n hn hp hm z s ⟨rfl,h4⟩;rw[zyz hn hp hm];simp -implicitDefEqProofs [rW,h4]
def z90(l:List Str)(x:Str)(hl:l.length<1000000):Ans pr 114 [zd8 l,.s x] (.b (l.any (· ==x))):=by
  refine zex fn114 ?_;simp only[zDe,rU];have e:=zyy l (x== ·);rw[zIv]at e;have q:=fun k=>zal (k:=k) (z94 l x hl)
  rw[<-e];simp -implicitDefEqProofs [rW,st0,zaF,zdn,q]
def zwp(a b:Trm)(ha:zaU a)(hb:zaU b):Ans pr 80 [.ag (tmF a),.ag (tmF b)] (.b (decide (a=b))):=by
 refine zex fn80 ?_;simp only[g80,rU];cases a with
 |cst a=>
  cases b with
  |cst b=>
   have q:=fun k=>zal (k:=k) (zNv a b)
   simp only[vF]at q;simp -implicitDefEqProofs [zaS,rR,apO,st0,zaF,tmF,q,zuZ]
  |var b=>
   simp only[zaU]at hb;simp -implicitDefEqProofs [zaS,rR,apO,st0,zaF,tmF,hb,Ne.symm hb]
 |var a=>
  simp only[zaU]at ha;cases b with
  |cst b=>simp -implicitDefEqProofs [zaS,rR,apO,st0,zaF,tmF,ha]
  |var b=>
   simp -implicitDefEqProofs [zaS,rR,apO,st0,zaF,tmF,ha];exact Bool.eq_iff_iff.2 (by simp)
theorem zaaB(q:CQ)(p:Cm->Bool)(hl:q.cs.length<100000){h:T Ob}{c g:Nat}{fv:D}{cap:List D}(hfv:zfu fv=some (g,[],cap))(hcl:∀n (hn:n<q.cs.length),RO pr g (.ag (cmD q.cs[n])::cap) h c (.f (.b (p q.cs[n])))):
  RO pr 141 [.f (zhH q),fv] h c (.f (.i .i64 (ixP q.cs p))):=by
 refine zqP zqG fn141 rfl ?_;simp only[zDi,rU];simp -implicitDefEqProofs [rW,st0,zaF,zWx];refine zDb q.cs p (fun n s=>s.tm.get 0=some (.f (zhH q))/\s.tm.get 1=some (fv)/\s.tm.get 7=some (.f (.i .i64 q.cs.length))/\s.tm.get 8=some (.f (.i .i64 n))/\s.h=h/\s.c=c/\s.lw=c) (fun x s=>x= .exit 0/\s.lw=c) (fun n y s=>y= .ret/\s.tm.get 4=some (.f (.i .i64 n))/\s.lw=c) ?_ ?_ _ ?_ ?_ ?_
 .rintro n s hn ⟨h0,h1,h7,h8,eh,ec,el⟩;have hw:=zcM n (by omega);have hp:=hcl n hn;have hx:q.cs[n]? =some q.cs[n]:=Z0 hn;generalize hA:q.cs[n]=A at hp hx|-;simp -implicitDefEqProofs [rW,h0,h1,h7,h8,hn,zaab,hx,hA,z99,cmD,tmD,hfv];refine zoC (d:= .f (.b (p A))) ?_ ?_ ?_
  .simp only[rG];rw[eh,ec];exact hp
  .simp only[rG];omega
  .intro mx;cases hb:p A with
   |true=>simp -implicitDefEqProofs [rW,h0,h1,h7,h8,el]
   |false=>simp -implicitDefEqProofs [rW,h0,h1,h7,h8,hw,eh,ec,el]
 .rintro s ⟨h0,h1,h7,h8,eh,ec,el⟩;simp -implicitDefEqProofs [rW,h0,h1,h7,h8,el]
 .simp -implicitDefEqProofs [rW,st0,zaF]
 .rintro h z s ⟨rfl,el⟩;rw[zwB h];simp -implicitDefEqProofs [rW,zid,el]
 .rintro n hn hp hm z s ⟨rfl,h4,el⟩;rw[zyz hn hp hm];simp -implicitDefEqProofs [rW,h4,zid,el]
theorem ro90F(q:CQ)(p:Cm->Bool)(hl:q.cs.length<100000){h:T Ob}{c g:Nat}{fv:D}{cap:List D}(hfv:zfu fv=some (g,[],cap))(hcl:∀n (hn:n<q.cs.length),RO pr g (.ag (cmD q.cs[n])::cap) h c (.f (.b (p q.cs[n])))):
  RO pr 78 [.f (zhH q),fv] h c (.f (.b (q.cs.any p))):=by
 refine zqP zqG fn78 rfl ?_;simp only[g78,rU];rw[<-zyy q.cs p];simp -implicitDefEqProofs [rW,st0,zaF];refine zoC (d:= .f (.i .i64 (ixP q.cs p))) ?_ ?_ ?_
 .simp only[rG];exact zaaB q p hl hfv hcl
 .simp only[rG];omega
 .intro mx;simp -implicitDefEqProofs [rW,zid]
def ans77(t:Trm)(ht:zaU t)(ps:List Str)(hl:ps.length<1000000):Ans pr 77 [.ag (tmF t),zd8 ps] (.b (grd ps t)):=by
 refine zex fn77 ?_;simp only[g77,rU];cases t with
 |cst n=>simp -implicitDefEqProofs [rW,st0,zaF,tmF,grd,zdn]
 |var s=>
  have hs:s≠[]:=ht;have q:=fun k=>zal (k:=k) (z90 ps s hl)
  simp -implicitDefEqProofs [rW,st0,zaF,tmF,grd,zdn,hs,q]
theorem ro79(k:Cm)(hk:zdz k)(a b:Trm)(ha:zaU a)(hb:zaU b){h:T Ob}{c A B:Nat}(gA:h.get A=some (.arr 4 0 [tmD a]))(gB:h.get B=some (.arr 4 0 [tmD b]))(hA:A<c)(hB:B<c):
  RO pr 79 [.ag (cmD k),.ptr A 4 0 0,.ptr B 4 0 0] h c (.f (.b (exk a b k))):=by
 refine zqP zqG fn79 rfl ?_;simp only[g79,rU];obtain⟨o,l,r⟩ :=k;have nA:¬A=c:=by omega
 have nB:¬B=c:=by omega
 have q1:=fun k=>zal (k:=k) (zwp l a hk.1 ha)
 have q2:=fun k=>zal (k:=k) (zwp r b hk.2 hb)
 have q3:=fun k=>zal (k:=k) (zwp l b hk.1 hb)
 have q4:=fun k=>zal (k:=k) (zwp r a hk.2 ha)
 simp only[tmE]at q1 q2 q3 q4;unfold exk;simp only[tmD]at gA gB;generalize hb1:decide (l=a)=b1 at q1;generalize hb2:decide (r=b)=b2 at q2;generalize hb3:decide (l=b)=b3 at q3;generalize hb4:decide (r=a)=b4 at q4
 by_cases h1:o=2
 .subst h1;cases b1<;>cases b2<;>cases b3<;>cases b4<;>(simp -implicitDefEqProofs [rW,st0,zaF,cmD,tmD,gA,gB,nA,nB,q1,q2,q3,q4,hb1,hb2,hb3,hb4,zid]<;>simp (disch:=omega) only[zwO,zzc])
 .by_cases h2:o=3
  .subst h2;cases b1<;>cases b2<;>cases b3<;>cases b4<;>(simp -implicitDefEqProofs [rW,st0,zaF,cmD,tmD,gA,gB,nA,nB,q1,q2,q3,q4,hb1,hb2,hb3,hb4,zid]<;>simp (disch:=omega) only[zwO,zzc])
  .simp -implicitDefEqProofs [rW,st0,zaF,cmD,tmD,gA,gB,nA,nB,h1,h2,zid];simp (disch:=omega) only[zwO,zzc]
def zNw(q:CQ)(z g:Trm)(ps:List Str)(hq:CqG q)(hz:zaU z)(hg:zaU g)(hl:ps.length<1000000):Ans pr 38 [.ag (cqF q),.ag (tmF z),.ag (tmF g),zd8 ps] (.b (exP q z g ps)):=by
 refine zex fn38 ?_;simp only[g38,rU];have q1:=fun k=>zal (k:=k) (ans77 g hg ps hl)
 simp only[tmE]at q1|-;unfold exP;cases z with
 |cst n=>
  simp -implicitDefEqProofs [rW,st0,zaF,cqE,zd5,zd6,zdn,tv_c,tk_c,tn_c,isV]
 |var s=>
  have hs:s≠[]:=hz;cases hb:grd ps g with
  |false=>
   rw[hb]at q1;simp -implicitDefEqProofs [rW,st0,zaF,cqE,zd5,zd6,zdn,zKD,zKA,zKC,hs,q1,isV]
  |true=>
   rw[hb]at q1;simp -implicitDefEqProofs [rW,st0,zaF,cqE,zd5,zd6,zdn,zKD,zKA,zKC,hs,q1,isV];refine zoC (d:= .f (.b (excl q g (.var s)))) ?_ ?_ ?_
   .simp only[rG];refine ro90F q (exk g (.var s)) (by have:=hq.sc;omega) rfl fun n hn=> ?_
    refine ro79 _ (hq.cs _ (Z1 hn)) g (.var s) hg hz ?_ ?_ ?_ ?_
    .simp[TG,tmD]
    .simp[TG,tmD,zKD,zKA,zKC]
    all_goals omega
   .simp only[rG]
    repeat refine Z3 (zi2 _ _).1 ?_
    omega
   .intro mx;simp -implicitDefEqProofs [rW,]
def ans20(a b:CQ)(s t:Trm)(ps:List Str)(ha:CqG a)(hb:CqG b)(hs:zaU s)(ht:zaU t)(hl:ps.length<1000000):Ans pr 20 [.ag (cqF a),.ag (tmF s),.ag (cqF b),.ag (tmF t),zd8 ps] (.b (dif a s b t ps)):=by
 refine zex fn20 ?_;simp only[g20,rU];have q1:=fun k=>zal (k:=k) (zNw b t s ps hb ht hs hl)
 have q2:=fun k=>zal (k:=k) (zNw a s t ps ha hs ht hl)
 have e:=@zC3 a b s t ps;cases s with
 |cst m=>
  cases t with
  |cst n=>
   have q:=fun k=>zal (k:=k) (zNv m n)
   simp only[vF]at q;have hc:=zWu m n;unfold dif;simp -implicitDefEqProofs [rW,st0,zaF,tmF,cqE,zd5,zd6,zdn,q,hc]
  |var n=>
   have hn:n≠[]:=ht;rw[e (.inr rfl)];simp only[tmF,cqE]at q1 q2;cases h1:exP b (.var n) (.cst m) ps<;>rw[h1]at q1<;>simp -implicitDefEqProofs [rW,st0,zaF,tmF,cqE,zd5,zd6,zdn,hn,q1,q2]
 |var m=>
  have hm:m≠[]:=hs;rw[e (.inl rfl)];cases t with
  |cst n=>
   simp only[tmF,cqE]at q1 q2;cases h1:exP b (.cst n) (.var m) ps<;>rw[h1]at q1<;>simp -implicitDefEqProofs [rW,st0,zaF,tmF,cqE,zd5,zd6,zdn,hm,q1,q2]
  |var n=>
   have hn:n≠[]:=ht;simp only[tmF,cqE]at q1 q2;cases h1:exP b (.var n) (.var m) ps<;>rw[h1]at q1<;>simp -implicitDefEqProofs [rW,st0,zaF,tmF,cqE,zd5,zd6,zdn,hm,hn,q1,q2]
end Go.Proofs.YtlmnmaginhebdaaGreatDoor
end
