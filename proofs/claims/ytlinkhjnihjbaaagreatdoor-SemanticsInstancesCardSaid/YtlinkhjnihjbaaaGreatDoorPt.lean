/- Prob, Int. -/
import Derived.Test.YtlinkhjnihjbaaaGreatDoorPq
import Derived.Test.YtlinkhjnihjbaaaGreatDoorPs
import Derived.KernelRfl
import Derived.IntWalk
set_option linter.all false
set_option maxRecDepth 100000
set_option maxHeartbeats 4000000
noncomputable section
section
namespace Go.Proofs.YtlinkhjnihjbaaaGreatDoor
open Go Go.Vse Go.Vse.Sm
def fn34:pr.fn 34=some g34:=by kernel_rfl
def fn36:pr.fn 36=some g36:=by kernel_rfl
def zsM(n:Int):Ans pr 36 [.i .i64 n] (.ag (vF n)):=by
 refine zb6 fn36 ?_;simp only[g36,rU];unfold vF;simp -implicitDefEqProofs [zaQ,rR,apO,st0,zax]
def k31_0:Ans pr 94 [.i .i64 1,.i .i64 2] (.tu [.ag [.b false,.sl 1 [[.i .u32 1]],.sl 1 [[.i .u32 2]]],.i .i64 0]):=zab (n:=1000) (zad pr) (by kernel_rfl)
def k31_1:Ans pr 94 [.i .i64 1,.i .i64 3] (.tu [.ag [.b false,.sl 1 [[.i .u32 1]],.sl 1 [[.i .u32 3]]],.i .i64 0]):=zab (n:=1000) (zad pr) (by kernel_rfl)
def k31_2:Ans pr 94 [.i .i64 2,.i .i64 3] (.tu [.ag [.b false,.sl 1 [[.i .u32 2]],.sl 1 [[.i .u32 3]]],.i .i64 0]):=zab (n:=1000) (zad pr) (by kernel_rfl)
def k31_3:Ans pr 94 [.i .i64 1,.i .i64 4] (.tu [.ag [.b false,.sl 1 [[.i .u32 1]],.sl 1 [[.i .u32 4]]],.i .i64 0]):=zab (n:=1000) (zad pr) (by kernel_rfl)
def k31_4:Ans pr 94 [.i .i64 1,.i .i64 1] (.tu [.ag [.b false,.sl 1 [[.i .u32 1]],.sl 1 [[.i .u32 1]]],.i .i64 0]):=zab (n:=1000) (zad pr) (by kernel_rfl)
def k31_5:Ans pr 94 [.i .i64 0,.i .i64 1] (.tu [.ag [.b false,.nils,.sl 1 [[.i .u32 1]]],.i .i64 0]):=zab (n:=1000) (zad pr) (by kernel_rfl)
def k31_6:Ans pr 94 [.i .i64 3,.i .i64 5] (.tu [.ag [.b false,.sl 1 [[.i .u32 3]],.sl 1 [[.i .u32 5]]],.i .i64 0]):=zab (n:=1000) (zad pr) (by kernel_rfl)
def k31_7:Ans pr 94 [.i .i64 1,.i .i64 7] (.tu [.ag [.b false,.sl 1 [[.i .u32 1]],.sl 1 [[.i .u32 7]]],.i .i64 0]):=zab (n:=1000) (zad pr) (by kernel_rfl)
def zsL(n:Int):∃p,PPp p/\Ans pr 34 [.i .i64 n] (.ag p):=by
 obtain⟨r,hr,he⟩ :=znG n 7 (by omega);have he':zbk .and (.i .i64 n) (.i .i64 7)=some (.i .i64 r):=he;have main:∃y,(∃p,PPp p/\y= .ag p)/\Ans pr 34 [.i .i64 n] y:=by
  refine znH fn34 ?_;simp only[g34,rU];have hc:r=0\/r=1\/r=2\/r=3\/r=4\/r=5\/r=6\/r=7:=by omega
  rcases hc with rfl|rfl|rfl|rfl|rfl|rfl|rfl|rfl
  .have q0:=fun k=>zaj (k:=k) k31_0
   simp -implicitDefEqProofs [zaQ,rR,apO,st0,zax,he',q0];exact mg 0 rfl
  .have q0:=fun k=>zaj (k:=k) k31_1
   simp -implicitDefEqProofs [zaQ,rR,apO,st0,zax,he',q0];exact mg 1 rfl
  .have q0:=fun k=>zaj (k:=k) k31_2
   simp -implicitDefEqProofs [zaQ,rR,apO,st0,zax,he',q0];exact mg 2 rfl
  .have q0:=fun k=>zaj (k:=k) k31_3
   simp -implicitDefEqProofs [zaQ,rR,apO,st0,zax,he',q0];exact mg 3 rfl
  .have q0:=fun k=>zaj (k:=k) k31_4
   simp -implicitDefEqProofs [zaQ,rR,apO,st0,zax,he',q0];exact mg 4 rfl
  .have q0:=fun k=>zaj (k:=k) k31_5
   simp -implicitDefEqProofs [zaQ,rR,apO,st0,zax,he',q0];exact mg 5 rfl
  .have q0:=fun k=>zaj (k:=k) k31_6
   simp -implicitDefEqProofs [zaQ,rR,apO,st0,zax,he',q0];exact mg 6 rfl
  .have q0:=fun k=>zaj (k:=k) k31_7
   simp -implicitDefEqProofs [zaQ,rR,apO,st0,zax,he',q0];exact mg 7 rfl
 obtain⟨y,⟨p,hp,rfl⟩,ha⟩ :=main;exact⟨p,hp,ha⟩
def lo2:C:=(.seq (.seq (.reg [⟨(some 25),none,.mv (.t 7)⟩,⟨(some 26),none,.mv (.t 0)⟩,⟨(some 27),none,.mv (.t 5)⟩,⟨(some 28),none,.callp 14 [(.t 26),(.t 27)]⟩,⟨(some 29),none,.bin .rem (.t 28) (.k (.i .i64 4))⟩,⟨(some 30),none,.bin .lss (.t 25) (.t 29)⟩,⟨(some 31),none,.mv (.t 30)⟩,⟨(some 32),(some (31,true)),.mv (.t 5)⟩,⟨(some 33),(some (31,true)),.bin .eql (.t 32) (.k (.i .i64 1))⟩,⟨(some 34),(some (31,true)),.mv (.t 33)⟩,⟨(some 35),(some (34,true)),.mv (.t 7)⟩,⟨(some 36),(some (34,true)),.bin .eql (.t 35) (.k (.i .i64 2))⟩,⟨(some 37),(some (31,true)),.pick (.t 34) (.t 36) (.k (.b false))⟩,⟨(some 38),(some (31,true)),.un .not (.t 37)⟩,⟨(some 39),none,.pick (.t 31) (.t 38) (.k (.b false))⟩])
 (.cond (.t 39) (.skip) (.exit 2)))
 (.seq (.blk 3 (.seq (.reg [⟨(some 42),none,.mv (.t 0)⟩,⟨(some 43),none,.mv (.t 5)⟩,⟨(some 44),none,.bin .mul (.k (.i .i64 3)) (.t 43)⟩,⟨(some 45),none,.bin .add (.k (.i .i64 4)) (.t 44)⟩,⟨(some 46),none,.mv (.t 7)⟩,⟨(some 47),none,.bin .add (.t 45) (.t 46)⟩,⟨(some 48),none,.callp 14 [(.t 42),(.t 47)]⟩,⟨(some 8),none,.mv (.t 48)⟩])
 (.seq (.reg [⟨(some 49),none,.mv (.t 8)⟩,⟨(some 50),none,.bin .shr (.t 49) (.k (.i .u64 4))⟩,⟨(some 51),none,.callp 34 [(.t 50)]⟩,⟨(some 52),none,.bld [.nils,.b false,.nils,.nils] [(1,3,(.t 51))]⟩,⟨(some 9),none,.new [.nils,.b false,.nils,.nils]⟩,⟨none,none,.st 4 (.t 9) (.t 52)⟩])
 (.seq (.seq (.reg [⟨(some 53),none,.mv (.t 4)⟩,⟨(some 54),none,.mv (.t 5)⟩,⟨(some 55),none,.ia 3 (.t 53) (.t 54)⟩,⟨(some 56),none,.fa 1 (.t 55)⟩,⟨(some 57),none,.ld false 1 (.t 56)⟩])
 (.cond (.t 57) (.reg [⟨(some 58),none,.callp 35 [(.k (.i .i64 1))]⟩,⟨(some 59),none,.fa 1 (.t 9)⟩,⟨none,none,.st 3 (.t 59) (.t 58)⟩]) (.skip)))
 (.seq (.seq (.reg [⟨(some 10),none,.mv (.k (.i .i64 0))⟩])
 (.blk 4 (.loop (.seq (.seq (.reg [⟨(some 60),none,.mv (.t 10)⟩,⟨(some 61),none,.mv (.t 4)⟩,⟨(some 62),none,.mv (.t 5)⟩,⟨(some 63),none,.ia 3 (.t 61) (.t 62)⟩,⟨(some 64),none,.fa 2 (.t 63)⟩,⟨(some 65),none,.ld false 1 (.t 64)⟩,⟨(some 66),none,.len (.t 65)⟩,⟨(some 67),none,.bin .lss (.t 60) (.t 66)⟩])
 (.cond (.t 67) (.skip) (.exit 4)))
 (.seq (.blk 5 (.seq (.dreg [(⟨(some 70),none,.fa 0 (.t 9)⟩,0),(⟨(some 71),none,.ld false 1 (.t 70)⟩,0),(⟨(some 72),none,.mv (.t 8)⟩,3),(⟨(some 73),none,.bin .rem (.t 72) (.k (.i .i64 3))⟩,3),(⟨(some 74),none,.bin .add (.k (.i .i64 1)) (.t 73)⟩,3),(⟨(some 75),none,.callp 36 [(.t 74)]⟩,3),(⟨(some 76),none,.bsf 3 [.i .i64 0,.i .i64 0,.s []] 1 [(0,(.t 75))]⟩,3),(⟨(some 77),none,.app 3 32 (.t 71) (.t 76)⟩,0),(⟨(some 78),none,.fa 0 (.t 9)⟩,0),(⟨none,none,.st 1 (.t 78) (.t 77)⟩,0)])
 (.reg [⟨(some 79),none,.mv (.t 8)⟩,⟨(some 80),none,.bin .quo (.t 79) (.k (.i .i64 3))⟩,⟨(some 8),none,.mv (.t 80)⟩])))
 (.reg [⟨(some 68),none,.mv (.t 10)⟩,⟨(some 69),none,.bin .add (.t 68) (.k (.i .i64 1))⟩,⟨(some 10),none,.mv (.t 69)⟩]))))))
 (.seq (.reg [⟨(some 82),none,.ld true 4 (.t 6)⟩,⟨(some 83),none,.ld true 4 (.t 9)⟩,⟨(some 84),none,.callp 37 [(.t 82),(.t 83)]⟩,⟨(some 81),none,.mv (.t 84)⟩,⟨(some 85),none,.ext (.t 81) 0⟩,⟨(some 86),none,.ext (.t 81) 1⟩,⟨(some 11),none,.new [.s [],.b false,.nils,.nils]⟩,⟨none,none,.st 4 (.t 11) (.t 85)⟩,⟨(some 12),none,.mv (.t 86)⟩])
 (.seq (.reg [⟨(some 87),none,.mv (.t 12)⟩,⟨(some 88),none,.bin .eql (.t 87) (.k (.i .i64 0))⟩])
 (.cond (.t 88) (.reg [⟨(some 89),none,.ld true 4 (.t 11)⟩,⟨none,none,.st 4 (.t 6) (.t 89)⟩]) (.skip)))))))))
 (.reg [⟨(some 40),none,.mv (.t 7)⟩,⟨(some 41),none,.bin .add (.t 40) (.k (.i .i64 1))⟩,⟨(some 7),none,.mv (.t 41)⟩])))
def lo5:C:=(.seq (.seq (.reg [⟨(some 60),none,.mv (.t 10)⟩,⟨(some 61),none,.mv (.t 4)⟩,⟨(some 62),none,.mv (.t 5)⟩,⟨(some 63),none,.ia 3 (.t 61) (.t 62)⟩,⟨(some 64),none,.fa 2 (.t 63)⟩,⟨(some 65),none,.ld false 1 (.t 64)⟩,⟨(some 66),none,.len (.t 65)⟩,⟨(some 67),none,.bin .lss (.t 60) (.t 66)⟩])
 (.cond (.t 67) (.skip) (.exit 4)))
 (.seq (.blk 5 (.seq (.dreg [(⟨(some 70),none,.fa 0 (.t 9)⟩,0),(⟨(some 71),none,.ld false 1 (.t 70)⟩,0),(⟨(some 72),none,.mv (.t 8)⟩,3),(⟨(some 73),none,.bin .rem (.t 72) (.k (.i .i64 3))⟩,3),(⟨(some 74),none,.bin .add (.k (.i .i64 1)) (.t 73)⟩,3),(⟨(some 75),none,.callp 36 [(.t 74)]⟩,3),(⟨(some 76),none,.bsf 3 [.i .i64 0,.i .i64 0,.s []] 1 [(0,(.t 75))]⟩,3),(⟨(some 77),none,.app 3 32 (.t 71) (.t 76)⟩,0),(⟨(some 78),none,.fa 0 (.t 9)⟩,0),(⟨none,none,.st 1 (.t 78) (.t 77)⟩,0)])
 (.reg [⟨(some 79),none,.mv (.t 8)⟩,⟨(some 80),none,.bin .quo (.t 79) (.k (.i .i64 3))⟩,⟨(some 8),none,.mv (.t 80)⟩])))
 (.reg [⟨(some 68),none,.mv (.t 10)⟩,⟨(some 69),none,.bin .add (.t 68) (.k (.i .i64 1))⟩,⟨(some 10),none,.mv (.t 69)⟩])))
def zcH:List (List F):=[[.s [82],.b false,coR],[.s [83],.b false,coS],[.s [75],.b false,coK],[.s [67],.b true,coC]]
def ans33:Ans pr 33 [] (.sl 3 zcH):=zab (n:=1000) (zad pr) (by kernel_rfl)
def zmF:Ans pr 35 [.i .i64 1] (.ag [.b false,.sl 1 [[.i .u32 1]],.sl 1 [[.i .u32 1]]]):=zab (n:=1000) (zad pr) (by kernel_rfl)
def pp1:PPp [.b false,.sl 1 [[.i .u32 1]],.sl 1 [[.i .u32 1]]]:=mg 4 rfl
def zgw{α:Type}{P:α->Prop}{l:List α}{t:α}(n:Nat)(h:∀a∈l,P a)(ht:P t):∀a∈l.take n++t::l.drop n,P a:=by
 intro a ha;rcases Z4.1 ha with h1|h1
 .exact h a (Z13 h1)
 .rcases Z5.1 h1 with rfl|h1
  .exact ht
  .exact h a (Z21 h1)
def zgr{α:Type}{l:List α}{t:α}(n:Nat)(hn:n<=l.length):(l.take n++t::l.drop n).length=l.length+1:=by
 simp;omega
def CS(h0:Vse.T Ob)(x:F)(i:Nat)(id:Nat)(dO:D)(n:Nat)(rel:List D)(id9:Nat)(S:St):Prop:=
 S.tm.get 0=some (.f x)/\S.tm.get 4=some (.f (.sl 3 zcH))/\S.tm.get 5=some (.f (.i .i64 i))/\S.tm.get 6=some (.ptr id 4 0 0)/\S.tm.get 3=some dO/\S.tm.get 7=some (.f (.i .i64 n))/\
 S.tm.get 9=some (.ptr id9 4 0 0)/\S.h.get id=some (.arr 4 0 [rel])/\id<id9/\id9<S.c/\∀j,j<id->S.h.get j=h0.get j
theorem cols1(h00:Vse.T Ob)(x:F)(i:Nat)(id:Nat)(dO:D)(n:Nat)(rel:List D)(id9:Nat)(p0 p1 p2:D)(nm:Str)(ce:Bool)(co:F)(hs:zcH[i]? =some [.s nm,.b ce,co])(hcd:co.d= .f co)(lc:zcE (.f co)=some 1)
  (b:Nat)(b1 b2 b3 b4:Nat)(hr1:zbk .rem (.i .i64 b) (.i .i64 3)=some (.i .i64 (b1:Int)))(hq1:zbk .quo (.i .i64 b) (.i .i64 3)=some (.i .i64 (b3:Int)))(hr2:zbk .rem (.i .i64 b3) (.i .i64 3)=some (.i .i64 (b2:Int)))(hq2:zbk .quo (.i .i64 b3) (.i .i64 3)=some (.i .i64 (b4:Int)))
  (hb1:b1<3)(hb2:b2<3)(S:St)(Q:Ex->St->Prop)(hS:CS h00 x i id dO n rel id9 S)(g9:S.h.get id9=some (.arr 4 0 [[.f .nils,p0,p1,p2]]))(h8:S.tm.get 8=some (.f (.i .i64 b)))(h10:S.tm.get 10=some (.f (.i .i64 0)))
  (hQ:∀S' idv,CS h00 x i id dO n rel id9 S'->S'.h.get id9=some (.arr 4 0 [[.sl idv 0 1 3 1 false,p0,p1,p2]])->S'.h.get idv=some (.arr 3 0 [[.f (.i .i64 1),.f (.i .i64 (1+(b1:Int))),.f (.s [])]])->id9<idv->idv<S'.c->Q (.exit 4) S'):WL pr lo5 S Q:=by
 unfold lo5;obtain⟨h0,h4,h5,h6,h3,h7,h9,g,hi1,hi2,hk⟩ :=hS;have q6a:=fun k=>zaj (k:=k) (zsM (1+(b1:Int)))
 have q6b:=fun k=>zaj (k:=k) (zsM (1+(b2:Int)))
 simp only[vF]at q6a q6b;have hv1:IntKind.i64.wrap (1+(b1:Int))=1+(b1:Int):=wrap_i64 _ (by omega) (by omega);have hv2:IntKind.i64.wrap (1+(b2:Int))=1+(b2:Int):=wrap_i64 _ (by omega) (by omega);have hw1:IntKind.i64.wrap 1=1:=by decide
 have hw2:IntKind.i64.wrap 2=2:=by decide
 have i1:¬id=S.c+1+1+1+1+1+1+1:=by omega
 have i2:¬id9=S.c+1+1+1+1+1+1+1:=by omega
 have i3:¬S.c+1+1+1+1+1+1+1=id:=by omega
 have i4:¬S.c+1+1+1+1+1+1+1=id9:=by omega
 have i5:¬id=id9:=by omega
 have i6:¬id9=id:=by omega
 refine round ?_;simp -implicitDefEqProofs [zaQ,rR,apO,h0,h4,h5,h6,h3,h7,h9,g,g9,h8,h10,hs,lc,zaN,hw1,hw2];refine zaM ?_;simp -implicitDefEqProofs [zaQ,rR,apO,h0,h4,h5,h6,h3,h7,h9,g,g9,h8,h10,hs,lc,zaN,hw1,hw2,hr1,hv1,q6a,hq1,hi2,i1,i2,i3,i4,i5,i6]
 repeat refine⟨by omega,?_⟩
 refine zvE (fun S'=>CS h00 x i id dO n rel id9 S'/\S'.tm.get 8=some (.f (.i .i64 b3))/\S'.tm.get 10=some (.f (.i .i64 1))/\∃idv,S'.h.get id9=some (.arr 4 0 [[.sl idv 0 1 3 1 false,p0,p1,p2]])/\S'.h.get idv=some (.arr 3 0 [[.f (.i .i64 1),.f (.i .i64 (1+(b1:Int))),.f (.s [])]])/\id9<idv/\idv<S'.c)
  ⟨⟨?_,?_,?_,?_,?_,?_,?_,?_,?_,?_,?_⟩,?_,?_,S.c+1+1+1+1+1+1+1,?_,?_,?_,?_⟩ ?_
 any_goals (simp -implicitDefEqProofs [zaQ,rR,apO,h0,h4,h5,h6,h3,h7,h9,g,i1,i2,i3,i4,i5,i6];done)
 any_goals (simp only[zbf,zbX,zbO,za8,zbS,zbD,zbd,zbW,zbU,zbh,zbY,zbB,za1,za9,za4,zca,zcb,zb8];omega)
 any_goals omega
 .intro j hj;rw[<-hk j hj];simp only[zbf,zbX,zbO,za8,zbS,zbD,zbd,zbW,zbU,zbh,zbY,zbB,za1,za9,za4,zca,zcb,zb8]
  repeat first|rw[TG,Z49 (by omega)]|rw[Vse.T.zbj,Z49 (by omega)]
 clear h0 h4 h5 h6 h3 h7 h9 g hi2 hk i1 i2 i3 i4 g9 h8 h10 i5 i6;rintro S ⟨⟨h0,h4,h5,h6,h3,h7,h9,g,_,hi2,hk⟩,h8,h10,idv,g9,gv,hi4,hi5⟩;refine round ?_;simp -implicitDefEqProofs [zaQ,rR,apO,h0,h4,h5,h6,h3,h7,h9,g,g9,h8,h10,hs,lc,zaN,hw1,hw2];refine hQ _ idv ⟨?_,?_,?_,?_,?_,?_,?_,?_,hi1,?_,?_⟩ ?_ ?_ hi4 ?_
 any_goals (simp -implicitDefEqProofs [zaQ,rR,apO,h0,h4,h5,h6,h3,h7,h9,g,g9,gv];done)
 any_goals (simp only[zbf,zbX,zbO,za8,zbS,zbD,zbd,zbW,zbU,zbh,zbY,zbB,za1,za9,za4,zca,zcb,zb8];omega)
 all_goals (intro j hj;simp only[zbf,zbX,zbO,za8,zbS,zbD,zbd,zbW,zbU,zbh,zbY,zbB,za1,za9,za4,zca,zcb,zb8];exact hk j hj)
theorem zye(h00:Vse.T Ob)(x:F)(i:Nat)(id:Nat)(dO:D)(n:Nat)(rel:List D)(id9:Nat)(p0 p1 p2:D)(nm:Str)(ce:Bool)(co:F)(hs:zcH[i]? =some [.s nm,.b ce,co])(hcd:co.d= .f co)(lc:zcE (.f co)=some 2)
  (b:Nat)(b1 b2 b3 b4:Nat)(hr1:zbk .rem (.i .i64 b) (.i .i64 3)=some (.i .i64 (b1:Int)))(hq1:zbk .quo (.i .i64 b) (.i .i64 3)=some (.i .i64 (b3:Int)))(hr2:zbk .rem (.i .i64 b3) (.i .i64 3)=some (.i .i64 (b2:Int)))(hq2:zbk .quo (.i .i64 b3) (.i .i64 3)=some (.i .i64 (b4:Int)))
  (hb1:b1<3)(hb2:b2<3)(S:St)(Q:Ex->St->Prop)(hS:CS h00 x i id dO n rel id9 S)(g9:S.h.get id9=some (.arr 4 0 [[.f .nils,p0,p1,p2]]))(h8:S.tm.get 8=some (.f (.i .i64 b)))(h10:S.tm.get 10=some (.f (.i .i64 0)))
  (hQ:∀S' idv,CS h00 x i id dO n rel id9 S'->S'.h.get id9=some (.arr 4 0 [[.sl idv 0 2 3 2 false,p0,p1,p2]])->S'.h.get idv=some (.arr 3 0 [[.f (.i .i64 1),.f (.i .i64 (1+(b1:Int))),.f (.s [])],[.f (.i .i64 1),.f (.i .i64 (1+(b2:Int))),.f (.s [])]])->id9<idv->idv<S'.c->Q (.exit 4) S'):WL pr lo5 S Q:=by
 unfold lo5;obtain⟨h0,h4,h5,h6,h3,h7,h9,g,hi1,hi2,hk⟩ :=hS;have q6a:=fun k=>zaj (k:=k) (zsM (1+(b1:Int)))
 have q6b:=fun k=>zaj (k:=k) (zsM (1+(b2:Int)))
 simp only[vF]at q6a q6b;have hv1:IntKind.i64.wrap (1+(b1:Int))=1+(b1:Int):=wrap_i64 _ (by omega) (by omega);have hv2:IntKind.i64.wrap (1+(b2:Int))=1+(b2:Int):=wrap_i64 _ (by omega) (by omega);have hw1:IntKind.i64.wrap 1=1:=by decide
 have hw2:IntKind.i64.wrap 2=2:=by decide
 have i1:¬id=S.c+1+1+1+1+1+1+1:=by omega
 have i2:¬id9=S.c+1+1+1+1+1+1+1:=by omega
 have i3:¬S.c+1+1+1+1+1+1+1=id:=by omega
 have i4:¬S.c+1+1+1+1+1+1+1=id9:=by omega
 have i5:¬id=id9:=by omega
 have i6:¬id9=id:=by omega
 refine round ?_;simp -implicitDefEqProofs [zaQ,rR,apO,h0,h4,h5,h6,h3,h7,h9,g,g9,h8,h10,hs,lc,zaN,hw1,hw2];refine zaM ?_;simp -implicitDefEqProofs [zaQ,rR,apO,h0,h4,h5,h6,h3,h7,h9,g,g9,h8,h10,hs,lc,zaN,hw1,hw2,hr1,hv1,q6a,hq1,hi2,i1,i2,i3,i4,i5,i6]
 repeat refine⟨by omega,?_⟩
 refine zvE (fun S'=>CS h00 x i id dO n rel id9 S'/\S'.tm.get 8=some (.f (.i .i64 b3))/\S'.tm.get 10=some (.f (.i .i64 1))/\∃idv,S'.h.get id9=some (.arr 4 0 [[.sl idv 0 1 3 1 false,p0,p1,p2]])/\S'.h.get idv=some (.arr 3 0 [[.f (.i .i64 1),.f (.i .i64 (1+(b1:Int))),.f (.s [])]])/\id9<idv/\idv<S'.c)
  ⟨⟨?_,?_,?_,?_,?_,?_,?_,?_,?_,?_,?_⟩,?_,?_,S.c+1+1+1+1+1+1+1,?_,?_,?_,?_⟩ ?_
 any_goals (simp -implicitDefEqProofs [zaQ,rR,apO,h0,h4,h5,h6,h3,h7,h9,g,i1,i2,i3,i4,i5,i6];done)
 any_goals (simp only[zbf,zbX,zbO,za8,zbS,zbD,zbd,zbW,zbU,zbh,zbY,zbB,za1,za9,za4,zca,zcb,zb8];omega)
 any_goals omega
 .intro j hj;rw[<-hk j hj];simp only[zbf,zbX,zbO,za8,zbS,zbD,zbd,zbW,zbU,zbh,zbY,zbB,za1,za9,za4,zca,zcb,zb8]
  repeat first|rw[TG,Z49 (by omega)]|rw[Vse.T.zbj,Z49 (by omega)]
 clear h0 h4 h5 h6 h3 h7 h9 g hi2 hk i1 i2 i3 i4 g9 h8 h10 i5 i6;rintro S ⟨⟨h0,h4,h5,h6,h3,h7,h9,g,_,hi2,hk⟩,h8,h10,idv,g9,gv,hi4,hi5⟩;have i1:¬id=S.c+1+1+1+1+1+1+1:=by omega
 have i2:¬id9=S.c+1+1+1+1+1+1+1:=by omega
 have i3:¬S.c+1+1+1+1+1+1+1=id:=by omega
 have i4:¬S.c+1+1+1+1+1+1+1=id9:=by omega
 have i5:¬id=id9:=by omega
 have i6:¬id9=id:=by omega
 have i7:¬idv=S.c+1+1+1+1+1+1+1:=by omega
 have i8:¬S.c+1+1+1+1+1+1+1=idv:=by omega
 have i9:¬id=idv:=by omega
 have i10:¬id9=idv:=by omega
 have i11:¬idv=id:=by omega
 have i12:¬idv=id9:=by omega
 refine round ?_;simp -implicitDefEqProofs [zaQ,rR,apO,h0,h4,h5,h6,h3,h7,h9,g,g9,h10,hs,lc,zaN,hw1,hw2,gv];refine zaM ?_;simp -implicitDefEqProofs [zaQ,rR,apO,h0,h4,h5,h6,h3,h7,h9,g,g9,h8,h10,hs,lc,zaN,hw1,hw2,gv,hr2,hv2,q6b,hq2,hi2,hi5,i1,i2,i3,i4,i5,i6,i7,i8,i9,i10,i11,i12]
 repeat refine⟨by omega,?_⟩
 refine zvE (fun S'=>CS h00 x i id dO n rel id9 S'/\S'.tm.get 10=some (.f (.i .i64 2))/\∃idv,S'.h.get id9=some (.arr 4 0 [[.sl idv 0 2 3 2 false,p0,p1,p2]])/\S'.h.get idv=some (.arr 3 0 [[.f (.i .i64 1),.f (.i .i64 (1+(b1:Int))),.f (.s [])],[.f (.i .i64 1),.f (.i .i64 (1+(b2:Int))),.f (.s [])]])/\id9<idv/\idv<S'.c)
  ⟨⟨?_,?_,?_,?_,?_,?_,?_,?_,?_,?_,?_⟩,?_,S.c+1+1+1+1+1+1+1,?_,?_,?_,?_⟩ ?_
 any_goals (simp -implicitDefEqProofs [zaQ,rR,apO,h0,h4,h5,h6,h3,h7,h9,g,i1,i2,i3,i4,i5,i6,i7,i8,i9,i10,i11,i12];done)
 any_goals (simp only[zbf,zbX,zbO,za8,zbS,zbD,zbd,zbW,zbU,zbh,zbY,zbB,za1,za9,za4,zca,zcb,zb8];omega)
 any_goals omega
 .intro j hj;rw[<-hk j hj];simp only[zbf,zbX,zbO,za8,zbS,zbD,zbd,zbW,zbU,zbh,zbY,zbB,za1,za9,za4,zca,zcb,zb8]
  repeat first|rw[TG,Z49 (by omega)]|rw[Vse.T.zbj,Z49 (by omega)]
 clear h0 h4 h5 h6 h3 h7 h9 g hi2 hk i1 i2 i3 i4 g9 h8 h10 i5 i6 i7 i8 i9 i10 i11 i12 gv hi4 hi5 idv;rintro S ⟨⟨h0,h4,h5,h6,h3,h7,h9,g,_,hi2,hk⟩,h10,idv,g9,gv,hi4,hi5⟩;refine round ?_;simp -implicitDefEqProofs [zaQ,rR,apO,h0,h4,h5,h6,h3,h7,h9,g,g9,h10,hs,lc,zaN,hw1,hw2];refine hQ _ idv ⟨?_,?_,?_,?_,?_,?_,?_,?_,hi1,?_,?_⟩ ?_ ?_ hi4 ?_
 any_goals (simp -implicitDefEqProofs [zaQ,rR,apO,h0,h4,h5,h6,h3,h7,h9,g,g9,gv];done)
 any_goals (simp only[zbf,zbX,zbO,za8,zbS,zbD,zbd,zbW,zbU,zbh,zbY,zbB,za1,za9,za4,zca,zcb,zb8];omega)
 all_goals (intro j hj;simp only[zbf,zbX,zbO,za8,zbS,zbD,zbd,zbW,zbU,zbh,zbY,zbB,za1,za9,za4,zca,zcb,zb8];exact hk j hj)
def KB(nm:Str)(ce:Bool)(co:F)(Tu:List Int×List F->Prop)(i:Int)(x:F)(id:Nat)(dO:D)(els:List (List D))(tu:List (List Int×List F))(s:St):Prop:=
 ((∀t∈tu,Tu t)/\Gd ⟨nm,ce,co,tu⟩)/\s.tm.get 0=some (.f x)/\s.tm.get 4=some (.f (.sl 3 zcH))/\s.tm.get 5=some (.f (.i .i64 i))/\s.tm.get 6=some (.ptr id 4 0 0)/\s.tm.get 3=some dO/\
 s.h.get id=some (.arr 4 0 [[.f (.s nm),.f (.b ce),.f co,.f (slc 4 (tu.map tuF))]])/\Grow s.h 0 id 4 dO els/\id<s.c
def KI(nm:Str)(ce:Bool)(co:F)(Tu:List Int×List F->Prop)(i:Int)(x:F)(id:Nat)(dO:D)(els:List (List D))(k:Nat)(s:St):Prop:=
 ∃n tu,n<=3/\k=3 - n/\tu.length<=n/\s.tm.get 7=some (.f (.i .i64 (n:Nat)))/\KB nm ce co Tu i x id dO els tu s
def KR(nm:Str)(ce:Bool)(co:F)(Tu:List Int×List F->Prop)(i:Int)(x:F)(id:Nat)(dO:D)(els:List (List D))(e:Ex)(s:St):Prop:=
 e= .exit 2/\∃tu,tu.length<=3/\KB nm ce co Tu i x id dO els tu s
def stepR(x:F)(hx:zdu x)(hxd:x.d= .f x)(id:Nat)(dO:D)(els:List (List D)):∀k s,KI [82] false coR TuR 0 x id dO els k s->wpC pr lo2 s (lp (KI [82] false coR TuR 0 x id dO els) k (KR [82] false coR TuR 0 x id dO els)):=by
 unfold lo2;rintro k s ⟨n,tu,hn,rfl,htl,h7,⟨hT,hG⟩,h0,h4,h5,h6,h3,g,hg,c0⟩;obtain⟨a,ha,h14⟩ :=zhJ hx 0 (by omega);obtain⟨b,hb,h14b⟩ :=zhJ hx (4+n) (by omega);have q14:=fun k=>zaj (k:=k) h14
 have hrm:=zdA a 4 (by omega);have hm4:a%4<4:=Z124 _ (by omega);have hs:zcH[0]? =some [.s [82],.b false,coR]:=rfl;have hmul:zbk .mul (.i .i64 3) (.i .i64 0)=some (.i .i64 0):=rfl;have hw:=zaK n (by omega);rw[show((0:Nat):Int)=0 from rfl]at q14;rw[show((4:Nat):Int)=4 from rfl]at hrm;generalize a%4=m4 at hrm hm4
 by_cases hlt:n<m4
 .by_cases hgo:True
  .have hw4:IntKind.i64.wrap (4:Int)=4:=rfl;have hwn:IntKind.i64.wrap ((4:Int)+(n:Int))=((4+n:Nat):Int):=wrap_i64 _ (by omega) (by omega);have q14b:=fun k=>zaj (k:=k) h14b
   have hci:((4+n:Nat):Int)=(4:Int)+(n:Int):=rfl;rw[hci]at q14b hwn;obtain⟨z,hz⟩ :∃r:Int,zbk .shr (.i .i64 b) (.i .u64 4)=some (.i .i64 r):=⟨_,rfl⟩
   obtain⟨p,hp,h15⟩ :=zsL z;obtain⟨p0,p1,p2,rfl,hd0,hd1,hd2⟩ :=zaX _ hp;have q15:=fun k=>zaj (k:=k) h15
   have q16:=fun k=>zaj (k:=k) zmF
   have hr1:=zdA b 3 (by omega);have hq1:=zfQ b 3 (by omega) (by omega);have hr2:=zdA (b/3) 3 (by omega);have hq2:=zfQ (b/3) 3 (by omega) (by have:b/3<=b:=Nat.div_le_self _ _;omega);rw[show((3:Nat):Int)=3 from rfl]at hr1 hq1 hr2 hq2;have hb1:b%3<3:=Z124 _ (by omega);have hb2:b/3%3<3:=Z124 _ (by omega);generalize b/3%3=b2 at hr2 hb2;generalize b/3/3=b4 at hq2;generalize b/3=b3 at hq1 hr2 hq2;generalize b%3=b1 at hr1 hb1;have k1:¬id=s.c:=by omega
   have hok:TuR ([1+(b1:Int),1+(b2:Int)],[p0,p1,p2]):=⟨hp,1+(b1:Int),1+(b2:Int),rfl,by omega,by omega⟩
   obtain⟨y,hy,h17⟩ :=zsO zqe [82] false coR tu (okR tu (by omega) hT) (by omega) ([1+(b1:Int),1+(b2:Int)],[p0,p1,p2]) hp (ckR _ hok) (fun m hm=>okR _ (by rw[zgr m hm];omega) (zgw m hT hok));have h17:Ans pr 37 [.ag [.s [82],.b false,coR,slc 4 (tu.map tuF)],.ag [.sl 3 [[.i .i64 1,.i .i64 (1+(b1:Int)),.s []],[.i .i64 1,.i .i64 (1+(b2:Int)),.s []]],p0,p1,p2]] y:=h17;simp -implicitDefEqProofs [zaQ,rR,apO,h0,h4,h5,h6,h3,h7,g,hxd,q14,hrm,hlt,hs,hgo,hmul,hw4,hwn,q14b,hz,q15,q16,hd0,hd1,hd2];refine zye s.h x 0 id dO n [.f (.s [82]),.f (.b false),.f coR,.f (slc 4 (tu.map tuF))] s.c (.f p0) (.f p1) (.f p2) [82] false coR rfl rfl rfl b b1 b2 b3 b4 hr1 hq1 hr2 hq2 hb1 hb2 _ _ ⟨?_,?_,?_,?_,?_,?_,?_,?_,?_,?_,?_⟩ ?_ ?_ ?_ ?_
   any_goals (simp -implicitDefEqProofs [zaQ,rR,apO,h0,h4,h5,h6,h3,h7,g,k1];done)
   .omega
   .intro j hj;simp only[zbf,zbX,zbO,za8,zbS,zbD,zbd,zbW,zbU,zbh,zbY,zbB,za1,za9,za4,zca,zcb,zb8]
    repeat first|rw[TG,Z49 (by omega)]|rw[Vse.T.zbj,Z49 (by omega)]
   .clear h0 h4 h5 h6 h3 h7 g k1;intro S idv hS g9 gv hi4 hi5;obtain⟨h0,h4,h5,h6,h3,h7,h9,g,hi1,hi2,hk⟩ :=hS;rw[show((0:Nat):Int)=0 from rfl]at h5;have hcd:coR.d= .f coR:=rfl;have hcc:(D.f coR).cells=some [.f coR]:=rfl;have j1:¬id=s.c:=by omega
    have j2:¬id=idv:=by omega
    have j3:¬id=S.c:=by omega
    have j4:¬s.c=id:=by omega
    have j5:¬s.c=idv:=by omega
    have j6:¬s.c=S.c:=by omega
    have j7:¬idv=id:=by omega
    have j8:¬idv=s.c:=by omega
    have j9:¬idv=S.c:=by omega
    have j10:¬S.c=id:=by omega
    have j11:¬S.c=s.c:=by omega
    have j12:¬S.c=idv:=by omega
    have keep:∀h':Vse.T Ob,(∀j,j<id->h'.get j=S.h.get j)->Grow h' 0 id 4 dO els:=fun h' hh=>zd8 hg (fun j hj=>(hh j hj).trans (hk j hj)) (Z2 _)
    rcases hy with⟨e,he,rfl⟩ |⟨m,hm,hgd,rfl⟩
    .have q17:=fun k=>zaj (k:=k) h17
     simp only[zRl]at q17;simp -implicitDefEqProofs [zaQ,rR,apO,h0,h4,h5,h6,h3,h7,h9,g,g9,gv,hcd,hcc,hd0,hd1,hd2,hi2,hi5,j1,j2,j3,j4,j5,j6,j7,j8,j9,j10,j11,j12,q17,he,hw];rw[zcY];refine⟨3 - (n+1),by omega,n+1,tu,by omega,rfl,by omega,?_,⟨hT,hG⟩,?_,?_,?_,?_,?_,?_,?_,?_⟩
     any_goals (simp -implicitDefEqProofs [zaQ,rR,apO,h0,h4,h5,h6,h3,h7,h9,g,g9,gv,hcd,hcc,hd0,hd1,hd2,hi2,hi5,j1,j2,j3,j4,j5,j6,j7,j8,j9,j10,j11,j12];done)
     .simp only[zbf,zbX,zbO,za8,zbS,zbD,zbd,zbW,zbU,zbh,zbY,zbB,za1,za9,za4,zca,zcb,zb8];refine keep _ ?_;intro j hj
      repeat first|rw[TG,Z49 (by omega)]|rw[Vse.T.zbj,Z49 (by omega)]
     all_goals (simp only[zbf,zbX,zbO,za8,zbS,zbD,zbd,zbW,zbU,zbh,zbY,zbB,za1,za9,za4,zca,zcb,zb8];omega)
    .have q17:=fun k=>zaj (k:=k) h17
     simp only[rlF]at q17;simp -implicitDefEqProofs [zaQ,rR,apO,h0,h4,h5,h6,h3,h7,h9,g,g9,gv,hcd,hcc,hd0,hd1,hd2,hi2,hi5,j1,j2,j3,j4,j5,j6,j7,j8,j9,j10,j11,j12,q17,hw];refine⟨by omega,?_⟩;rw[zcY];refine⟨3 - (n+1),by omega,n+1,tu.take m++([1+(b1:Int),1+(b2:Int)],[p0,p1,p2])::tu.drop m,by omega,rfl,by rw[zgr m hm];omega,?_,⟨zgw m hT hok,hgd⟩,?_,?_,?_,?_,?_,?_,?_,?_⟩
     any_goals (simp -implicitDefEqProofs [zaQ,rR,apO,h0,h4,h5,h6,h3,h7,h9,g,g9,gv,hcd,hcc,hd0,hd1,hd2,hi2,hi5,j1,j2,j3,j4,j5,j6,j7,j8,j9,j10,j11,j12];done)
     .simp only[zbf,zbX,zbO,za8,zbS,zbD,zbd,zbW,zbU,zbh,zbY,zbB,za1,za9,za4,zca,zcb,zb8];refine keep _ ?_;intro j hj
      repeat first|rw[TG,Z49 (by omega)]|rw[Vse.T.zbj,Z49 (by omega)]
     all_goals (simp only[zbf,zbX,zbO,za8,zbS,zbD,zbd,zbW,zbU,zbh,zbY,zbB,za1,za9,za4,zca,zcb,zb8];omega)
  .exact absurd trivial hgo
 .simp -implicitDefEqProofs [zaQ,rR,apO,h0,h4,h5,h6,h3,h7,g,hxd,q14,hrm,hlt,hs];refine⟨rfl,tu,by omega,⟨hT,hG⟩,?_,?_,?_,?_,?_,?_,?_,?_⟩
  all_goals simp -implicitDefEqProofs [zaQ,rR,apO,h0,h4,h5,h6,h3,g,hg,c0]
def stepS(x:F)(hx:zdu x)(hxd:x.d= .f x)(id:Nat)(dO:D)(els:List (List D)):∀k s,KI [83] false coS TuS 1 x id dO els k s->wpC pr lo2 s (lp (KI [83] false coS TuS 1 x id dO els) k (KR [83] false coS TuS 1 x id dO els)):=by
 unfold lo2;rintro k s ⟨n,tu,hn,rfl,htl,h7,⟨hT,hG⟩,h0,h4,h5,h6,h3,g,hg,c0⟩;obtain⟨a,ha,h14⟩ :=zhJ hx 1 (by omega);obtain⟨b,hb,h14b⟩ :=zhJ hx (7+n) (by omega);have q14:=fun k=>zaj (k:=k) h14
 have hrm:=zdA a 4 (by omega);have hm4:a%4<4:=Z124 _ (by omega);have hs:zcH[1]? =some [.s [83],.b false,coS]:=rfl;have hmul:zbk .mul (.i .i64 3) (.i .i64 1)=some (.i .i64 3):=rfl;have hw:=zaK n (by omega);rw[show((1:Nat):Int)=1 from rfl]at q14;rw[show((4:Nat):Int)=4 from rfl]at hrm;generalize a%4=m4 at hrm hm4
 by_cases hlt:n<m4
 .by_cases hgo:¬n=2
  .have hw4:IntKind.i64.wrap (7:Int)=7:=rfl;have hwn:IntKind.i64.wrap ((7:Int)+(n:Int))=((7+n:Nat):Int):=wrap_i64 _ (by omega) (by omega);have q14b:=fun k=>zaj (k:=k) h14b
   have hci:((7+n:Nat):Int)=(7:Int)+(n:Int):=rfl;rw[hci]at q14b hwn;obtain⟨z,hz⟩ :∃r:Int,zbk .shr (.i .i64 b) (.i .u64 4)=some (.i .i64 r):=⟨_,rfl⟩
   obtain⟨p,hp,h15⟩ :=zsL z;obtain⟨p0,p1,p2,rfl,hd0,hd1,hd2⟩ :=zaX _ hp;have q15:=fun k=>zaj (k:=k) h15
   have q16:=fun k=>zaj (k:=k) zmF
   have hr1:=zdA b 3 (by omega);have hq1:=zfQ b 3 (by omega) (by omega);have hr2:=zdA (b/3) 3 (by omega);have hq2:=zfQ (b/3) 3 (by omega) (by have:b/3<=b:=Nat.div_le_self _ _;omega);rw[show((3:Nat):Int)=3 from rfl]at hr1 hq1 hr2 hq2;have hb1:b%3<3:=Z124 _ (by omega);have hb2:b/3%3<3:=Z124 _ (by omega);generalize b/3%3=b2 at hr2 hb2;generalize b/3/3=b4 at hq2;generalize b/3=b3 at hq1 hr2 hq2;generalize b%3=b1 at hr1 hb1;have k1:¬id=s.c:=by omega
   have hok:TuS ([1+(b1:Int)],[p0,p1,p2]):=⟨hp,1+(b1:Int),rfl⟩
   obtain⟨y,hy,h17⟩ :=zsO zqe [83] false coS tu (okS tu (by omega) hT) (by omega) ([1+(b1:Int)],[p0,p1,p2]) hp (ckS _ hok) (fun m hm=>okS _ (by rw[zgr m hm];omega) (zgw m hT hok));have h17:Ans pr 37 [.ag [.s [83],.b false,coS,slc 4 (tu.map tuF)],.ag [.sl 3 [[.i .i64 1,.i .i64 (1+(b1:Int)),.s []]],p0,p1,p2]] y:=h17;have hgi:¬(n:Int)=2:=by omega
   simp -implicitDefEqProofs [zaQ,rR,apO,h0,h4,h5,h6,h3,h7,g,hxd,q14,hrm,hlt,hs,hgi,hgo,hmul,hw4,hwn,q14b,hz,q15,q16,hd0,hd1,hd2];refine cols1 s.h x 1 id dO n [.f (.s [83]),.f (.b false),.f coS,.f (slc 4 (tu.map tuF))] s.c (.f p0) (.f p1) (.f p2) [83] false coS rfl rfl rfl b b1 b2 b3 b4 hr1 hq1 hr2 hq2 hb1 hb2 _ _ ⟨?_,?_,?_,?_,?_,?_,?_,?_,?_,?_,?_⟩ ?_ ?_ ?_ ?_
   any_goals (simp -implicitDefEqProofs [zaQ,rR,apO,h0,h4,h5,h6,h3,h7,g,k1];done)
   .omega
   .intro j hj;simp only[zbf,zbX,zbO,za8,zbS,zbD,zbd,zbW,zbU,zbh,zbY,zbB,za1,za9,za4,zca,zcb,zb8]
    repeat first|rw[TG,Z49 (by omega)]|rw[Vse.T.zbj,Z49 (by omega)]
   .clear h0 h4 h5 h6 h3 h7 g k1;intro S idv hS g9 gv hi4 hi5;obtain⟨h0,h4,h5,h6,h3,h7,h9,g,hi1,hi2,hk⟩ :=hS;rw[show((1:Nat):Int)=1 from rfl]at h5;have hcd:coS.d= .f coS:=rfl;have hcc:(D.f coS).cells=some [.f coS]:=rfl;have j1:¬id=s.c:=by omega
    have j2:¬id=idv:=by omega
    have j3:¬id=S.c:=by omega
    have j4:¬s.c=id:=by omega
    have j5:¬s.c=idv:=by omega
    have j6:¬s.c=S.c:=by omega
    have j7:¬idv=id:=by omega
    have j8:¬idv=s.c:=by omega
    have j9:¬idv=S.c:=by omega
    have j10:¬S.c=id:=by omega
    have j11:¬S.c=s.c:=by omega
    have j12:¬S.c=idv:=by omega
    have keep:∀h':Vse.T Ob,(∀j,j<id->h'.get j=S.h.get j)->Grow h' 0 id 4 dO els:=fun h' hh=>zd8 hg (fun j hj=>(hh j hj).trans (hk j hj)) (Z2 _)
    rcases hy with⟨e,he,rfl⟩ |⟨m,hm,hgd,rfl⟩
    .have q17:=fun k=>zaj (k:=k) h17
     simp only[zRl]at q17;simp -implicitDefEqProofs [zaQ,rR,apO,h0,h4,h5,h6,h3,h7,h9,g,g9,gv,hcd,hcc,hd0,hd1,hd2,hi2,hi5,j1,j2,j3,j4,j5,j6,j7,j8,j9,j10,j11,j12,q17,he,hw];rw[zcY];refine⟨3 - (n+1),by omega,n+1,tu,by omega,rfl,by omega,?_,⟨hT,hG⟩,?_,?_,?_,?_,?_,?_,?_,?_⟩
     any_goals (simp -implicitDefEqProofs [zaQ,rR,apO,h0,h4,h5,h6,h3,h7,h9,g,g9,gv,hcd,hcc,hd0,hd1,hd2,hi2,hi5,j1,j2,j3,j4,j5,j6,j7,j8,j9,j10,j11,j12];done)
     .simp only[zbf,zbX,zbO,za8,zbS,zbD,zbd,zbW,zbU,zbh,zbY,zbB,za1,za9,za4,zca,zcb,zb8];refine keep _ ?_;intro j hj
      repeat first|rw[TG,Z49 (by omega)]|rw[Vse.T.zbj,Z49 (by omega)]
     all_goals (simp only[zbf,zbX,zbO,za8,zbS,zbD,zbd,zbW,zbU,zbh,zbY,zbB,za1,za9,za4,zca,zcb,zb8];omega)
    .have q17:=fun k=>zaj (k:=k) h17
     simp only[rlF]at q17;simp -implicitDefEqProofs [zaQ,rR,apO,h0,h4,h5,h6,h3,h7,h9,g,g9,gv,hcd,hcc,hd0,hd1,hd2,hi2,hi5,j1,j2,j3,j4,j5,j6,j7,j8,j9,j10,j11,j12,q17,hw];refine⟨by omega,?_⟩;rw[zcY];refine⟨3 - (n+1),by omega,n+1,tu.take m++([1+(b1:Int)],[p0,p1,p2])::tu.drop m,by omega,rfl,by rw[zgr m hm];omega,?_,⟨zgw m hT hok,hgd⟩,?_,?_,?_,?_,?_,?_,?_,?_⟩
     any_goals (simp -implicitDefEqProofs [zaQ,rR,apO,h0,h4,h5,h6,h3,h7,h9,g,g9,gv,hcd,hcc,hd0,hd1,hd2,hi2,hi5,j1,j2,j3,j4,j5,j6,j7,j8,j9,j10,j11,j12];done)
     .simp only[zbf,zbX,zbO,za8,zbS,zbD,zbd,zbW,zbU,zbh,zbY,zbB,za1,za9,za4,zca,zcb,zb8];refine keep _ ?_;intro j hj
      repeat first|rw[TG,Z49 (by omega)]|rw[Vse.T.zbj,Z49 (by omega)]
     all_goals (simp only[zbf,zbX,zbO,za8,zbS,zbD,zbd,zbW,zbU,zbh,zbY,zbB,za1,za9,za4,zca,zcb,zb8];omega)
  .have h2:n=2:=by omega
   subst h2;rw[show((2:Nat):Int)=2 from rfl]at h7;have hlt2:(2:Int)< (m4:Int):=by omega
   simp -implicitDefEqProofs [zaQ,rR,apO,h0,h4,h5,h6,h3,h7,g,hxd,q14,hrm,hlt,hs,hlt2];refine⟨rfl,tu,by omega,⟨hT,hG⟩,?_,?_,?_,?_,?_,?_,?_,?_⟩
   all_goals simp -implicitDefEqProofs [zaQ,rR,apO,h0,h4,h5,h6,h3,g,hg,c0]
 .simp -implicitDefEqProofs [zaQ,rR,apO,h0,h4,h5,h6,h3,h7,g,hxd,q14,hrm,hlt,hs];refine⟨rfl,tu,by omega,⟨hT,hG⟩,?_,?_,?_,?_,?_,?_,?_,?_⟩
  all_goals simp -implicitDefEqProofs [zaQ,rR,apO,h0,h4,h5,h6,h3,g,hg,c0]
def stepK(x:F)(hx:zdu x)(hxd:x.d= .f x)(id:Nat)(dO:D)(els:List (List D)):∀k s,KI [75] false coK TuK 2 x id dO els k s->wpC pr lo2 s (lp (KI [75] false coK TuK 2 x id dO els) k (KR [75] false coK TuK 2 x id dO els)):=by
 unfold lo2;rintro k s ⟨n,tu,hn,rfl,htl,h7,⟨hT,hG⟩,h0,h4,h5,h6,h3,g,hg,c0⟩;obtain⟨a,ha,h14⟩ :=zhJ hx 2 (by omega);obtain⟨b,hb,h14b⟩ :=zhJ hx (10+n) (by omega);have q14:=fun k=>zaj (k:=k) h14
 have hrm:=zdA a 4 (by omega);have hm4:a%4<4:=Z124 _ (by omega);have hs:zcH[2]? =some [.s [75],.b false,coK]:=rfl;have hmul:zbk .mul (.i .i64 3) (.i .i64 2)=some (.i .i64 6):=rfl;have hw:=zaK n (by omega);rw[show((2:Nat):Int)=2 from rfl]at q14;rw[show((4:Nat):Int)=4 from rfl]at hrm;generalize a%4=m4 at hrm hm4
 by_cases hlt:n<m4
 .by_cases hgo:True
  .have hw4:IntKind.i64.wrap (10:Int)=10:=rfl;have hwn:IntKind.i64.wrap ((10:Int)+(n:Int))=((10+n:Nat):Int):=wrap_i64 _ (by omega) (by omega);have q14b:=fun k=>zaj (k:=k) h14b
   have hci:((10+n:Nat):Int)=(10:Int)+(n:Int):=rfl;rw[hci]at q14b hwn;obtain⟨z,hz⟩ :∃r:Int,zbk .shr (.i .i64 b) (.i .u64 4)=some (.i .i64 r):=⟨_,rfl⟩
   obtain⟨p,hp,h15⟩ :=zsL z;obtain⟨p0,p1,p2,rfl,hd0,hd1,hd2⟩ :=zaX _ hp;have q15:=fun k=>zaj (k:=k) h15
   have q16:=fun k=>zaj (k:=k) zmF
   have hr1:=zdA b 3 (by omega);have hq1:=zfQ b 3 (by omega) (by omega);have hr2:=zdA (b/3) 3 (by omega);have hq2:=zfQ (b/3) 3 (by omega) (by have:b/3<=b:=Nat.div_le_self _ _;omega);rw[show((3:Nat):Int)=3 from rfl]at hr1 hq1 hr2 hq2;have hb1:b%3<3:=Z124 _ (by omega);have hb2:b/3%3<3:=Z124 _ (by omega);generalize b/3%3=b2 at hr2 hb2;generalize b/3/3=b4 at hq2;generalize b/3=b3 at hq1 hr2 hq2;generalize b%3=b1 at hr1 hb1;have k1:¬id=s.c:=by omega
   have hok:TuK ([1+(b1:Int),1+(b2:Int)],[p0,p1,p2]):=⟨hp,1+(b1:Int),1+(b2:Int),rfl,by omega,by omega⟩
   obtain⟨y,hy,h17⟩ :=zsO zqe [75] false coK tu (okK tu (by omega) hT) (by omega) ([1+(b1:Int),1+(b2:Int)],[p0,p1,p2]) hp (ckK _ hok) (fun m hm=>okK _ (by rw[zgr m hm];omega) (zgw m hT hok));have h17:Ans pr 37 [.ag [.s [75],.b false,coK,slc 4 (tu.map tuF)],.ag [.sl 3 [[.i .i64 1,.i .i64 (1+(b1:Int)),.s []],[.i .i64 1,.i .i64 (1+(b2:Int)),.s []]],p0,p1,p2]] y:=h17;simp -implicitDefEqProofs [zaQ,rR,apO,h0,h4,h5,h6,h3,h7,g,hxd,q14,hrm,hlt,hs,hgo,hmul,hw4,hwn,q14b,hz,q15,q16,hd0,hd1,hd2];refine zye s.h x 2 id dO n [.f (.s [75]),.f (.b false),.f coK,.f (slc 4 (tu.map tuF))] s.c (.f p0) (.f p1) (.f p2) [75] false coK rfl rfl rfl b b1 b2 b3 b4 hr1 hq1 hr2 hq2 hb1 hb2 _ _ ⟨?_,?_,?_,?_,?_,?_,?_,?_,?_,?_,?_⟩ ?_ ?_ ?_ ?_
   any_goals (simp -implicitDefEqProofs [zaQ,rR,apO,h0,h4,h5,h6,h3,h7,g,k1];done)
   .omega
   .intro j hj;simp only[zbf,zbX,zbO,za8,zbS,zbD,zbd,zbW,zbU,zbh,zbY,zbB,za1,za9,za4,zca,zcb,zb8]
    repeat first|rw[TG,Z49 (by omega)]|rw[Vse.T.zbj,Z49 (by omega)]
   .clear h0 h4 h5 h6 h3 h7 g k1;intro S idv hS g9 gv hi4 hi5;obtain⟨h0,h4,h5,h6,h3,h7,h9,g,hi1,hi2,hk⟩ :=hS;rw[show((2:Nat):Int)=2 from rfl]at h5;have hcd:coK.d= .f coK:=rfl;have hcc:(D.f coK).cells=some [.f coK]:=rfl;have j1:¬id=s.c:=by omega
    have j2:¬id=idv:=by omega
    have j3:¬id=S.c:=by omega
    have j4:¬s.c=id:=by omega
    have j5:¬s.c=idv:=by omega
    have j6:¬s.c=S.c:=by omega
    have j7:¬idv=id:=by omega
    have j8:¬idv=s.c:=by omega
    have j9:¬idv=S.c:=by omega
    have j10:¬S.c=id:=by omega
    have j11:¬S.c=s.c:=by omega
    have j12:¬S.c=idv:=by omega
    have keep:∀h':Vse.T Ob,(∀j,j<id->h'.get j=S.h.get j)->Grow h' 0 id 4 dO els:=fun h' hh=>zd8 hg (fun j hj=>(hh j hj).trans (hk j hj)) (Z2 _)
    rcases hy with⟨e,he,rfl⟩ |⟨m,hm,hgd,rfl⟩
    .have q17:=fun k=>zaj (k:=k) h17
     simp only[zRl]at q17;simp -implicitDefEqProofs [zaQ,rR,apO,h0,h4,h5,h6,h3,h7,h9,g,g9,gv,hcd,hcc,hd0,hd1,hd2,hi2,hi5,j1,j2,j3,j4,j5,j6,j7,j8,j9,j10,j11,j12,q17,he,hw];rw[zcY];refine⟨3 - (n+1),by omega,n+1,tu,by omega,rfl,by omega,?_,⟨hT,hG⟩,?_,?_,?_,?_,?_,?_,?_,?_⟩
     any_goals (simp -implicitDefEqProofs [zaQ,rR,apO,h0,h4,h5,h6,h3,h7,h9,g,g9,gv,hcd,hcc,hd0,hd1,hd2,hi2,hi5,j1,j2,j3,j4,j5,j6,j7,j8,j9,j10,j11,j12];done)
     .simp only[zbf,zbX,zbO,za8,zbS,zbD,zbd,zbW,zbU,zbh,zbY,zbB,za1,za9,za4,zca,zcb,zb8];refine keep _ ?_;intro j hj
      repeat first|rw[TG,Z49 (by omega)]|rw[Vse.T.zbj,Z49 (by omega)]
     all_goals (simp only[zbf,zbX,zbO,za8,zbS,zbD,zbd,zbW,zbU,zbh,zbY,zbB,za1,za9,za4,zca,zcb,zb8];omega)
    .have q17:=fun k=>zaj (k:=k) h17
     simp only[rlF]at q17;simp -implicitDefEqProofs [zaQ,rR,apO,h0,h4,h5,h6,h3,h7,h9,g,g9,gv,hcd,hcc,hd0,hd1,hd2,hi2,hi5,j1,j2,j3,j4,j5,j6,j7,j8,j9,j10,j11,j12,q17,hw];refine⟨by omega,?_⟩;rw[zcY];refine⟨3 - (n+1),by omega,n+1,tu.take m++([1+(b1:Int),1+(b2:Int)],[p0,p1,p2])::tu.drop m,by omega,rfl,by rw[zgr m hm];omega,?_,⟨zgw m hT hok,hgd⟩,?_,?_,?_,?_,?_,?_,?_,?_⟩
     any_goals (simp -implicitDefEqProofs [zaQ,rR,apO,h0,h4,h5,h6,h3,h7,h9,g,g9,gv,hcd,hcc,hd0,hd1,hd2,hi2,hi5,j1,j2,j3,j4,j5,j6,j7,j8,j9,j10,j11,j12];done)
     .simp only[zbf,zbX,zbO,za8,zbS,zbD,zbd,zbW,zbU,zbh,zbY,zbB,za1,za9,za4,zca,zcb,zb8];refine keep _ ?_;intro j hj
      repeat first|rw[TG,Z49 (by omega)]|rw[Vse.T.zbj,Z49 (by omega)]
     all_goals (simp only[zbf,zbX,zbO,za8,zbS,zbD,zbd,zbW,zbU,zbh,zbY,zbB,za1,za9,za4,zca,zcb,zb8];omega)
  .exact absurd trivial hgo
 .simp -implicitDefEqProofs [zaQ,rR,apO,h0,h4,h5,h6,h3,h7,g,hxd,q14,hrm,hlt,hs];refine⟨rfl,tu,by omega,⟨hT,hG⟩,?_,?_,?_,?_,?_,?_,?_,?_⟩
  all_goals simp -implicitDefEqProofs [zaQ,rR,apO,h0,h4,h5,h6,h3,g,hg,c0]
def stepC(x:F)(hx:zdu x)(hxd:x.d= .f x)(id:Nat)(dO:D)(els:List (List D)):∀k s,KI [67] true coC TuC 3 x id dO els k s->wpC pr lo2 s (lp (KI [67] true coC TuC 3 x id dO els) k (KR [67] true coC TuC 3 x id dO els)):=by
 unfold lo2;rintro k s ⟨n,tu,hn,rfl,htl,h7,⟨hT,hG⟩,h0,h4,h5,h6,h3,g,hg,c0⟩;obtain⟨a,ha,h14⟩ :=zhJ hx 3 (by omega);obtain⟨b,hb,h14b⟩ :=zhJ hx (13+n) (by omega);have q14:=fun k=>zaj (k:=k) h14
 have hrm:=zdA a 4 (by omega);have hm4:a%4<4:=Z124 _ (by omega);have hs:zcH[3]? =some [.s [67],.b true,coC]:=rfl;have hmul:zbk .mul (.i .i64 3) (.i .i64 3)=some (.i .i64 9):=rfl;have hw:=zaK n (by omega);rw[show((3:Nat):Int)=3 from rfl]at q14;rw[show((4:Nat):Int)=4 from rfl]at hrm;generalize a%4=m4 at hrm hm4
 by_cases hlt:n<m4
 .by_cases hgo:True
  .have hw4:IntKind.i64.wrap (13:Int)=13:=rfl;have hwn:IntKind.i64.wrap ((13:Int)+(n:Int))=((13+n:Nat):Int):=wrap_i64 _ (by omega) (by omega);have q14b:=fun k=>zaj (k:=k) h14b
   have hci:((13+n:Nat):Int)=(13:Int)+(n:Int):=rfl;rw[hci]at q14b hwn;obtain⟨z,hz⟩ :∃r:Int,zbk .shr (.i .i64 b) (.i .u64 4)=some (.i .i64 r):=⟨_,rfl⟩
   obtain⟨p,hp,h15⟩ :=zsL z;obtain⟨p0,p1,p2,rfl,hd0,hd1,hd2⟩ :=zaX _ hp;have q15:=fun k=>zaj (k:=k) h15
   have q16:=fun k=>zaj (k:=k) zmF
   have hr1:=zdA b 3 (by omega);have hq1:=zfQ b 3 (by omega) (by omega);have hr2:=zdA (b/3) 3 (by omega);have hq2:=zfQ (b/3) 3 (by omega) (by have:b/3<=b:=Nat.div_le_self _ _;omega);rw[show((3:Nat):Int)=3 from rfl]at hr1 hq1 hr2 hq2;have hb1:b%3<3:=Z124 _ (by omega);have hb2:b/3%3<3:=Z124 _ (by omega);generalize b/3%3=b2 at hr2 hb2;generalize b/3/3=b4 at hq2;generalize b/3=b3 at hq1 hr2 hq2;generalize b%3=b1 at hr1 hb1;have k1:¬id=s.c:=by omega
   have hok:TuC ([1+(b1:Int),1+(b2:Int)],[.b false,.sl 1 [[.i .u32 1]],.sl 1 [[.i .u32 1]]]):=⟨pp1,1+(b1:Int),1+(b2:Int),rfl,rfl⟩
   obtain⟨y,hy,h17⟩ :=zsO zqe [67] true coC tu (okC tu (by omega) hT) (by omega) ([1+(b1:Int),1+(b2:Int)],[.b false,.sl 1 [[.i .u32 1]],.sl 1 [[.i .u32 1]]]) pp1 (ckC _ hok) (fun m hm=>okC _ (by rw[zgr m hm];omega) (zgw m hT hok));have h17:Ans pr 37 [.ag [.s [67],.b true,coC,slc 4 (tu.map tuF)],.ag [.sl 3 [[.i .i64 1,.i .i64 (1+(b1:Int)),.s []],[.i .i64 1,.i .i64 (1+(b2:Int)),.s []]],.b false,.sl 1 [[.i .u32 1]],.sl 1 [[.i .u32 1]]]] y:=h17;simp -implicitDefEqProofs [zaQ,rR,apO,h0,h4,h5,h6,h3,h7,g,hxd,q14,hrm,hlt,hs,hgo,hmul,hw4,hwn,q14b,hz,q15,q16,hd0,hd1,hd2];refine zye s.h x 3 id dO n [.f (.s [67]),.f (.b true),.f coC,.f (slc 4 (tu.map tuF))] s.c (.f (.b false)) (.f (.sl 1 [[.i .u32 1]])) (.f (.sl 1 [[.i .u32 1]])) [67] true coC rfl rfl rfl b b1 b2 b3 b4 hr1 hq1 hr2 hq2 hb1 hb2 _ _ ⟨?_,?_,?_,?_,?_,?_,?_,?_,?_,?_,?_⟩ ?_ ?_ ?_ ?_
   any_goals (simp -implicitDefEqProofs [zaQ,rR,apO,h0,h4,h5,h6,h3,h7,g,k1];done)
   .omega
   .intro j hj;simp only[zbf,zbX,zbO,za8,zbS,zbD,zbd,zbW,zbU,zbh,zbY,zbB,za1,za9,za4,zca,zcb,zb8]
    repeat first|rw[TG,Z49 (by omega)]|rw[Vse.T.zbj,Z49 (by omega)]
   .clear h0 h4 h5 h6 h3 h7 g k1;intro S idv hS g9 gv hi4 hi5;obtain⟨h0,h4,h5,h6,h3,h7,h9,g,hi1,hi2,hk⟩ :=hS;rw[show((3:Nat):Int)=3 from rfl]at h5;have hcd:coC.d= .f coC:=rfl;have hcc:(D.f coC).cells=some [.f coC]:=rfl;have j1:¬id=s.c:=by omega
    have j2:¬id=idv:=by omega
    have j3:¬id=S.c:=by omega
    have j4:¬s.c=id:=by omega
    have j5:¬s.c=idv:=by omega
    have j6:¬s.c=S.c:=by omega
    have j7:¬idv=id:=by omega
    have j8:¬idv=s.c:=by omega
    have j9:¬idv=S.c:=by omega
    have j10:¬S.c=id:=by omega
    have j11:¬S.c=s.c:=by omega
    have j12:¬S.c=idv:=by omega
    have keep:∀h':Vse.T Ob,(∀j,j<id->h'.get j=S.h.get j)->Grow h' 0 id 4 dO els:=fun h' hh=>zd8 hg (fun j hj=>(hh j hj).trans (hk j hj)) (Z2 _)
    rcases hy with⟨e,he,rfl⟩ |⟨m,hm,hgd,rfl⟩
    .have q17:=fun k=>zaj (k:=k) h17
     simp only[zRl]at q17;simp -implicitDefEqProofs [zaQ,rR,apO,h0,h4,h5,h6,h3,h7,h9,g,g9,gv,hcd,hcc,hd0,hd1,hd2,hi2,hi5,j1,j2,j3,j4,j5,j6,j7,j8,j9,j10,j11,j12,q17,he,hw];rw[zcY];refine⟨3 - (n+1),by omega,n+1,tu,by omega,rfl,by omega,?_,⟨hT,hG⟩,?_,?_,?_,?_,?_,?_,?_,?_⟩
     any_goals (simp -implicitDefEqProofs [zaQ,rR,apO,h0,h4,h5,h6,h3,h7,h9,g,g9,gv,hcd,hcc,hd0,hd1,hd2,hi2,hi5,j1,j2,j3,j4,j5,j6,j7,j8,j9,j10,j11,j12];done)
     .simp only[zbf,zbX,zbO,za8,zbS,zbD,zbd,zbW,zbU,zbh,zbY,zbB,za1,za9,za4,zca,zcb,zb8];refine keep _ ?_;intro j hj
      repeat first|rw[TG,Z49 (by omega)]|rw[Vse.T.zbj,Z49 (by omega)]
     all_goals (simp only[zbf,zbX,zbO,za8,zbS,zbD,zbd,zbW,zbU,zbh,zbY,zbB,za1,za9,za4,zca,zcb,zb8];omega)
    .have q17:=fun k=>zaj (k:=k) h17
     simp only[rlF]at q17;simp -implicitDefEqProofs [zaQ,rR,apO,h0,h4,h5,h6,h3,h7,h9,g,g9,gv,hcd,hcc,hd0,hd1,hd2,hi2,hi5,j1,j2,j3,j4,j5,j6,j7,j8,j9,j10,j11,j12,q17,hw];refine⟨by omega,?_⟩;rw[zcY];refine⟨3 - (n+1),by omega,n+1,tu.take m++([1+(b1:Int),1+(b2:Int)],[.b false,.sl 1 [[.i .u32 1]],.sl 1 [[.i .u32 1]]])::tu.drop m,by omega,rfl,by rw[zgr m hm];omega,?_,⟨zgw m hT hok,hgd⟩,?_,?_,?_,?_,?_,?_,?_,?_⟩
     any_goals (simp -implicitDefEqProofs [zaQ,rR,apO,h0,h4,h5,h6,h3,h7,h9,g,g9,gv,hcd,hcc,hd0,hd1,hd2,hi2,hi5,j1,j2,j3,j4,j5,j6,j7,j8,j9,j10,j11,j12];done)
     .simp only[zbf,zbX,zbO,za8,zbS,zbD,zbd,zbW,zbU,zbh,zbY,zbB,za1,za9,za4,zca,zcb,zb8];refine keep _ ?_;intro j hj
      repeat first|rw[TG,Z49 (by omega)]|rw[Vse.T.zbj,Z49 (by omega)]
     all_goals (simp only[zbf,zbX,zbO,za8,zbS,zbD,zbd,zbW,zbU,zbh,zbY,zbB,za1,za9,za4,zca,zcb,zb8];omega)
  .exact absurd trivial hgo
 .simp -implicitDefEqProofs [zaQ,rR,apO,h0,h4,h5,h6,h3,h7,g,hxd,q14,hrm,hlt,hs];refine⟨rfl,tu,by omega,⟨hT,hG⟩,?_,?_,?_,?_,?_,?_,?_,?_⟩
  all_goals simp -implicitDefEqProofs [zaQ,rR,apO,h0,h4,h5,h6,h3,g,hg,c0]
end Go.Proofs.YtlinkhjnihjbaaaGreatDoor
end
