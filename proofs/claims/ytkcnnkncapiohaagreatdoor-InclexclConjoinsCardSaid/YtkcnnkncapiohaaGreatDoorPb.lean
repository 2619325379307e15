/- The probabilities that the relations bear, and the sums that arise of them. Written by program. -/
import Derived.Test.YtkcnnkncapiohaaGreatDoorHa
import Derived.Test.YtkcnnkncapiohaaGreatDoorPr
import Derived.KernelRfl
import Derived.Test.YtkcnnkncapiohaaGreatDoorVe
import Derived.Test.YtkcnnkncapiohaaGreatDoorQs0
set_option linter.all false
set_option maxRecDepth 100000
set_option maxHeartbeats 4000000
noncomputable section
section
namespace Go.Proofs.YtkcnnkncapiohaaGreatDoor
open Go Go.Vse
def u0:List F:=[.b false,.nils,.sl 1 [[.i .u32 1]]]
def u1:List F:=[.b false,.sl 1 [[.i .u32 1]],.sl 1 [[.i .u32 2]]]
def u2:List F:=[.b false,.sl 1 [[.i .u32 1]],.sl 1 [[.i .u32 3]]]
def u3:List F:=[.b false,.sl 1 [[.i .u32 2]],.sl 1 [[.i .u32 3]]]
def u4:List F:=[.b false,.sl 1 [[.i .u32 1]],.sl 1 [[.i .u32 4]]]
def u5:List F:=[.b false,.sl 1 [[.i .u32 1]],.sl 1 [[.i .u32 1]]]
def u6:List F:=[.b false,.sl 1 [[.i .u32 3]],.sl 1 [[.i .u32 5]]]
def u7:List F:=[.b false,.sl 1 [[.i .u32 1]],.sl 1 [[.i .u32 7]]]
def PPl:List (List F):=[u1,u2,u3,u4,u5,u0,u6,u7]
end Go.Proofs.YtkcnnkncapiohaaGreatDoor
end
section
namespace Go.Proofs.YtkcnnkncapiohaaGreatDoor
open Go Go.Vse
def v1(a:Int):F:= .sl 3 [[.i .i64 1,.i .i64 a,.s []]]
def v2(a b:Int):F:= .sl 3 [[.i .i64 1,.i .i64 a,.s []],[.i .i64 1,.i .i64 b,.s []]]
def kqR:F:= .sl 3 [[.s [97],.i .i64 1,.b false],[.s [98],.i .i64 1,.b false]]
def kqS:F:= .sl 3 [[.s [97],.i .i64 1,.b false]]
def kqK:F:= .sl 3 [[.s [107],.i .i64 1,.b true],[.s [118],.i .i64 1,.b false]]
def ctR0(a b:Int):zas pr (94,[.ag [.s [82],.b false,kqR],.ag (v2 a b::u1)],.i .i64 0):=rE zcx [zfS,zpG,zlm,zmt,zmb] ⟨zhn,zAn,zoG,zuW,zuJ,trivial⟩ (by kernel_rfl)
def ctR1(a b:Int):zas pr (94,[.ag [.s [82],.b false,kqR],.ag (v2 a b::u2)],.i .i64 0):=rE zcx [zfS,zpH,zjY,zhz,zmc] ⟨zhn,zAo,zlV,zjX,zuK,trivial⟩ (by kernel_rfl)
def ctR2(a b:Int):zas pr (94,[.ag [.s [82],.b false,kqR],.ag (v2 a b::u3)],.i .i64 0):=rE zcx [zfS,zlX,zjZ,zhz,zme] ⟨zhn,zuz,zlW,zjX,zuM,trivial⟩ (by kernel_rfl)
def ctR3(a b:Int):zas pr (94,[.ag [.s [82],.b false,kqR],.ag (v2 a b::u4)],.i .i64 0):=rE zcx [zfS,zlZ,zjk,zmw,zmh] ⟨zhn,zuB,zlh,zuY,zuN,trivial⟩ (by kernel_rfl)
def ctR4(a b:Int):zas pr (94,[.ag [.s [82],.b false,kqR],.ag (v2 a b::u5)],.i .i64 0):=rE zcx [zfS,zl1,zet,zhy,zmi] ⟨zhn,zuC,zfu,zjW,zuP,trivial⟩ (by kernel_rfl)
def ctR5(a b:Int):zas pr (94,[.ag [.s [82],.b false,kqR],.ag (v2 a b::u0)],.i .i64 0):=rE zcx [zfS,zl2,zhv,zhy,zmo] ⟨zhn,zuD,ziJ,zjW,zuS,trivial⟩ (by kernel_rfl)
def ctR6(a b:Int):zas pr (94,[.ag [.s [82],.b false,kqR],.ag (v2 a b::u6)],.i .i64 0):=rE zcx [zfS,zl4,zjl,zmx,zmq] ⟨zhn,zuE,zlk,zuZ,zuU,trivial⟩ (by kernel_rfl)
def ctR7(a b:Int):zas pr (94,[.ag [.s [82],.b false,kqR],.ag (v2 a b::u7)],.i .i64 0):=rE zcx [zfS,zma,zjm,zmy,zmr] ⟨zhn,zuF,zll,zu0,zuV,trivial⟩ (by kernel_rfl)
def ctS0(a:Int):zas pr (94,[.ag [.s [83],.b false,kqS],.ag (v1 a::u1)],.i .i64 0):=rE zcx [zfT,zpG,zlm,zmt,zmb] ⟨zhq,zAn,zoG,zuW,zuJ,trivial⟩ (by kernel_rfl)
def ctS1(a:Int):zas pr (94,[.ag [.s [83],.b false,kqS],.ag (v1 a::u2)],.i .i64 0):=rE zcx [zfT,zpH,zjY,zhz,zmc] ⟨zhq,zAo,zlV,zjX,zuK,trivial⟩ (by kernel_rfl)
def ctS2(a:Int):zas pr (94,[.ag [.s [83],.b false,kqS],.ag (v1 a::u3)],.i .i64 0):=rE zcx [zfT,zlX,zjZ,zhz,zme] ⟨zhq,zuz,zlW,zjX,zuM,trivial⟩ (by kernel_rfl)
def ctS3(a:Int):zas pr (94,[.ag [.s [83],.b false,kqS],.ag (v1 a::u4)],.i .i64 0):=rE zcx [zfT,zlZ,zjk,zmw,zmh] ⟨zhq,zuB,zlh,zuY,zuN,trivial⟩ (by kernel_rfl)
def ctS4(a:Int):zas pr (94,[.ag [.s [83],.b false,kqS],.ag (v1 a::u5)],.i .i64 0):=rE zcx [zfT,zl1,zet,zhy,zmi] ⟨zhq,zuC,zfu,zjW,zuP,trivial⟩ (by kernel_rfl)
def ctS5(a:Int):zas pr (94,[.ag [.s [83],.b false,kqS],.ag (v1 a::u0)],.i .i64 0):=rE zcx [zfT,zl2,zhv,zhy,zmo] ⟨zhq,zuD,ziJ,zjW,zuS,trivial⟩ (by kernel_rfl)
def ctS6(a:Int):zas pr (94,[.ag [.s [83],.b false,kqS],.ag (v1 a::u6)],.i .i64 0):=rE zcx [zfT,zl4,zjl,zmx,zmq] ⟨zhq,zuE,zlk,zuZ,zuU,trivial⟩ (by kernel_rfl)
def ctS7(a:Int):zas pr (94,[.ag [.s [83],.b false,kqS],.ag (v1 a::u7)],.i .i64 0):=rE zcx [zfT,zma,zjm,zmy,zmr] ⟨zhq,zuF,zll,zu0,zuV,trivial⟩ (by kernel_rfl)
def ctK0(a b:Int):zas pr (94,[.ag [.s [75],.b false,kqK],.ag (v2 a b::u1)],.i .i64 0):=rE zcx [zfU,zpG,zlm,zmt,zmb] ⟨zhr,zAn,zoG,zuW,zuJ,trivial⟩ (by kernel_rfl)
def ctK1(a b:Int):zas pr (94,[.ag [.s [75],.b false,kqK],.ag (v2 a b::u2)],.i .i64 0):=rE zcx [zfU,zpH,zjY,zhz,zmc] ⟨zhr,zAo,zlV,zjX,zuK,trivial⟩ (by kernel_rfl)
def ctK2(a b:Int):zas pr (94,[.ag [.s [75],.b false,kqK],.ag (v2 a b::u3)],.i .i64 0):=rE zcx [zfU,zlX,zjZ,zhz,zme] ⟨zhr,zuz,zlW,zjX,zuM,trivial⟩ (by kernel_rfl)
def ctK3(a b:Int):zas pr (94,[.ag [.s [75],.b false,kqK],.ag (v2 a b::u4)],.i .i64 0):=rE zcx [zfU,zlZ,zjk,zmw,zmh] ⟨zhr,zuB,zlh,zuY,zuN,trivial⟩ (by kernel_rfl)
def ctK4(a b:Int):zas pr (94,[.ag [.s [75],.b false,kqK],.ag (v2 a b::u5)],.i .i64 0):=rE zcx [zfU,zl1,zet,zhy,zmi] ⟨zhr,zuC,zfu,zjW,zuP,trivial⟩ (by kernel_rfl)
def ctK5(a b:Int):zas pr (94,[.ag [.s [75],.b false,kqK],.ag (v2 a b::u0)],.i .i64 0):=rE zcx [zfU,zl2,zhv,zhy,zmo] ⟨zhr,zuD,ziJ,zjW,zuS,trivial⟩ (by kernel_rfl)
def ctK6(a b:Int):zas pr (94,[.ag [.s [75],.b false,kqK],.ag (v2 a b::u6)],.i .i64 0):=rE zcx [zfU,zl4,zjl,zmx,zmq] ⟨zhr,zuE,zlk,zuZ,zuU,trivial⟩ (by kernel_rfl)
def ctK7(a b:Int):zas pr (94,[.ag [.s [75],.b false,kqK],.ag (v2 a b::u7)],.i .i64 0):=rE zcx [zfU,zma,zjm,zmy,zmr] ⟨zhr,zuF,zll,zu0,zuV,trivial⟩ (by kernel_rfl)
def ctC0(a b:Int):zas pr (94,[.ag [.s [67],.b true,kqR],.ag (v2 a b::u1)],.i .i64 19):=rE zcx [zfV,zpG,zlm,zmt,zmb] ⟨zhs,zAn,zoG,zuW,zuJ,trivial⟩ (by kernel_rfl)
def ctC1(a b:Int):zas pr (94,[.ag [.s [67],.b true,kqR],.ag (v2 a b::u2)],.i .i64 19):=rE zcx [zfV,zpH,zjY,zhz,zmc] ⟨zhs,zAo,zlV,zjX,zuK,trivial⟩ (by kernel_rfl)
def ctC2(a b:Int):zas pr (94,[.ag [.s [67],.b true,kqR],.ag (v2 a b::u3)],.i .i64 19):=rE zcx [zfV,zlX,zjZ,zhz,zme] ⟨zhs,zuz,zlW,zjX,zuM,trivial⟩ (by kernel_rfl)
def ctC3(a b:Int):zas pr (94,[.ag [.s [67],.b true,kqR],.ag (v2 a b::u4)],.i .i64 19):=rE zcx [zfV,zlZ,zjk,zmw,zmh] ⟨zhs,zuB,zlh,zuY,zuN,trivial⟩ (by kernel_rfl)
def ctC4(a b:Int):zas pr (94,[.ag [.s [67],.b true,kqR],.ag (v2 a b::u5)],.i .i64 0):=rE zcx [zfV,zl1,zet,zhy,zmi] ⟨zhs,zuC,zfu,zjW,zuP,trivial⟩ (by kernel_rfl)
def ctC5(a b:Int):zas pr (94,[.ag [.s [67],.b true,kqR],.ag (v2 a b::u0)],.i .i64 19):=rE zcx [zfV,zl2,zhv,zhy,zmo] ⟨zhs,zuD,ziJ,zjW,zuS,trivial⟩ (by kernel_rfl)
def ctC6(a b:Int):zas pr (94,[.ag [.s [67],.b true,kqR],.ag (v2 a b::u6)],.i .i64 19):=rE zcx [zfV,zl4,zjl,zmx,zmq] ⟨zhs,zuE,zlk,zuZ,zuU,trivial⟩ (by kernel_rfl)
def ctC7(a b:Int):zas pr (94,[.ag [.s [67],.b true,kqR],.ag (v2 a b::u7)],.i .i64 19):=rE zcx [zfV,zma,zjm,zmy,zmr] ⟨zhs,zuF,zll,zu0,zuV,trivial⟩ (by kernel_rfl)
def grR0:Ans pr 115 [.ag [.s [82],.b false,kqR,.nils]] (.nils):=zaF (n:=1000) (zaM pr) (by kernel_rfl)
def grR1(k0 a0:Int)(p00 p01 p02:F):Ans pr 115 [.ag [.s [82],.b false,kqR,.sl 4 [[v2 k0 a0,p00,p01,p02]]]] (.sl 1 [[.sl 1 [[.i .i64 0]]]]):=zaF (n:=1000) (zaM pr) (by kernel_rfl)
def grR2(k0 a0:Int)(p00 p01 p02:F)(k1 a1:Int)(p10 p11 p12:F):Ans pr 115 [.ag [.s [82],.b false,kqR,.sl 4 [[v2 k0 a0,p00,p01,p02],[v2 k1 a1,p10,p11,p12]]]] (.sl 1 [[.sl 1 [[.i .i64 0]]],[.sl 1 [[.i .i64 1]]]]):=zaF (n:=1000) (zaM pr) (by kernel_rfl)
def grR3(k0 a0:Int)(p00 p01 p02:F)(k1 a1:Int)(p10 p11 p12:F)(k2 a2:Int)(p20 p21 p22:F):Ans pr 115 [.ag [.s [82],.b false,kqR,.sl 4 [[v2 k0 a0,p00,p01,p02],[v2 k1 a1,p10,p11,p12],[v2 k2 a2,p20,p21,p22]]]] (.sl 1 [[.sl 1 [[.i .i64 0]]],[.sl 1 [[.i .i64 1]]],[.sl 1 [[.i .i64 2]]]]):=zaF (n:=1000) (zaM pr) (by kernel_rfl)
def grS0:Ans pr 115 [.ag [.s [83],.b false,kqS,.nils]] (.nils):=zaF (n:=1000) (zaM pr) (by kernel_rfl)
def grS1(k0:Int)(p00 p01 p02:F):Ans pr 115 [.ag [.s [83],.b false,kqS,.sl 4 [[v1 k0,p00,p01,p02]]]] (.sl 1 [[.sl 1 [[.i .i64 0]]]]):=zaF (n:=1000) (zaM pr) (by kernel_rfl)
def grS2(k0:Int)(p00 p01 p02:F)(k1:Int)(p10 p11 p12:F):Ans pr 115 [.ag [.s [83],.b false,kqS,.sl 4 [[v1 k0,p00,p01,p02],[v1 k1,p10,p11,p12]]]] (.sl 1 [[.sl 1 [[.i .i64 0]]],[.sl 1 [[.i .i64 1]]]]):=zaF (n:=1000) (zaM pr) (by kernel_rfl)
def grS3(k0:Int)(p00 p01 p02:F)(k1:Int)(p10 p11 p12:F)(k2:Int)(p20 p21 p22:F):Ans pr 115 [.ag [.s [83],.b false,kqS,.sl 4 [[v1 k0,p00,p01,p02],[v1 k1,p10,p11,p12],[v1 k2,p20,p21,p22]]]] (.sl 1 [[.sl 1 [[.i .i64 0]]],[.sl 1 [[.i .i64 1]]],[.sl 1 [[.i .i64 2]]]]):=zaF (n:=1000) (zaM pr) (by kernel_rfl)
def grK0:Ans pr 115 [.ag [.s [75],.b false,kqK,.nils]] (.nils):=zaF (n:=1000) (zaM pr) (by kernel_rfl)
def grK1(k0 a0:Int)(p00 p01 p02:F):Ans pr 115 [.ag [.s [75],.b false,kqK,.sl 4 [[v2 k0 a0,p00,p01,p02]]]] (.sl 1 [[.sl 1 [[.i .i64 0]]]]):=zaF (n:=1000) (zaM pr) (by kernel_rfl)
def zHr(a0:Int)(p00 p01 p02:F)(a1:Int)(p10 p11 p12:F):Ans pr 115 [.ag [.s [75],.b false,kqK,.sl 4 [[v2 1 a0,p00,p01,p02],[v2 1 a1,p10,p11,p12]]]] (.sl 1 [[.sl 1 [[.i .i64 0],[.i .i64 1]]]]):=zaF (n:=1000) (zaM pr) (by kernel_rfl)
def zHu(a0:Int)(p00 p01 p02:F)(a1:Int)(p10 p11 p12:F):Ans pr 115 [.ag [.s [75],.b false,kqK,.sl 4 [[v2 1 a0,p00,p01,p02],[v2 2 a1,p10,p11,p12]]]] (.sl 1 [[.sl 1 [[.i .i64 0]]],[.sl 1 [[.i .i64 1]]]]):=zaF (n:=1000) (zaM pr) (by kernel_rfl)
def zHv(a0:Int)(p00 p01 p02:F)(a1:Int)(p10 p11 p12:F):Ans pr 115 [.ag [.s [75],.b false,kqK,.sl 4 [[v2 1 a0,p00,p01,p02],[v2 3 a1,p10,p11,p12]]]] (.sl 1 [[.sl 1 [[.i .i64 0]]],[.sl 1 [[.i .i64 1]]]]):=zaF (n:=1000) (zaM pr) (by kernel_rfl)
def zHw(a0:Int)(p00 p01 p02:F)(a1:Int)(p10 p11 p12:F):Ans pr 115 [.ag [.s [75],.b false,kqK,.sl 4 [[v2 2 a0,p00,p01,p02],[v2 1 a1,p10,p11,p12]]]] (.sl 1 [[.sl 1 [[.i .i64 1]]],[.sl 1 [[.i .i64 0]]]]):=zaF (n:=1000) (zaM pr) (by kernel_rfl)
def zHz(a0:Int)(p00 p01 p02:F)(a1:Int)(p10 p11 p12:F):Ans pr 115 [.ag [.s [75],.b false,kqK,.sl 4 [[v2 2 a0,p00,p01,p02],[v2 2 a1,p10,p11,p12]]]] (.sl 1 [[.sl 1 [[.i .i64 0],[.i .i64 1]]]]):=zaF (n:=1000) (zaM pr) (by kernel_rfl)
def zHA(a0:Int)(p00 p01 p02:F)(a1:Int)(p10 p11 p12:F):Ans pr 115 [.ag [.s [75],.b false,kqK,.sl 4 [[v2 2 a0,p00,p01,p02],[v2 3 a1,p10,p11,p12]]]] (.sl 1 [[.sl 1 [[.i .i64 0]]],[.sl 1 [[.i .i64 1]]]]):=zaF (n:=1000) (zaM pr) (by kernel_rfl)
def zHD(a0:Int)(p00 p01 p02:F)(a1:Int)(p10 p11 p12:F):Ans pr 115 [.ag [.s [75],.b false,kqK,.sl 4 [[v2 3 a0,p00,p01,p02],[v2 1 a1,p10,p11,p12]]]] (.sl 1 [[.sl 1 [[.i .i64 1]]],[.sl 1 [[.i .i64 0]]]]):=zaF (n:=1000) (zaM pr) (by kernel_rfl)
def zHH(a0:Int)(p00 p01 p02:F)(a1:Int)(p10 p11 p12:F):Ans pr 115 [.ag [.s [75],.b false,kqK,.sl 4 [[v2 3 a0,p00,p01,p02],[v2 2 a1,p10,p11,p12]]]] (.sl 1 [[.sl 1 [[.i .i64 1]]],[.sl 1 [[.i .i64 0]]]]):=zaF (n:=1000) (zaM pr) (by kernel_rfl)
def zHI(a0:Int)(p00 p01 p02:F)(a1:Int)(p10 p11 p12:F):Ans pr 115 [.ag [.s [75],.b false,kqK,.sl 4 [[v2 3 a0,p00,p01,p02],[v2 3 a1,p10,p11,p12]]]] (.sl 1 [[.sl 1 [[.i .i64 0],[.i .i64 1]]]]):=zaF (n:=1000) (zaM pr) (by kernel_rfl)
def zBH(a0:Int)(p00 p01 p02:F)(a1:Int)(p10 p11 p12:F)(a2:Int)(p20 p21 p22:F):Ans pr 115 [.ag [.s [75],.b false,kqK,.sl 4 [[v2 1 a0,p00,p01,p02],[v2 1 a1,p10,p11,p12],[v2 1 a2,p20,p21,p22]]]] (.sl 1 [[.sl 1 [[.i .i64 0],[.i .i64 1],[.i .i64 2]]]]):=zaF (n:=1000) (zaM pr) (by kernel_rfl)
def zBI(a0:Int)(p00 p01 p02:F)(a1:Int)(p10 p11 p12:F)(a2:Int)(p20 p21 p22:F):Ans pr 115 [.ag [.s [75],.b false,kqK,.sl 4 [[v2 1 a0,p00,p01,p02],[v2 1 a1,p10,p11,p12],[v2 2 a2,p20,p21,p22]]]] (.sl 1 [[.sl 1 [[.i .i64 0],[.i .i64 1]]],[.sl 1 [[.i .i64 2]]]]):=zaF (n:=1000) (zaM pr) (by kernel_rfl)
def zBJ(a0:Int)(p00 p01 p02:F)(a1:Int)(p10 p11 p12:F)(a2:Int)(p20 p21 p22:F):Ans pr 115 [.ag [.s [75],.b false,kqK,.sl 4 [[v2 1 a0,p00,p01,p02],[v2 1 a1,p10,p11,p12],[v2 3 a2,p20,p21,p22]]]] (.sl 1 [[.sl 1 [[.i .i64 0],[.i .i64 1]]],[.sl 1 [[.i .i64 2]]]]):=zaF (n:=1000) (zaM pr) (by kernel_rfl)
def zBK(a0:Int)(p00 p01 p02:F)(a1:Int)(p10 p11 p12:F)(a2:Int)(p20 p21 p22:F):Ans pr 115 [.ag [.s [75],.b false,kqK,.sl 4 [[v2 1 a0,p00,p01,p02],[v2 2 a1,p10,p11,p12],[v2 1 a2,p20,p21,p22]]]] (.sl 1 [[.sl 1 [[.i .i64 0],[.i .i64 2]]],[.sl 1 [[.i .i64 1]]]]):=zaF (n:=1000) (zaM pr) (by kernel_rfl)
def zBL(a0:Int)(p00 p01 p02:F)(a1:Int)(p10 p11 p12:F)(a2:Int)(p20 p21 p22:F):Ans pr 115 [.ag [.s [75],.b false,kqK,.sl 4 [[v2 1 a0,p00,p01,p02],[v2 2 a1,p10,p11,p12],[v2 2 a2,p20,p21,p22]]]] (.sl 1 [[.sl 1 [[.i .i64 0]]],[.sl 1 [[.i .i64 1],[.i .i64 2]]]]):=zaF (n:=1000) (zaM pr) (by kernel_rfl)
def zBM(a0:Int)(p00 p01 p02:F)(a1:Int)(p10 p11 p12:F)(a2:Int)(p20 p21 p22:F):Ans pr 115 [.ag [.s [75],.b false,kqK,.sl 4 [[v2 1 a0,p00,p01,p02],[v2 2 a1,p10,p11,p12],[v2 3 a2,p20,p21,p22]]]] (.sl 1 [[.sl 1 [[.i .i64 0]]],[.sl 1 [[.i .i64 1]]],[.sl 1 [[.i .i64 2]]]]):=zaF (n:=1000) (zaM pr) (by kernel_rfl)
def zBN(a0:Int)(p00 p01 p02:F)(a1:Int)(p10 p11 p12:F)(a2:Int)(p20 p21 p22:F):Ans pr 115 [.ag [.s [75],.b false,kqK,.sl 4 [[v2 1 a0,p00,p01,p02],[v2 3 a1,p10,p11,p12],[v2 1 a2,p20,p21,p22]]]] (.sl 1 [[.sl 1 [[.i .i64 0],[.i .i64 2]]],[.sl 1 [[.i .i64 1]]]]):=zaF (n:=1000) (zaM pr) (by kernel_rfl)
def zBO(a0:Int)(p00 p01 p02:F)(a1:Int)(p10 p11 p12:F)(a2:Int)(p20 p21 p22:F):Ans pr 115 [.ag [.s [75],.b false,kqK,.sl 4 [[v2 1 a0,p00,p01,p02],[v2 3 a1,p10,p11,p12],[v2 2 a2,p20,p21,p22]]]] (.sl 1 [[.sl 1 [[.i .i64 0]]],[.sl 1 [[.i .i64 2]]],[.sl 1 [[.i .i64 1]]]]):=zaF (n:=1000) (zaM pr) (by kernel_rfl)
def zBQ(a0:Int)(p00 p01 p02:F)(a1:Int)(p10 p11 p12:F)(a2:Int)(p20 p21 p22:F):Ans pr 115 [.ag [.s [75],.b false,kqK,.sl 4 [[v2 1 a0,p00,p01,p02],[v2 3 a1,p10,p11,p12],[v2 3 a2,p20,p21,p22]]]] (.sl 1 [[.sl 1 [[.i .i64 0]]],[.sl 1 [[.i .i64 1],[.i .i64 2]]]]):=zaF (n:=1000) (zaM pr) (by kernel_rfl)
def zBR(a0:Int)(p00 p01 p02:F)(a1:Int)(p10 p11 p12:F)(a2:Int)(p20 p21 p22:F):Ans pr 115 [.ag [.s [75],.b false,kqK,.sl 4 [[v2 2 a0,p00,p01,p02],[v2 1 a1,p10,p11,p12],[v2 1 a2,p20,p21,p22]]]] (.sl 1 [[.sl 1 [[.i .i64 1],[.i .i64 2]]],[.sl 1 [[.i .i64 0]]]]):=zaF (n:=1000) (zaM pr) (by kernel_rfl)
def zBS(a0:Int)(p00 p01 p02:F)(a1:Int)(p10 p11 p12:F)(a2:Int)(p20 p21 p22:F):Ans pr 115 [.ag [.s [75],.b false,kqK,.sl 4 [[v2 2 a0,p00,p01,p02],[v2 1 a1,p10,p11,p12],[v2 2 a2,p20,p21,p22]]]] (.sl 1 [[.sl 1 [[.i .i64 1]]],[.sl 1 [[.i .i64 0],[.i .i64 2]]]]):=zaF (n:=1000) (zaM pr) (by kernel_rfl)
def zBX(a0:Int)(p00 p01 p02:F)(a1:Int)(p10 p11 p12:F)(a2:Int)(p20 p21 p22:F):Ans pr 115 [.ag [.s [75],.b false,kqK,.sl 4 [[v2 2 a0,p00,p01,p02],[v2 1 a1,p10,p11,p12],[v2 3 a2,p20,p21,p22]]]] (.sl 1 [[.sl 1 [[.i .i64 1]]],[.sl 1 [[.i .i64 0]]],[.sl 1 [[.i .i64 2]]]]):=zaF (n:=1000) (zaM pr) (by kernel_rfl)
def zBZ(a0:Int)(p00 p01 p02:F)(a1:Int)(p10 p11 p12:F)(a2:Int)(p20 p21 p22:F):Ans pr 115 [.ag [.s [75],.b false,kqK,.sl 4 [[v2 2 a0,p00,p01,p02],[v2 2 a1,p10,p11,p12],[v2 1 a2,p20,p21,p22]]]] (.sl 1 [[.sl 1 [[.i .i64 2]]],[.sl 1 [[.i .i64 0],[.i .i64 1]]]]):=zaF (n:=1000) (zaM pr) (by kernel_rfl)
def zB0(a0:Int)(p00 p01 p02:F)(a1:Int)(p10 p11 p12:F)(a2:Int)(p20 p21 p22:F):Ans pr 115 [.ag [.s [75],.b false,kqK,.sl 4 [[v2 2 a0,p00,p01,p02],[v2 2 a1,p10,p11,p12],[v2 2 a2,p20,p21,p22]]]] (.sl 1 [[.sl 1 [[.i .i64 0],[.i .i64 1],[.i .i64 2]]]]):=zaF (n:=1000) (zaM pr) (by kernel_rfl)
def zB1(a0:Int)(p00 p01 p02:F)(a1:Int)(p10 p11 p12:F)(a2:Int)(p20 p21 p22:F):Ans pr 115 [.ag [.s [75],.b false,kqK,.sl 4 [[v2 2 a0,p00,p01,p02],[v2 2 a1,p10,p11,p12],[v2 3 a2,p20,p21,p22]]]] (.sl 1 [[.sl 1 [[.i .i64 0],[.i .i64 1]]],[.sl 1 [[.i .i64 2]]]]):=zaF (n:=1000) (zaM pr) (by kernel_rfl)
def zB2(a0:Int)(p00 p01 p02:F)(a1:Int)(p10 p11 p12:F)(a2:Int)(p20 p21 p22:F):Ans pr 115 [.ag [.s [75],.b false,kqK,.sl 4 [[v2 2 a0,p00,p01,p02],[v2 3 a1,p10,p11,p12],[v2 1 a2,p20,p21,p22]]]] (.sl 1 [[.sl 1 [[.i .i64 2]]],[.sl 1 [[.i .i64 0]]],[.sl 1 [[.i .i64 1]]]]):=zaF (n:=1000) (zaM pr) (by kernel_rfl)
def zB3(a0:Int)(p00 p01 p02:F)(a1:Int)(p10 p11 p12:F)(a2:Int)(p20 p21 p22:F):Ans pr 115 [.ag [.s [75],.b false,kqK,.sl 4 [[v2 2 a0,p00,p01,p02],[v2 3 a1,p10,p11,p12],[v2 2 a2,p20,p21,p22]]]] (.sl 1 [[.sl 1 [[.i .i64 0],[.i .i64 2]]],[.sl 1 [[.i .i64 1]]]]):=zaF (n:=1000) (zaM pr) (by kernel_rfl)
def zB4(a0:Int)(p00 p01 p02:F)(a1:Int)(p10 p11 p12:F)(a2:Int)(p20 p21 p22:F):Ans pr 115 [.ag [.s [75],.b false,kqK,.sl 4 [[v2 2 a0,p00,p01,p02],[v2 3 a1,p10,p11,p12],[v2 3 a2,p20,p21,p22]]]] (.sl 1 [[.sl 1 [[.i .i64 0]]],[.sl 1 [[.i .i64 1],[.i .i64 2]]]]):=zaF (n:=1000) (zaM pr) (by kernel_rfl)
def zB5(a0:Int)(p00 p01 p02:F)(a1:Int)(p10 p11 p12:F)(a2:Int)(p20 p21 p22:F):Ans pr 115 [.ag [.s [75],.b false,kqK,.sl 4 [[v2 3 a0,p00,p01,p02],[v2 1 a1,p10,p11,p12],[v2 1 a2,p20,p21,p22]]]] (.sl 1 [[.sl 1 [[.i .i64 1],[.i .i64 2]]],[.sl 1 [[.i .i64 0]]]]):=zaF (n:=1000) (zaM pr) (by kernel_rfl)
def zB6(a0:Int)(p00 p01 p02:F)(a1:Int)(p10 p11 p12:F)(a2:Int)(p20 p21 p22:F):Ans pr 115 [.ag [.s [75],.b false,kqK,.sl 4 [[v2 3 a0,p00,p01,p02],[v2 1 a1,p10,p11,p12],[v2 2 a2,p20,p21,p22]]]] (.sl 1 [[.sl 1 [[.i .i64 1]]],[.sl 1 [[.i .i64 2]]],[.sl 1 [[.i .i64 0]]]]):=zaF (n:=1000) (zaM pr) (by kernel_rfl)
def zB7(a0:Int)(p00 p01 p02:F)(a1:Int)(p10 p11 p12:F)(a2:Int)(p20 p21 p22:F):Ans pr 115 [.ag [.s [75],.b false,kqK,.sl 4 [[v2 3 a0,p00,p01,p02],[v2 1 a1,p10,p11,p12],[v2 3 a2,p20,p21,p22]]]] (.sl 1 [[.sl 1 [[.i .i64 1]]],[.sl 1 [[.i .i64 0],[.i .i64 2]]]]):=zaF (n:=1000) (zaM pr) (by kernel_rfl)
def zB8(a0:Int)(p00 p01 p02:F)(a1:Int)(p10 p11 p12:F)(a2:Int)(p20 p21 p22:F):Ans pr 115 [.ag [.s [75],.b false,kqK,.sl 4 [[v2 3 a0,p00,p01,p02],[v2 2 a1,p10,p11,p12],[v2 1 a2,p20,p21,p22]]]] (.sl 1 [[.sl 1 [[.i .i64 2]]],[.sl 1 [[.i .i64 1]]],[.sl 1 [[.i .i64 0]]]]):=zaF (n:=1000) (zaM pr) (by kernel_rfl)
def zCd(a0:Int)(p00 p01 p02:F)(a1:Int)(p10 p11 p12:F)(a2:Int)(p20 p21 p22:F):Ans pr 115 [.ag [.s [75],.b false,kqK,.sl 4 [[v2 3 a0,p00,p01,p02],[v2 2 a1,p10,p11,p12],[v2 2 a2,p20,p21,p22]]]] (.sl 1 [[.sl 1 [[.i .i64 1],[.i .i64 2]]],[.sl 1 [[.i .i64 0]]]]):=zaF (n:=1000) (zaM pr) (by kernel_rfl)
def zCe(a0:Int)(p00 p01 p02:F)(a1:Int)(p10 p11 p12:F)(a2:Int)(p20 p21 p22:F):Ans pr 115 [.ag [.s [75],.b false,kqK,.sl 4 [[v2 3 a0,p00,p01,p02],[v2 2 a1,p10,p11,p12],[v2 3 a2,p20,p21,p22]]]] (.sl 1 [[.sl 1 [[.i .i64 1]]],[.sl 1 [[.i .i64 0],[.i .i64 2]]]]):=zaF (n:=1000) (zaM pr) (by kernel_rfl)
def zCf(a0:Int)(p00 p01 p02:F)(a1:Int)(p10 p11 p12:F)(a2:Int)(p20 p21 p22:F):Ans pr 115 [.ag [.s [75],.b false,kqK,.sl 4 [[v2 3 a0,p00,p01,p02],[v2 3 a1,p10,p11,p12],[v2 1 a2,p20,p21,p22]]]] (.sl 1 [[.sl 1 [[.i .i64 2]]],[.sl 1 [[.i .i64 0],[.i .i64 1]]]]):=zaF (n:=1000) (zaM pr) (by kernel_rfl)
def zCh(a0:Int)(p00 p01 p02:F)(a1:Int)(p10 p11 p12:F)(a2:Int)(p20 p21 p22:F):Ans pr 115 [.ag [.s [75],.b false,kqK,.sl 4 [[v2 3 a0,p00,p01,p02],[v2 3 a1,p10,p11,p12],[v2 2 a2,p20,p21,p22]]]] (.sl 1 [[.sl 1 [[.i .i64 2]]],[.sl 1 [[.i .i64 0],[.i .i64 1]]]]):=zaF (n:=1000) (zaM pr) (by kernel_rfl)
def zCj(a0:Int)(p00 p01 p02:F)(a1:Int)(p10 p11 p12:F)(a2:Int)(p20 p21 p22:F):Ans pr 115 [.ag [.s [75],.b false,kqK,.sl 4 [[v2 3 a0,p00,p01,p02],[v2 3 a1,p10,p11,p12],[v2 3 a2,p20,p21,p22]]]] (.sl 1 [[.sl 1 [[.i .i64 0],[.i .i64 1],[.i .i64 2]]]]):=zaF (n:=1000) (zaM pr) (by kernel_rfl)
def grC(x:F):Ans pr 115 [.ag [.s [67],.b true,kqR,x]] (.nils):=zaF (n:=1000) (zaM pr) (by kernel_rfl)
end Go.Proofs.YtkcnnkncapiohaaGreatDoor
end
