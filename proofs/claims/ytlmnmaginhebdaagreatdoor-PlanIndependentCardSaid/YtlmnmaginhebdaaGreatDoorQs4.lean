/- Closed runs. Written by program. -/
import Derived.Test.YtlmnmaginhebdaaGreatDoorQsE
import Derived.Test.YtlmnmaginhebdaaGreatDoorQs0
import Derived.Test.YtlmnmaginhebdaaGreatDoorQs1
import Derived.Test.YtlmnmaginhebdaaGreatDoorQs2
import Derived.KernelRfl
set_option linter.all false
section
namespace Go.Proofs.YtlmnmaginhebdaaGreatDoor
open Go.Vse
open Go (BinOp IntKind UnOp)
set_option maxRecDepth 100000
theorem zMT:zab pr zxJ:=rE zaj [] trivial (by kernel_rfl)
theorem Qs755:zab pr z8W:=rE zah [zaW,zbn,zf4,zb2,zxq,zxJ] ⟨zbf,zcx,ziu,zcX,zMA,zMT,trivial⟩ (by kernel_rfl)
theorem zMV:zab pr zxK:=rE zaj [] trivial (by kernel_rfl)
theorem zMW:zab pr zxM:=rE zci [zxK] ⟨zMV,trivial⟩ (by kernel_rfl)
theorem Qs768:zab pr z8Y:=rE zew [zaW,zbv,zf4,zb2,zxM] ⟨zbf,zcG,ziu,zcX,zMW,trivial⟩ (by kernel_rfl)
theorem zMZ:zab pr zxN:=rE zaj [] trivial (by kernel_rfl)
theorem Qs783:zab pr z88:=rE zah [zaW,zbz,zf4,zb2,zxN] ⟨zbf,zcH,ziu,zcX,zMZ,trivial⟩ (by kernel_rfl)
theorem zv1:zab pr zpi:=rE zaj [] trivial (by kernel_rfl)
theorem Qs790:zab pr z9b:=rE zah [zaW,zao,zf4,zb2,zeM,zpi] ⟨zbf,zaw,ziu,zcX,zfS,zv1,trivial⟩ (by kernel_rfl)
theorem Qs792:zab pr z9c:=rE zah [zaW,zbl,zf4,zb2] ⟨zbf,zcw,ziu,zcX,trivial⟩ (by kernel_rfl)
theorem zv2:zab pr zpk:=rE zaj [] trivial (by kernel_rfl)
theorem zv3:zab pr zpm:=rE zaj [] trivial (by kernel_rfl)
theorem zj6:zab pr zhz:=rE zaj [] trivial (by kernel_rfl)
theorem Qs802:zab pr z9d:=rE zah [zaW,zbN,zf4,zb2,zpk,zpm,zhz] ⟨zbf,zcL,ziu,zcX,zv2,zv3,zj6,trivial⟩ (by kernel_rfl)
theorem zv5:zab pr zpp:=rE zaj [] trivial (by kernel_rfl)
theorem zma:zab pr zju:=rE zaj [] trivial (by kernel_rfl)
theorem zj8:zab pr zhA:=rE zaj [] trivial (by kernel_rfl)
theorem Qs812:zab pr z9h:=rE zah [zaW,za8,zf4,zb2,zpp,zju,zhA] ⟨zbf,zbD,ziu,zcX,zv5,zma,zj8,trivial⟩ (by kernel_rfl)
theorem Qs814:zab pr z9i:=rE zah [zaO,zbt,zbu,zbh,za5,zf5,zoW] ⟨za3,zcJ,zcF,zcj,zbr,ziw,zvI,trivial⟩ (by kernel_rfl)
end Go.Proofs.YtlmnmaginhebdaaGreatDoor
end
section
namespace Go.Proofs.YtlmnmaginhebdaaGreatDoor
open Go.Vse
open Go (BinOp IntKind UnOp)
set_option maxRecDepth 100000
theorem Qs821:zab pr z9k:=rE zah [zaO,zbt,zbn,zoU,zf5] ⟨za3,zcJ,zcx,zvG,ziw,trivial⟩ (by kernel_rfl)
theorem zM0:zab pr zxO:=rE zci [zw2,zxe] ⟨zK1,zMu,trivial⟩ (by kernel_rfl)
theorem Qs825:zab pr z9m:=rE zew [zaO,zbt,zbv,zf5,zxO] ⟨za3,zcJ,zcG,ziw,zM0,trivial⟩ (by kernel_rfl)
theorem Qs827:zab pr z9n:=rE zah [zaO,zbt,zbz,zb2,zf5,zeM,zpi] ⟨za3,zcJ,zcH,zcX,ziw,zfS,zv1,trivial⟩ (by kernel_rfl)
theorem zCt:zab pr zsA:=rE zaj [] trivial (by kernel_rfl)
theorem Qs830:zab pr z9p:=rE zah [zaO,zbt,zaW,zao,zf5,zsA] ⟨za3,zcJ,zbf,zaw,ziw,zCt,trivial⟩ (by kernel_rfl)
theorem Qs832:zab pr z9q:=rE zah [zaO,zbt,zbl,zf5] ⟨za3,zcJ,zcw,ziw,trivial⟩ (by kernel_rfl)
theorem zv9:zab pr zpq:=rE zaj [] trivial (by kernel_rfl)
theorem zqc:zab pr zlm:=rE zaj [] trivial (by kernel_rfl)
theorem Qs839:zab pr z9r:=rE zah [zaO,zbt,zbN,zf5,za9,zpq,zlm] ⟨za3,zcJ,zcL,ziw,zbY,zv9,zqc,trivial⟩ (by kernel_rfl)
theorem zwa:zab pr zpr:=rE zaj [] trivial (by kernel_rfl)
theorem zn4:zab pr zkw:=rE zaj [] trivial (by kernel_rfl)
theorem Qs846:zab pr z9s:=rE zah [zaO,zbt,za8,zf5,zbi,zpr,zkw] ⟨za3,zcJ,zbD,ziw,zcm,zwa,zn4,trivial⟩ (by kernel_rfl)
theorem Qs851:zab pr z9u:=rE zah [zbu,zcz,zf6,za9,zoX,znG,zhv] ⟨zcF,zdr,zix,zbY,zvJ,zsp,zjZ,trivial⟩ (by kernel_rfl)
theorem zM1:zab pr zxP:=rE zaj [] trivial (by kernel_rfl)
theorem zM3:zab pr zxR:=rE zaj [] trivial (by kernel_rfl)
theorem Qs865:zab pr z9v:=rE zah [zbn,zcz,zf6,za9,zxP,zxR] ⟨zcx,zdr,zix,zbY,zM1,zM3,trivial⟩ (by kernel_rfl)
theorem zM5:zab pr zxT:=rE zaj [] trivial (by kernel_rfl)
theorem zM6:zab pr zxW:=rE zci [zxK,zxT] ⟨zMV,zM5,trivial⟩ (by kernel_rfl)
theorem Qs873:zab pr z9w:=rE zew [zbv,zcz,zf6,za9,zxW] ⟨zcG,zdr,zix,zbY,zM6,trivial⟩ (by kernel_rfl)
theorem Qs876:zab pr z9x:=rE zah [zbz,zcz,zf6,za9,zpk,zpm,zhz] ⟨zcH,zdr,zix,zbY,zv2,zv3,zj6,trivial⟩ (by kernel_rfl)
theorem Qs879:zab pr z9A:=rE zah [zao,zcz,zf6,za9,zpq,zlm] ⟨zaw,zdr,zix,zbY,zv9,zqc,trivial⟩ (by kernel_rfl)
theorem Qs882:zab pr z9B:=rE zah [zbl,zcz,zf6,za9] ⟨zcw,zdr,zix,zbY,trivial⟩ (by kernel_rfl)
theorem zM8:zab pr zxZ:=rE zaj [] trivial (by kernel_rfl)
theorem Qs903:zab pr z9C:=rE zah [zbN,zcz,zf6,za9,zxZ] ⟨zcL,zdr,zix,zbY,zM8,trivial⟩ (by kernel_rfl)
theorem zwc:zab pr zpu:=rE zaj [] trivial (by kernel_rfl)
end Go.Proofs.YtlmnmaginhebdaaGreatDoor
end
