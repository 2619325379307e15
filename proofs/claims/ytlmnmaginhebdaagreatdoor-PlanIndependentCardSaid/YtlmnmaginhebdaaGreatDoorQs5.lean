/- Closed runs. Written by program. -/
import Derived.Test.YtlmnmaginhebdaaGreatDoorQsE
import Derived.Test.YtlmnmaginhebdaaGreatDoorQs0
import Derived.Test.YtlmnmaginhebdaaGreatDoorQs1
import Derived.Test.YtlmnmaginhebdaaGreatDoorQs2
import Derived.Test.YtlmnmaginhebdaaGreatDoorQs3
import Derived.Test.YtlmnmaginhebdaaGreatDoorQs4
import Derived.KernelRfl
set_option linter.all false
section
namespace Go.Proofs.YtlmnmaginhebdaaGreatDoor
open Go.Vse
open Go (BinOp IntKind UnOp)
set_option maxRecDepth 100000
theorem zwd:zab pr zpv:=rE zaj [] trivial (by kernel_rfl)
theorem zj9:zab pr zhB:=rE zaj [] trivial (by kernel_rfl)
theorem Qs918:zab pr z9D:=rE zah [za8,zcz,zf6,za9,zpu,zpv,zhB] ⟨zbD,zdr,zix,zbY,zwc,zwd,zj9,trivial⟩ (by kernel_rfl)
theorem Qs923:zab pr z9F:=rE zah [zbu,zcy,zf8,zbi,zo1,zo2,zhy] ⟨zcF,zdq,ziy,zcm,zvK,zvL,zj2,trivial⟩ (by kernel_rfl)
theorem zNa:zab pr zx0:=rE zaj [] trivial (by kernel_rfl)
theorem Qs935:zab pr z9G:=rE zah [zbn,zcy,zf8,zbi,zx0] ⟨zcx,zdq,ziy,zcm,zNa,trivial⟩ (by kernel_rfl)
theorem zNc:zab pr zx1:=rE zci [zxT] ⟨zM5,trivial⟩ (by kernel_rfl)
theorem Qs946:zab pr z9H:=rE zew [zbv,zcy,zf8,zbi,zx1] ⟨zcG,zdq,ziy,zcm,zNc,trivial⟩ (by kernel_rfl)
theorem Qs949:zab pr z9I:=rE zah [zbz,zcy,zf8,zbi,zpp,zju,zhA] ⟨zcH,zdq,ziy,zcm,zv5,zma,zj8,trivial⟩ (by kernel_rfl)
theorem Qs952:zab pr z9L:=rE zah [zao,zcy,zf8,zbi,zpr,zkw] ⟨zaw,zdq,ziy,zcm,zwa,zn4,trivial⟩ (by kernel_rfl)
theorem Qs955:zab pr z9M:=rE zah [zbl,zcy,zf8,zbi] ⟨zcw,zdq,ziy,zcm,trivial⟩ (by kernel_rfl)
theorem Qs959:zab pr z9N:=rE zah [zbN,zcy,zf8,zbi,zpu,zpv,zhB] ⟨zcL,zdq,ziy,zcm,zwc,zwd,zj9,trivial⟩ (by kernel_rfl)
theorem zNd:zab pr zx2:=rE zaj [] trivial (by kernel_rfl)
theorem Qs973:zab pr z9R:=rE zah [za8,zcy,zf8,zbi,zx2] ⟨zbD,zdq,ziy,zcm,zNd,trivial⟩ (by kernel_rfl)
theorem Qs976:zab pr z9T:=rE zew [zbu,za5,zb2,zga,zxt] ⟨zcF,zbr,zcX,ziz,zMB,trivial⟩ (by kernel_rfl)
theorem Qs978:zab pr z9V:=rE zew [zbn,za5,zb2,zga,zxM] ⟨zcx,zbr,zcX,ziz,zMW,trivial⟩ (by kernel_rfl)
theorem Qs984:zab pr z9X:=rE zah [zbv,za5,zb2,zga,zxJ,zxP] ⟨zcG,zbr,zcX,ziz,zMT,zM1,trivial⟩ (by kernel_rfl)
theorem Qs993:zab pr z9Y:=rE zah [zbz,za5,zb2,zga,zxN] ⟨zcH,zbr,zcX,ziz,zMZ,trivial⟩ (by kernel_rfl)
theorem zwe:zab pr zpx:=rE zaj [] trivial (by kernel_rfl)
theorem Qs999:zab pr z9Z:=rE zah [zao,za5,zb2,zga,zgt,zpx] ⟨zaw,zbr,zcX,ziz,ziQ,zwe,trivial⟩ (by kernel_rfl)
theorem zYc:zab pr zQK:=rE zah [zbl,za5,zb2,zga] ⟨zcw,zbr,zcX,ziz,trivial⟩ (by kernel_rfl)
theorem zrP:zab pr zmF:=rE zaj [] trivial (by kernel_rfl)
end Go.Proofs.YtlmnmaginhebdaaGreatDoor
end
section
namespace Go.Proofs.YtlmnmaginhebdaaGreatDoor
open Go.Vse
open Go (BinOp IntKind UnOp)
set_option maxRecDepth 100000
theorem zrQ:zab pr zmG:=rE zaj [] trivial (by kernel_rfl)
theorem zYe:zab pr zQL:=rE zah [zbN,za5,zb2,zga,zhz,zmF,zmG] ⟨zcL,zbr,zcX,ziz,zj6,zrP,zrQ,trivial⟩ (by kernel_rfl)
theorem zrR:zab pr zmJ:=rE zaj [] trivial (by kernel_rfl)
theorem zrS:zab pr zmM:=rE zaj [] trivial (by kernel_rfl)
theorem zYf:zab pr zQN:=rE zah [za8,za5,zb2,zga,zhA,zmJ,zmM] ⟨zbD,zbr,zcX,ziz,zj8,zrR,zrS,trivial⟩ (by kernel_rfl)
theorem zYg:zab pr zQO:=rE zah [zaO,zaN,zbu,zbh,zgb,zo3,ze2] ⟨za3,za2,zcF,zcj,ziB,zvM,zgD,trivial⟩ (by kernel_rfl)
theorem zYi:zab pr zQP:=rE zew [zaO,zaN,zbn,zgb,zxO] ⟨za3,za2,zcx,ziB,zM0,trivial⟩ (by kernel_rfl)
theorem zYm:zab pr zQS:=rE zah [zaO,zaN,zbv,zoU,zgb,zxb] ⟨za3,za2,zcG,zvG,ziB,zMs,trivial⟩ (by kernel_rfl)
theorem zYo:zab pr zQV:=rE zah [zaO,zaN,zbz,zb2,zgb,zgt,zpx] ⟨za3,za2,zcH,zcX,ziB,ziQ,zwe,trivial⟩ (by kernel_rfl)
theorem zwP:zab pr zqd:=rE zaj [] trivial (by kernel_rfl)
theorem zYp:zab pr zQX:=rE zah [zaO,zaN,zao,zgb,zcC,zqd] ⟨za3,za2,zaw,ziB,zdv,zwP,trivial⟩ (by kernel_rfl)
theorem zYq:zab pr zQZ:=rE zah [zaO,zaN,zbl,zgb] ⟨za3,za2,zcw,ziB,trivial⟩ (by kernel_rfl)
theorem zrT:zab pr zmR:=rE zaj [] trivial (by kernel_rfl)
theorem zrU:zab pr zmS:=rE zaj [] trivial (by kernel_rfl)
theorem zYr:zab pr zQ0:=rE zah [zaO,zaN,zbN,za9,zgb,zmR,zmS] ⟨za3,za2,zcL,zbY,ziB,zrT,zrU,trivial⟩ (by kernel_rfl)
theorem zrV:zab pr zmV:=rE zaj [] trivial (by kernel_rfl)
theorem zrW:zab pr zmX:=rE zaj [] trivial (by kernel_rfl)
theorem zYt:zab pr zQ1:=rE zah [zaO,zaN,za8,zbi,zgb,zmV,zmX] ⟨za3,za2,zbD,zcm,ziB,zrV,zrW,trivial⟩ (by kernel_rfl)
theorem zYu:zab pr zQ3:=rE zah [zbu,za9,zgc,zeM,zhv,zo4,zo5] ⟨zcF,zbY,ziC,zfS,zjZ,zvN,zvO,trivial⟩ (by kernel_rfl)
theorem zYw:zab pr zQ5:=rE zew [zbn,za9,zgc,zeM,zxW] ⟨zcx,zbY,ziC,zfS,zM6,trivial⟩ (by kernel_rfl)
theorem zYy:zab pr zQ6:=rE zah [zbv,za9,zgc,zeM,zxR] ⟨zcG,zbY,ziC,zfS,zM3,trivial⟩ (by kernel_rfl)
theorem zYC:zab pr zQ7:=rE zah [zbz,za9,zgc,zeM,zhz,zmF,zmG] ⟨zcH,zbY,ziC,zfS,zj6,zrP,zrQ,trivial⟩ (by kernel_rfl)
theorem zYF:zab pr zQ8:=rE zah [zao,za9,zgc,zeM,zmR,zmS] ⟨zaw,zbY,ziC,zfS,zrT,zrU,trivial⟩ (by kernel_rfl)
theorem zYG:zab pr zQ9:=rE zah [zbl,za9,zgc,zeM] ⟨zcw,zbY,ziC,zfS,trivial⟩ (by kernel_rfl)
theorem zYH:zab pr zRc:=rE zah [zbN,za9,zgc,zeM,zxZ] ⟨zcL,zbY,ziC,zfS,zM8,trivial⟩ (by kernel_rfl)
theorem zrY:zab pr zmY:=rE zaj [] trivial (by kernel_rfl)
theorem zrZ:zab pr zm1:=rE zaj [] trivial (by kernel_rfl)
theorem zYI:zab pr zRd:=rE zah [za8,za9,zgc,zeM,zhB,zmY,zm1] ⟨zbD,zbY,ziC,zfS,zj9,zrY,zrZ,trivial⟩ (by kernel_rfl)
theorem zYJ:zab pr zRm:=rE zah [zbu,zbi,zgd,zcA,zhy,zo6,zo8] ⟨zcF,zcm,ziD,zdu,zj2,zvQ,zvR,trivial⟩ (by kernel_rfl)
theorem zYK:zab pr zRn:=rE zew [zbn,zbi,zgd,zcA,zx1] ⟨zcx,zcm,ziD,zdu,zNc,trivial⟩ (by kernel_rfl)
end Go.Proofs.YtlmnmaginhebdaaGreatDoor
end
