/- Closed runs. Written by program. -/
import Derived.Test.YtlmnmaginhebdaaGreatDoorQsE
import Derived.Test.YtlmnmaginhebdaaGreatDoorQs0
import Derived.KernelRfl
set_option linter.all false
section
namespace Go.Proofs.YtlmnmaginhebdaaGreatDoor
open Go.Vse
open Go (BinOp IntKind UnOp)
set_option maxRecDepth 100000
theorem zLk:zab pr z5Y:=rE zah [zbn,za8,zcy,zf8,zbi] ⟨zcx,zbD,zdq,ziy,zcm,trivial⟩ (by kernel_rfl)
theorem zLo:zab pr z5Z:=rE zah [zaW,zbu,zbv,zbh,zfW] ⟨zbf,zcF,zcG,zcj,zin,trivial⟩ (by kernel_rfl)
theorem zLp:zab pr z6a:=rE zup [zbn,zbv,zw5] ⟨zcx,zcG,zK5,trivial⟩ (by kernel_rfl)
theorem zLq:zab pr z6b:=rE zra [zbv,zoU] ⟨zcG,zvG,trivial⟩ (by kernel_rfl)
theorem ziz:zab pr zga:=rE zaj [] trivial (by kernel_rfl)
theorem zLr:zab pr z6c:=rE zah [zbv,zbz,za5,zb2,zga] ⟨zcG,zcH,zbr,zcX,ziz,trivial⟩ (by kernel_rfl)
theorem ziB:zab pr zgb:=rE zaj [] trivial (by kernel_rfl)
theorem zLs:zab pr z6d:=rE zah [zaO,zaN,zbv,zao,zgb] ⟨za3,za2,zcG,zaw,ziB,trivial⟩ (by kernel_rfl)
theorem zLx:zab pr z6e:=rE zah [zbd,zaO,zmb,zbl,zbv] ⟨zcp,za3,zq9,zcw,zcG,trivial⟩ (by kernel_rfl)
theorem ziC:zab pr zgc:=rE zaj [] trivial (by kernel_rfl)
theorem zfS:zab pr zeM:=rE zaj [] trivial (by kernel_rfl)
theorem zLA:zab pr z6f:=rE zah [zbv,zbN,za9,zgc,zeM] ⟨zcG,zcL,zbY,ziC,zfS,trivial⟩ (by kernel_rfl)
theorem ziD:zab pr zgd:=rE zaj [] trivial (by kernel_rfl)
theorem zdu:zab pr zcA:=rE zaj [] trivial (by kernel_rfl)
theorem zLB:zab pr z6h:=rE zah [zbv,za8,zbi,zgd,zcA] ⟨zcG,zbD,zcm,ziD,zdu,trivial⟩ (by kernel_rfl)
theorem zLC:zab pr z6k:=rE zup [zbu,zbz,zw1] ⟨zcF,zcH,zKL,trivial⟩ (by kernel_rfl)
theorem zLE:zab pr z6m:=rE zah [zaW,zbn,zbz,zf4,zb2] ⟨zbf,zcx,zcH,ziu,zcX,trivial⟩ (by kernel_rfl)
theorem zLF:zab pr z6s:=rE zah [zbv,zbz,za5,zb2,zga] ⟨zcG,zcH,zbr,zcX,ziz,trivial⟩ (by kernel_rfl)
theorem zLH:zab pr zw6:=rE zaj [] trivial (by kernel_rfl)
theorem zLI:zab pr z6t:=rE zra [zbz,zw6] ⟨zcH,zLH,trivial⟩ (by kernel_rfl)
theorem ziF:zab pr zgg:=rE zaj [] trivial (by kernel_rfl)
theorem zLK:zab pr z6u:=rE zah [zbt,zaN,zbz,zao,zgg] ⟨zcJ,za2,zcH,zaw,ziF,trivial⟩ (by kernel_rfl)
theorem zLL:zab pr z6w:=rE zah [za7,zn5,zbt,zbl,zbz] ⟨zbR,ztC,zcJ,zcw,zcH,trivial⟩ (by kernel_rfl)
theorem ziG:zab pr zgi:=rE zaj [] trivial (by kernel_rfl)
theorem zeu:zab pr zdD:=rE zaj [] trivial (by kernel_rfl)
theorem zLM:zab pr z6A:=rE zah [zbz,zbN,zcA,zgi,zdD] ⟨zcH,zcL,zdu,ziG,zeu,trivial⟩ (by kernel_rfl)
theorem ziI:zab pr zgj:=rE zaj [] trivial (by kernel_rfl)
theorem zev:zab pr zdG:=rE zaj [] trivial (by kernel_rfl)
theorem zLN:zab pr z6E:=rE zah [zbz,za8,za5,zgj,zdG] ⟨zcH,zbD,zbr,ziI,zev,trivial⟩ (by kernel_rfl)
theorem zLO:zab pr z6F:=rE zah [zbd,zaO,zbu,zao,zf0] ⟨zcp,za3,zcF,zaw,zio,trivial⟩ (by kernel_rfl)
theorem zLP:zab pr z6G:=rE zah [zaO,zbt,zbn,zao,zf5] ⟨za3,zcJ,zcx,zaw,ziw,trivial⟩ (by kernel_rfl)
theorem zLR:zab pr z6H:=rE zah [zaO,zaN,zbv,zao,zgb] ⟨za3,za2,zcG,zaw,ziB,trivial⟩ (by kernel_rfl)
theorem zLS:zab pr z6J:=rE zah [zbt,zaN,zbz,zao,zgg] ⟨zcJ,za2,zcH,zaw,ziF,trivial⟩ (by kernel_rfl)
theorem ziJ:zab pr zgm:=rE zaj [] trivial (by kernel_rfl)
theorem zLT:zab pr z6K:=rE zah [za7,zbd,zao,zgm] ⟨zbR,zcp,zaw,ziJ,trivial⟩ (by kernel_rfl)
theorem zCl:zab pr zFV:=rE zup [zqp,zbl,zao] ⟨zwX,zcw,zaw,trivial⟩ (by kernel_rfl)
theorem ziK:zab pr zgn:=rE zaj [] trivial (by kernel_rfl)
theorem zdv:zab pr zcC:=rE zaj [] trivial (by kernel_rfl)
theorem zLV:zab pr z6L:=rE zah [zaN,zao,zbN,zgn,zcC] ⟨za2,zaw,zcL,ziK,zdv,trivial⟩ (by kernel_rfl)
end Go.Proofs.YtlmnmaginhebdaaGreatDoor
end
section
namespace Go.Proofs.YtlmnmaginhebdaaGreatDoor
open Go.Vse
open Go (BinOp IntKind UnOp)
set_option maxRecDepth 100000
theorem ziL:zab pr zgo:=rE zaj [] trivial (by kernel_rfl)
theorem zLW:zab pr z6M:=rE zah [zaW,zao,za8,zcC,zgo] ⟨zbf,zaw,zbD,zdv,ziL,trivial⟩ (by kernel_rfl)
theorem zL0:zab pr z6O:=rE zah [zbu,zbN,zf1,za5,zcy] ⟨zcF,zcL,ziq,zbr,zdq,trivial⟩ (by kernel_rfl)
theorem zL1:zab pr z6P:=rE zah [zbn,zbN,zcz,zf6,za9] ⟨zcx,zcL,zdr,zix,zbY,trivial⟩ (by kernel_rfl)
theorem zL2:zab pr z6R:=rE zah [zbv,zbN,za9,zgc,zeM] ⟨zcG,zcL,zbY,ziC,zfS,trivial⟩ (by kernel_rfl)
theorem zL4:zab pr z6T:=rE zah [zbz,zbN,zcA,zgi,zdD] ⟨zcH,zcL,zdu,ziG,zeu,trivial⟩ (by kernel_rfl)
theorem zL6:zab pr z6U:=rE zah [zaN,zao,zbN,zgn,zcC] ⟨za2,zaw,zcL,ziK,zdv,trivial⟩ (by kernel_rfl)
theorem zL9:zab pr z6Y:=rE zah [zaO,zqr,zaN,zbl,zbN] ⟨za3,zwY,za2,zcw,zcL,trivial⟩ (by kernel_rfl)
theorem zCn:zab pr zsv:=rE zaj [] trivial (by kernel_rfl)
theorem zMa:zab pr z7b:=rE zra [zbN,zsv] ⟨zcL,zCn,trivial⟩ (by kernel_rfl)
theorem ziN:zab pr zgp:=rE zaj [] trivial (by kernel_rfl)
theorem ziO:zab pr zgr:=rE zaj [] trivial (by kernel_rfl)
theorem zeH:zab pr zdU:=rE zaj [] trivial (by kernel_rfl)
theorem zMb:zab pr z7d:=rE zah [zbN,za8,zgp,zgr,zdU] ⟨zcL,zbD,ziN,ziO,zeH,trivial⟩ (by kernel_rfl)
theorem zMc:zab pr z7e:=rE zah [zbu,za8,zf2,zeb,zcz] ⟨zcF,zbD,zis,zeO,zdr,trivial⟩ (by kernel_rfl)
theorem zMe:zab pr z7j:=rE zah [zbn,za8,zcy,zf8,zbi] ⟨zcx,zbD,zdq,ziy,zcm,trivial⟩ (by kernel_rfl)
theorem zMh:zab pr z7k:=rE zah [zbv,za8,zbi,zgd,zcA] ⟨zcG,zbD,zcm,ziD,zdu,trivial⟩ (by kernel_rfl)
theorem zMk:zab pr z7l:=rE zah [zbz,za8,za5,zgj,zdG] ⟨zcH,zbD,zbr,ziI,zev,trivial⟩ (by kernel_rfl)
theorem zMl:zab pr z7o:=rE zah [zaW,zao,za8,zcC,zgo] ⟨zbf,zaw,zbD,zdv,ziL,trivial⟩ (by kernel_rfl)
theorem zMn:zab pr z7p:=rE zah [za7,zqu,zaW,zbl,za8] ⟨zbR,zwZ,zbf,zcw,zbD,trivial⟩ (by kernel_rfl)
theorem zMo:zab pr z7q:=rE zah [zbN,za8,zgp,zgr,zdU] ⟨zcL,zbD,ziN,ziO,zeH,trivial⟩ (by kernel_rfl)
theorem zCo:zab pr zsw:=rE zaj [] trivial (by kernel_rfl)
theorem zMp:zab pr z7s:=rE zra [za8,zsw] ⟨zbD,zCo,trivial⟩ (by kernel_rfl)
theorem zMr:zab pr zxa:=rE zaj [] trivial (by kernel_rfl)
theorem Qs449:zab pr z7t:=rE zah [zaN,zbu,zfV,zbh,zxa] ⟨za2,zcF,zik,zcj,zMr,trivial⟩ (by kernel_rfl)
theorem zMs:zab pr zxb:=rE zaj [] trivial (by kernel_rfl)
end Go.Proofs.YtlmnmaginhebdaaGreatDoor
end
