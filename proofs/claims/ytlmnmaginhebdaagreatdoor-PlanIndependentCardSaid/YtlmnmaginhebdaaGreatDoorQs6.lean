/- Closed runs. Written by program. -/
import Derived.Test.YtlmnmaginhebdaaGreatDoorQsE
import Derived.Test.YtlmnmaginhebdaaGreatDoorQs0
import Derived.Test.YtlmnmaginhebdaaGreatDoorQs5
import Derived.Test.YtlmnmaginhebdaaGreatDoorQs1
import Derived.Test.YtlmnmaginhebdaaGreatDoorQs3
import Derived.Test.YtlmnmaginhebdaaGreatDoorQs4
import Derived.KernelRfl
import Derived.Test.YtlmnmaginhebdaaGreatDoorQs2
set_option linter.all false
section
namespace Go.Proofs.YtlmnmaginhebdaaGreatDoor
open Go.Vse
open Go (BinOp IntKind UnOp)
set_option maxRecDepth 100000
theorem zYM:zab pr zRo:=rE zah [zbv,zbi,zgd,zcA,zx0] ⟨zcG,zcm,ziD,zdu,zNa,trivial⟩ (by kernel_rfl)
theorem zYN:zab pr zRp:=rE zah [zbz,zbi,zgd,zcA,zhA,zmJ,zmM] ⟨zcH,zcm,ziD,zdu,zj8,zrR,zrS,trivial⟩ (by kernel_rfl)
theorem zYO:zab pr zRs:=rE zah [zao,zbi,zgd,zcA,zmV,zmX] ⟨zaw,zcm,ziD,zdu,zrV,zrW,trivial⟩ (by kernel_rfl)
theorem zYQ:zab pr zRt:=rE zah [zbl,zbi,zgd,zcA] ⟨zcw,zcm,ziD,zdu,trivial⟩ (by kernel_rfl)
theorem zYS:zab pr zRu:=rE zah [zbN,zbi,zgd,zcA,zhB,zmY,zm1] ⟨zcL,zcm,ziD,zdu,zj9,zrY,zrZ,trivial⟩ (by kernel_rfl)
theorem zYT:zab pr zRx:=rE zah [za8,zbi,zgd,zcA,zx2] ⟨zbD,zcm,ziD,zdu,zNd,trivial⟩ (by kernel_rfl)
theorem zYU:zab pr zRz:=rE zew [zbt,zaN,zbu,zgg,zxE] ⟨zcJ,za2,zcF,ziF,zML,trivial⟩ (by kernel_rfl)
theorem zYW:zab pr zRA:=rE zah [zbt,zaN,zbn,zb2,zeM,zgg,zpi] ⟨zcJ,za2,zcx,zcX,zfS,ziF,zv1,trivial⟩ (by kernel_rfl)
theorem zYX:zab pr zRB:=rE zah [zbt,zaN,zbv,zb2,zgg,zgt,zpx] ⟨zcJ,za2,zcG,zcX,ziF,ziQ,zwe,trivial⟩ (by kernel_rfl)
theorem zYY:zab pr zRC:=rE zah [zbt,zaN,zbz,zw6,zgg] ⟨zcJ,za2,zcH,zLH,ziF,trivial⟩ (by kernel_rfl)
theorem zwQ:zab pr zqe:=rE zaj [] trivial (by kernel_rfl)
theorem zYZ:zab pr zRD:=rE zah [zbt,zaN,zao,zeb,zgg,zqe] ⟨zcJ,za2,zaw,zeO,ziF,zwQ,trivial⟩ (by kernel_rfl)
theorem zY0:zab pr zRE:=rE zah [zbt,zaN,zbl,zgg] ⟨zcJ,za2,zcw,ziF,trivial⟩ (by kernel_rfl)
theorem zr1:zab pr zm2:=rE zaj [] trivial (by kernel_rfl)
theorem zr2:zab pr zm3:=rE zaj [] trivial (by kernel_rfl)
theorem zY1:zab pr zRH:=rE zah [zbt,zaN,zbN,zgg,zdD,zm2,zm3] ⟨zcJ,za2,zcL,ziF,zeu,zr1,zr2,trivial⟩ (by kernel_rfl)
theorem zr3:zab pr zm5:=rE zaj [] trivial (by kernel_rfl)
theorem zr4:zab pr zm7:=rE zaj [] trivial (by kernel_rfl)
theorem zY2:zab pr zRI:=rE zah [zbt,zaN,za8,zgg,zdG,zm5,zm7] ⟨zcJ,za2,zbD,ziF,zev,zr3,zr4,trivial⟩ (by kernel_rfl)
theorem zY3:zab pr zRJ:=rE zew [zbu,zcA,zgi,zdD,zxG] ⟨zcF,zdu,ziG,zeu,zMO,trivial⟩ (by kernel_rfl)
theorem zY7:zab pr zRK:=rE zah [zbn,zcA,zgi,zdD,zpk,zpm,zhz] ⟨zcx,zdu,ziG,zeu,zv2,zv3,zj6,trivial⟩ (by kernel_rfl)
theorem zY8:zab pr zRO:=rE zah [zbv,zcA,zgi,zdD,zhz,zmF,zmG] ⟨zcG,zdu,ziG,zeu,zj6,zrP,zrQ,trivial⟩ (by kernel_rfl)
theorem zY9:zab pr zzx:=rE zaj [] trivial (by kernel_rfl)
theorem zZc:zab pr zRP:=rE zew [zbz,zcA,zgi,zdD,zzx] ⟨zcH,zdu,ziG,zeu,zY9,trivial⟩ (by kernel_rfl)
theorem zZd:zab pr zRQ:=rE zah [zao,zcA,zgi,zdD,zm2,zm3] ⟨zaw,zdu,ziG,zeu,zr1,zr2,trivial⟩ (by kernel_rfl)
theorem zZf:zab pr zRR:=rE zah [zbl,zcA,zgi,zdD] ⟨zcw,zdu,ziG,zeu,trivial⟩ (by kernel_rfl)
end Go.Proofs.YtlmnmaginhebdaaGreatDoor
end
section
namespace Go.Proofs.YtlmnmaginhebdaaGreatDoor
open Go.Vse
open Go (BinOp IntKind UnOp)
set_option maxRecDepth 100000
theorem zZg:zab pr zzy:=rE zaj [] trivial (by kernel_rfl)
theorem zZh:zab pr zRS:=rE zew [zbN,zcA,zgi,zdD,zzy] ⟨zcL,zdu,ziG,zeu,zZg,trivial⟩ (by kernel_rfl)
theorem zr5:zab pr zm9:=rE zaj [] trivial (by kernel_rfl)
theorem zr7:zab pr zna:=rE zaj [] trivial (by kernel_rfl)
theorem zoL:zab pr zkX:=rE zaj [] trivial (by kernel_rfl)
theorem zZi:zab pr zRU:=rE zah [za8,zcA,zgi,zdD,zm9,zna,zkX] ⟨zbD,zdu,ziG,zeu,zr5,zr7,zoL,trivial⟩ (by kernel_rfl)
theorem zZj:zab pr zRW:=rE zew [zbu,za5,zgj,zdG,zxI] ⟨zcF,zbr,ziI,zev,zMR,trivial⟩ (by kernel_rfl)
theorem zZk:zab pr zRX:=rE zah [zbn,za5,zgj,zdG,zpp,zju,zhA] ⟨zcx,zbr,ziI,zev,zv5,zma,zj8,trivial⟩ (by kernel_rfl)
theorem zZl:zab pr zR0:=rE zah [zbv,za5,zgj,zdG,zhA,zmJ,zmM] ⟨zcG,zbr,ziI,zev,zj8,zrR,zrS,trivial⟩ (by kernel_rfl)
theorem zZm:zab pr zzz:=rE zaj [] trivial (by kernel_rfl)
theorem zZn:zab pr zR1:=rE zew [zbz,za5,zgj,zdG,zzz] ⟨zcH,zbr,ziI,zev,zZm,trivial⟩ (by kernel_rfl)
theorem zZq:zab pr zR5:=rE zah [zao,za5,zgj,zdG,zm5,zm7] ⟨zaw,zbr,ziI,zev,zr3,zr4,trivial⟩ (by kernel_rfl)
theorem zZr:zab pr zR6:=rE zah [zbl,za5,zgj,zdG] ⟨zcw,zbr,ziI,zev,trivial⟩ (by kernel_rfl)
theorem zZt:zab pr zR7:=rE zah [zbN,za5,zgj,zdG,zm9,zna,zkX] ⟨zcL,zbr,ziI,zev,zr5,zr7,zoL,trivial⟩ (by kernel_rfl)
theorem zZw:zab pr zzD:=rE zaj [] trivial (by kernel_rfl)
theorem zZx:zab pr zR9:=rE zew [za8,za5,zgj,zdG,zzD] ⟨zbD,zbr,ziI,zev,zZw,trivial⟩ (by kernel_rfl)
theorem zZy:zab pr zSb:=rE zah [za7,zbd,zaN,zbu,zgm,zsz] ⟨zbR,zcp,za2,zcF,ziJ,zCp,trivial⟩ (by kernel_rfl)
theorem zZA:zab pr zSc:=rE zah [za7,zbd,zaO,zaW,zbn,zgm,zsA] ⟨zbR,zcp,za3,zbf,zcx,ziJ,zCt,trivial⟩ (by kernel_rfl)
theorem zZB:zab pr zSd:=rE zah [za7,zbd,zaO,zbv,zgm,zcC,zqd] ⟨zbR,zcp,za3,zcG,ziJ,zdv,zwP,trivial⟩ (by kernel_rfl)
theorem zZC:zab pr zSf:=rE zah [za7,zbd,zbt,zbz,zeb,zgm,zqe] ⟨zbR,zcp,zcJ,zcH,zeO,ziJ,zwQ,trivial⟩ (by kernel_rfl)
theorem zwR:zab pr zqh:=rE zaj [] trivial (by kernel_rfl)
theorem zZH:zab pr zSh:=rE zah [za7,zbd,zaO,zao,zgm,zqh] ⟨zbR,zcp,za3,zaw,ziJ,zwR,trivial⟩ (by kernel_rfl)
theorem zZI:zab pr zSi:=rE zah [za7,zbd,zbl,zgm] ⟨zbR,zcp,zcw,ziJ,trivial⟩ (by kernel_rfl)
theorem zwT:zab pr zql:=rE zaj [] trivial (by kernel_rfl)
theorem zZK:zab pr zSk:=rE zah [za7,zbd,zaN,zbN,zgm,ze2,zql] ⟨zbR,zcp,za2,zcL,ziJ,zgD,zwT,trivial⟩ (by kernel_rfl)
theorem zwU:zab pr zqm:=rE zaj [] trivial (by kernel_rfl)
theorem zZL:zab pr zSl:=rE zah [za7,zbd,zaW,za8,za9,zgm,zqm] ⟨zbR,zcp,zbf,zbD,zbY,ziJ,zwU,trivial⟩ (by kernel_rfl)
end Go.Proofs.YtlmnmaginhebdaaGreatDoor
end
