/- Closed runs. Written by program. -/
import Derived.Test.YtlmnmaginhebdaaGreatDoorQsE
import Derived.Test.YtlmnmaginhebdaaGreatDoorQs0
import Derived.Test.YtlmnmaginhebdaaGreatDoorQs5
import Derived.Test.YtlmnmaginhebdaaGreatDoorQs6
import Derived.Test.YtlmnmaginhebdaaGreatDoorQs1
import Derived.Test.YtlmnmaginhebdaaGreatDoorQs2
import Derived.Test.YtlmnmaginhebdaaGreatDoorQs3
import Derived.Test.YtlmnmaginhebdaaGreatDoorQs4
import Derived.KernelRfl
set_option linter.all false
section
namespace Go.Proofs.YtlmnmaginhebdaaGreatDoor
open Go.Vse
open Go (BinOp IntKind UnOp)
set_option maxRecDepth 100000
theorem zZN:zab pr zSn:=rE zah [zaN,zbu,zcy,zbi,zgn,zcC,zo9] ⟨za2,zcF,zdq,zcm,ziK,zdv,zvS,trivial⟩ (by kernel_rfl)
theorem zZQ:zab pr zSo:=rE zah [zaN,zbn,za9,zgn,zcC,zpq,zlm] ⟨za2,zcx,zbY,ziK,zdv,zv9,zqc,trivial⟩ (by kernel_rfl)
theorem zZR:zab pr zSp:=rE zah [zaN,zbv,za9,zgn,zcC,zmR,zmS] ⟨za2,zcG,zbY,ziK,zdv,zrT,zrU,trivial⟩ (by kernel_rfl)
theorem zZS:zab pr zSq:=rE zah [zaN,zbz,zdD,zgn,zcC,zm2,zm3] ⟨za2,zcH,zeu,ziK,zdv,zr1,zr2,trivial⟩ (by kernel_rfl)
theorem zZU:zab pr zSr:=rE zah [zaN,zao,zgn,zcC,ze2,zql] ⟨za2,zaw,ziK,zdv,zgD,zwT,trivial⟩ (by kernel_rfl)
theorem zZX:zab pr zSs:=rE zah [zaN,zbl,zgn,zcC] ⟨za2,zcw,ziK,zdv,trivial⟩ (by kernel_rfl)
theorem zZY:zab pr zSt:=rE zah [zaN,zbN,zgn,zcC,zsv] ⟨za2,zcL,ziK,zdv,zCn,trivial⟩ (by kernel_rfl)
theorem zr8:zab pr znd:=rE zaj [] trivial (by kernel_rfl)
theorem zZ2:zab pr zSu:=rE zah [zaN,za8,zgn,zcC,zdU,zju,znd] ⟨za2,zbD,ziK,zdv,zeH,zma,zr8,trivial⟩ (by kernel_rfl)
theorem zZ3:zab pr zSw:=rE zah [zaW,zbu,zcz,zcC,zgo,zpa,zgt] ⟨zbf,zcF,zdr,zdv,ziL,zvW,ziQ,trivial⟩ (by kernel_rfl)
theorem zZ4:zab pr zSx:=rE zah [zaW,zbn,zbi,zcC,zgo,zpr,zkw] ⟨zbf,zcx,zcm,zdv,ziL,zwa,zn4,trivial⟩ (by kernel_rfl)
theorem zZ6:zab pr zSz:=rE zah [zaW,zbv,zbi,zcC,zgo,zmV,zmX] ⟨zbf,zcG,zcm,zdv,ziL,zrV,zrW,trivial⟩ (by kernel_rfl)
theorem zZ7:zab pr zSB:=rE zah [zaW,zbz,zdG,zcC,zgo,zm5,zm7] ⟨zbf,zcH,zev,zdv,ziL,zr3,zr4,trivial⟩ (by kernel_rfl)
theorem zZ8:zab pr zSC:=rE zah [zaW,zao,za9,zcC,zgo,zqm] ⟨zbf,zaw,zbY,zdv,ziL,zwU,trivial⟩ (by kernel_rfl)
theorem zZ9:zab pr zSD:=rE zah [zaW,zbl,zcC,zgo] ⟨zbf,zcw,zdv,ziL,trivial⟩ (by kernel_rfl)
theorem z0a:zab pr zSE:=rE zah [zaW,zbN,zcC,zgo,zdU,zju,znd] ⟨zbf,zcL,zdv,ziL,zeH,zma,zr8,trivial⟩ (by kernel_rfl)
theorem z0b:zab pr zSH:=rE zah [zaW,za8,zcC,zgo,zsw] ⟨zbf,zbD,zdv,ziL,zCo,trivial⟩ (by kernel_rfl)
theorem zh5:zab pr zfX:=rE zaj [] trivial (by kernel_rfl)
theorem zEG:zab pr ztF:=rE zaj [] trivial (by kernel_rfl)
theorem z0c:zab pr zSJ:=rE zah [zaN,zbu,zbh,zcy,zcA,zfX,ztF] ⟨za2,zcF,zcj,zdq,zdu,zh5,zEG,trivial⟩ (by kernel_rfl)
theorem zEJ:zab pr ztG:=rE zaj [] trivial (by kernel_rfl)
theorem z0d:zab pr zSL:=rE zah [zaN,zbn,zbh,za9,zgt,zfX,ztG] ⟨za2,zcx,zcj,zbY,ziQ,zh5,zEJ,trivial⟩ (by kernel_rfl)
theorem zEK:zab pr ztJ:=rE zaj [] trivial (by kernel_rfl)
theorem z0e:zab pr zSN:=rE zah [zaN,zbv,zbh,za9,zdG,zfX,ztJ] ⟨za2,zcG,zcj,zbY,zev,zh5,zEK,trivial⟩ (by kernel_rfl)
theorem zEM:zab pr ztL:=rE zaj [] trivial (by kernel_rfl)
theorem z0f:zab pr zSQ:=rE zah [zaN,zbz,zbh,zdD,zlm,zfX,ztL] ⟨za2,zcH,zcj,zeu,zqc,zh5,zEM,trivial⟩ (by kernel_rfl)
theorem zEN:zab pr ztM:=rE zaj [] trivial (by kernel_rfl)
theorem z0h:zab pr zSR:=rE zah [zaN,zao,zbh,za5,zfX,ztM] ⟨za2,zaw,zcj,zbr,zh5,zEN,trivial⟩ (by kernel_rfl)
theorem z0i:zab pr zSS:=rE zah [zaN,zbl,zbh,zfX] ⟨za2,zcw,zcj,zh5,trivial⟩ (by kernel_rfl)
theorem z0j:zab pr zST:=rE zah [zaN,zbN,zbh,zsv,zfX] ⟨za2,zcL,zcj,zCn,zh5,trivial⟩ (by kernel_rfl)
theorem zEO:zab pr ztN:=rE zaj [] trivial (by kernel_rfl)
theorem zET:zab pr ztO:=rE zaj [] trivial (by kernel_rfl)
theorem z0l:zab pr zSU:=rE zah [zaN,za8,zbh,zdU,zfX,ztN,ztO] ⟨za2,zbD,zcj,zeH,zh5,zEO,zET,trivial⟩ (by kernel_rfl)
theorem z0n:zab pr zSV:=rE zah [zbu,zgp,zgr,zdU,zpc,zpe,znH] ⟨zcF,ziN,ziO,zeH,zvX,zvY,zsr,trivial⟩ (by kernel_rfl)
theorem z0q:zab pr zSW:=rE zah [zbn,zgp,zgr,zdU,zpu,zpv,zhB] ⟨zcx,ziN,ziO,zeH,zwc,zwd,zj9,trivial⟩ (by kernel_rfl)
theorem z0r:zab pr zSX:=rE zah [zbv,zgp,zgr,zdU,zhB,zmY,zm1] ⟨zcG,ziN,ziO,zeH,zj9,zrY,zrZ,trivial⟩ (by kernel_rfl)
theorem z0s:zab pr zSY:=rE zah [zbz,zgp,zgr,zdU,zm9,zna,zkX] ⟨zcH,ziN,ziO,zeH,zr5,zr7,zoL,trivial⟩ (by kernel_rfl)
theorem z0u:zab pr zSZ:=rE zah [zao,zgp,zgr,zdU,zju,znd] ⟨zaw,ziN,ziO,zeH,zma,zr8,trivial⟩ (by kernel_rfl)
theorem z0w:zab pr zS0:=rE zah [zbl,zgp,zgr,zdU] ⟨zcw,ziN,ziO,zeH,trivial⟩ (by kernel_rfl)
end Go.Proofs.YtlmnmaginhebdaaGreatDoor
end
section
namespace Go.Proofs.YtlmnmaginhebdaaGreatDoor
open Go.Vse
open Go (BinOp IntKind UnOp)
set_option maxRecDepth 100000
theorem z0x:zab pr zzF:=rE zaj [] trivial (by kernel_rfl)
theorem z0z:zab pr zS1:=rE zew [zbN,zgp,zgr,zdU,zzF] ⟨zcL,ziN,ziO,zeH,z0x,trivial⟩ (by kernel_rfl)
theorem z0A:zab pr zzI:=rE zaj [] trivial (by kernel_rfl)
theorem z0B:zab pr zS2:=rE zew [za8,zgp,zgr,zdU,zzI] ⟨zbD,ziN,ziO,zeH,z0A,trivial⟩ (by kernel_rfl)
theorem zh7:zab pr zfZ:=rE zaj [] trivial (by kernel_rfl)
theorem zEU:zab pr ztP:=rE zaj [] trivial (by kernel_rfl)
theorem z0C:zab pr zS3:=rE zah [zbd,zaW,zbu,za5,zcz,zfZ,ztP] ⟨zcp,zbf,zcF,zbr,zdr,zh7,zEU,trivial⟩ (by kernel_rfl)
theorem zEW:zab pr ztT:=rE zaj [] trivial (by kernel_rfl)
theorem z0D:zab pr zS5:=rE zah [zbd,zaW,zbn,zbi,ze2,zfZ,ztT] ⟨zcp,zbf,zcx,zcm,zgD,zh7,zEW,trivial⟩ (by kernel_rfl)
theorem zEX:zab pr ztU:=rE zaj [] trivial (by kernel_rfl)
theorem z0E:zab pr zS7:=rE zah [zbd,zaW,zbv,zbi,zdD,zfZ,ztU] ⟨zcp,zbf,zcG,zcm,zeu,zh7,zEX,trivial⟩ (by kernel_rfl)
theorem zEZ:zab pr ztV:=rE zaj [] trivial (by kernel_rfl)
theorem z0F:zab pr zS9:=rE zah [zbd,zaW,zbz,za9,zdG,zfZ,ztV] ⟨zcp,zbf,zcH,zbY,zev,zh7,zEZ,trivial⟩ (by kernel_rfl)
theorem zE0:zab pr ztY:=rE zaj [] trivial (by kernel_rfl)
theorem z0H:zab pr zTf:=rE zah [zbd,zaW,zao,zeb,zfZ,ztY] ⟨zcp,zbf,zaw,zeO,zh7,zE0,trivial⟩ (by kernel_rfl)
theorem z0K:zab pr zTh:=rE zah [zbd,zaW,zbl,zfZ] ⟨zcp,zbf,zcw,zh7,trivial⟩ (by kernel_rfl)
theorem zE2:zab pr zt3:=rE zaj [] trivial (by kernel_rfl)
theorem z0M:zab pr zTm:=rE zah [zbd,zaW,zbN,zdU,zkw,zfZ,zt3] ⟨zcp,zbf,zcL,zeH,zn4,zh7,zE2,trivial⟩ (by kernel_rfl)
theorem z0S:zab pr zTp:=rE zah [zbd,zaW,za8,zsw,zfZ] ⟨zcp,zbf,zbD,zCo,zh7,trivial⟩ (by kernel_rfl)
theorem zkp:zab pr znh:=rE QsK8 [za7,zaH,zbl,zao,zFV] ⟨zbR,zaQ,zcw,zaw,zCl,trivial⟩ (by kernel_rfl)
theorem zkq:zab pr zkY:=rE zcW [zph,za7,zbd,zaH,zbu,zao] ⟨Qs7,zbR,zcp,zaQ,zcF,zaw,trivial⟩ (by kernel_rfl)
theorem zkr:zab pr zk0:=rE zcW [za7,zbd,zkJ,zaO,zmb,zaH,zbn,zbv,zao] ⟨zbR,zcp,zoM,za3,zq9,zaQ,zcx,zcG,zaw,trivial⟩ (by kernel_rfl)
theorem zlc:zab pr zni:=rE zcW [za7,zbd,zkJ,zaO,zmb,zaH,zbn,zbv,zao] ⟨zbR,zcp,zoM,za3,zq9,zaQ,zcx,zcG,zaw,trivial⟩ (by kernel_rfl)
theorem zlg:zab pr znk:=rE zcW [za7,zaO,zn5,zbt,zaH,zbz,zao,zgs] ⟨zbR,za3,ztC,zcJ,zaQ,zcH,zaw,ziP,trivial⟩ (by kernel_rfl)
theorem zjo:zab pr zgP:=rE zci [za7] ⟨zbR,trivial⟩ (by kernel_rfl)
theorem zE4:zab pr zt4:=rE QsK10 [za7,zao,zgP] ⟨zbR,zaw,zjo,trivial⟩ (by kernel_rfl)
theorem zlh:zab pr znl:=rE zNm [zaH,zbl,zao,zt4] ⟨zaQ,zcw,zaw,zE4,trivial⟩ (by kernel_rfl)
theorem zE6:zab pr zt7:=rE zaj [] trivial (by kernel_rfl)
theorem zlk:zab pr znm:=rE zcW [zbd,zaO,zqr,zaN,zaH,zao,zbN,zt7] ⟨zcp,za3,zwY,za2,zaQ,zaw,zcL,zE6,trivial⟩ (by kernel_rfl)
theorem zE8:zab pr zt9:=rE zaj [] trivial (by kernel_rfl)
theorem zll:zab pr znn:=rE zcW [za7,zqu,zaW,zaH,zao,za8,zbh,zt9] ⟨zbR,zwZ,zbf,zaQ,zaw,zbD,zcj,zE8,trivial⟩ (by kernel_rfl)
theorem zE9:zab pr zug:=rE zaj [] trivial (by kernel_rfl)
theorem zFa:zab pr zTs:=rE zcW [za7,zaN,zaH,zao,zfV,zbh,zug] ⟨zbR,za2,zaQ,zaw,zik,zcj,zE9,trivial⟩ (by kernel_rfl)
theorem zFb:zab pr zTt:=rE zcW [za7,zaW,zaH,zao,zbh,zfW,zug] ⟨zbR,zbf,zaQ,zaw,zcj,zin,zE9,trivial⟩ (by kernel_rfl)
theorem zFd:zab pr zTu:=rE zcW [za7,zaO,zn5,zbt,zaH,zbz,zao,zgs] ⟨zbR,za3,ztC,zcJ,zaQ,zcH,zaw,ziP,trivial⟩ (by kernel_rfl)
end Go.Proofs.YtlmnmaginhebdaaGreatDoor
end
