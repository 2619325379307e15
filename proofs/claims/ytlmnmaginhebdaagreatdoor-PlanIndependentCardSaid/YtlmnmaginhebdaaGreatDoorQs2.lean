/- Closed runs. Written by program. -/
import Derived.Test.YtlmnmaginhebdaaGreatDoorQsE
import Derived.Test.YtlmnmaginhebdaaGreatDoorQs0
import Derived.Test.YtlmnmaginhebdaaGreatDoorQs1
import Derived.KernelRfl
set_option linter.all false
section
namespace Go.Proofs.YtlmnmaginhebdaaGreatDoor
open Go.Vse
open Go (BinOp IntKind UnOp)
set_option maxRecDepth 100000
theorem zMt:zab pr zxc:=rE zaj [] trivial (by kernel_rfl)
theorem Qs459:zab pr z7v:=rE zah [zaN,zbn,zfV,zbh,zxb,zxc] ⟨za2,zcx,zik,zcj,zMs,zMt,trivial⟩ (by kernel_rfl)
theorem zMu:zab pr zxe:=rE zaj [] trivial (by kernel_rfl)
theorem zMv:zab pr zxi:=rE zci [zxe] ⟨zMu,trivial⟩ (by kernel_rfl)
theorem Qs472:zab pr z7w:=rE zew [zaN,zbv,zfV,zbh,zxi] ⟨za2,zcG,zik,zcj,zMv,trivial⟩ (by kernel_rfl)
theorem zMw:zab pr zxj:=rE zaj [] trivial (by kernel_rfl)
theorem zMx:zab pr zxm:=rE zci [zxj] ⟨zMw,trivial⟩ (by kernel_rfl)
theorem Qs482:zab pr z7x:=rE zew [zaN,zbz,zfV,zbh,zxm] ⟨za2,zcH,zik,zcj,zMx,trivial⟩ (by kernel_rfl)
theorem zvI:zab pr zoW:=rE zaj [] trivial (by kernel_rfl)
theorem Qs486:zab pr z7z:=rE zah [zaN,zao,zfV,zbh,za5,zoW] ⟨za2,zaw,zik,zcj,zbr,zvI,trivial⟩ (by kernel_rfl)
theorem Qs489:zab pr z7A:=rE zah [zaN,zbl,zfV,zbh] ⟨za2,zcw,zik,zcj,trivial⟩ (by kernel_rfl)
theorem zvJ:zab pr zoX:=rE zaj [] trivial (by kernel_rfl)
theorem zsp:zab pr znG:=rE zaj [] trivial (by kernel_rfl)
theorem zjZ:zab pr zhv:=rE zaj [] trivial (by kernel_rfl)
theorem Qs499:zab pr z7B:=rE zah [zaN,zbN,zfV,zbh,zoX,znG,zhv] ⟨za2,zcL,zik,zcj,zvJ,zsp,zjZ,trivial⟩ (by kernel_rfl)
theorem zvK:zab pr zo1:=rE zaj [] trivial (by kernel_rfl)
theorem zvL:zab pr zo2:=rE zaj [] trivial (by kernel_rfl)
theorem zj2:zab pr zhy:=rE zaj [] trivial (by kernel_rfl)
theorem Qs508:zab pr z7C:=rE zah [zaN,za8,zfV,zbh,zo1,zo2,zhy] ⟨za2,zbD,zik,zcj,zvK,zvL,zj2,trivial⟩ (by kernel_rfl)
theorem zMy:zab pr zxo:=rE zaj [] trivial (by kernel_rfl)
end Go.Proofs.YtlmnmaginhebdaaGreatDoor
end
section
namespace Go.Proofs.YtlmnmaginhebdaaGreatDoor
open Go.Vse
open Go (BinOp IntKind UnOp)
set_option maxRecDepth 100000
theorem Qs516:zab pr z7D:=rE zah [zaW,zbu,zbh,zfW,zxa,zxo] ⟨zbf,zcF,zcj,zin,zMr,zMy,trivial⟩ (by kernel_rfl)
theorem Qs518:zab pr z7G:=rE zew [zaW,zbn,zbh,zfW,zxi] ⟨zbf,zcx,zcj,zin,zMv,trivial⟩ (by kernel_rfl)
theorem zMA:zab pr zxq:=rE zaj [] trivial (by kernel_rfl)
theorem Qs525:zab pr z7J:=rE zah [zaW,zbv,zbh,zfW,zxc,zxq] ⟨zbf,zcG,zcj,zin,zMt,zMA,trivial⟩ (by kernel_rfl)
theorem zMB:zab pr zxt:=rE zci [zxj] ⟨zMw,trivial⟩ (by kernel_rfl)
theorem Qs533:zab pr z7O:=rE zew [zaW,zbz,zbh,zfW,zxt] ⟨zbf,zcH,zcj,zin,zMB,trivial⟩ (by kernel_rfl)
theorem zvM:zab pr zo3:=rE zaj [] trivial (by kernel_rfl)
theorem zgD:zab pr ze2:=rE zaj [] trivial (by kernel_rfl)
theorem Qs538:zab pr z7P:=rE zah [zaW,zao,zbh,zfW,zo3,ze2] ⟨zbf,zaw,zcj,zin,zvM,zgD,trivial⟩ (by kernel_rfl)
theorem Qs540:zab pr z7Q:=rE zah [zaW,zbl,zbh,zfW] ⟨zbf,zcw,zcj,zin,trivial⟩ (by kernel_rfl)
theorem zvN:zab pr zo4:=rE zaj [] trivial (by kernel_rfl)
theorem zvO:zab pr zo5:=rE zaj [] trivial (by kernel_rfl)
theorem Qs549:zab pr z7R:=rE zah [zaW,zbN,zbh,zfW,zhv,zo4,zo5] ⟨zbf,zcL,zcj,zin,zjZ,zvN,zvO,trivial⟩ (by kernel_rfl)
theorem zvQ:zab pr zo6:=rE zaj [] trivial (by kernel_rfl)
theorem zvR:zab pr zo8:=rE zaj [] trivial (by kernel_rfl)
theorem Qs556:zab pr z7T:=rE zah [zaW,za8,zbh,zfW,zhy,zo6,zo8] ⟨zbf,zbD,zcj,zin,zj2,zvQ,zvR,trivial⟩ (by kernel_rfl)
theorem ziP:zab pr zgs:=rE zaj [] trivial (by kernel_rfl)
theorem Qs564:zab pr z7U:=rE zah [zaO,zbt,zbu,zss,zgs] ⟨za3,zcJ,zcF,zCk,ziP,trivial⟩ (by kernel_rfl)
theorem zMC:zab pr zxu:=rE zaj [] trivial (by kernel_rfl)
theorem Qs568:zab pr z7V:=rE zah [zaO,zbt,zbn,zb2,ze2,zgs,zxu] ⟨za3,zcJ,zcx,zcX,zgD,ziP,zMC,trivial⟩ (by kernel_rfl)
theorem zMD:zab pr zxv:=rE zaj [] trivial (by kernel_rfl)
theorem Qs572:zab pr z7W:=rE zah [zaO,zbt,zbv,zb2,zcA,zgs,zxv] ⟨za3,zcJ,zcG,zcX,zdu,ziP,zMD,trivial⟩ (by kernel_rfl)
theorem Qs583:zab pr zFX:=rE zaj [] trivial (by kernel_rfl)
theorem Qs585:zab pr z7X:=rE zah [zaO,zbt,zbz,zgs,zFX] ⟨za3,zcJ,zcH,ziP,Qs583,trivial⟩ (by kernel_rfl)
theorem zME:zab pr zxy:=rE zaj [] trivial (by kernel_rfl)
theorem Qs588:zab pr z8a:=rE zah [zaO,zbt,zaW,zao,zgs,zxy] ⟨za3,zcJ,zbf,zaw,ziP,zME,trivial⟩ (by kernel_rfl)
theorem Qs589:zab pr z8b:=rE zah [zaO,zbt,zbl,zgs] ⟨za3,zcJ,zcw,ziP,trivial⟩ (by kernel_rfl)
theorem zMH:zab pr zxz:=rE zaj [] trivial (by kernel_rfl)
end Go.Proofs.YtlmnmaginhebdaaGreatDoor
end
