/- Closed runs. Written by program. -/
import Derived.Test.YtdonnbdegnkflaaGreatDoorQsE
import Derived.Test.YtdonnbdegnkflaaGreatDoorQs0
import Derived.Test.YtdonnbdegnkflaaGreatDoorQs1
import Derived.KernelRfl
set_option linter.all false
section
namespace Go.Proofs.YtdonnbdegnkflaaGreatDoor
open Go.Vse
open Go (BinOp IntKind UnOp)
set_option maxRecDepth 100000
theorem zPs:zab pr zyW:=rE zak [] trivial (by kernel_rfl)
theorem Qs459:zab pr zaaC:=rE zaj [zaQ,zbu,zgb,zbn,zyV,zyW] ⟨za4,zcC,ziD,zcs,zPr,zPs,trivial⟩ (by kernel_rfl)
theorem zPt:zab pr zyX:=rE zak [] trivial (by kernel_rfl)
theorem zPu:zab pr zyZ:=rE zcr [zyX] ⟨zPt,trivial⟩ (by kernel_rfl)
theorem Qs472:zab pr zaaD:=rE zeD [zaQ,zbN,zgb,zbn,zyZ] ⟨za4,zcL,ziD,zcs,zPu,trivial⟩ (by kernel_rfl)
theorem zPv:zab pr zy1:=rE zak [] trivial (by kernel_rfl)
theorem zPw:zab pr zy2:=rE zcr [zy1] ⟨zPv,trivial⟩ (by kernel_rfl)
theorem Qs482:zab pr zaaE:=rE zeD [zaQ,zbO,zgb,zbn,zy2] ⟨za4,zcM,ziD,zcs,zPw,trivial⟩ (by kernel_rfl)
theorem zxt:zab pr zpN:=rE zak [] trivial (by kernel_rfl)
theorem Qs486:zab pr zaaF:=rE zaj [zaQ,zaq,zgb,zbn,zbd,zpN] ⟨za4,zay,ziD,zcs,zbz,zxt,trivial⟩ (by kernel_rfl)
theorem Qs489:zab pr zaaG:=rE zaj [zaQ,zbt,zgb,zbn] ⟨za4,zcA,ziD,zcs,trivial⟩ (by kernel_rfl)
theorem zxu:zab pr zpO:=rE zak [] trivial (by kernel_rfl)
theorem ztP:zab pr znP:=rE zak [] trivial (by kernel_rfl)
theorem zkN:zab pr zhU:=rE zak [] trivial (by kernel_rfl)
theorem Qs499:zab pr zaaH:=rE zaj [zaQ,zbY,zgb,zbn,zpO,znP,zhU] ⟨za4,zcX,ziD,zcs,zxu,ztP,zkN,trivial⟩ (by kernel_rfl)
theorem zxv:zab pr zpP:=rE zak [] trivial (by kernel_rfl)
theorem zxy:zab pr zpQ:=rE zak [] trivial (by kernel_rfl)
theorem zkO:zab pr zhW:=rE zak [] trivial (by kernel_rfl)
theorem Qs508:zab pr zaaI:=rE zaj [zaQ,zbh,zgb,zbn,zpP,zpQ,zhW] ⟨za4,zbX,ziD,zcs,zxv,zxy,zkO,trivial⟩ (by kernel_rfl)
theorem zPx:zab pr zy3:=rE zak [] trivial (by kernel_rfl)
end Go.Proofs.YtdonnbdegnkflaaGreatDoor
end
section
namespace Go.Proofs.YtdonnbdegnkflaaGreatDoor
open Go.Vse
open Go (BinOp IntKind UnOp)
set_option maxRecDepth 100000
theorem Qs516:zab pr zaaJ:=rE zaj [zaX,zbD,zbn,zgc,zyU,zy3] ⟨zbl,zcJ,zcs,ziF,zPq,zPx,trivial⟩ (by kernel_rfl)
theorem Qs518:zab pr zaaK:=rE zeD [zaX,zbu,zbn,zgc,zyZ] ⟨zbl,zcC,zcs,ziF,zPu,trivial⟩ (by kernel_rfl)
theorem zPC:zab pr zy4:=rE zak [] trivial (by kernel_rfl)
theorem Qs525:zab pr zaaL:=rE zaj [zaX,zbN,zbn,zgc,zyW,zy4] ⟨zbl,zcL,zcs,ziF,zPs,zPC,trivial⟩ (by kernel_rfl)
theorem zPD:zab pr zy5:=rE zcr [zy1] ⟨zPv,trivial⟩ (by kernel_rfl)
theorem Qs533:zab pr zaaM:=rE zeD [zaX,zbO,zbn,zgc,zy5] ⟨zbl,zcM,zcs,ziF,zPD,trivial⟩ (by kernel_rfl)
theorem zxz:zab pr zpR:=rE zak [] trivial (by kernel_rfl)
theorem zgX:zab pr zfl:=rE zak [] trivial (by kernel_rfl)
theorem Qs538:zab pr zaaN:=rE zaj [zaX,zaq,zbn,zgc,zpR,zfl] ⟨zbl,zay,zcs,ziF,zxz,zgX,trivial⟩ (by kernel_rfl)
theorem Qs540:zab pr zaaO:=rE zaj [zaX,zbt,zbn,zgc] ⟨zbl,zcA,zcs,ziF,trivial⟩ (by kernel_rfl)
theorem zxA:zab pr zpS:=rE zak [] trivial (by kernel_rfl)
theorem zxC:zab pr zpU:=rE zak [] trivial (by kernel_rfl)
theorem Qs549:zab pr zaaP:=rE zaj [zaX,zbY,zbn,zgc,zhU,zpS,zpU] ⟨zbl,zcX,zcs,ziF,zkN,zxA,zxC,trivial⟩ (by kernel_rfl)
theorem zxD:zab pr zpV:=rE zak [] trivial (by kernel_rfl)
theorem zxE:zab pr zpW:=rE zak [] trivial (by kernel_rfl)
theorem Qs556:zab pr zaaQ:=rE zaj [zaX,zbh,zbn,zgc,zhW,zpV,zpW] ⟨zbl,zbX,zcs,ziF,zkO,zxD,zxE,trivial⟩ (by kernel_rfl)
theorem zi5:zab pr zgK:=rE zak [] trivial (by kernel_rfl)
theorem Qs564:zab pr zaaR:=rE zaj [zaS,zbB,zbD,ztU,zgK] ⟨za7,zcW,zcJ,zEz,zi5,trivial⟩ (by kernel_rfl)
theorem zPE:zab pr zy6:=rE zak [] trivial (by kernel_rfl)
theorem Qs568:zab pr zaaS:=rE zaj [zaS,zbB,zbu,zcb,zfl,zgK,zy6] ⟨za7,zcW,zcC,zc1,zgX,zi5,zPE,trivial⟩ (by kernel_rfl)
theorem zPF:zab pr zy7:=rE zak [] trivial (by kernel_rfl)
theorem Qs572:zab pr zaaT:=rE zaj [zaS,zbB,zbN,zcb,zcG,zgK,zy7] ⟨za7,zcW,zcL,zc1,zdD,zi5,zPF,trivial⟩ (by kernel_rfl)
theorem Qs583:zab pr zID:=rE zak [] trivial (by kernel_rfl)
theorem Qs585:zab pr zaaU:=rE zaj [zaS,zbB,zbO,zgK,zID] ⟨za7,zcW,zcM,zi5,Qs583,trivial⟩ (by kernel_rfl)
theorem zPH:zab pr zy9:=rE zak [] trivial (by kernel_rfl)
theorem Qs588:zab pr zaaV:=rE zaj [zaS,zbB,zaX,zaq,zgK,zy9] ⟨za7,zcW,zbl,zay,zi5,zPH,trivial⟩ (by kernel_rfl)
theorem Qs589:zab pr zaaW:=rE zaj [zaS,zbB,zbt,zgK] ⟨za7,zcW,zcA,zi5,trivial⟩ (by kernel_rfl)
theorem zPN:zab pr zza:=rE zak [] trivial (by kernel_rfl)
end Go.Proofs.YtdonnbdegnkflaaGreatDoor
end
