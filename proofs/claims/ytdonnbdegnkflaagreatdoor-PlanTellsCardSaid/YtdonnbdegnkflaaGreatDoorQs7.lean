/- Closed runs. Written by program. -/
import Derived.Test.YtdonnbdegnkflaaGreatDoorQsE
import Derived.Test.YtdonnbdegnkflaaGreatDoorQs0
import Derived.Test.YtdonnbdegnkflaaGreatDoorQs5
import Derived.Test.YtdonnbdegnkflaaGreatDoorQs6
import Derived.Test.YtdonnbdegnkflaaGreatDoorQs1
import Derived.Test.YtdonnbdegnkflaaGreatDoorQs2
import Derived.Test.YtdonnbdegnkflaaGreatDoorQs3
import Derived.Test.YtdonnbdegnkflaaGreatDoorQs4
import Derived.KernelRfl
set_option linter.all false
section
namespace Go.Proofs.YtdonnbdegnkflaaGreatDoor
open Go.Vse
open Go (BinOp IntKind UnOp)
set_option maxRecDepth 100000
theorem z3r:zab pr zVC:=rE zaj [zaQ,zbD,zcE,zbq,zgD,zcH,zpY] ⟨za4,zcJ,zdz,zct,zi0,zdG,zxF,trivial⟩ (by kernel_rfl)
theorem z3t:zab pr zVD:=rE zaj [zaQ,zbu,zbj,zgD,zcH,zqb,zlV] ⟨za4,zcC,zca,zi0,zdG,zxP,zrm,trivial⟩ (by kernel_rfl)
theorem z3u:zab pr zVE:=rE zaj [zaQ,zbN,zbj,zgD,zcH,zm2,zm3] ⟨za4,zcL,zca,zi0,zdG,zta,ztd,trivial⟩ (by kernel_rfl)
theorem z3v:zab pr zVF:=rE zaj [zaQ,zbO,zdQ,zgD,zcH,znd,znh] ⟨za4,zcM,zex,zi0,zdG,zto,ztp,trivial⟩ (by kernel_rfl)
theorem z3x:zab pr zVH:=rE zaj [zaQ,zaq,zgD,zcH,zfl,zrv] ⟨za4,zay,zi0,zdG,zgX,zyI,trivial⟩ (by kernel_rfl)
theorem z3z:zab pr zVI:=rE zaj [zaQ,zbt,zgD,zcH] ⟨za4,zcA,zi0,zdG,trivial⟩ (by kernel_rfl)
theorem z3A:zab pr zVJ:=rE zaj [zaQ,zbY,zgD,zcH,ztV] ⟨za4,zcX,zi0,zdG,zEB,trivial⟩ (by kernel_rfl)
theorem ztz:zab pr znn:=rE zak [] trivial (by kernel_rfl)
theorem z3B:zab pr zVK:=rE zaj [zaQ,zbh,zgD,zcH,zd7,zjX,znn] ⟨za4,zbX,zi0,zdG,zeR,zmc,ztz,trivial⟩ (by kernel_rfl)
theorem z3D:zab pr zVL:=rE zaj [zaX,zbD,zcF,zcH,zgE,zpZ,zgM] ⟨zbl,zcJ,zdA,zdG,zi2,zxG,zi6,trivial⟩ (by kernel_rfl)
theorem z3E:zab pr zVM:=rE zaj [zaX,zbu,zbq,zcH,zgE,zqc,zk8] ⟨zbl,zcC,zct,zdG,zi2,zxR,zoh,trivial⟩ (by kernel_rfl)
theorem z3F:zab pr zVN:=rE zaj [zaX,zbN,zbq,zcH,zgE,zm5,zm7] ⟨zbl,zcL,zct,zdG,zi2,zth,ztj,trivial⟩ (by kernel_rfl)
theorem z3H:zab pr zVP:=rE zaj [zaX,zbO,zdR,zcH,zgE,zni,znk] ⟨zbl,zcM,zey,zdG,zi2,ztt,ztv,trivial⟩ (by kernel_rfl)
theorem z3J:zab pr zVQ:=rE zaj [zaX,zaq,zbj,zcH,zgE,zry] ⟨zbl,zay,zca,zdG,zi2,zyK,trivial⟩ (by kernel_rfl)
theorem z3K:zab pr zVR:=rE zaj [zaX,zbt,zcH,zgE] ⟨zbl,zcA,zdG,zi2,trivial⟩ (by kernel_rfl)
theorem z3L:zab pr zVS:=rE zaj [zaX,zbY,zcH,zgE,zd7,zjX,znn] ⟨zbl,zcX,zdG,zi2,zeR,zmc,ztz,trivial⟩ (by kernel_rfl)
theorem z3M:zab pr zVU:=rE zaj [zaX,zbh,zcH,zgE,ztY] ⟨zbl,zbX,zdG,zi2,zEC,trivial⟩ (by kernel_rfl)
theorem zis:zab pr zgd:=rE zak [] trivial (by kernel_rfl)
theorem zHu:zab pr zvo:=rE zak [] trivial (by kernel_rfl)
theorem z3N:zab pr zVV:=rE zaj [zaQ,zbD,zbn,zcE,zcG,zgd,zvo] ⟨za4,zcJ,zcs,zdz,zdD,zis,zHu,trivial⟩ (by kernel_rfl)
theorem zHv:zab pr zvq:=rE zak [] trivial (by kernel_rfl)
theorem z3O:zab pr zVW:=rE zaj [zaQ,zbu,zbn,zbj,zgM,zgd,zvq] ⟨za4,zcC,zcs,zca,zi6,zis,zHv,trivial⟩ (by kernel_rfl)
theorem zHw:zab pr zvr:=rE zak [] trivial (by kernel_rfl)
theorem z3P:zab pr zVY:=rE zaj [zaQ,zbN,zbn,zbj,zdR,zgd,zvr] ⟨za4,zcL,zcs,zca,zey,zis,zHw,trivial⟩ (by kernel_rfl)
theorem zHz:zab pr zvs:=rE zak [] trivial (by kernel_rfl)
theorem z3S:zab pr zVZ:=rE zaj [zaQ,zbO,zbn,zdQ,zlV,zgd,zvs] ⟨za4,zcM,zcs,zex,zrm,zis,zHz,trivial⟩ (by kernel_rfl)
theorem zHA:zab pr zvu:=rE zak [] trivial (by kernel_rfl)
theorem z3T:zab pr zV1:=rE zaj [zaQ,zaq,zbn,zbd,zgd,zvu] ⟨za4,zay,zcs,zbz,zis,zHA,trivial⟩ (by kernel_rfl)
theorem z4a:zab pr zV2:=rE zaj [zaQ,zbt,zbn,zgd] ⟨za4,zcA,zcs,zis,trivial⟩ (by kernel_rfl)
theorem z4b:zab pr zV3:=rE zaj [zaQ,zbY,zbn,ztV,zgd] ⟨za4,zcX,zcs,zEB,zis,trivial⟩ (by kernel_rfl)
theorem zHD:zab pr zvv:=rE zak [] trivial (by kernel_rfl)
theorem zHH:zab pr zvw:=rE zak [] trivial (by kernel_rfl)
theorem z4e:zab pr zV4:=rE zaj [zaQ,zbh,zbn,zd7,zgd,zvv,zvw] ⟨za4,zbX,zcs,zeR,zis,zHD,zHH,trivial⟩ (by kernel_rfl)
theorem z4f:zab pr zV8:=rE zaj [zbD,zgH,zgJ,zd7,zp0,zp1,znQ] ⟨zcJ,zi3,zi4,zeR,zxI,zxJ,ztT,trivial⟩ (by kernel_rfl)
theorem z4h:zab pr zWc:=rE zaj [zbu,zgH,zgJ,zd7,zqd,zqe,zh2] ⟨zcC,zi3,zi4,zeR,zxT,zxW,zkU,trivial⟩ (by kernel_rfl)
theorem z4j:zab pr zWe:=rE zaj [zbN,zgH,zgJ,zd7,zh2,zm9,zna] ⟨zcL,zi3,zi4,zeR,zkU,ztk,ztm,trivial⟩ (by kernel_rfl)
theorem z4l:zab pr zWf:=rE zaj [zbO,zgH,zgJ,zd7,znl,znm,zlB] ⟨zcM,zi3,zi4,zeR,ztw,zty,zpG,trivial⟩ (by kernel_rfl)
theorem z4m:zab pr zWg:=rE zaj [zaq,zgH,zgJ,zd7,zjX,znn] ⟨zay,zi3,zi4,zeR,zmc,ztz,trivial⟩ (by kernel_rfl)
theorem z4q:zab pr zWh:=rE zaj [zbt,zgH,zgJ,zd7] ⟨zcA,zi3,zi4,zeR,trivial⟩ (by kernel_rfl)
end Go.Proofs.YtdonnbdegnkflaaGreatDoor
end
section
namespace Go.Proofs.YtdonnbdegnkflaaGreatDoor
open Go.Vse
open Go (BinOp IntKind UnOp)
set_option maxRecDepth 100000
theorem z4r:zab pr zBJ:=rE zak [] trivial (by kernel_rfl)
theorem z4t:zab pr zWj:=rE zeD [zbY,zgH,zgJ,zd7,zBJ] ⟨zcX,zi3,zi4,zeR,z4r,trivial⟩ (by kernel_rfl)
theorem z4A:zab pr zBK:=rE zak [] trivial (by kernel_rfl)
theorem z4C:zab pr zWl:=rE zeD [zbh,zgH,zgJ,zd7,zBK] ⟨zbX,zi3,zi4,zeR,z4A,trivial⟩ (by kernel_rfl)
theorem ziu:zab pr zgg:=rE zak [] trivial (by kernel_rfl)
theorem zHI:zab pr zvx:=rE zak [] trivial (by kernel_rfl)
theorem z4F:zab pr zWm:=rE zaj [zbk,zaX,zbD,zbd,zcF,zgg,zvx] ⟨zcx,zbl,zcJ,zbz,zdA,ziu,zHI,trivial⟩ (by kernel_rfl)
theorem zHJ:zab pr zvz:=rE zak [] trivial (by kernel_rfl)
theorem z4G:zab pr zWo:=rE zaj [zbk,zaX,zbu,zbq,zfl,zgg,zvz] ⟨zcx,zbl,zcC,zct,zgX,ziu,zHJ,trivial⟩ (by kernel_rfl)
theorem zHL:zab pr zvA:=rE zak [] trivial (by kernel_rfl)
theorem z4J:zab pr zWq:=rE zaj [zbk,zaX,zbN,zbq,zdQ,zgg,zvA] ⟨zcx,zbl,zcL,zct,zex,ziu,zHL,trivial⟩ (by kernel_rfl)
theorem zHO:zab pr zvD:=rE zak [] trivial (by kernel_rfl)
theorem z4K:zab pr zWs:=rE zaj [zbk,zaX,zbO,zbj,zdR,zgg,zvD] ⟨zcx,zbl,zcM,zca,zey,ziu,zHO,trivial⟩ (by kernel_rfl)
theorem zHP:zab pr zvE:=rE zak [] trivial (by kernel_rfl)
theorem z4L:zab pr zWt:=rE zaj [zbk,zaX,zaq,zej,zgg,zvE] ⟨zcx,zbl,zay,ze8,ziu,zHP,trivial⟩ (by kernel_rfl)
theorem z4O:zab pr zWu:=rE zaj [zbk,zaX,zbt,zgg] ⟨zcx,zbl,zcA,ziu,trivial⟩ (by kernel_rfl)
theorem zHR:zab pr zvG:=rE zak [] trivial (by kernel_rfl)
theorem z4P:zab pr zWw:=rE zaj [zbk,zaX,zbY,zd7,zk8,zgg,zvG] ⟨zcx,zbl,zcX,zeR,zoh,ziu,zHR,trivial⟩ (by kernel_rfl)
theorem z4R:zab pr zWx:=rE zaj [zbk,zaX,zbh,ztY,zgg] ⟨zcx,zbl,zbX,zEC,ziu,trivial⟩ (by kernel_rfl)
theorem zk4:zab pr zno:=rE QsK8 [zbf,zaK,zbt,zaq,zIB] ⟨zb7,zaT,zcA,zay,zEA,trivial⟩ (by kernel_rfl)
theorem zk5:zab pr zlC:=rE zc0 [zp4,zbf,zbk,zaK,zbD,zaq] ⟨Qs7,zb7,zcx,zaT,zcJ,zay,trivial⟩ (by kernel_rfl)
theorem zk6:zab pr zlD:=rE zc0 [zbf,zbk,zll,zaS,zme,zaK,zbu,zbN,zaq] ⟨zb7,zcx,zpH,za7,zsh,zaT,zcC,zcL,zay,trivial⟩ (by kernel_rfl)
theorem zlP:zab pr znq:=rE zc0 [zbf,zbk,zll,zaS,zme,zaK,zbu,zbN,zaq] ⟨zb7,zcx,zpH,za7,zsh,zaT,zcC,zcL,zay,trivial⟩ (by kernel_rfl)
theorem zlQ:zab pr znr:=rE zc0 [zbf,zaS,zoj,zbB,zaK,zbO,zaq,zgK] ⟨zb7,za7,zvi,zcW,zaT,zcM,zay,zi5,trivial⟩ (by kernel_rfl)
theorem zjO:zab pr zhh:=rE zcr [zbf] ⟨zb7,trivial⟩ (by kernel_rfl)
theorem zHS:zab pr zvI:=rE QsK10 [zbf,zaq,zhh] ⟨zb7,zay,zjO,trivial⟩ (by kernel_rfl)
theorem zlR:zab pr zns:=rE zQw [zaK,zbt,zaq,zvI] ⟨zaT,zcA,zay,zHS,trivial⟩ (by kernel_rfl)
theorem zHT:zab pr zvJ:=rE zak [] trivial (by kernel_rfl)
theorem zlT:zab pr znw:=rE zc0 [zbk,zaS,zrD,zaQ,zaK,zaq,zbY,zvJ] ⟨zcx,za7,zyN,za4,zaT,zay,zcX,zHT,trivial⟩ (by kernel_rfl)
theorem zHU:zab pr zvK:=rE zak [] trivial (by kernel_rfl)
theorem zlU:zab pr znz:=rE zc0 [zbf,zrE,zaX,zaK,zaq,zbh,zbn,zvK] ⟨zb7,zyO,zbl,zaT,zay,zbX,zcs,zHU,trivial⟩ (by kernel_rfl)
theorem zHV:zab pr zvL:=rE zak [] trivial (by kernel_rfl)
theorem zHW:zab pr zWB:=rE zc0 [zbf,zaQ,zaK,zaq,zgb,zbn,zvL] ⟨zb7,za4,zaT,zay,ziD,zcs,zHV,trivial⟩ (by kernel_rfl)
theorem zHX:zab pr zWF:=rE zc0 [zbf,zaX,zaK,zaq,zbn,zgc,zvL] ⟨zb7,zbl,zaT,zay,zcs,ziF,zHV,trivial⟩ (by kernel_rfl)
theorem zHY:zab pr zWG:=rE zc0 [zbf,zaS,zoj,zbB,zaK,zbO,zaq,zgK] ⟨zb7,za7,zvi,zcW,zaT,zcM,zay,zi5,trivial⟩ (by kernel_rfl)
end Go.Proofs.YtdonnbdegnkflaaGreatDoor
end
