/- Closed runs. Written by program. -/
import Derived.Test.YtdonnbdegnkflaaGreatDoorQsE
import Derived.Test.YtdonnbdegnkflaaGreatDoorQs0
import Derived.KernelRfl
set_option linter.all false
section
namespace Go.Proofs.YtdonnbdegnkflaaGreatDoor
open Go.Vse
open Go (BinOp IntKind UnOp)
set_option maxRecDepth 100000
theorem zOs:zab pr z9T:=rE zaj [zbu,zbh,zcE,zgr,zbq] ⟨zcC,zbX,zdz,ziO,zct,trivial⟩ (by kernel_rfl)
theorem zOu:zab pr z9V:=rE zaj [zaX,zbD,zbN,zbn,zgc] ⟨zbl,zcJ,zcL,zcs,ziF,trivial⟩ (by kernel_rfl)
theorem zOw:zab pr z9X:=rE zvW [zbu,zbN,zyS] ⟨zcC,zcL,zOd,trivial⟩ (by kernel_rfl)
theorem zOx:zab pr z9Y:=rE zsi [zbN,zpM] ⟨zcL,zxq,trivial⟩ (by kernel_rfl)
theorem ziP:zab pr zgs:=rE zak [] trivial (by kernel_rfl)
theorem zOy:zab pr z9Z:=rE zaj [zbN,zbO,zbd,zcb,zgs] ⟨zcL,zcM,zbz,zc1,ziP,trivial⟩ (by kernel_rfl)
theorem ziQ:zab pr zgt:=rE zak [] trivial (by kernel_rfl)
theorem zOz:zab pr z90:=rE zaj [zaS,zaQ,zbN,zaq,zgt] ⟨za7,za4,zcL,zay,ziQ,trivial⟩ (by kernel_rfl)
theorem zOB:zab pr z92:=rE zaj [zbk,zaS,zme,zbt,zbN] ⟨zcx,za7,zsh,zcA,zcL,trivial⟩ (by kernel_rfl)
theorem ziS:zab pr zgu:=rE zak [] trivial (by kernel_rfl)
theorem zf6:zab pr zeY:=rE zak [] trivial (by kernel_rfl)
theorem zOE:zab pr z94:=rE zaj [zbN,zbY,zbj,zgu,zeY] ⟨zcL,zcX,zca,ziS,zf6,trivial⟩ (by kernel_rfl)
theorem ziT:zab pr zgw:=rE zak [] trivial (by kernel_rfl)
theorem zdD:zab pr zcG:=rE zak [] trivial (by kernel_rfl)
theorem zOF:zab pr z95:=rE zaj [zbN,zbh,zbq,zgw,zcG] ⟨zcL,zbX,zct,ziT,zdD,trivial⟩ (by kernel_rfl)
theorem zOG:zab pr z96:=rE zvW [zbD,zbO,zyQ] ⟨zcJ,zcM,zNV,trivial⟩ (by kernel_rfl)
theorem zOH:zab pr z97:=rE zaj [zaX,zbu,zbO,zgn,zcb] ⟨zbl,zcC,zcM,ziK,zc1,trivial⟩ (by kernel_rfl)
theorem zOI:zab pr z98:=rE zaj [zbN,zbO,zbd,zcb,zgs] ⟨zcL,zcM,zbz,zc1,ziP,trivial⟩ (by kernel_rfl)
theorem zOJ:zab pr zyT:=rE zak [] trivial (by kernel_rfl)
theorem zOL:zab pr z99:=rE zsi [zbO,zyT] ⟨zcM,zOJ,trivial⟩ (by kernel_rfl)
theorem ziU:zab pr zgx:=rE zak [] trivial (by kernel_rfl)
theorem zON:zab pr zaaa:=rE zaj [zbB,zaQ,zbO,zaq,zgx] ⟨zcW,za4,zcM,zay,ziU,trivial⟩ (by kernel_rfl)
theorem zOO:zab pr zaab:=rE zaj [zbf,zoj,zbB,zbt,zbO] ⟨zb7,zvi,zcW,zcA,zcM,trivial⟩ (by kernel_rfl)
theorem ziV:zab pr zgy:=rE zak [] trivial (by kernel_rfl)
theorem zex:zab pr zdQ:=rE zak [] trivial (by kernel_rfl)
theorem zOR:zab pr zaac:=rE zaj [zbO,zbY,zcG,zgy,zdQ] ⟨zcM,zcX,zdD,ziV,zex,trivial⟩ (by kernel_rfl)
theorem ziX:zab pr zgz:=rE zak [] trivial (by kernel_rfl)
theorem zey:zab pr zdR:=rE zak [] trivial (by kernel_rfl)
theorem zOT:zab pr zaad:=rE zaj [zbO,zbh,zbd,zgz,zdR] ⟨zcM,zbX,zbz,ziX,zey,trivial⟩ (by kernel_rfl)
theorem zOU:zab pr zaae:=rE zaj [zbk,zaS,zbD,zaq,zgi] ⟨zcx,za7,zcJ,zay,ziG,trivial⟩ (by kernel_rfl)
theorem zOV:zab pr zaaf:=rE zaj [zaS,zbB,zbu,zaq,zgo] ⟨za7,zcW,zcC,zay,ziL,trivial⟩ (by kernel_rfl)
theorem zOW:zab pr zaag:=rE zaj [zaS,zaQ,zbN,zaq,zgt] ⟨za7,za4,zcL,zay,ziQ,trivial⟩ (by kernel_rfl)
theorem zOX:zab pr zaah:=rE zaj [zbB,zaQ,zbO,zaq,zgx] ⟨zcW,za4,zcM,zay,ziU,trivial⟩ (by kernel_rfl)
theorem ziZ:zab pr zgC:=rE zak [] trivial (by kernel_rfl)
theorem zOY:zab pr zaai:=rE zaj [zbf,zbk,zaq,zgC] ⟨zb7,zcx,zay,ziZ,trivial⟩ (by kernel_rfl)
theorem zEA:zab pr zIB:=rE zvW [zrA,zbt,zaq] ⟨zyM,zcA,zay,trivial⟩ (by kernel_rfl)
theorem zi0:zab pr zgD:=rE zak [] trivial (by kernel_rfl)
theorem zdG:zab pr zcH:=rE zak [] trivial (by kernel_rfl)
theorem zOZ:zab pr zaaj:=rE zaj [zaQ,zaq,zbY,zgD,zcH] ⟨za4,zay,zcX,zi0,zdG,trivial⟩ (by kernel_rfl)
end Go.Proofs.YtdonnbdegnkflaaGreatDoor
end
section
namespace Go.Proofs.YtdonnbdegnkflaaGreatDoor
open Go.Vse
open Go (BinOp IntKind UnOp)
set_option maxRecDepth 100000
theorem zi2:zab pr zgE:=rE zak [] trivial (by kernel_rfl)
theorem zO0:zab pr zaak:=rE zaj [zaX,zaq,zbh,zcH,zgE] ⟨zbl,zay,zbX,zdG,zi2,trivial⟩ (by kernel_rfl)
theorem zO1:zab pr zaal:=rE zaj [zbD,zbY,zgj,zbd,zcE] ⟨zcJ,zcX,ziI,zbz,zdz,trivial⟩ (by kernel_rfl)
theorem zO2:zab pr zaam:=rE zaj [zbu,zbY,zcF,zgp,zbj] ⟨zcC,zcX,zdA,ziN,zca,trivial⟩ (by kernel_rfl)
theorem zO4:zab pr zaan:=rE zaj [zbN,zbY,zbj,zgu,zeY] ⟨zcL,zcX,zca,ziS,zf6,trivial⟩ (by kernel_rfl)
theorem zO6:zab pr zaao:=rE zaj [zbO,zbY,zcG,zgy,zdQ] ⟨zcM,zcX,zdD,ziV,zex,trivial⟩ (by kernel_rfl)
theorem zO8:zab pr zaap:=rE zaj [zaQ,zaq,zbY,zgD,zcH] ⟨za4,zay,zcX,zi0,zdG,trivial⟩ (by kernel_rfl)
theorem zO9:zab pr zaaq:=rE zaj [zaS,zrD,zaQ,zbt,zbY] ⟨za7,zyN,za4,zcA,zcX,trivial⟩ (by kernel_rfl)
theorem zEB:zab pr ztV:=rE zak [] trivial (by kernel_rfl)
theorem zPa:zab pr zaar:=rE zsi [zbY,ztV] ⟨zcX,zEB,trivial⟩ (by kernel_rfl)
theorem zi3:zab pr zgH:=rE zak [] trivial (by kernel_rfl)
theorem zi4:zab pr zgJ:=rE zak [] trivial (by kernel_rfl)
theorem zeR:zab pr zd7:=rE zak [] trivial (by kernel_rfl)
theorem zPb:zab pr zaas:=rE zaj [zbY,zbh,zgH,zgJ,zd7] ⟨zcX,zbX,zi3,zi4,zeR,trivial⟩ (by kernel_rfl)
theorem zPc:zab pr zaat:=rE zaj [zbD,zbh,zgm,zej,zcF] ⟨zcJ,zbX,ziJ,ze8,zdA,trivial⟩ (by kernel_rfl)
theorem zPd:zab pr zaau:=rE zaj [zbu,zbh,zcE,zgr,zbq] ⟨zcC,zbX,zdz,ziO,zct,trivial⟩ (by kernel_rfl)
theorem zPh:zab pr zaav:=rE zaj [zbN,zbh,zbq,zgw,zcG] ⟨zcL,zbX,zct,ziT,zdD,trivial⟩ (by kernel_rfl)
theorem zPj:zab pr zaaw:=rE zaj [zbO,zbh,zbd,zgz,zdR] ⟨zcM,zbX,zbz,ziX,zey,trivial⟩ (by kernel_rfl)
theorem zPk:zab pr zaax:=rE zaj [zaX,zaq,zbh,zcH,zgE] ⟨zbl,zay,zbX,zdG,zi2,trivial⟩ (by kernel_rfl)
theorem zPm:zab pr zaay:=rE zaj [zbf,zrE,zaX,zbt,zbh] ⟨zb7,zyO,zbl,zcA,zbX,trivial⟩ (by kernel_rfl)
theorem zPn:zab pr zaaz:=rE zaj [zbY,zbh,zgH,zgJ,zd7] ⟨zcX,zbX,zi3,zi4,zeR,trivial⟩ (by kernel_rfl)
theorem zEC:zab pr ztY:=rE zak [] trivial (by kernel_rfl)
theorem zPp:zab pr zaaA:=rE zsi [zbh,ztY] ⟨zbX,zEC,trivial⟩ (by kernel_rfl)
theorem zPq:zab pr zyU:=rE zak [] trivial (by kernel_rfl)
theorem Qs449:zab pr zaaB:=rE zaj [zaQ,zbD,zgb,zbn,zyU] ⟨za4,zcJ,ziD,zcs,zPq,trivial⟩ (by kernel_rfl)
theorem zPr:zab pr zyV:=rE zak [] trivial (by kernel_rfl)
end Go.Proofs.YtdonnbdegnkflaaGreatDoor
end
