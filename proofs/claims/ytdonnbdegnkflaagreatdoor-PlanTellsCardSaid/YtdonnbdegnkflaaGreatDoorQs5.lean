/- Closed runs. Written by program. -/
import Derived.Test.YtdonnbdegnkflaaGreatDoorQsE
import Derived.Test.YtdonnbdegnkflaaGreatDoorQs0
import Derived.Test.YtdonnbdegnkflaaGreatDoorQs1
import Derived.Test.YtdonnbdegnkflaaGreatDoorQs2
import Derived.Test.YtdonnbdegnkflaaGreatDoorQs3
import Derived.Test.YtdonnbdegnkflaaGreatDoorQs4
import Derived.KernelRfl
set_option linter.all false
section
namespace Go.Proofs.YtdonnbdegnkflaaGreatDoor
open Go.Vse
open Go (BinOp IntKind UnOp)
set_option maxRecDepth 100000
theorem zxW:zab pr zqe:=rE zak [] trivial (by kernel_rfl)
theorem zkU:zab pr zh2:=rE zak [] trivial (by kernel_rfl)
theorem Qs918:zab pr zabK:=rE zaj [zbh,zcF,zgp,zbj,zqd,zqe,zh2] ⟨zbX,zdA,ziN,zca,zxT,zxW,zkU,trivial⟩ (by kernel_rfl)
theorem Qs923:zab pr zabL:=rE zaj [zbD,zcE,zgr,zbq,zpP,zpQ,zhW] ⟨zcJ,zdz,ziO,zct,zxv,zxy,zkO,trivial⟩ (by kernel_rfl)
theorem zQf:zab pr zzD:=rE zak [] trivial (by kernel_rfl)
theorem Qs935:zab pr zabM:=rE zaj [zbu,zcE,zgr,zbq,zzD] ⟨zcC,zdz,ziO,zct,zQf,trivial⟩ (by kernel_rfl)
theorem zQg:zab pr zzF:=rE zcr [zzx] ⟨zQa,trivial⟩ (by kernel_rfl)
theorem Qs946:zab pr zabN:=rE zeD [zbN,zcE,zgr,zbq,zzF] ⟨zcL,zdz,ziO,zct,zQg,trivial⟩ (by kernel_rfl)
theorem Qs949:zab pr zabO:=rE zaj [zbO,zcE,zgr,zbq,zqa,zjX,zh0] ⟨zcM,zdz,ziO,zct,zxO,zmc,zkT,trivial⟩ (by kernel_rfl)
theorem Qs952:zab pr zabP:=rE zaj [zaq,zcE,zgr,zbq,zqc,zk8] ⟨zay,zdz,ziO,zct,zxR,zoh,trivial⟩ (by kernel_rfl)
theorem Qs955:zab pr zabQ:=rE zaj [zbt,zcE,zgr,zbq] ⟨zcA,zdz,ziO,zct,trivial⟩ (by kernel_rfl)
theorem Qs959:zab pr zabR:=rE zaj [zbY,zcE,zgr,zbq,zqd,zqe,zh2] ⟨zcX,zdz,ziO,zct,zxT,zxW,zkU,trivial⟩ (by kernel_rfl)
theorem zQi:zab pr zzI:=rE zak [] trivial (by kernel_rfl)
theorem Qs973:zab pr zabS:=rE zaj [zbh,zcE,zgr,zbq,zzI] ⟨zbX,zdz,ziO,zct,zQi,trivial⟩ (by kernel_rfl)
theorem Qs976:zab pr zabT:=rE zeD [zbD,zbd,zcb,zgs,zy5] ⟨zcJ,zbz,zc1,ziP,zPD,trivial⟩ (by kernel_rfl)
theorem Qs978:zab pr zabU:=rE zeD [zbu,zbd,zcb,zgs,zzm] ⟨zcC,zbz,zc1,ziP,zP4,trivial⟩ (by kernel_rfl)
theorem Qs984:zab pr zabV:=rE zaj [zbN,zbd,zcb,zgs,zzj,zzs] ⟨zcL,zbz,zc1,ziP,zP2,zP7,trivial⟩ (by kernel_rfl)
theorem Qs993:zab pr zabW:=rE zaj [zbO,zbd,zcb,zgs,zzo] ⟨zcM,zbz,zc1,ziP,zP5,trivial⟩ (by kernel_rfl)
theorem zxZ:zab pr zqh:=rE zak [] trivial (by kernel_rfl)
theorem Qs999:zab pr zabX:=rE zaj [zaq,zbd,zcb,zgs,zgM,zqh] ⟨zay,zbz,zc1,ziP,zi6,zxZ,trivial⟩ (by kernel_rfl)
theorem z1o:zab pr zT7:=rE zaj [zbt,zbd,zcb,zgs] ⟨zcA,zbz,zc1,ziP,trivial⟩ (by kernel_rfl)
theorem zs5:zab pr zmV:=rE zak [] trivial (by kernel_rfl)
end Go.Proofs.YtdonnbdegnkflaaGreatDoor
end
section
namespace Go.Proofs.YtdonnbdegnkflaaGreatDoor
open Go.Vse
open Go (BinOp IntKind UnOp)
set_option maxRecDepth 100000
theorem zs7:zab pr zmX:=rE zak [] trivial (by kernel_rfl)
theorem z1p:zab pr zT9:=rE zaj [zbY,zbd,zcb,zgs,zhZ,zmV,zmX] ⟨zcX,zbz,zc1,ziP,zkP,zs5,zs7,trivial⟩ (by kernel_rfl)
theorem zs8:zab pr zmY:=rE zak [] trivial (by kernel_rfl)
theorem zs9:zab pr zm1:=rE zak [] trivial (by kernel_rfl)
theorem z1q:zab pr zUa:=rE zaj [zbh,zbd,zcb,zgs,zh0,zmY,zm1] ⟨zbX,zbz,zc1,ziP,zkT,zs8,zs9,trivial⟩ (by kernel_rfl)
theorem z1s:zab pr zUb:=rE zaj [zaS,zaQ,zbD,zbn,zgt,zpR,zfl] ⟨za7,za4,zcJ,zcs,ziQ,zxz,zgX,trivial⟩ (by kernel_rfl)
theorem z1t:zab pr zUc:=rE zeD [zaS,zaQ,zbu,zgt,zzq] ⟨za7,za4,zcC,ziQ,zP6,trivial⟩ (by kernel_rfl)
theorem z1u:zab pr zUd:=rE zaj [zaS,zaQ,zbN,zpM,zgt,zyV] ⟨za7,za4,zcL,zxq,ziQ,zPr,trivial⟩ (by kernel_rfl)
theorem z1w:zab pr zUf:=rE zaj [zaS,zaQ,zbO,zcb,zgt,zgM,zqh] ⟨za7,za4,zcM,zc1,ziQ,zi6,zxZ,trivial⟩ (by kernel_rfl)
theorem zyC:zab pr zrn:=rE zak [] trivial (by kernel_rfl)
theorem z1y:zab pr zUg:=rE zaj [zaS,zaQ,zaq,zgt,zcH,zrn] ⟨za7,za4,zay,ziQ,zdG,zyC,trivial⟩ (by kernel_rfl)
theorem z1A:zab pr zUi:=rE zaj [zaS,zaQ,zbt,zgt] ⟨za7,za4,zcA,ziQ,trivial⟩ (by kernel_rfl)
theorem zta:zab pr zm2:=rE zak [] trivial (by kernel_rfl)
theorem ztd:zab pr zm3:=rE zak [] trivial (by kernel_rfl)
theorem z1C:zab pr zUj:=rE zaj [zaS,zaQ,zbY,zbj,zgt,zm2,zm3] ⟨za7,za4,zcX,zca,ziQ,zta,ztd,trivial⟩ (by kernel_rfl)
theorem zth:zab pr zm5:=rE zak [] trivial (by kernel_rfl)
theorem ztj:zab pr zm7:=rE zak [] trivial (by kernel_rfl)
theorem z1D:zab pr zUk:=rE zaj [zaS,zaQ,zbh,zbq,zgt,zm5,zm7] ⟨za7,za4,zbX,zct,ziQ,zth,ztj,trivial⟩ (by kernel_rfl)
theorem z1E:zab pr zUl:=rE zaj [zbD,zbj,zgu,zeY,zhU,zpS,zpU] ⟨zcJ,zca,ziS,zf6,zkN,zxA,zxC,trivial⟩ (by kernel_rfl)
theorem z1F:zab pr zUm:=rE zeD [zbu,zbj,zgu,zeY,zzy] ⟨zcC,zca,ziS,zf6,zQc,trivial⟩ (by kernel_rfl)
theorem z1J:zab pr zUn:=rE zaj [zbN,zbj,zgu,zeY,zzw] ⟨zcL,zca,ziS,zf6,zP8,trivial⟩ (by kernel_rfl)
theorem z1L:zab pr zUo:=rE zaj [zbO,zbj,zgu,zeY,zhZ,zmV,zmX] ⟨zcM,zca,ziS,zf6,zkP,zs5,zs7,trivial⟩ (by kernel_rfl)
theorem z1M:zab pr zUp:=rE zaj [zaq,zbj,zgu,zeY,zm2,zm3] ⟨zay,zca,ziS,zf6,zta,ztd,trivial⟩ (by kernel_rfl)
theorem z1N:zab pr zUq:=rE zaj [zbt,zbj,zgu,zeY] ⟨zcA,zca,ziS,zf6,trivial⟩ (by kernel_rfl)
theorem z1O:zab pr zUr:=rE zaj [zbY,zbj,zgu,zeY,zzz] ⟨zcX,zca,ziS,zf6,zQd,trivial⟩ (by kernel_rfl)
theorem ztk:zab pr zm9:=rE zak [] trivial (by kernel_rfl)
theorem ztm:zab pr zna:=rE zak [] trivial (by kernel_rfl)
theorem z1P:zab pr zUt:=rE zaj [zbh,zbj,zgu,zeY,zh2,zm9,zna] ⟨zbX,zca,ziS,zf6,zkU,ztk,ztm,trivial⟩ (by kernel_rfl)
theorem z1R:zab pr zUu:=rE zaj [zbD,zbq,zgw,zcG,zhW,zpV,zpW] ⟨zcJ,zct,ziT,zdD,zkO,zxD,zxE,trivial⟩ (by kernel_rfl)
theorem z1S:zab pr zUw:=rE zeD [zbu,zbq,zgw,zcG,zzF] ⟨zcC,zct,ziT,zdD,zQg,trivial⟩ (by kernel_rfl)
end Go.Proofs.YtdonnbdegnkflaaGreatDoor
end
