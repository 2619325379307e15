/- Closed runs. Written by program. -/
import Derived.Test.YtdonnbdegnkflaaGreatDoorQsE
import Derived.Test.YtdonnbdegnkflaaGreatDoorQs0
import Derived.Test.YtdonnbdegnkflaaGreatDoorQs5
import Derived.Test.YtdonnbdegnkflaaGreatDoorQs1
import Derived.Test.YtdonnbdegnkflaaGreatDoorQs3
import Derived.Test.YtdonnbdegnkflaaGreatDoorQs4
import Derived.KernelRfl
import Derived.Test.YtdonnbdegnkflaaGreatDoorQs2
set_option linter.all false
section
namespace Go.Proofs.YtdonnbdegnkflaaGreatDoor
open Go.Vse
open Go (BinOp IntKind UnOp)
set_option maxRecDepth 100000
theorem z1U:zab pr zUx:=rE zaj [zbN,zbq,zgw,zcG,zzD] ⟨zcL,zct,ziT,zdD,zQf,trivial⟩ (by kernel_rfl)
theorem z1X:zab pr zUB:=rE zaj [zbO,zbq,zgw,zcG,zh0,zmY,zm1] ⟨zcM,zct,ziT,zdD,zkT,zs8,zs9,trivial⟩ (by kernel_rfl)
theorem z1Z:zab pr zUC:=rE zaj [zaq,zbq,zgw,zcG,zm5,zm7] ⟨zay,zct,ziT,zdD,zth,ztj,trivial⟩ (by kernel_rfl)
theorem z15:zab pr zUD:=rE zaj [zbt,zbq,zgw,zcG] ⟨zcA,zct,ziT,zdD,trivial⟩ (by kernel_rfl)
theorem z18:zab pr zUF:=rE zaj [zbY,zbq,zgw,zcG,zh2,zm9,zna] ⟨zcX,zct,ziT,zdD,zkU,ztk,ztm,trivial⟩ (by kernel_rfl)
theorem z2c:zab pr zUG:=rE zaj [zbh,zbq,zgw,zcG,zzI] ⟨zbX,zct,ziT,zdD,zQi,trivial⟩ (by kernel_rfl)
theorem z2e:zab pr zUH:=rE zeD [zbB,zaQ,zbD,zgx,zze] ⟨zcW,za4,zcJ,ziU,zPU,trivial⟩ (by kernel_rfl)
theorem z2f:zab pr zUJ:=rE zaj [zbB,zaQ,zbu,zcb,zeY,zgx,zp5] ⟨zcW,za4,zcC,zc1,zf6,ziU,zxK,trivial⟩ (by kernel_rfl)
theorem z2h:zab pr zUK:=rE zaj [zbB,zaQ,zbN,zcb,zgx,zgM,zqh] ⟨zcW,za4,zcL,zc1,ziU,zi6,zxZ,trivial⟩ (by kernel_rfl)
theorem z2i:zab pr zUN:=rE zaj [zbB,zaQ,zbO,zyT,zgx] ⟨zcW,za4,zcM,zOJ,ziU,trivial⟩ (by kernel_rfl)
theorem zyG:zab pr zrt:=rE zak [] trivial (by kernel_rfl)
theorem z2j:zab pr zUO:=rE zaj [zbB,zaQ,zaq,zej,zgx,zrt] ⟨zcW,za4,zay,ze8,ziU,zyG,trivial⟩ (by kernel_rfl)
theorem z2k:zab pr zUQ:=rE zaj [zbB,zaQ,zbt,zgx] ⟨zcW,za4,zcA,ziU,trivial⟩ (by kernel_rfl)
theorem zto:zab pr znd:=rE zak [] trivial (by kernel_rfl)
theorem ztp:zab pr znh:=rE zak [] trivial (by kernel_rfl)
theorem z2m:zab pr zUR:=rE zaj [zbB,zaQ,zbY,zgx,zdQ,znd,znh] ⟨zcW,za4,zcX,ziU,zex,zto,ztp,trivial⟩ (by kernel_rfl)
theorem ztt:zab pr zni:=rE zak [] trivial (by kernel_rfl)
theorem ztv:zab pr znk:=rE zak [] trivial (by kernel_rfl)
theorem z2o:zab pr zUV:=rE zaj [zbB,zaQ,zbh,zgx,zdR,zni,znk] ⟨zcW,za4,zbX,ziU,zey,ztt,ztv,trivial⟩ (by kernel_rfl)
theorem z2p:zab pr zUY:=rE zeD [zbD,zcG,zgy,zdQ,zzh] ⟨zcJ,zdD,ziV,zex,zPW,trivial⟩ (by kernel_rfl)
theorem z2q:zab pr zU0:=rE zaj [zbu,zcG,zgy,zdQ,zp6,zp9,zhZ] ⟨zcC,zdD,ziV,zex,zxM,zxN,zkP,trivial⟩ (by kernel_rfl)
theorem z2t:zab pr zU2:=rE zaj [zbN,zcG,zgy,zdQ,zhZ,zmV,zmX] ⟨zcL,zdD,ziV,zex,zkP,zs5,zs7,trivial⟩ (by kernel_rfl)
theorem z2w:zab pr zBE:=rE zak [] trivial (by kernel_rfl)
theorem z2x:zab pr zU6:=rE zeD [zbO,zcG,zgy,zdQ,zBE] ⟨zcM,zdD,ziV,zex,z2w,trivial⟩ (by kernel_rfl)
theorem z2y:zab pr zU7:=rE zaj [zaq,zcG,zgy,zdQ,znd,znh] ⟨zay,zdD,ziV,zex,zto,ztp,trivial⟩ (by kernel_rfl)
theorem z2z:zab pr zU8:=rE zaj [zbt,zcG,zgy,zdQ] ⟨zcA,zdD,ziV,zex,trivial⟩ (by kernel_rfl)
end Go.Proofs.YtdonnbdegnkflaaGreatDoor
end
section
namespace Go.Proofs.YtdonnbdegnkflaaGreatDoor
open Go.Vse
open Go (BinOp IntKind UnOp)
set_option maxRecDepth 100000
theorem z2A:zab pr zBF:=rE zak [] trivial (by kernel_rfl)
theorem z2B:zab pr zU9:=rE zeD [zbY,zcG,zgy,zdQ,zBF] ⟨zcX,zdD,ziV,zex,z2A,trivial⟩ (by kernel_rfl)
theorem ztw:zab pr znl:=rE zak [] trivial (by kernel_rfl)
theorem zty:zab pr znm:=rE zak [] trivial (by kernel_rfl)
theorem zpG:zab pr zlB:=rE zak [] trivial (by kernel_rfl)
theorem z2C:zab pr zVa:=rE zaj [zbh,zcG,zgy,zdQ,znl,znm,zlB] ⟨zbX,zdD,ziV,zex,ztw,zty,zpG,trivial⟩ (by kernel_rfl)
theorem z2D:zab pr zVc:=rE zeD [zbD,zbd,zgz,zdR,zzi] ⟨zcJ,zbz,ziX,zey,zP1,trivial⟩ (by kernel_rfl)
theorem z2E:zab pr zVd:=rE zaj [zbu,zbd,zgz,zdR,zqa,zjX,zh0] ⟨zcC,zbz,ziX,zey,zxO,zmc,zkT,trivial⟩ (by kernel_rfl)
theorem z2I:zab pr zVf:=rE zaj [zbN,zbd,zgz,zdR,zh0,zmY,zm1] ⟨zcL,zbz,ziX,zey,zkT,zs8,zs9,trivial⟩ (by kernel_rfl)
theorem z2J:zab pr zBH:=rE zak [] trivial (by kernel_rfl)
theorem z2K:zab pr zVh:=rE zeD [zbO,zbd,zgz,zdR,zBH] ⟨zcM,zbz,ziX,zey,z2J,trivial⟩ (by kernel_rfl)
theorem z2M:zab pr zVi:=rE zaj [zaq,zbd,zgz,zdR,zni,znk] ⟨zay,zbz,ziX,zey,ztt,ztv,trivial⟩ (by kernel_rfl)
theorem z2N:zab pr zVk:=rE zaj [zbt,zbd,zgz,zdR] ⟨zcA,zbz,ziX,zey,trivial⟩ (by kernel_rfl)
theorem z2O:zab pr zVm:=rE zaj [zbY,zbd,zgz,zdR,znl,znm,zlB] ⟨zcX,zbz,ziX,zey,ztw,zty,zpG,trivial⟩ (by kernel_rfl)
theorem z2Q:zab pr zBI:=rE zak [] trivial (by kernel_rfl)
theorem z2T:zab pr zVn:=rE zeD [zbh,zbd,zgz,zdR,zBI] ⟨zbX,zbz,ziX,zey,z2Q,trivial⟩ (by kernel_rfl)
theorem z2U:zab pr zVo:=rE zaj [zbf,zbk,zaQ,zbD,zgC,zt3] ⟨zb7,zcx,za4,zcJ,ziZ,zEF,trivial⟩ (by kernel_rfl)
theorem z2V:zab pr zVq:=rE zaj [zbf,zbk,zaS,zaX,zbu,zgC,zt4] ⟨zb7,zcx,za7,zbl,zcC,ziZ,zEK,trivial⟩ (by kernel_rfl)
theorem z3e:zab pr zVr:=rE zaj [zbf,zbk,zaS,zbN,zgC,zcH,zrn] ⟨zb7,zcx,za7,zcL,ziZ,zdG,zyC,trivial⟩ (by kernel_rfl)
theorem z3f:zab pr zVs:=rE zaj [zbf,zbk,zbB,zbO,zej,zgC,zrt] ⟨zb7,zcx,zcW,zcM,ze8,ziZ,zyG,trivial⟩ (by kernel_rfl)
theorem zyH:zab pr zru:=rE zak [] trivial (by kernel_rfl)
theorem z3i:zab pr zVu:=rE zaj [zbf,zbk,zaS,zaq,zgC,zru] ⟨zb7,zcx,za7,zay,ziZ,zyH,trivial⟩ (by kernel_rfl)
theorem z3m:zab pr zVz:=rE zaj [zbf,zbk,zbt,zgC] ⟨zb7,zcx,zcA,ziZ,trivial⟩ (by kernel_rfl)
theorem zyI:zab pr zrv:=rE zak [] trivial (by kernel_rfl)
theorem z3o:zab pr zVA:=rE zaj [zbf,zbk,zaQ,zbY,zgC,zfl,zrv] ⟨zb7,zcx,za4,zcX,ziZ,zgX,zyI,trivial⟩ (by kernel_rfl)
theorem zyK:zab pr zry:=rE zak [] trivial (by kernel_rfl)
theorem z3p:zab pr zVB:=rE zaj [zbf,zbk,zaX,zbh,zbj,zgC,zry] ⟨zb7,zcx,zbl,zbX,zca,ziZ,zyK,trivial⟩ (by kernel_rfl)
end Go.Proofs.YtdonnbdegnkflaaGreatDoor
end
