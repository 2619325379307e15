/- Closed runs. Written by program. -/
import Derived.Test.YtdonnbdegnkflaaGreatDoorQsE
import Derived.Test.YtdonnbdegnkflaaGreatDoorQs0
import Derived.Test.YtdonnbdegnkflaaGreatDoorQs1
import Derived.Test.YtdonnbdegnkflaaGreatDoorQs2
import Derived.KernelRfl
set_option linter.all false
section
namespace Go.Proofs.YtdonnbdegnkflaaGreatDoor
open Go.Vse
open Go (BinOp IntKind UnOp)
set_option maxRecDepth 100000
theorem zP2:zab pr zzj:=rE zak [] trivial (by kernel_rfl)
theorem Qs755:zab pr zabo:=rE zaj [zaX,zbu,zgn,zcb,zy4,zzj] ⟨zbl,zcC,ziK,zc1,zPC,zP2,trivial⟩ (by kernel_rfl)
theorem zP3:zab pr zzk:=rE zak [] trivial (by kernel_rfl)
theorem zP4:zab pr zzm:=rE zcr [zzk] ⟨zP3,trivial⟩ (by kernel_rfl)
theorem Qs768:zab pr zabp:=rE zeD [zaX,zbN,zgn,zcb,zzm] ⟨zbl,zcL,ziK,zc1,zP4,trivial⟩ (by kernel_rfl)
theorem zP5:zab pr zzo:=rE zak [] trivial (by kernel_rfl)
theorem Qs783:zab pr zabq:=rE zaj [zaX,zbO,zgn,zcb,zzo] ⟨zbl,zcM,ziK,zc1,zP5,trivial⟩ (by kernel_rfl)
theorem zxK:zab pr zp5:=rE zak [] trivial (by kernel_rfl)
theorem Qs790:zab pr zabr:=rE zaj [zaX,zaq,zgn,zcb,zeY,zp5] ⟨zbl,zay,ziK,zc1,zf6,zxK,trivial⟩ (by kernel_rfl)
theorem Qs792:zab pr zabs:=rE zaj [zaX,zbt,zgn,zcb] ⟨zbl,zcA,ziK,zc1,trivial⟩ (by kernel_rfl)
theorem zxM:zab pr zp6:=rE zak [] trivial (by kernel_rfl)
theorem zxN:zab pr zp9:=rE zak [] trivial (by kernel_rfl)
theorem zkP:zab pr zhZ:=rE zak [] trivial (by kernel_rfl)
theorem Qs802:zab pr zabt:=rE zaj [zaX,zbY,zgn,zcb,zp6,zp9,zhZ] ⟨zbl,zcX,ziK,zc1,zxM,zxN,zkP,trivial⟩ (by kernel_rfl)
theorem zxO:zab pr zqa:=rE zak [] trivial (by kernel_rfl)
theorem zmc:zab pr zjX:=rE zak [] trivial (by kernel_rfl)
theorem zkT:zab pr zh0:=rE zak [] trivial (by kernel_rfl)
theorem Qs812:zab pr zabu:=rE zaj [zaX,zbh,zgn,zcb,zqa,zjX,zh0] ⟨zbl,zbX,ziK,zc1,zxO,zmc,zkT,trivial⟩ (by kernel_rfl)
theorem Qs814:zab pr zabv:=rE zaj [zaS,zbB,zbD,zbn,zbd,zgo,zpN] ⟨za7,zcW,zcJ,zcs,zbz,ziL,zxt,trivial⟩ (by kernel_rfl)
end Go.Proofs.YtdonnbdegnkflaaGreatDoor
end
section
namespace Go.Proofs.YtdonnbdegnkflaaGreatDoor
open Go.Vse
open Go (BinOp IntKind UnOp)
set_option maxRecDepth 100000
theorem Qs821:zab pr zabw:=rE zaj [zaS,zbB,zbu,zpM,zgo] ⟨za7,zcW,zcC,zxq,ziL,trivial⟩ (by kernel_rfl)
theorem zP6:zab pr zzq:=rE zcr [zyR,zyX] ⟨zOc,zPt,trivial⟩ (by kernel_rfl)
theorem Qs825:zab pr zabx:=rE zeD [zaS,zbB,zbN,zgo,zzq] ⟨za7,zcW,zcL,ziL,zP6,trivial⟩ (by kernel_rfl)
theorem Qs827:zab pr zaby:=rE zaj [zaS,zbB,zbO,zcb,zgo,zeY,zp5] ⟨za7,zcW,zcM,zc1,ziL,zf6,zxK,trivial⟩ (by kernel_rfl)
theorem zEK:zab pr zt4:=rE zak [] trivial (by kernel_rfl)
theorem Qs830:zab pr zabz:=rE zaj [zaS,zbB,zaX,zaq,zgo,zt4] ⟨za7,zcW,zbl,zay,ziL,zEK,trivial⟩ (by kernel_rfl)
theorem Qs832:zab pr zabA:=rE zaj [zaS,zbB,zbt,zgo] ⟨za7,zcW,zcA,ziL,trivial⟩ (by kernel_rfl)
theorem zxP:zab pr zqb:=rE zak [] trivial (by kernel_rfl)
theorem zrm:zab pr zlV:=rE zak [] trivial (by kernel_rfl)
theorem Qs839:zab pr zabB:=rE zaj [zaS,zbB,zbY,zgo,zbj,zqb,zlV] ⟨za7,zcW,zcX,ziL,zca,zxP,zrm,trivial⟩ (by kernel_rfl)
theorem zxR:zab pr zqc:=rE zak [] trivial (by kernel_rfl)
theorem zoh:zab pr zk8:=rE zak [] trivial (by kernel_rfl)
theorem Qs846:zab pr zabC:=rE zaj [zaS,zbB,zbh,zgo,zbq,zqc,zk8] ⟨za7,zcW,zbX,ziL,zct,zxR,zoh,trivial⟩ (by kernel_rfl)
theorem Qs851:zab pr zabD:=rE zaj [zbD,zcF,zgp,zbj,zpO,znP,zhU] ⟨zcJ,zdA,ziN,zca,zxu,ztP,zkN,trivial⟩ (by kernel_rfl)
theorem zP7:zab pr zzs:=rE zak [] trivial (by kernel_rfl)
theorem zP8:zab pr zzw:=rE zak [] trivial (by kernel_rfl)
theorem Qs865:zab pr zabE:=rE zaj [zbu,zcF,zgp,zbj,zzs,zzw] ⟨zcC,zdA,ziN,zca,zP7,zP8,trivial⟩ (by kernel_rfl)
theorem zQa:zab pr zzx:=rE zak [] trivial (by kernel_rfl)
theorem zQc:zab pr zzy:=rE zcr [zzk,zzx] ⟨zP3,zQa,trivial⟩ (by kernel_rfl)
theorem Qs873:zab pr zabF:=rE zeD [zbN,zcF,zgp,zbj,zzy] ⟨zcL,zdA,ziN,zca,zQc,trivial⟩ (by kernel_rfl)
theorem Qs876:zab pr zabG:=rE zaj [zbO,zcF,zgp,zbj,zp6,zp9,zhZ] ⟨zcM,zdA,ziN,zca,zxM,zxN,zkP,trivial⟩ (by kernel_rfl)
theorem Qs879:zab pr zabH:=rE zaj [zaq,zcF,zgp,zbj,zqb,zlV] ⟨zay,zdA,ziN,zca,zxP,zrm,trivial⟩ (by kernel_rfl)
theorem Qs882:zab pr zabI:=rE zaj [zbt,zcF,zgp,zbj] ⟨zcA,zdA,ziN,zca,trivial⟩ (by kernel_rfl)
theorem zQd:zab pr zzz:=rE zak [] trivial (by kernel_rfl)
theorem Qs903:zab pr zabJ:=rE zaj [zbY,zcF,zgp,zbj,zzz] ⟨zcX,zdA,ziN,zca,zQd,trivial⟩ (by kernel_rfl)
theorem zxT:zab pr zqd:=rE zak [] trivial (by kernel_rfl)
end Go.Proofs.YtdonnbdegnkflaaGreatDoor
end
