/- Closed runs. Written by program. -/
import Derived.Test.YtlmnmaginhebdaaGreatDoorQsE
import Derived.Test.YtlmnmaginhebdaaGreatDoorQs0
import Derived.Test.YtlmnmaginhebdaaGreatDoorQs6
import Derived.Test.YtlmnmaginhebdaaGreatDoorQs7
import Derived.Test.YtlmnmaginhebdaaGreatDoorQs8
import Derived.Test.YtlmnmaginhebdaaGreatDoorQs1
import Derived.Test.YtlmnmaginhebdaaGreatDoorQs2
import Derived.Test.YtlmnmaginhebdaaGreatDoorQs4
import Derived.KernelRfl
set_option linter.all false
section
namespace Go.Proofs.YtlmnmaginhebdaaGreatDoor
open Go.Vse
open Go (BinOp IntKind UnOp)
set_option maxRecDepth 100000
theorem z3x:zab pr zVh:=rE zbQ [zaN,zaH,zao,zeb,zAv,zAw] ⟨za2,zaQ,zaw,zeO,z3u,z3v,trivial⟩ (by kernel_rfl)
theorem z3z:zab pr zAy:=rE zci [zb2,zdU] ⟨zcX,zeH,trivial⟩ (by kernel_rfl)
theorem z3A:zab pr zVi:=rE zbQ [zaH,zao,zdU,ztN,ztO,zAy] ⟨zaQ,zaw,zeH,zEO,zET,z3z,trivial⟩ (by kernel_rfl)
theorem z3B:zab pr zAA:=rE zci [zbt,zdU] ⟨zcJ,zeH,trivial⟩ (by kernel_rfl)
theorem z3D:zab pr zVk:=rE zbQ [zaH,zao,zdU,zkw,zt3,zAA] ⟨zaQ,zaw,zeH,zn4,zE2,z3B,trivial⟩ (by kernel_rfl)
theorem z3E:zab pr zAC:=rE zaj [] trivial (by kernel_rfl)
theorem z3F:zab pr zAD:=rE zci [zbt,zaW] ⟨zcJ,zbf,trivial⟩ (by kernel_rfl)
theorem z3H:zab pr zVm:=rE zbQ [zaO,zaW,zaH,zao,zAC,zAD] ⟨za3,zbf,zaQ,zaw,z3E,z3F,trivial⟩ (by kernel_rfl)
theorem zr9:zab pr zno:=rE zbQ [zph,za7,zbd,zaH,zbu,zgP] ⟨Qs7,zbR,zcp,zaQ,zcF,zjo,trivial⟩ (by kernel_rfl)
theorem zsa:zab pr znq:=rE zbQ [zbd,zaO,zmb,zaH,zbn,zgP] ⟨zcp,za3,zq9,zaQ,zcx,zjo,trivial⟩ (by kernel_rfl)
theorem zsb:zab pr znr:=rE zbQ [za7,zkJ,zaO,zaH,zbv,zgP] ⟨zbR,zoM,za3,zaQ,zcG,zjo,trivial⟩ (by kernel_rfl)
theorem zsc:zab pr zns:=rE zbQ [zaO,zbt,zaH,zbz,zgs,zgP] ⟨za3,zcJ,zaQ,zcH,ziP,zjo,trivial⟩ (by kernel_rfl)
theorem zsd:zab pr znw:=rE zNm [zaH,zbl,zt4] ⟨zaQ,zcw,zE4,trivial⟩ (by kernel_rfl)
theorem zsh:zab pr znz:=rE QsK13 [zaH,zbl,zgP] ⟨zaQ,zcw,zjo,trivial⟩ (by kernel_rfl)
theorem zsi:zab pr znB:=rE zbQ [zbd,zaN,zaH,zbN,zgP,zt7] ⟨zcp,za2,zaQ,zcL,zjo,zE6,trivial⟩ (by kernel_rfl)
theorem zsj:zab pr znC:=rE zbQ [zaW,zaH,za8,zbh,zgP,zt9] ⟨zbf,zaQ,zbD,zcj,zjo,zE8,trivial⟩ (by kernel_rfl)
theorem zkt:zab pr zhP:=rE zaj [] trivial (by kernel_rfl)
theorem zoS:zab pr zk1:=rE zaj [] trivial (by kernel_rfl)
theorem zjq:zab pr zgQ:=rE zaj [] trivial (by kernel_rfl)
theorem zsk:zab pr znD:=rE zaj [] trivial (by kernel_rfl)
theorem zsl:zab pr znE:=rE zaj [] trivial (by kernel_rfl)
theorem zsm:zab pr znF:=rE zaj [] trivial (by kernel_rfl)
theorem zjr:zab pr zhT:=rE zaj [] trivial (by kernel_rfl)
theorem zh8:zab pr zgR:=rE zaj [] trivial (by kernel_rfl)
theorem zjs:zab pr zhU:=rE zaj [] trivial (by kernel_rfl)
theorem zjt:zab pr zhW:=rE zaj [] trivial (by kernel_rfl)
theorem z3J:zab pr zVn:=rE zaj [] trivial (by kernel_rfl)
theorem z3K:zab pr zVo:=rE zaj [] trivial (by kernel_rfl)
theorem z3L:zab pr zVq:=rE zaj [] trivial (by kernel_rfl)
theorem z3M:zab pr zVr:=rE zaj [] trivial (by kernel_rfl)
theorem z3N:zab pr zVs:=rE zaj [] trivial (by kernel_rfl)
theorem z3O:zab pr zVu:=rE zaj [] trivial (by kernel_rfl)
theorem z3P:zab pr zVz:=rE zaj [] trivial (by kernel_rfl)
theorem z3S:zab pr zVA:=rE zaj [] trivial (by kernel_rfl)
theorem z3T:zab pr zVB:=rE zaj [] trivial (by kernel_rfl)
theorem z4a:zab pr zVC:=rE zsB [zn6,zao] ⟨ztE,zaw,trivial⟩ (by kernel_rfl)
theorem zmE:zab pr zjN:=rE zpy [za7,zbd,zgm] ⟨zbR,zcp,ziJ,trivial⟩ (by kernel_rfl)
theorem z4b:zab pr zVD:=rE zka [zjN] ⟨zmE,trivial⟩ (by kernel_rfl)
theorem zoT:zab pr zk3:=rE zpy [za7,zaO,zqh] ⟨zbR,za3,zwR,trivial⟩ (by kernel_rfl)
end Go.Proofs.YtlmnmaginhebdaaGreatDoor
end
section
namespace Go.Proofs.YtlmnmaginhebdaaGreatDoor
open Go.Vse
open Go (BinOp IntKind UnOp)
set_option maxRecDepth 100000
theorem z4e:zab pr zVE:=rE zka [zk3] ⟨zoT,trivial⟩ (by kernel_rfl)
theorem z4f:zab pr zVF:=rE zaj [] trivial (by kernel_rfl)
theorem z4h:zab pr zVH:=rE zaj [] trivial (by kernel_rfl)
theorem z4j:zab pr zVI:=rE zaj [] trivial (by kernel_rfl)
theorem z4l:zab pr zVJ:=rE zsB [zn6,zao] ⟨ztE,zaw,trivial⟩ (by kernel_rfl)
theorem z4m:zab pr zVK:=rE zka [zjN] ⟨zmE,trivial⟩ (by kernel_rfl)
theorem z4q:zab pr zVL:=rE zka [zk3] ⟨zoT,trivial⟩ (by kernel_rfl)
theorem z4r:zab pr zVM:=rE zsB [zn6,zao] ⟨ztE,zaw,trivial⟩ (by kernel_rfl)
theorem z4t:zab pr zVN:=rE zka [zjN] ⟨zmE,trivial⟩ (by kernel_rfl)
theorem z4A:zab pr zVP:=rE zka [zk3] ⟨zoT,trivial⟩ (by kernel_rfl)
theorem z4C:zab pr zVQ:=rE zaj [] trivial (by kernel_rfl)
theorem z4F:zab pr zVR:=rE zaj [] trivial (by kernel_rfl)
theorem z4G:zab pr zVS:=rE zaj [] trivial (by kernel_rfl)
theorem z4J:zab pr zVU:=rE zaj [] trivial (by kernel_rfl)
theorem z4K:zab pr zVV:=rE zaj [] trivial (by kernel_rfl)
theorem z4L:zab pr zVW:=rE zsB [zn6,zao] ⟨ztE,zaw,trivial⟩ (by kernel_rfl)
theorem z4O:zab pr zVY:=rE zka [zjN] ⟨zmE,trivial⟩ (by kernel_rfl)
end Go.Proofs.YtlmnmaginhebdaaGreatDoor
end
