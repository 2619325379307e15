/- Closed runs. Written by program. -/
import Derived.Test.YtlmnmaginhebdaaGreatDoorQsE
import Derived.Test.YtlmnmaginhebdaaGreatDoorQs0
import Derived.Test.YtlmnmaginhebdaaGreatDoorQs7
import Derived.Test.YtlmnmaginhebdaaGreatDoorQs9
import Derived.KernelRfl
set_option linter.all false
namespace Go.Proofs.YtlmnmaginhebdaaGreatDoor
open Go.Vse
open Go (BinOp IntKind UnOp)
set_option maxRecDepth 100000
theorem z4P:zab pr zVZ:=rE zka [zk3] ⟨zoT,trivial⟩ (by kernel_rfl)
theorem z4R:zab pr zV1:=rE zaj [] trivial (by kernel_rfl)
theorem z4S:zab pr zV2:=rE zaj [] trivial (by kernel_rfl)
theorem z4T:zab pr zV3:=rE zsB [zn6,zao] ⟨ztE,zaw,trivial⟩ (by kernel_rfl)
theorem z4U:zab pr zV4:=rE zka [zjN] ⟨zmE,trivial⟩ (by kernel_rfl)
theorem z4V:zab pr zV8:=rE zka [zk3] ⟨zoT,trivial⟩ (by kernel_rfl)
theorem z4W:zab pr zAF:=rE QsK16 [zph,za7,zbd,zkJ,zaO,zn6,zNg,zaH,zbu,zNk,zbn,zNl,zao,zkY,zk0,zk1,zgQ,zgR,zjN] ⟨Qs7,zbR,zcp,zoM,za3,ztE,Qs63,zaQ,zcF,zCq,zcx,zCr,zaw,zkq,zkr,zoS,zjq,zh8,zmE,trivial⟩ (by kernel_rfl)
theorem zwW:zab pr zqo:=rE zaj [] trivial (by kernel_rfl)
theorem zFR:zab pr zuk:=rE zNn [zqo] ⟨zwW,trivial⟩ (by kernel_rfl)
theorem zFS:zab pr zum:=rE zaj [] trivial (by kernel_rfl)
theorem zFT:zab pr zun:=rE zNn [zum] ⟨zFS,trivial⟩ (by kernel_rfl)
theorem zFU:zab pr zuo:=rE zaj [] trivial (by kernel_rfl)
theorem z5a:zab pr zAG:=rE QsK18 [zqo,zuk,zun,zuo] ⟨zwW,zFR,zFT,zFU,trivial⟩ (by kernel_rfl)
theorem z5c:zab pr zWc:=rE QsK19 [zNi,zAF,zqo,zuk,zum,zun,zuo,zAG] ⟨Qs65,z4W,zwW,zFR,zFS,zFT,zFU,z5a,trivial⟩ (by kernel_rfl)
end Go.Proofs.YtlmnmaginhebdaaGreatDoor
