/- Closed runs. Written by program. -/
import Derived.Test.YtdonnbdegnkflaaGreatDoorQsE
import Derived.Test.YtdonnbdegnkflaaGreatDoorQs0
import Derived.Test.YtdonnbdegnkflaaGreatDoorQs7
import Derived.Test.YtdonnbdegnkflaaGreatDoorQs9
import Derived.KernelRfl
set_option linter.all false
namespace Go.Proofs.YtdonnbdegnkflaaGreatDoor
open Go.Vse
open Go (BinOp IntKind UnOp)
set_option maxRecDepth 100000
theorem z9h:zab pr zY7:=rE zkV [zlG] ⟨zpL,trivial⟩ (by kernel_rfl)
theorem z9i:zab pr zY8:=rE zak [] trivial (by kernel_rfl)
theorem z9k:zab pr zY9:=rE zak [] trivial (by kernel_rfl)
theorem z9m:zab pr zZc:=rE zt7 [zok,zaq] ⟨zvl,zay,trivial⟩ (by kernel_rfl)
theorem z9n:zab pr zZd:=rE zkV [zkq] ⟨zmS,trivial⟩ (by kernel_rfl)
theorem z9p:zab pr zZf:=rE zkV [zlG] ⟨zpL,trivial⟩ (by kernel_rfl)
theorem z9q:zab pr zCK:=rE QsK16 [zp4,zbf,zbk,zll,zaS,zok,zQo,zaK,zbD,zQt,zbu,zQu,zaq,zlC,zlD,zlF,zhk,zhm,zkq] ⟨Qs7,zb7,zcx,zpH,za7,zvl,Qs63,zaT,zcJ,zEG,zcC,zEJ,zay,zk5,zk6,zpJ,zjP,ziw,zmS,trivial⟩ (by kernel_rfl)
theorem zyL:zab pr zrz:=rE zak [] trivial (by kernel_rfl)
theorem zIv:zab pr zvO:=rE zQA [zrz] ⟨zyL,trivial⟩ (by kernel_rfl)
theorem zIw:zab pr zvQ:=rE zak [] trivial (by kernel_rfl)
theorem zIy:zab pr zvR:=rE zQA [zvQ] ⟨zIw,trivial⟩ (by kernel_rfl)
theorem zIA:zab pr zvS:=rE zak [] trivial (by kernel_rfl)
theorem z9r:zab pr zCL:=rE QsK18 [zrz,zvO,zvR,zvS] ⟨zyL,zIv,zIy,zIA,trivial⟩ (by kernel_rfl)
theorem z9s:zab pr zZg:=rE QsK19 [zQs,zCK,zrz,zvO,zvQ,zvR,zvS,zCL] ⟨Qs65,z9q,zyL,zIv,zIw,zIy,zIA,z9r,trivial⟩ (by kernel_rfl)
end Go.Proofs.YtdonnbdegnkflaaGreatDoor
