/- Closed runs. Written by program. -/
import Derived.Test.YtdonnbdegnkflaaGreatDoorQsE
import Derived.Test.YtdonnbdegnkflaaGreatDoorQs0
import Derived.Test.YtdonnbdegnkflaaGreatDoorQs6
import Derived.Test.YtdonnbdegnkflaaGreatDoorQs7
import Derived.Test.YtdonnbdegnkflaaGreatDoorQs8
import Derived.Test.YtdonnbdegnkflaaGreatDoorQs1
import Derived.Test.YtdonnbdegnkflaaGreatDoorQs2
import Derived.Test.YtdonnbdegnkflaaGreatDoorQs4
import Derived.KernelRfl
set_option linter.all false
section
namespace Go.Proofs.YtdonnbdegnkflaaGreatDoor
open Go.Vse
open Go (BinOp IntKind UnOp)
set_option maxRecDepth 100000
theorem z7X:zab pr zYi:=rE zb2 [zaQ,zaK,zaq,zej,zCx,zCB] ⟨za4,zaT,zay,ze8,z7V,z7W,trivial⟩ (by kernel_rfl)
theorem z8a:zab pr zCC:=rE zcr [zcb,zd7] ⟨zc1,zeR,trivial⟩ (by kernel_rfl)
theorem z8b:zab pr zYm:=rE zb2 [zaK,zaq,zd7,zvv,zvw,zCC] ⟨zaT,zay,zeR,zHD,zHH,z8a,trivial⟩ (by kernel_rfl)
theorem z8d:zab pr zCG:=rE zcr [zbB,zd7] ⟨zcW,zeR,trivial⟩ (by kernel_rfl)
theorem z8f:zab pr zYo:=rE zb2 [zaK,zaq,zd7,zk8,zvG,zCG] ⟨zaT,zay,zeR,zoh,zHR,z8d,trivial⟩ (by kernel_rfl)
theorem z8h:zab pr zCI:=rE zak [] trivial (by kernel_rfl)
theorem z8i:zab pr zCJ:=rE zcr [zbB,zaX] ⟨zcW,zbl,trivial⟩ (by kernel_rfl)
theorem z8j:zab pr zYp:=rE zb2 [zaS,zaX,zaK,zaq,zCI,zCJ] ⟨za7,zbl,zaT,zay,z8h,z8i,trivial⟩ (by kernel_rfl)
theorem ztA:zab pr znB:=rE zb2 [zp4,zbf,zbk,zaK,zbD,zhh] ⟨Qs7,zb7,zcx,zaT,zcJ,zjO,trivial⟩ (by kernel_rfl)
theorem ztB:zab pr znC:=rE zb2 [zbk,zaS,zme,zaK,zbu,zhh] ⟨zcx,za7,zsh,zaT,zcC,zjO,trivial⟩ (by kernel_rfl)
theorem ztC:zab pr znD:=rE zb2 [zbf,zll,zaS,zaK,zbN,zhh] ⟨zb7,zpH,za7,zaT,zcL,zjO,trivial⟩ (by kernel_rfl)
theorem ztE:zab pr znE:=rE zb2 [zaS,zbB,zaK,zbO,zgK,zhh] ⟨za7,zcW,zaT,zcM,zi5,zjO,trivial⟩ (by kernel_rfl)
theorem ztF:zab pr znF:=rE zQw [zaK,zbt,zvI] ⟨zaT,zcA,zHS,trivial⟩ (by kernel_rfl)
theorem ztG:zab pr znG:=rE QsK13 [zaK,zbt,zhh] ⟨zaT,zcA,zjO,trivial⟩ (by kernel_rfl)
theorem ztJ:zab pr znH:=rE zb2 [zbk,zaQ,zaK,zbY,zhh,zvJ] ⟨zcx,za4,zaT,zcX,zjO,zHT,trivial⟩ (by kernel_rfl)
theorem ztL:zab pr znJ:=rE zb2 [zaX,zaK,zbh,zbn,zhh,zvK] ⟨zbl,zaT,zbX,zcs,zjO,zHU,trivial⟩ (by kernel_rfl)
theorem zk7:zab pr zid:=rE zak [] trivial (by kernel_rfl)
theorem zpJ:zab pr zlF:=rE zak [] trivial (by kernel_rfl)
theorem zjP:zab pr zhk:=rE zak [] trivial (by kernel_rfl)
theorem ztM:zab pr znK:=rE zak [] trivial (by kernel_rfl)
theorem ztN:zab pr znL:=rE zak [] trivial (by kernel_rfl)
theorem ztO:zab pr znN:=rE zak [] trivial (by kernel_rfl)
theorem zjS:zab pr zih:=rE zak [] trivial (by kernel_rfl)
theorem ziw:zab pr zhm:=rE zak [] trivial (by kernel_rfl)
theorem zjT:zab pr zii:=rE zak [] trivial (by kernel_rfl)
theorem zjW:zab pr zij:=rE zak [] trivial (by kernel_rfl)
theorem z8k:zab pr zYq:=rE zak [] trivial (by kernel_rfl)
theorem z8l:zab pr zYr:=rE zak [] trivial (by kernel_rfl)
theorem z8n:zab pr zYt:=rE zak [] trivial (by kernel_rfl)
theorem z8o:zab pr zYu:=rE zak [] trivial (by kernel_rfl)
theorem z8p:zab pr zYw:=rE zak [] trivial (by kernel_rfl)
theorem z8s:zab pr zYy:=rE zak [] trivial (by kernel_rfl)
theorem z8t:zab pr zYC:=rE zak [] trivial (by kernel_rfl)
theorem z8u:zab pr zYF:=rE zak [] trivial (by kernel_rfl)
theorem z8w:zab pr zYG:=rE zak [] trivial (by kernel_rfl)
theorem z8y:zab pr zYH:=rE zt7 [zok,zaq] ⟨zvl,zay,trivial⟩ (by kernel_rfl)
theorem zmS:zab pr zkq:=rE zql [zbf,zbk,zgC] ⟨zb7,zcx,ziZ,trivial⟩ (by kernel_rfl)
theorem z8z:zab pr zYI:=rE zkV [zkq] ⟨zmS,trivial⟩ (by kernel_rfl)
theorem zpL:zab pr zlG:=rE zql [zbf,zaS,zru] ⟨zb7,za7,zyH,trivial⟩ (by kernel_rfl)
end Go.Proofs.YtdonnbdegnkflaaGreatDoor
end
section
namespace Go.Proofs.YtdonnbdegnkflaaGreatDoor
open Go.Vse
open Go (BinOp IntKind UnOp)
set_option maxRecDepth 100000
theorem z8B:zab pr zYJ:=rE zkV [zlG] ⟨zpL,trivial⟩ (by kernel_rfl)
theorem z8C:zab pr zYK:=rE zak [] trivial (by kernel_rfl)
theorem z8D:zab pr zYM:=rE zak [] trivial (by kernel_rfl)
theorem z8G:zab pr zYN:=rE zak [] trivial (by kernel_rfl)
theorem z8H:zab pr zYO:=rE zt7 [zok,zaq] ⟨zvl,zay,trivial⟩ (by kernel_rfl)
theorem z8J:zab pr zYQ:=rE zkV [zkq] ⟨zmS,trivial⟩ (by kernel_rfl)
theorem z8N:zab pr zYS:=rE zkV [zlG] ⟨zpL,trivial⟩ (by kernel_rfl)
theorem z8O:zab pr zYT:=rE zt7 [zok,zaq] ⟨zvl,zay,trivial⟩ (by kernel_rfl)
theorem z8R:zab pr zYU:=rE zkV [zkq] ⟨zmS,trivial⟩ (by kernel_rfl)
theorem z8U:zab pr zYW:=rE zkV [zlG] ⟨zpL,trivial⟩ (by kernel_rfl)
theorem z8V:zab pr zYX:=rE zak [] trivial (by kernel_rfl)
theorem z8W:zab pr zYY:=rE zak [] trivial (by kernel_rfl)
theorem z8Y:zab pr zYZ:=rE zak [] trivial (by kernel_rfl)
theorem z88:zab pr zY0:=rE zak [] trivial (by kernel_rfl)
theorem z9b:zab pr zY1:=rE zak [] trivial (by kernel_rfl)
theorem z9c:zab pr zY2:=rE zt7 [zok,zaq] ⟨zvl,zay,trivial⟩ (by kernel_rfl)
theorem z9d:zab pr zY3:=rE zkV [zkq] ⟨zmS,trivial⟩ (by kernel_rfl)
end Go.Proofs.YtdonnbdegnkflaaGreatDoor
end
