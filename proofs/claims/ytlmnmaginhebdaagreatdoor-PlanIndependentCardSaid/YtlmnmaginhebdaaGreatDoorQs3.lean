/- Closed runs. Written by program. -/
import Derived.Test.YtlmnmaginhebdaaGreatDoorQsE
import Derived.Test.YtlmnmaginhebdaaGreatDoorQs0
import Derived.Test.YtlmnmaginhebdaaGreatDoorQs1
import Derived.Test.YtlmnmaginhebdaaGreatDoorQs2
import Derived.KernelRfl
set_option linter.all false
section
namespace Go.Proofs.YtlmnmaginhebdaaGreatDoor
open Go.Vse
open Go (BinOp IntKind UnOp)
set_option maxRecDepth 100000
theorem zMI:zab pr zxA:=rE zaj [] trivial (by kernel_rfl)
theorem Qs596:zab pr z8d:=rE zah [zaO,zbt,zbN,zdD,zgs,zxz,zxA] ⟨za3,zcJ,zcL,zeu,ziP,zMH,zMI,trivial⟩ (by kernel_rfl)
theorem zMJ:zab pr zxC:=rE zaj [] trivial (by kernel_rfl)
theorem zMK:zab pr zxD:=rE zaj [] trivial (by kernel_rfl)
theorem Qs604:zab pr z8f:=rE zah [zaO,zbt,za8,zdG,zgs,zxC,zxD] ⟨za3,zcJ,zbD,zev,ziP,zMJ,zMK,trivial⟩ (by kernel_rfl)
theorem Qs610:zab pr z8h:=rE zah [zbd,zaO,zbu,zw0,zf0] ⟨zcp,za3,zcF,zKH,zio,trivial⟩ (by kernel_rfl)
theorem Qs612:zab pr z8i:=rE zah [zbd,zaO,zbn,zbh,zf0,za5,zoW] ⟨zcp,za3,zcx,zcj,zio,zbr,zvI,trivial⟩ (by kernel_rfl)
theorem Qs613:zab pr z8j:=rE zah [zbd,zaO,zbv,zbh,zf0,zo3,ze2] ⟨zcp,za3,zcG,zcj,zio,zvM,zgD,trivial⟩ (by kernel_rfl)
theorem zML:zab pr zxE:=rE zci [zss] ⟨zCk,trivial⟩ (by kernel_rfl)
theorem Qs618:zab pr z8k:=rE zew [zbd,zaO,zbz,zf0,zxE] ⟨zcp,za3,zcH,zio,zML,trivial⟩ (by kernel_rfl)
theorem zCp:zab pr zsz:=rE zaj [] trivial (by kernel_rfl)
theorem Qs621:zab pr z8l:=rE zah [zbd,zaO,zaN,zao,zf0,zsz] ⟨zcp,za3,za2,zaw,zio,zCp,trivial⟩ (by kernel_rfl)
theorem Qs622:zab pr z8n:=rE zah [zbd,zaO,zbl,zf0] ⟨zcp,za3,zcw,zio,trivial⟩ (by kernel_rfl)
theorem zvS:zab pr zo9:=rE zaj [] trivial (by kernel_rfl)
theorem Qs625:zab pr z8o:=rE zah [zbd,zaO,zbN,zf0,zcy,zbi,zo9] ⟨zcp,za3,zcL,zio,zdq,zcm,zvS,trivial⟩ (by kernel_rfl)
theorem zvW:zab pr zpa:=rE zaj [] trivial (by kernel_rfl)
theorem ziQ:zab pr zgt:=rE zaj [] trivial (by kernel_rfl)
theorem Qs632:zab pr z8p:=rE zah [zbd,zaO,za8,zf0,zcz,zpa,zgt] ⟨zcp,za3,zbD,zio,zdr,zvW,ziQ,trivial⟩ (by kernel_rfl)
theorem zMN:zab pr zxF:=rE zaj [] trivial (by kernel_rfl)
theorem Qs642:zab pr z8s:=rE zah [zbu,zf1,za5,zcy,zxo,zxF] ⟨zcF,ziq,zbr,zdq,zMy,zMN,trivial⟩ (by kernel_rfl)
theorem Qs646:zab pr z8t:=rE zah [zbn,zf1,za5,zcy,zoX,znG,zhv] ⟨zcx,ziq,zbr,zdq,zvJ,zsp,zjZ,trivial⟩ (by kernel_rfl)
theorem Qs649:zab pr z8u:=rE zah [zbv,zf1,za5,zcy,zhv,zo4,zo5] ⟨zcG,ziq,zbr,zdq,zjZ,zvN,zvO,trivial⟩ (by kernel_rfl)
theorem zMO:zab pr zxG:=rE zaj [] trivial (by kernel_rfl)
theorem Qs659:zab pr z8w:=rE zew [zbz,zf1,za5,zcy,zxG] ⟨zcH,ziq,zbr,zdq,zMO,trivial⟩ (by kernel_rfl)
theorem Qs663:zab pr z8y:=rE zah [zao,zf1,za5,zcy,zbi,zo9] ⟨zaw,ziq,zbr,zdq,zcm,zvS,trivial⟩ (by kernel_rfl)
theorem Qs666:zab pr z8z:=rE zah [zbl,zf1,za5,zcy] ⟨zcw,ziq,zbr,zdq,trivial⟩ (by kernel_rfl)
end Go.Proofs.YtlmnmaginhebdaaGreatDoor
end
section
namespace Go.Proofs.YtlmnmaginhebdaaGreatDoor
open Go.Vse
open Go (BinOp IntKind UnOp)
set_option maxRecDepth 100000
theorem Qs678:zab pr zFY:=rE zaj [] trivial (by kernel_rfl)
theorem Qs679:zab pr z8B:=rE zew [zbN,zf1,za5,zcy,zFY] ⟨zcL,ziq,zbr,zdq,Qs678,trivial⟩ (by kernel_rfl)
theorem zvX:zab pr zpc:=rE zaj [] trivial (by kernel_rfl)
theorem zvY:zab pr zpe:=rE zaj [] trivial (by kernel_rfl)
theorem zsr:zab pr znH:=rE zaj [] trivial (by kernel_rfl)
theorem Qs691:zab pr z8C:=rE zah [za8,zf1,za5,zcy,zpc,zpe,znH] ⟨zbD,ziq,zbr,zdq,zvX,zvY,zsr,trivial⟩ (by kernel_rfl)
theorem Qs702:zab pr z8D:=rE zah [zbu,zf2,zeb,zcz,zxF] ⟨zcF,zis,zeO,zdr,zMN,trivial⟩ (by kernel_rfl)
theorem Qs706:zab pr z8G:=rE zah [zbn,zf2,zeb,zcz,zo1,zo2,zhy] ⟨zcx,zis,zeO,zdr,zvK,zvL,zj2,trivial⟩ (by kernel_rfl)
theorem Qs709:zab pr z8H:=rE zah [zbv,zf2,zeb,zcz,zhy,zo6,zo8] ⟨zcG,zis,zeO,zdr,zj2,zvQ,zvR,trivial⟩ (by kernel_rfl)
theorem zMR:zab pr zxI:=rE zaj [] trivial (by kernel_rfl)
theorem Qs718:zab pr z8J:=rE zew [zbz,zf2,zeb,zcz,zxI] ⟨zcH,zis,zeO,zdr,zMR,trivial⟩ (by kernel_rfl)
theorem Qs722:zab pr z8N:=rE zah [zao,zf2,zeb,zcz,zpa,zgt] ⟨zaw,zis,zeO,zdr,zvW,ziQ,trivial⟩ (by kernel_rfl)
theorem Qs725:zab pr z8O:=rE zah [zbl,zf2,zeb,zcz] ⟨zcw,zis,zeO,zdr,trivial⟩ (by kernel_rfl)
theorem Qs730:zab pr z8R:=rE zah [zbN,zf2,zeb,zcz,zpc,zpe,znH] ⟨zcL,zis,zeO,zdr,zvX,zvY,zsr,trivial⟩ (by kernel_rfl)
theorem Qs743:zab pr zFZ:=rE zaj [] trivial (by kernel_rfl)
theorem Qs744:zab pr z8U:=rE zew [za8,zf2,zeb,zcz,zFZ] ⟨zbD,zis,zeO,zdr,Qs743,trivial⟩ (by kernel_rfl)
theorem Qs749:zab pr z8V:=rE zew [zaW,zbu,zf4,zb2,zxm] ⟨zbf,zcF,ziu,zcX,zMx,trivial⟩ (by kernel_rfl)
end Go.Proofs.YtlmnmaginhebdaaGreatDoor
end
