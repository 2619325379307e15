/- Closed runs. Written by program. -/
import Derived.Test.YtdonnbdegnkflaaGreatDoorQsE
import Derived.Test.YtdonnbdegnkflaaGreatDoorQs0
import Derived.Test.YtdonnbdegnkflaaGreatDoorQs1
import Derived.Test.YtdonnbdegnkflaaGreatDoorQs2
import Derived.KernelRfl
set_option linter.all false
section
namespace Go.Proofs.YtdonnbdegnkflaaGreatDoor
open Go.Vse
open Go (BinOp IntKind UnOp)
set_option maxRecDepth 100000
theorem zPO:zab pr zzb:=rE zak [] trivial (by kernel_rfl)
theorem Qs596:zab pr zaaX:=rE zaj [zaS,zbB,zbY,zdQ,zgK,zza,zzb] ⟨za7,zcW,zcX,zex,zi5,zPN,zPO,trivial⟩ (by kernel_rfl)
theorem zPQ:zab pr zzc:=rE zak [] trivial (by kernel_rfl)
theorem zPT:zab pr zzd:=rE zak [] trivial (by kernel_rfl)
theorem Qs604:zab pr zaaY:=rE zaj [zaS,zbB,zbh,zdR,zgK,zzc,zzd] ⟨za7,zcW,zbX,zey,zi5,zPQ,zPT,trivial⟩ (by kernel_rfl)
theorem Qs610:zab pr zaaZ:=rE zaj [zbk,zaS,zbD,zyP,zgi] ⟨zcx,za7,zcJ,zNR,ziG,trivial⟩ (by kernel_rfl)
theorem Qs612:zab pr zaa0:=rE zaj [zbk,zaS,zbu,zbn,zgi,zbd,zpN] ⟨zcx,za7,zcC,zcs,ziG,zbz,zxt,trivial⟩ (by kernel_rfl)
theorem Qs613:zab pr zaa1:=rE zaj [zbk,zaS,zbN,zbn,zgi,zpR,zfl] ⟨zcx,za7,zcL,zcs,ziG,zxz,zgX,trivial⟩ (by kernel_rfl)
theorem zPU:zab pr zze:=rE zcr [ztU] ⟨zEz,trivial⟩ (by kernel_rfl)
theorem Qs618:zab pr zaa2:=rE zeD [zbk,zaS,zbO,zgi,zze] ⟨zcx,za7,zcM,ziG,zPU,trivial⟩ (by kernel_rfl)
theorem zEF:zab pr zt3:=rE zak [] trivial (by kernel_rfl)
theorem Qs621:zab pr zaa3:=rE zaj [zbk,zaS,zaQ,zaq,zgi,zt3] ⟨zcx,za7,za4,zay,ziG,zEF,trivial⟩ (by kernel_rfl)
theorem Qs622:zab pr zaa4:=rE zaj [zbk,zaS,zbt,zgi] ⟨zcx,za7,zcA,ziG,trivial⟩ (by kernel_rfl)
theorem zxF:zab pr zpY:=rE zak [] trivial (by kernel_rfl)
theorem Qs625:zab pr zaa5:=rE zaj [zbk,zaS,zbY,zgi,zcE,zbq,zpY] ⟨zcx,za7,zcX,ziG,zdz,zct,zxF,trivial⟩ (by kernel_rfl)
theorem zxG:zab pr zpZ:=rE zak [] trivial (by kernel_rfl)
theorem zi6:zab pr zgM:=rE zak [] trivial (by kernel_rfl)
theorem Qs632:zab pr zaa6:=rE zaj [zbk,zaS,zbh,zgi,zcF,zpZ,zgM] ⟨zcx,za7,zbX,ziG,zdA,zxG,zi6,trivial⟩ (by kernel_rfl)
theorem zPV:zab pr zzg:=rE zak [] trivial (by kernel_rfl)
theorem Qs642:zab pr zaa7:=rE zaj [zbD,zgj,zbd,zcE,zy3,zzg] ⟨zcJ,ziI,zbz,zdz,zPx,zPV,trivial⟩ (by kernel_rfl)
theorem Qs646:zab pr zaa8:=rE zaj [zbu,zgj,zbd,zcE,zpO,znP,zhU] ⟨zcC,ziI,zbz,zdz,zxu,ztP,zkN,trivial⟩ (by kernel_rfl)
theorem Qs649:zab pr zaa9:=rE zaj [zbN,zgj,zbd,zcE,zhU,zpS,zpU] ⟨zcL,ziI,zbz,zdz,zkN,zxA,zxC,trivial⟩ (by kernel_rfl)
theorem zPW:zab pr zzh:=rE zak [] trivial (by kernel_rfl)
theorem Qs659:zab pr zaba:=rE zeD [zbO,zgj,zbd,zcE,zzh] ⟨zcM,ziI,zbz,zdz,zPW,trivial⟩ (by kernel_rfl)
theorem Qs663:zab pr zabb:=rE zaj [zaq,zgj,zbd,zcE,zbq,zpY] ⟨zay,ziI,zbz,zdz,zct,zxF,trivial⟩ (by kernel_rfl)
theorem Qs666:zab pr zabc:=rE zaj [zbt,zgj,zbd,zcE] ⟨zcA,ziI,zbz,zdz,trivial⟩ (by kernel_rfl)
end Go.Proofs.YtdonnbdegnkflaaGreatDoor
end
section
namespace Go.Proofs.YtdonnbdegnkflaaGreatDoor
open Go.Vse
open Go (BinOp IntKind UnOp)
set_option maxRecDepth 100000
theorem Qs678:zab pr zIE:=rE zak [] trivial (by kernel_rfl)
theorem Qs679:zab pr zabd:=rE zeD [zbY,zgj,zbd,zcE,zIE] ⟨zcX,ziI,zbz,zdz,Qs678,trivial⟩ (by kernel_rfl)
theorem zxI:zab pr zp0:=rE zak [] trivial (by kernel_rfl)
theorem zxJ:zab pr zp1:=rE zak [] trivial (by kernel_rfl)
theorem ztT:zab pr znQ:=rE zak [] trivial (by kernel_rfl)
theorem Qs691:zab pr zabe:=rE zaj [zbh,zgj,zbd,zcE,zp0,zp1,znQ] ⟨zbX,ziI,zbz,zdz,zxI,zxJ,ztT,trivial⟩ (by kernel_rfl)
theorem Qs702:zab pr zabf:=rE zaj [zbD,zgm,zej,zcF,zzg] ⟨zcJ,ziJ,ze8,zdA,zPV,trivial⟩ (by kernel_rfl)
theorem Qs706:zab pr zabg:=rE zaj [zbu,zgm,zej,zcF,zpP,zpQ,zhW] ⟨zcC,ziJ,ze8,zdA,zxv,zxy,zkO,trivial⟩ (by kernel_rfl)
theorem Qs709:zab pr zabh:=rE zaj [zbN,zgm,zej,zcF,zhW,zpV,zpW] ⟨zcL,ziJ,ze8,zdA,zkO,zxD,zxE,trivial⟩ (by kernel_rfl)
theorem zP1:zab pr zzi:=rE zak [] trivial (by kernel_rfl)
theorem Qs718:zab pr zabi:=rE zeD [zbO,zgm,zej,zcF,zzi] ⟨zcM,ziJ,ze8,zdA,zP1,trivial⟩ (by kernel_rfl)
theorem Qs722:zab pr zabj:=rE zaj [zaq,zgm,zej,zcF,zpZ,zgM] ⟨zay,ziJ,ze8,zdA,zxG,zi6,trivial⟩ (by kernel_rfl)
theorem Qs725:zab pr zabk:=rE zaj [zbt,zgm,zej,zcF] ⟨zcA,ziJ,ze8,zdA,trivial⟩ (by kernel_rfl)
theorem Qs730:zab pr zabl:=rE zaj [zbY,zgm,zej,zcF,zp0,zp1,znQ] ⟨zcX,ziJ,ze8,zdA,zxI,zxJ,ztT,trivial⟩ (by kernel_rfl)
theorem Qs743:zab pr zIH:=rE zak [] trivial (by kernel_rfl)
theorem Qs744:zab pr zabm:=rE zeD [zbh,zgm,zej,zcF,zIH] ⟨zbX,ziJ,ze8,zdA,Qs743,trivial⟩ (by kernel_rfl)
theorem Qs749:zab pr zabn:=rE zeD [zaX,zbD,zgn,zcb,zy2] ⟨zbl,zcJ,ziK,zc1,zPw,trivial⟩ (by kernel_rfl)
end Go.Proofs.YtdonnbdegnkflaaGreatDoor
end
