/- Closed runs. Written by program. -/
import Derived.Test.YtlinkhjnihjbaaaGreatDoorQsE
import Derived.KernelRfl
set_option linter.all false
section
namespace Go.Proofs.YtlinkhjnihjbaaaGreatDoor
open Go.Vse
open Go (BinOp IntKind UnOp)
set_option maxRecDepth 100000
theorem zdG:zav pr zcM:=rE zd6 [] trivial (by kernel_rfl)
theorem zij:zav pr zf4:=rE zd6 [] trivial (by kernel_rfl)
theorem zik:zav pr zf5:=rE zd6 [] trivial (by kernel_rfl)
theorem zCM:zav pr zsE:=rE zd6 [] trivial (by kernel_rfl)
theorem Qs37:zav pr zEv:=rE zis [zcM] ⟨zdG,trivial⟩ (by kernel_rfl)
theorem zCO:zav pr zsG:=rE zd6 [] trivial (by kernel_rfl)
theorem zCQ:zav pr zsH:=rE zd6 [] trivial (by kernel_rfl)
theorem Qs63:zav pr zEw:=rE zis [zcM] ⟨zdG,trivial⟩ (by kernel_rfl)
theorem zfj:zav pr zd0:=rE zis [zcM] ⟨zdG,trivial⟩ (by kernel_rfl)
theorem Qs66:zav pr QsE66:=rE zd6 [] trivial (by kernel_rfl)
theorem zk5:zav pr ziK:=rE zis [zcM,zf4] ⟨zdG,zij,trivial⟩ (by kernel_rfl)
theorem zgi:zav pr zeO:=rE zis [zcM] ⟨zdG,trivial⟩ (by kernel_rfl)
theorem ztk:zav pr zmC:=rE zgK [zcM,zf4,zd0,ziK,zeO] ⟨zdG,zij,zfj,zk5,zgi,trivial⟩ (by kernel_rfl)
theorem zkt:zav pr zhH:=rE zis [zcM,zf5] ⟨zdG,zik,trivial⟩ (by kernel_rfl)
theorem zk6:zav pr ziL:=rE zis [zf4,zf5] ⟨zij,zik,trivial⟩ (by kernel_rfl)
theorem ztm:zav pr zmD:=rE zgK [zcM,zf4,zf5,zd0,zeO,zhH,ziL] ⟨zdG,zij,zik,zfj,zgi,zkt,zk6,trivial⟩ (by kernel_rfl)
theorem zsb:zav pr zk7:=rE zgK [zcM,zf4,zf5,zd0,zeO,zhH,ziL] ⟨zdG,zij,zik,zfj,zgi,zkt,zk6,trivial⟩ (by kernel_rfl)
theorem zkp:zav pr zin:=rE zis [zcM,zsE] ⟨zdG,zCM,trivial⟩ (by kernel_rfl)
theorem zsc:zav pr zk8:=rE zgK [zcM,zf5,zsE,zd0,zeO,zin] ⟨zdG,zik,zCM,zfj,zgi,zkp,trivial⟩ (by kernel_rfl)
theorem zEs:zav pr zto:=rE QsK3 [zcM,zeO] ⟨zdG,zgi,trivial⟩ (by kernel_rfl)
theorem zhq:zav pr zfS:=rE zis [zcM] ⟨zdG,trivial⟩ (by kernel_rfl)
theorem zsd:zav pr zk9:=rE QsK4 [zd0,zeO,zto,zfS] ⟨zfj,zgi,zEs,zhq,trivial⟩ (by kernel_rfl)
theorem zsh:zav pr zla:=rE zgK [zcM,zd0,zeO,zfS] ⟨zdG,zfj,zgi,zhq,trivial⟩ (by kernel_rfl)
theorem zkq:zav pr zio:=rE zis [zf5,zsG] ⟨zik,zCO,trivial⟩ (by kernel_rfl)
theorem zsi:zav pr zlb:=rE zgK [zf4,zf5,zsG,zd0,zeO,zio] ⟨zij,zik,zCO,zfj,zgi,zkq,trivial⟩ (by kernel_rfl)
theorem zkr:zav pr ziq:=rE zis [zcM,zsH] ⟨zdG,zCQ,trivial⟩ (by kernel_rfl)
end Go.Proofs.YtlinkhjnihjbaaaGreatDoor
end
section
namespace Go.Proofs.YtlinkhjnihjbaaaGreatDoor
open Go.Vse
open Go (BinOp IntKind UnOp)
set_option maxRecDepth 100000
theorem zEt:zav pr ztp:=rE zd6 [] trivial (by kernel_rfl)
theorem zsj:zav pr zlc:=rE zgK [zcM,zsH,zd0,zeO,ziq,ztp] ⟨zdG,zCQ,zfj,zgi,zkr,zEt,trivial⟩ (by kernel_rfl)
theorem zsk:zav pr zlg:=rE zgK [zcM,zf4,zd0,ziK] ⟨zdG,zij,zfj,zk5,trivial⟩ (by kernel_rfl)
theorem zsl:zav pr zlh:=rE zgK [zcM,zf4,zf5,zd0,zhH] ⟨zdG,zij,zik,zfj,zkt,trivial⟩ (by kernel_rfl)
theorem zsm:zav pr zlk:=rE zgK [zcM,zf5,zd0,ziL] ⟨zdG,zik,zfj,zk6,trivial⟩ (by kernel_rfl)
theorem zsp:zav pr zll:=rE zgK [zcM,zf5,zsE,zd0,zin] ⟨zdG,zik,zCM,zfj,zkp,trivial⟩ (by kernel_rfl)
theorem zsr:zav pr zlm:=rE QsK4 [zd0,zto,zfS] ⟨zfj,zEs,zhq,trivial⟩ (by kernel_rfl)
theorem zss:zav pr zlo:=rE zgK [zcM,zd0,zfS] ⟨zdG,zfj,zhq,trivial⟩ (by kernel_rfl)
theorem zsv:zav pr zlq:=rE zgK [zcM,zf4,zsG,zd0,zio] ⟨zdG,zij,zCO,zfj,zkq,trivial⟩ (by kernel_rfl)
theorem zsw:zav pr zlt:=rE zgK [zcM,zsH,zd0,ziq,ztp] ⟨zdG,zCQ,zfj,zkr,zEt,trivial⟩ (by kernel_rfl)
theorem ziJ:zav pr zgJ:=rE zd6 [] trivial (by kernel_rfl)
theorem zom:zav pr zjk:=rE zd6 [] trivial (by kernel_rfl)
theorem zhD:zav pr zfT:=rE zd6 [] trivial (by kernel_rfl)
theorem zsz:zav pr zlw:=rE zd6 [] trivial (by kernel_rfl)
theorem zsA:zav pr zlx:=rE zd6 [] trivial (by kernel_rfl)
theorem zsB:zav pr zly:=rE zd6 [] trivial (by kernel_rfl)
theorem zgD:zav pr zfl:=rE zd6 [] trivial (by kernel_rfl)
theorem zf2:zav pr zeY:=rE zd6 [] trivial (by kernel_rfl)
theorem zgE:zav pr zfm:=rE zd6 [] trivial (by kernel_rfl)
theorem zgH:zav pr zfq:=rE zd6 [] trivial (by kernel_rfl)
theorem Qs278:zav pr zJU:=rE ztt [zfl] ⟨zgD,trivial⟩ (by kernel_rfl)
theorem Qs292:zav pr zJV:=rE ztt [zeY] ⟨zf2,trivial⟩ (by kernel_rfl)
theorem Qs311:zav pr zJX:=rE ztt [zfm] ⟨zgE,trivial⟩ (by kernel_rfl)
theorem Qs325:zav pr zJY:=rE ztt [zfq] ⟨zgH,trivial⟩ (by kernel_rfl)
theorem Qs327:zav pr zJ0:=rE ztt [zfl,zeY,zfm,zfq] ⟨zgD,zf2,zgE,zgH,trivial⟩ (by kernel_rfl)
end Go.Proofs.YtlinkhjnihjbaaaGreatDoor
end
