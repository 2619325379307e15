/- Closed runs. Written by program. -/
import Derived.Test.YtlinkhjnihjbaaaGreatDoorQsE
import Derived.Test.YtlinkhjnihjbaaaGreatDoorQs0
import Derived.KernelRfl
set_option linter.all false
section
namespace Go.Proofs.YtlinkhjnihjbaaaGreatDoor
open Go.Vse
open Go (BinOp IntKind UnOp)
set_option maxRecDepth 100000
theorem Qs428:zav pr zz8:=rE QsK7 [zcM,zf4,zf5,zEv,zEw,zd0,ziK,zeO,zmC,zhH,zmD,zfS,zjk,zfT,zeY] ⟨zdG,zij,zik,Qs37,Qs63,zfj,zk5,zgi,ztk,zkt,ztm,zhq,zom,zhD,zf2,trivial⟩ (by kernel_rfl)
theorem zos:zav pr zjl:=rE zd6 [] trivial (by kernel_rfl)
theorem zot:zav pr zjm:=rE zd6 [] trivial (by kernel_rfl)
theorem zsD:zav pr zlz:=rE QsK8 [zjl,zjm] ⟨zos,zot,trivial⟩ (by kernel_rfl)
theorem zxN:zav pr zou:=rE QsK9 [zlz] ⟨zsD,trivial⟩ (by kernel_rfl)
theorem zxO:zav pr zov:=rE QsK8 [zjl,zjm] ⟨zos,zot,trivial⟩ (by kernel_rfl)
theorem zxP:zav pr zoz:=rE zd6 [] trivial (by kernel_rfl)
theorem zxR:zav pr zoA:=rE zd6 [] trivial (by kernel_rfl)
theorem Qs642:zav pr zAa:=rE zxT [zjl,zjm,zlz,zou,zov,zoz,zoA] ⟨zos,zot,zsD,zxN,zxO,zxP,zxR,trivial⟩ (by kernel_rfl)
end Go.Proofs.YtlinkhjnihjbaaaGreatDoor
end
section
namespace Go.Proofs.YtlinkhjnihjbaaaGreatDoor
open Go.Vse
open Go (BinOp IntKind UnOp)
set_option maxRecDepth 100000
theorem Qs643:zav pr zAb:=rE zxT [zjl,zjm,zlz,zou,zov,zoz,zoA] ⟨zos,zot,zsD,zxN,zxO,zxP,zxR,trivial⟩ (by kernel_rfl)
theorem Qs647:zav pr zAc:=rE zxT [zjl,zjm,zlz,zou,zov,zoz,zoA] ⟨zos,zot,zsD,zxN,zxO,zxP,zxR,trivial⟩ (by kernel_rfl)
theorem Qs657:zav pr zJ1:=rE QsK11 [zcM,zf4,zz8,zAa,zAb,zAc] ⟨zdG,zij,Qs428,Qs642,Qs643,Qs647,trivial⟩ (by kernel_rfl)
end Go.Proofs.YtlinkhjnihjbaaaGreatDoor
end
