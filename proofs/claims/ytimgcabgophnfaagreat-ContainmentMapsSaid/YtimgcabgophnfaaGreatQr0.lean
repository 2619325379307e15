/- Closed runs. Written by program. -/
import Derived.Test.YtimgcabgophnfaaGreatQrE
import Derived.KernelRfl
set_option linter.all false
section
namespace Go.Proofs.YtimgcabgophnfaaGreat
open Go.Vse
open Go (BinOp IntKind UnOp)
set_option maxRecDepth 100000
theorem Qr13 : zbO pr QrE13 :=
 zbS (mask := 0) (n := 400) (l := []) trivial (by kernel_rfl)
theorem Qr17 : zbO pr QrE17 :=
 zbS (mask := 0) (n := 400) (l := []) trivial (by kernel_rfl)
theorem Qr19 : zbO pr QrE19 :=
 zbS (mask := 0) (n := 400) (l := []) trivial (by kernel_rfl)
theorem Qr25 : zbO pr QrE25 :=
 zbS (mask := 0) (n := 400) (l := []) trivial (by kernel_rfl)
theorem Qr27 : zbO pr QrE27 :=
 zbS (mask := 0) (n := 400) (l := []) trivial (by kernel_rfl)
theorem Qr29 : zbO pr zGK :=
 zbS (mask := 0) (n := 400) (l := []) trivial (by kernel_rfl)
theorem Qr31 : zbO pr QrE31 :=
 zbS (mask := 0) (n := 400) (l := []) trivial (by kernel_rfl)
theorem Qr35 : zbO pr QrE35 :=
 zbS (mask := 0) (n := 400) (l := []) trivial (by kernel_rfl)
theorem Qr42 : zbO pr QrE42 :=
 zbS (mask := 0) (n := 400) (l := []) trivial (by kernel_rfl)
theorem zkj : zbO pr zhD :=
 zbS (mask := 0) (n := 400) (l := []) trivial (by kernel_rfl)
theorem zyA : zbO pr zoK :=
 zbS (mask := 187072209578355573530071658587684226515959365500928) (n := 400) (l := [zhD]) ⟨zkj,trivial⟩ (by kernel_rfl)
theorem zCt : zbO pr zre :=
 zbS (mask := 191749014817814462868323450052376332178858349638451200) (n := 400) (l := [zhD,zoK]) ⟨zkj,zyA,trivial⟩ (by kernel_rfl)
theorem Qr59 : zbO pr zGk :=
 zbS (mask := 239639500469873489692021794650823494166943947206688768) (n := 400) (l := [zhD,zoK,zre]) ⟨zkj,zyA,zCt,trivial⟩ (by kernel_rfl)
theorem zrj : zbO pr zlR :=
 zbS (mask := 1683649886205200161770644927289158038643634289508352) (n := 400) (l := [zhD,zGk]) ⟨zkj,Qr59,trivial⟩ (by kernel_rfl)
theorem zCG : zbO pr QrE69 :=
 zbS (mask := 365375409332725729550921208179070754913983135744) (n := 400) (l := [zlR]) ⟨zrj,trivial⟩ (by kernel_rfl)
theorem Qr81 : zbO pr zH2 :=
 zbS (mask := 239639500469873489692021794650823494166943947206688768) (n := 400) (l := [zhD,zoK,zre]) ⟨zkj,zyA,zCt,trivial⟩ (by kernel_rfl)
theorem ztC : zbO pr zlT :=
 zbS (mask := 1683649886205200161770644927289158038643634289508352) (n := 400) (l := [zhD,zH2]) ⟨zkj,Qr81,trivial⟩ (by kernel_rfl)
theorem zDq : zbO pr QrE91 :=
 zbS (mask := 365375409332725729550921208179070754913983135744) (n := 400) (l := [zlT]) ⟨ztC,trivial⟩ (by kernel_rfl)
end Go.Proofs.YtimgcabgophnfaaGreat
end
section
namespace Go.Proofs.YtimgcabgophnfaaGreat
open Go.Vse
open Go (BinOp IntKind UnOp)
set_option maxRecDepth 100000
theorem Qr104 : zbO pr zBI :=
 zbS (mask := 239639500469873489692021794650823494166943947206688768) (n := 400) (l := [zhD,zoK,zre]) ⟨zkj,zyA,zCt,trivial⟩ (by kernel_rfl)
theorem znV : zbO pr zi2 :=
 zbS (mask := 1683649886205200161770644927289158038643634289508352) (n := 400) (l := [zhD,zBI]) ⟨zkj,Qr104,trivial⟩ (by kernel_rfl)
theorem zHH : zbO pr zLM :=
 zbS (mask := 365375409332725729550921208179070754913983135744) (n := 400) (l := [zi2]) ⟨znV,trivial⟩ (by kernel_rfl)
theorem Qr116 : zbO pr zMV :=
 zbS (mask := 0) (n := 400) (l := []) trivial (by kernel_rfl)
theorem Qr118 : zbO pr zNn :=
 zbS (mask := 0) (n := 400) (l := []) trivial (by kernel_rfl)
theorem Qr120 : zbO pr zLO :=
 zbS (mask := 0) (n := 400) (l := []) trivial (by kernel_rfl)
theorem zxM : zbO pr zM6 :=
 zbS (mask := 365375409332725729550921208179070754913983135744) (n := 400) (l := [zlR]) ⟨zrj,trivial⟩ (by kernel_rfl)
theorem zwR : zbO pr zMv :=
 zbS (mask := 365375409332725729550921208179070754913983135744) (n := 400) (l := [zlT]) ⟨ztC,trivial⟩ (by kernel_rfl)
theorem zFY : zbO pr zM1 :=
 zbS (mask := 365375409332725729550921208179070754913983135744) (n := 400) (l := [zi2]) ⟨znV,trivial⟩ (by kernel_rfl)
theorem zyO : zbO pr zM8 :=
 zbS (mask := 365375409332725729550921208179070754913983135744) (n := 400) (l := [zlR]) ⟨zrj,trivial⟩ (by kernel_rfl)
theorem zwW : zbO pr zMt :=
 zbS (mask := 365375409332725729550921208179070754913983135744) (n := 400) (l := [zlT]) ⟨ztC,trivial⟩ (by kernel_rfl)
theorem zGW : zbO pr zMC :=
 zbS (mask := 365375409332725729550921208179070754913983135744) (n := 400) (l := [zi2]) ⟨znV,trivial⟩ (by kernel_rfl)
theorem Qr148 : zbO pr zMA :=
 zbS (mask := 0) (n := 400) (l := []) trivial (by kernel_rfl)
theorem Qr152 : zbO pr zM0 :=
 zbS (mask := 0) (n := 400) (l := []) trivial (by kernel_rfl)
end Go.Proofs.YtimgcabgophnfaaGreat
end
