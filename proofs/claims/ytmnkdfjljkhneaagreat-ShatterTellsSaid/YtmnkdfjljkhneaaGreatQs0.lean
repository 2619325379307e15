/- Closed runs. Written by program. -/
import Derived.Test.YtmnkdfjljkhneaaGreatQsE
import Derived.KernelRfl
set_option linter.all false
section
namespace Go.Proofs.YtmnkdfjljkhneaaGreat
open Go.Vse
open Go (BinOp IntKind UnOp)
set_option maxRecDepth 100000
theorem Qs13:zb2 pr QsE13:=
 zcb (mask:=0) (n:=400) (l:=[]) trivial (by kernel_rfl)
theorem Qs17:zb2 pr QsE17:=
 zcb (mask:=0) (n:=400) (l:=[]) trivial (by kernel_rfl)
theorem Qs19:zb2 pr QsE19:=
 zcb (mask:=0) (n:=400) (l:=[]) trivial (by kernel_rfl)
theorem Qs25:zb2 pr QsE25:=
 zcb (mask:=0) (n:=400) (l:=[]) trivial (by kernel_rfl)
theorem Qs27:zb2 pr QsE27:=
 zcb (mask:=0) (n:=400) (l:=[]) trivial (by kernel_rfl)
theorem Qs29:zb2 pr QsE29:=
 zcb (mask:=0) (n:=400) (l:=[]) trivial (by kernel_rfl)
theorem Qs31:zb2 pr QsE31:=
 zcb (mask:=0) (n:=400) (l:=[]) trivial (by kernel_rfl)
theorem Qs35:zb2 pr QsE35:=
 zcb (mask:=0) (n:=400) (l:=[]) trivial (by kernel_rfl)
theorem Qs42:zb2 pr QsE42:=
 zcb (mask:=0) (n:=400) (l:=[]) trivial (by kernel_rfl)
theorem zla:zb2 pr zhZ:=
 zcb (mask:=0) (n:=400) (l:=[]) trivial (by kernel_rfl)
theorem zxu:zb2 pr znW:=
 zcb (mask:=5986310706507378352962293074805895248510699696029696) (n:=400) (l:=[zhZ]) ⟨zla,trivial⟩ (by kernel_rfl)
theorem zDq:zb2 pr zrE:=
 zcb (mask:=6135968474170062811786350401676042629723467188430438400) (n:=400) (l:=[zhZ,znW]) ⟨zla,zxu,trivial⟩ (by kernel_rfl)
theorem Qs59:zb2 pr zGn:=
 zcb (mask:=7668464015035951670144697428826351813342206310614040576) (n:=400) (l:=[zhZ,znW,zrE]) ⟨zla,zxu,zDq,trivial⟩ (by kernel_rfl)
theorem zpv:zb2 pr zjO:=
 zcb (mask:=53876796358566405176660637673253057236596297264267264) (n:=400) (l:=[zhZ,zGn]) ⟨zla,Qs59,trivial⟩ (by kernel_rfl)
theorem Qs69:zb2 pr QsE69:=
 zcb (mask:=23384026197294446691258957323460528314494920687616) (n:=400) (l:=[zjO]) ⟨zpv,trivial⟩ (by kernel_rfl)
theorem Qs81:zb2 pr zGp:=
 zcb (mask:=7668464015035951670144697428826351813342206310614040576) (n:=400) (l:=[zhZ,znW,zrE]) ⟨zla,zxu,zDq,trivial⟩ (by kernel_rfl)
theorem zsi:zb2 pr zl1:=
 zcb (mask:=53876796358566405176660637673253057236596297264267264) (n:=400) (l:=[zhZ,zGp]) ⟨zla,Qs81,trivial⟩ (by kernel_rfl)
theorem Qs91:zb2 pr QsE91:=
 zcb (mask:=23384026197294446691258957323460528314494920687616) (n:=400) (l:=[zl1]) ⟨zsi,trivial⟩ (by kernel_rfl)
end Go.Proofs.YtmnkdfjljkhneaaGreat
end
section
namespace Go.Proofs.YtmnkdfjljkhneaaGreat
open Go.Vse
open Go (BinOp IntKind UnOp)
set_option maxRecDepth 100000
theorem Qs104:zb2 pr zzZ:=
 zcb (mask:=7668464015035951670144697428826351813342206310614040576) (n:=400) (l:=[zhZ,znW,zrE]) ⟨zla,zxu,zDq,trivial⟩ (by kernel_rfl)
theorem znV:zb2 pr zjl:=
 zcb (mask:=53876796358566405176660637673253057236596297264267264) (n:=400) (l:=[zhZ,zzZ]) ⟨zla,Qs104,trivial⟩ (by kernel_rfl)
theorem Qs114:zb2 pr zNz:=
 zcb (mask:=23384026197294446691258957323460528314494920687616) (n:=400) (l:=[zjl]) ⟨znV,trivial⟩ (by kernel_rfl)
theorem Qs116:zb2 pr zNA:=
 zcb (mask:=0) (n:=400) (l:=[]) trivial (by kernel_rfl)
theorem Qs118:zb2 pr zNB:=
 zcb (mask:=0) (n:=400) (l:=[]) trivial (by kernel_rfl)
theorem Qs120:zb2 pr zNC:=
 zcb (mask:=0) (n:=400) (l:=[]) trivial (by kernel_rfl)
theorem Qs124:zb2 pr zND:=
 zcb (mask:=23384026197294446691258957323460528314494920687616) (n:=400) (l:=[zjO]) ⟨zpv,trivial⟩ (by kernel_rfl)
theorem Qs128:zb2 pr zNF:=
 zcb (mask:=23384026197294446691258957323460528314494920687616) (n:=400) (l:=[zl1]) ⟨zsi,trivial⟩ (by kernel_rfl)
theorem Qs132:zb2 pr zNG:=
 zcb (mask:=23384026197294446691258957323460528314494920687616) (n:=400) (l:=[zjl]) ⟨znV,trivial⟩ (by kernel_rfl)
theorem Qs136:zb2 pr zNK:=
 zcb (mask:=23384026197294446691258957323460528314494920687616) (n:=400) (l:=[zjO]) ⟨zpv,trivial⟩ (by kernel_rfl)
theorem Qs140:zb2 pr zNL:=
 zcb (mask:=23384026197294446691258957323460528314494920687616) (n:=400) (l:=[zl1]) ⟨zsi,trivial⟩ (by kernel_rfl)
theorem Qs144:zb2 pr zNQ:=
 zcb (mask:=23384026197294446691258957323460528314494920687616) (n:=400) (l:=[zjl]) ⟨znV,trivial⟩ (by kernel_rfl)
theorem Qs148:zb2 pr zNR:=
 zcb (mask:=0) (n:=400) (l:=[]) trivial (by kernel_rfl)
theorem Qs152:zb2 pr zNS:=
 zcb (mask:=0) (n:=400) (l:=[]) trivial (by kernel_rfl)
end Go.Proofs.YtmnkdfjljkhneaaGreat
end
