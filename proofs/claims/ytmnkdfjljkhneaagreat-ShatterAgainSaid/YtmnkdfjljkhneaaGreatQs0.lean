/- Closed runs. Written by program. -/
import Derived.Test.YtmnkdfjljkhneaaGreatQsE
import Derived.KernelRfl
set_option linter.all false
section
namespace Go.Proofs.YtmnkdfjljkhneaaGreat
open Go.Vse
open Go (BinOp IntKind UnOp)
set_option maxRecDepth 100000
theorem Qs13:zbj pr QsE13:=
 zbr (mask:=0) (n:=400) (l:=[]) trivial (by kernel_rfl)
theorem Qs17:zbj pr QsE17:=
 zbr (mask:=0) (n:=400) (l:=[]) trivial (by kernel_rfl)
theorem Qs19:zbj pr QsE19:=
 zbr (mask:=0) (n:=400) (l:=[]) trivial (by kernel_rfl)
theorem Qs25:zbj pr QsE25:=
 zbr (mask:=0) (n:=400) (l:=[]) trivial (by kernel_rfl)
theorem Qs27:zbj pr QsE27:=
 zbr (mask:=0) (n:=400) (l:=[]) trivial (by kernel_rfl)
theorem Qs29:zbj pr QsE29:=
 zbr (mask:=0) (n:=400) (l:=[]) trivial (by kernel_rfl)
theorem Qs31:zbj pr QsE31:=
 zbr (mask:=0) (n:=400) (l:=[]) trivial (by kernel_rfl)
theorem Qs35:zbj pr QsE35:=
 zbr (mask:=0) (n:=400) (l:=[]) trivial (by kernel_rfl)
theorem Qs42:zbj pr QsE42:=
 zbr (mask:=0) (n:=400) (l:=[]) trivial (by kernel_rfl)
theorem zjO:zbj pr zgR:=
 zbr (mask:=0) (n:=400) (l:=[]) trivial (by kernel_rfl)
theorem zuP:zbj pr zmo:=
 zbr (mask:=5986310706507378352962293074805895248510699696029696) (n:=400) (l:=[zgR]) ⟨zjO,trivial⟩ (by kernel_rfl)
theorem zAh:zbj pr zpF:=
 zbr (mask:=6135968474170062811786350401676042629723467188430438400) (n:=400) (l:=[zgR,zmo]) ⟨zjO,zuP,trivial⟩ (by kernel_rfl)
theorem Qs59:zbj pr zCu:=
 zbr (mask:=7668464015035951670144697428826351813342206310614040576) (n:=400) (l:=[zgR,zmo,zpF]) ⟨zjO,zuP,zAh,trivial⟩ (by kernel_rfl)
theorem znH:zbj pr ziG:=
 zbr (mask:=53876796358566405176660637673253057236596297264267264) (n:=400) (l:=[zgR,zCu]) ⟨zjO,Qs59,trivial⟩ (by kernel_rfl)
theorem Qs69:zbj pr QsE69:=
 zbr (mask:=23384026197294446691258957323460528314494920687616) (n:=400) (l:=[ziG]) ⟨znH,trivial⟩ (by kernel_rfl)
theorem Qs81:zbj pr zCw:=
 zbr (mask:=7668464015035951670144697428826351813342206310614040576) (n:=400) (l:=[zgR,zmo,zpF]) ⟨zjO,zuP,zAh,trivial⟩ (by kernel_rfl)
theorem zqc:zbj pr zkT:=
 zbr (mask:=53876796358566405176660637673253057236596297264267264) (n:=400) (l:=[zgR,zCw]) ⟨zjO,Qs81,trivial⟩ (by kernel_rfl)
theorem Qs91:zbj pr QsE91:=
 zbr (mask:=23384026197294446691258957323460528314494920687616) (n:=400) (l:=[zkT]) ⟨zqc,trivial⟩ (by kernel_rfl)
theorem Qs104:zbj pr zxe:=
 zbr (mask:=7668464015035951670144697428826351813342206310614040576) (n:=400) (l:=[zgR,zmo,zpF]) ⟨zjO,zuP,zAh,trivial⟩ (by kernel_rfl)
theorem zmi:zbj pr zii:=
 zbr (mask:=53876796358566405176660637673253057236596297264267264) (n:=400) (l:=[zgR,zxe]) ⟨zjO,Qs104,trivial⟩ (by kernel_rfl)
theorem Qs114:zbj pr zIW:=
 zbr (mask:=23384026197294446691258957323460528314494920687616) (n:=400) (l:=[zii]) ⟨zmi,trivial⟩ (by kernel_rfl)
end Go.Proofs.YtmnkdfjljkhneaaGreat
end
section
namespace Go.Proofs.YtmnkdfjljkhneaaGreat
open Go.Vse
open Go (BinOp IntKind UnOp)
set_option maxRecDepth 100000
theorem Qs116:zbj pr zIX:=
 zbr (mask:=0) (n:=400) (l:=[]) trivial (by kernel_rfl)
theorem Qs118:zbj pr zIZ:=
 zbr (mask:=0) (n:=400) (l:=[]) trivial (by kernel_rfl)
theorem Qs120:zbj pr zI0:=
 zbr (mask:=0) (n:=400) (l:=[]) trivial (by kernel_rfl)
theorem Qs124:zbj pr zI6:=
 zbr (mask:=23384026197294446691258957323460528314494920687616) (n:=400) (l:=[ziG]) ⟨znH,trivial⟩ (by kernel_rfl)
theorem Qs128:zbj pr zI9:=
 zbr (mask:=23384026197294446691258957323460528314494920687616) (n:=400) (l:=[zkT]) ⟨zqc,trivial⟩ (by kernel_rfl)
theorem Qs132:zbj pr zJc:=
 zbr (mask:=23384026197294446691258957323460528314494920687616) (n:=400) (l:=[zii]) ⟨zmi,trivial⟩ (by kernel_rfl)
theorem Qs136:zbj pr zJd:=
 zbr (mask:=23384026197294446691258957323460528314494920687616) (n:=400) (l:=[ziG]) ⟨znH,trivial⟩ (by kernel_rfl)
theorem Qs140:zbj pr zJf:=
 zbr (mask:=23384026197294446691258957323460528314494920687616) (n:=400) (l:=[zkT]) ⟨zqc,trivial⟩ (by kernel_rfl)
theorem Qs144:zbj pr zJh:=
 zbr (mask:=23384026197294446691258957323460528314494920687616) (n:=400) (l:=[zii]) ⟨zmi,trivial⟩ (by kernel_rfl)
theorem Qs148:zbj pr zJi:=
 zbr (mask:=0) (n:=400) (l:=[]) trivial (by kernel_rfl)
theorem Qs152:zbj pr zJl:=
 zbr (mask:=0) (n:=400) (l:=[]) trivial (by kernel_rfl)
theorem Qs154:zbj pr zJm:=
 zbr (mask:=0) (n:=400) (l:=[]) trivial (by kernel_rfl)
theorem Qs156:zbj pr zJp:=
 zbr (mask:=0) (n:=400) (l:=[]) trivial (by kernel_rfl)
theorem Qs158:zbj pr zJq:=
 zbr (mask:=0) (n:=400) (l:=[]) trivial (by kernel_rfl)
theorem Qs164:zbj pr zJr:=
 zbr (mask:=23384026197294446691258957323460528314494920687616) (n:=400) (l:=[ziG]) ⟨znH,trivial⟩ (by kernel_rfl)
theorem Qs168:zbj pr zJs:=
 zbr (mask:=23384026197294446691258957323460528314494920687616) (n:=400) (l:=[zkT]) ⟨zqc,trivial⟩ (by kernel_rfl)
theorem Qs172:zbj pr zJt:=
 zbr (mask:=23384026197294446691258957323460528314494920687616) (n:=400) (l:=[zii]) ⟨zmi,trivial⟩ (by kernel_rfl)
end Go.Proofs.YtmnkdfjljkhneaaGreat
end
