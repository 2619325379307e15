/- Closed runs. Written by program. -/
import Derived.Test.YtmnkdfjljkhneaaGreatQsE
import Derived.KernelRfl
set_option linter.all false
section
namespace Go.Proofs.YtmnkdfjljkhneaaGreat
open Go.Vse
open Go (BinOp IntKind UnOp)
set_option maxRecDepth 100000
theorem Qs13:zbh pr QsE13:=
 zbu (mask:=0) (n:=400) (l:=[]) trivial (by kernel_rfl)
theorem Qs17:zbh pr QsE17:=
 zbu (mask:=0) (n:=400) (l:=[]) trivial (by kernel_rfl)
theorem Qs19:zbh pr QsE19:=
 zbu (mask:=0) (n:=400) (l:=[]) trivial (by kernel_rfl)
theorem Qs25:zbh pr QsE25:=
 zbu (mask:=0) (n:=400) (l:=[]) trivial (by kernel_rfl)
theorem Qs27:zbh pr QsE27:=
 zbu (mask:=0) (n:=400) (l:=[]) trivial (by kernel_rfl)
theorem Qs29:zbh pr QsE29:=
 zbu (mask:=0) (n:=400) (l:=[]) trivial (by kernel_rfl)
theorem Qs31:zbh pr QsE31:=
 zbu (mask:=0) (n:=400) (l:=[]) trivial (by kernel_rfl)
theorem Qs35:zbh pr QsE35:=
 zbu (mask:=0) (n:=400) (l:=[]) trivial (by kernel_rfl)
theorem Qs42:zbh pr QsE42:=
 zbu (mask:=0) (n:=400) (l:=[]) trivial (by kernel_rfl)
theorem zjE:zbh pr zgO:=
 zbu (mask:=0) (n:=400) (l:=[]) trivial (by kernel_rfl)
theorem zt9:zbh pr zlZ:=
 zbu (mask:=5986310706507378352962293074805895248510699696029696) (n:=400) (l:=[zgO]) ⟨zjE,trivial⟩ (by kernel_rfl)
theorem zzo:zbh pr zo8:=
 zbu (mask:=6135968474170062811786350401676042629723467188430438400) (n:=400) (l:=[zgO,zlZ]) ⟨zjE,zt9,trivial⟩ (by kernel_rfl)
theorem Qs59:zbh pr zBM:=
 zbu (mask:=7668464015035951670144697428826351813342206310614040576) (n:=400) (l:=[zgO,zlZ,zo8]) ⟨zjE,zt9,zzo,trivial⟩ (by kernel_rfl)
theorem znm:zbh pr ziy:=
 zbu (mask:=53876796358566405176660637673253057236596297264267264) (n:=400) (l:=[zgO,zBM]) ⟨zjE,Qs59,trivial⟩ (by kernel_rfl)
theorem Qs69:zbh pr QsE69:=
 zbu (mask:=23384026197294446691258957323460528314494920687616) (n:=400) (l:=[ziy]) ⟨znm,trivial⟩ (by kernel_rfl)
theorem Qs81:zbh pr zBN:=
 zbu (mask:=7668464015035951670144697428826351813342206310614040576) (n:=400) (l:=[zgO,zlZ,zo8]) ⟨zjE,zt9,zzo,trivial⟩ (by kernel_rfl)
theorem zpL:zbh pr zkI:=
 zbu (mask:=53876796358566405176660637673253057236596297264267264) (n:=400) (l:=[zgO,zBN]) ⟨zjE,Qs81,trivial⟩ (by kernel_rfl)
theorem Qs91:zbh pr QsE91:=
 zbu (mask:=23384026197294446691258957323460528314494920687616) (n:=400) (l:=[zkI]) ⟨zpL,trivial⟩ (by kernel_rfl)
theorem Qs104:zbh pr zwB:=
 zbu (mask:=7668464015035951670144697428826351813342206310614040576) (n:=400) (l:=[zgO,zlZ,zo8]) ⟨zjE,zt9,zzo,trivial⟩ (by kernel_rfl)
theorem zlX:zbh pr zia:=
 zbu (mask:=53876796358566405176660637673253057236596297264267264) (n:=400) (l:=[zgO,zwB]) ⟨zjE,Qs104,trivial⟩ (by kernel_rfl)
theorem Qs114:zbh pr zH1:=
 zbu (mask:=23384026197294446691258957323460528314494920687616) (n:=400) (l:=[zia]) ⟨zlX,trivial⟩ (by kernel_rfl)
end Go.Proofs.YtmnkdfjljkhneaaGreat
end
section
namespace Go.Proofs.YtmnkdfjljkhneaaGreat
open Go.Vse
open Go (BinOp IntKind UnOp)
set_option maxRecDepth 100000
theorem Qs116:zbh pr zH2:=
 zbu (mask:=0) (n:=400) (l:=[]) trivial (by kernel_rfl)
theorem Qs118:zbh pr zH3:=
 zbu (mask:=0) (n:=400) (l:=[]) trivial (by kernel_rfl)
theorem Qs120:zbh pr zH5:=
 zbu (mask:=0) (n:=400) (l:=[]) trivial (by kernel_rfl)
theorem Qs124:zbh pr zH6:=
 zbu (mask:=23384026197294446691258957323460528314494920687616) (n:=400) (l:=[ziy]) ⟨znm,trivial⟩ (by kernel_rfl)
theorem Qs128:zbh pr zH8:=
 zbu (mask:=23384026197294446691258957323460528314494920687616) (n:=400) (l:=[zkI]) ⟨zpL,trivial⟩ (by kernel_rfl)
theorem Qs132:zbh pr zIa:=
 zbu (mask:=23384026197294446691258957323460528314494920687616) (n:=400) (l:=[zia]) ⟨zlX,trivial⟩ (by kernel_rfl)
theorem Qs136:zbh pr zIb:=
 zbu (mask:=23384026197294446691258957323460528314494920687616) (n:=400) (l:=[ziy]) ⟨znm,trivial⟩ (by kernel_rfl)
theorem Qs140:zbh pr zId:=
 zbu (mask:=23384026197294446691258957323460528314494920687616) (n:=400) (l:=[zkI]) ⟨zpL,trivial⟩ (by kernel_rfl)
theorem Qs144:zbh pr zIe:=
 zbu (mask:=23384026197294446691258957323460528314494920687616) (n:=400) (l:=[zia]) ⟨zlX,trivial⟩ (by kernel_rfl)
theorem Qs148:zbh pr zIh:=
 zbu (mask:=0) (n:=400) (l:=[]) trivial (by kernel_rfl)
theorem Qs152:zbh pr zIi:=
 zbu (mask:=0) (n:=400) (l:=[]) trivial (by kernel_rfl)
theorem Qs154:zbh pr zIj:=
 zbu (mask:=0) (n:=400) (l:=[]) trivial (by kernel_rfl)
theorem Qs156:zbh pr zIk:=
 zbu (mask:=0) (n:=400) (l:=[]) trivial (by kernel_rfl)
theorem Qs158:zbh pr zIl:=
 zbu (mask:=0) (n:=400) (l:=[]) trivial (by kernel_rfl)
theorem Qs164:zbh pr zIm:=
 zbu (mask:=23384026197294446691258957323460528314494920687616) (n:=400) (l:=[ziy]) ⟨znm,trivial⟩ (by kernel_rfl)
theorem Qs168:zbh pr zIp:=
 zbu (mask:=23384026197294446691258957323460528314494920687616) (n:=400) (l:=[zkI]) ⟨zpL,trivial⟩ (by kernel_rfl)
theorem Qs172:zbh pr zIr:=
 zbu (mask:=23384026197294446691258957323460528314494920687616) (n:=400) (l:=[zia]) ⟨zlX,trivial⟩ (by kernel_rfl)
end Go.Proofs.YtmnkdfjljkhneaaGreat
end
