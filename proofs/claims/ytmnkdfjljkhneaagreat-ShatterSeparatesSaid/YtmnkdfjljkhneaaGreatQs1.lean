/- Closed runs. Written by program. -/
import Derived.Test.YtmnkdfjljkhneaaGreatQsE
import Derived.Test.YtmnkdfjljkhneaaGreatQs0
import Derived.KernelRfl
set_option linter.all false
namespace Go.Proofs.YtmnkdfjljkhneaaGreat
open Go.Vse
open Go (BinOp IntKind UnOp)
set_option maxRecDepth 100000
theorem Qs174:zbh pr zIs:=
 zbu (mask:=0) (n:=400) (l:=[]) trivial (by kernel_rfl)
theorem Qs176:zbh pr zIt:=
 zbu (mask:=0) (n:=400) (l:=[]) trivial (by kernel_rfl)
theorem Qs180:zbh pr zIv:=
 zbu (mask:=23384026197294446691258957323460528314494920687616) (n:=400) (l:=[ziy]) ⟨znm,trivial⟩ (by kernel_rfl)
theorem Qs184:zbh pr zIw:=
 zbu (mask:=23384026197294446691258957323460528314494920687616) (n:=400) (l:=[zkI]) ⟨zpL,trivial⟩ (by kernel_rfl)
theorem Qs188:zbh pr zIy:=
 zbu (mask:=23384026197294446691258957323460528314494920687616) (n:=400) (l:=[zia]) ⟨zlX,trivial⟩ (by kernel_rfl)
theorem Qs192:zbh pr zIA:=
 zbu (mask:=23384026197294446691258957323460528314494920687616) (n:=400) (l:=[ziy]) ⟨znm,trivial⟩ (by kernel_rfl)
theorem Qs193:zbh pr zIB:=
 zbu (mask:=0) (n:=400) (l:=[]) trivial (by kernel_rfl)
theorem Qs194:zbh pr zID:=
 zbu (mask:=0) (n:=400) (l:=[]) trivial (by kernel_rfl)
end Go.Proofs.YtmnkdfjljkhneaaGreat
