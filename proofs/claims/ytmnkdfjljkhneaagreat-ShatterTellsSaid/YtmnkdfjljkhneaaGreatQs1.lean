/- Closed runs. Written by program. -/
import Derived.Test.YtmnkdfjljkhneaaGreatQsE
import Derived.Test.YtmnkdfjljkhneaaGreatQs0
import Derived.KernelRfl
set_option linter.all false
namespace Go.Proofs.YtmnkdfjljkhneaaGreat
open Go.Vse
open Go (BinOp IntKind UnOp)
set_option maxRecDepth 100000
theorem Qs154:zb2 pr zNT:=
 zcb (mask:=0) (n:=400) (l:=[]) trivial (by kernel_rfl)
theorem Qs156:zb2 pr zNU:=
 zcb (mask:=0) (n:=400) (l:=[]) trivial (by kernel_rfl)
theorem Qs158:zb2 pr zNV:=
 zcb (mask:=0) (n:=400) (l:=[]) trivial (by kernel_rfl)
theorem Qs164:zb2 pr zNW:=
 zcb (mask:=23384026197294446691258957323460528314494920687616) (n:=400) (l:=[zjO]) ⟨zpv,trivial⟩ (by kernel_rfl)
theorem Qs168:zb2 pr zNX:=
 zcb (mask:=23384026197294446691258957323460528314494920687616) (n:=400) (l:=[zl1]) ⟨zsi,trivial⟩ (by kernel_rfl)
theorem Qs172:zb2 pr zN1:=
 zcb (mask:=23384026197294446691258957323460528314494920687616) (n:=400) (l:=[zjl]) ⟨znV,trivial⟩ (by kernel_rfl)
theorem Qs174:zb2 pr zN3:=
 zcb (mask:=0) (n:=400) (l:=[]) trivial (by kernel_rfl)
theorem Qs176:zb2 pr zN5:=
 zcb (mask:=0) (n:=400) (l:=[]) trivial (by kernel_rfl)
theorem Qs180:zb2 pr zN7:=
 zcb (mask:=23384026197294446691258957323460528314494920687616) (n:=400) (l:=[zjO]) ⟨zpv,trivial⟩ (by kernel_rfl)
theorem Qs184:zb2 pr zOa:=
 zcb (mask:=23384026197294446691258957323460528314494920687616) (n:=400) (l:=[zl1]) ⟨zsi,trivial⟩ (by kernel_rfl)
theorem Qs188:zb2 pr zOc:=
 zcb (mask:=23384026197294446691258957323460528314494920687616) (n:=400) (l:=[zjl]) ⟨znV,trivial⟩ (by kernel_rfl)
theorem Qs192:zb2 pr zOd:=
 zcb (mask:=23384026197294446691258957323460528314494920687616) (n:=400) (l:=[zjO]) ⟨zpv,trivial⟩ (by kernel_rfl)
theorem Qs193:zb2 pr zOi:=
 zcb (mask:=0) (n:=400) (l:=[]) trivial (by kernel_rfl)
theorem Qs194:zb2 pr zOo:=
 zcb (mask:=0) (n:=400) (l:=[]) trivial (by kernel_rfl)
end Go.Proofs.YtmnkdfjljkhneaaGreat
