/- Closed runs. Written by program. -/
import Derived.Test.YtmnkdfjljkhneaaGreatQsE
import Derived.Test.YtmnkdfjljkhneaaGreatQs0
import Derived.KernelRfl
set_option linter.all false
namespace Go.Proofs.YtmnkdfjljkhneaaGreat
open Go.Vse
open Go (BinOp IntKind UnOp)
set_option maxRecDepth 100000
theorem Qs174:zbj pr zJu:=
 zbr (mask:=0) (n:=400) (l:=[]) trivial (by kernel_rfl)
theorem Qs176:zbj pr zJv:=
 zbr (mask:=0) (n:=400) (l:=[]) trivial (by kernel_rfl)
theorem Qs180:zbj pr zJw:=
 zbr (mask:=23384026197294446691258957323460528314494920687616) (n:=400) (l:=[ziG]) ⟨znH,trivial⟩ (by kernel_rfl)
theorem Qs184:zbj pr zJx:=
 zbr (mask:=23384026197294446691258957323460528314494920687616) (n:=400) (l:=[zkT]) ⟨zqc,trivial⟩ (by kernel_rfl)
theorem Qs188:zbj pr zJA:=
 zbr (mask:=23384026197294446691258957323460528314494920687616) (n:=400) (l:=[zii]) ⟨zmi,trivial⟩ (by kernel_rfl)
theorem Qs192:zbj pr zJB:=
 zbr (mask:=23384026197294446691258957323460528314494920687616) (n:=400) (l:=[ziG]) ⟨znH,trivial⟩ (by kernel_rfl)
theorem Qs193:zbj pr zJC:=
 zbr (mask:=0) (n:=400) (l:=[]) trivial (by kernel_rfl)
theorem Qs194:zbj pr zJD:=
 zbr (mask:=0) (n:=400) (l:=[]) trivial (by kernel_rfl)
end Go.Proofs.YtmnkdfjljkhneaaGreat
