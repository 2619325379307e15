/- Closed runs. Written by program. -/
import Derived.Test.YtlnfpifjdcmmlaaGreatDoorQsE
import Derived.Test.YtlnfpifjdcmmlaaGreatDoorQs0
import Derived.KernelRfl
set_option linter.all false
section
namespace Go.Proofs.YtlnfpifjdcmmlaaGreatDoor
open Go.Vse
open Go (BinOp IntKind UnOp)
set_option maxRecDepth 100000
theorem Qs154:za2 pr zI0:=
 za5 (mask:=0) (n:=400) (l:=[]) trivial (by kernel_rfl)
theorem Qs156:za2 pr zI6:=
 za5 (mask:=0) (n:=400) (l:=[]) trivial (by kernel_rfl)
theorem Qs158:za2 pr zI9:=
 za5 (mask:=0) (n:=400) (l:=[]) trivial (by kernel_rfl)
theorem Qs164:za2 pr zJc:=
 za5 (mask:=85070591730234615865843651857942052864) (n:=400) (l:=[zlB]) ⟨zrD,trivial⟩ (by kernel_rfl)
theorem Qs168:za2 pr zJd:=
 za5 (mask:=85070591730234615865843651857942052864) (n:=400) (l:=[zlC]) ⟨zrE,trivial⟩ (by kernel_rfl)
theorem Qs172:za2 pr zJf:=
 za5 (mask:=85070591730234615865843651857942052864) (n:=400) (l:=[zi3]) ⟨znl,trivial⟩ (by kernel_rfl)
theorem Qs174:za2 pr zJh:=
 za5 (mask:=0) (n:=400) (l:=[]) trivial (by kernel_rfl)
theorem Qs176:za2 pr zJi:=
 za5 (mask:=0) (n:=400) (l:=[]) trivial (by kernel_rfl)
theorem Qs180:za2 pr zJl:=
 za5 (mask:=85070591730234615865843651857942052864) (n:=400) (l:=[zlB]) ⟨zrD,trivial⟩ (by kernel_rfl)
theorem Qs184:za2 pr zJm:=
 za5 (mask:=85070591730234615865843651857942052864) (n:=400) (l:=[zlC]) ⟨zrE,trivial⟩ (by kernel_rfl)
theorem Qs188:za2 pr zJp:=
 za5 (mask:=85070591730234615865843651857942052864) (n:=400) (l:=[zi3]) ⟨znl,trivial⟩ (by kernel_rfl)
theorem Qs190:za2 pr zJq:=
 za5 (mask:=0) (n:=400) (l:=[]) trivial (by kernel_rfl)
end Go.Proofs.YtlnfpifjdcmmlaaGreatDoor
end
section
namespace Go.Proofs.YtlnfpifjdcmmlaaGreatDoor
open Go.Vse
open Go (BinOp IntKind UnOp)
set_option maxRecDepth 100000
theorem Qs192:za2 pr zJr:=
 za5 (mask:=0) (n:=400) (l:=[]) trivial (by kernel_rfl)
theorem Qs194:za2 pr zJs:=
 za5 (mask:=0) (n:=400) (l:=[]) trivial (by kernel_rfl)
theorem Qs196:za2 pr zJt:=
 za5 (mask:=0) (n:=400) (l:=[]) trivial (by kernel_rfl)
theorem Qs197:za2 pr zJu:=
 za5 (mask:=0) (n:=400) (l:=[]) trivial (by kernel_rfl)
theorem Qs198:za2 pr zJv:=
 za5 (mask:=0) (n:=400) (l:=[]) trivial (by kernel_rfl)
theorem Qs224:za2 pr zxZ:=
 za5 (mask:=0) (n:=400) (l:=[]) trivial (by kernel_rfl)
theorem zvA:za2 pr znm:=
 za5 (mask:=0) (n:=400) (l:=[]) trivial (by kernel_rfl)
theorem Qs241:za2 pr zx0:=
 za5 (mask:=4398046511104) (n:=400) (l:=[znm]) ⟨zvA,trivial⟩ (by kernel_rfl)
theorem Qs255:za2 pr zx1:=
 za5 (mask:=0) (n:=400) (l:=[]) trivial (by kernel_rfl)
theorem Qs258:za2 pr zx2:=
 za5 (mask:=0) (n:=400) (l:=[]) trivial (by kernel_rfl)
theorem Qs284:za2 pr zx3:=
 za5 (mask:=0) (n:=400) (l:=[]) trivial (by kernel_rfl)
theorem zvD:za2 pr znn:=
 za5 (mask:=0) (n:=400) (l:=[]) trivial (by kernel_rfl)
theorem Qs305:za2 pr zx4:=
 za5 (mask:=4398046511104) (n:=400) (l:=[zx1,zx2,zx3,znn]) ⟨Qs255,Qs258,Qs284,zvD,trivial⟩ (by kernel_rfl)
theorem Qs321:za2 pr zx7:=
 za5 (mask:=4398046511104) (n:=400) (l:=[znm,znn]) ⟨zvA,zvD,trivial⟩ (by kernel_rfl)
theorem Qs323:za2 pr zx8:=
 za5 (mask:=4398063289408) (n:=400) (l:=[zxZ,znm,zx0,znn,zx4,zx7]) ⟨Qs224,zvA,Qs241,zvD,Qs305,Qs321,trivial⟩ (by kernel_rfl)
theorem Qs325:za2 pr zJw:=
 za5 (mask:=32) (n:=400) (l:=[zx8]) ⟨Qs323,trivial⟩ (by kernel_rfl)
end Go.Proofs.YtlnfpifjdcmmlaaGreatDoor
end
