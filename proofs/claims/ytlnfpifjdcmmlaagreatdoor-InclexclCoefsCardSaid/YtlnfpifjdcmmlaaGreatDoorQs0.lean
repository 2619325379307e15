/- Closed runs. Written by program. -/
import Derived.Test.YtlnfpifjdcmmlaaGreatDoorQsE
import Derived.KernelRfl
set_option linter.all false
section
namespace Go.Proofs.YtlnfpifjdcmmlaaGreatDoor
open Go.Vse
open Go (BinOp IntKind UnOp)
set_option maxRecDepth 100000
theorem Qs13:za2 pr QsE13:=
 za5 (mask:=0) (n:=400) (l:=[]) trivial (by kernel_rfl)
theorem Qs17:za2 pr QsE17:=
 za5 (mask:=0) (n:=400) (l:=[]) trivial (by kernel_rfl)
theorem Qs19:za2 pr QsE19:=
 za5 (mask:=0) (n:=400) (l:=[]) trivial (by kernel_rfl)
theorem Qs25:za2 pr QsE25:=
 za5 (mask:=0) (n:=400) (l:=[]) trivial (by kernel_rfl)
theorem Qs27:za2 pr QsE27:=
 za5 (mask:=0) (n:=400) (l:=[]) trivial (by kernel_rfl)
theorem Qs29:za2 pr QsE29:=
 za5 (mask:=0) (n:=400) (l:=[]) trivial (by kernel_rfl)
theorem Qs31:za2 pr QsE31:=
 za5 (mask:=0) (n:=400) (l:=[]) trivial (by kernel_rfl)
theorem Qs35:za2 pr QsE35:=
 za5 (mask:=0) (n:=400) (l:=[]) trivial (by kernel_rfl)
theorem Qs42:za2 pr QsE42:=
 za5 (mask:=0) (n:=400) (l:=[]) trivial (by kernel_rfl)
theorem zkC:za2 pr zhJ:=
 za5 (mask:=0) (n:=400) (l:=[]) trivial (by kernel_rfl)
theorem zvE:za2 pr zno:=
 za5 (mask:=89202980794122492566142873090593446023921664) (n:=400) (l:=[zhJ]) ⟨zkC,trivial⟩ (by kernel_rfl)
theorem zAs:za2 pr zqZ:=
 za5 (mask:=91433055313975554880296444917858282174519705600) (n:=400) (l:=[zhJ,zno]) ⟨zkC,zvE,trivial⟩ (by kernel_rfl)
theorem Qs59:za2 pr zCI:=
 za5 (mask:=114269018397270912977229020429050204356643651584) (n:=400) (l:=[zhJ,zno,zqZ]) ⟨zkC,zvE,zAs,trivial⟩ (by kernel_rfl)
theorem zrD:za2 pr zlB:=
 za5 (mask:=802826827147102433095285857815341014215294976) (n:=400) (l:=[zhJ,zCI]) ⟨zkC,Qs59,trivial⟩ (by kernel_rfl)
theorem Qs69:za2 pr QsE69:=
 za5 (mask:=85070591730234615865843651857942052864) (n:=400) (l:=[zlB]) ⟨zrD,trivial⟩ (by kernel_rfl)
theorem Qs81:za2 pr zCJ:=
 za5 (mask:=114269018397270912977229020429050204356643651584) (n:=400) (l:=[zhJ,zno,zqZ]) ⟨zkC,zvE,zAs,trivial⟩ (by kernel_rfl)
theorem zrE:za2 pr zlC:=
 za5 (mask:=802826827147102433095285857815341014215294976) (n:=400) (l:=[zhJ,zCJ]) ⟨zkC,Qs81,trivial⟩ (by kernel_rfl)
theorem Qs91:za2 pr QsE91:=
 za5 (mask:=85070591730234615865843651857942052864) (n:=400) (l:=[zlC]) ⟨zrE,trivial⟩ (by kernel_rfl)
end Go.Proofs.YtlnfpifjdcmmlaaGreatDoor
end
section
namespace Go.Proofs.YtlnfpifjdcmmlaaGreatDoor
open Go.Vse
open Go (BinOp IntKind UnOp)
set_option maxRecDepth 100000
theorem Qs104:za2 pr zxW:=
 za5 (mask:=114269018397270912977229020429050204356643651584) (n:=400) (l:=[zhJ,zno,zqZ]) ⟨zkC,zvE,zAs,trivial⟩ (by kernel_rfl)
theorem znl:za2 pr zi3:=
 za5 (mask:=802826827147102433095285857815341014215294976) (n:=400) (l:=[zhJ,zxW]) ⟨zkC,Qs104,trivial⟩ (by kernel_rfl)
theorem Qs114:za2 pr zIB:=
 za5 (mask:=85070591730234615865843651857942052864) (n:=400) (l:=[zi3]) ⟨znl,trivial⟩ (by kernel_rfl)
theorem Qs116:za2 pr zID:=
 za5 (mask:=0) (n:=400) (l:=[]) trivial (by kernel_rfl)
theorem Qs118:za2 pr zIE:=
 za5 (mask:=0) (n:=400) (l:=[]) trivial (by kernel_rfl)
theorem Qs120:za2 pr zIH:=
 za5 (mask:=0) (n:=400) (l:=[]) trivial (by kernel_rfl)
theorem Qs124:za2 pr zIJ:=
 za5 (mask:=85070591730234615865843651857942052864) (n:=400) (l:=[zlB]) ⟨zrD,trivial⟩ (by kernel_rfl)
theorem Qs128:za2 pr zIL:=
 za5 (mask:=85070591730234615865843651857942052864) (n:=400) (l:=[zlC]) ⟨zrE,trivial⟩ (by kernel_rfl)
theorem Qs132:za2 pr zIQ:=
 za5 (mask:=85070591730234615865843651857942052864) (n:=400) (l:=[zi3]) ⟨znl,trivial⟩ (by kernel_rfl)
theorem Qs136:za2 pr zIT:=
 za5 (mask:=85070591730234615865843651857942052864) (n:=400) (l:=[zlB]) ⟨zrD,trivial⟩ (by kernel_rfl)
theorem Qs140:za2 pr zIV:=
 za5 (mask:=85070591730234615865843651857942052864) (n:=400) (l:=[zlC]) ⟨zrE,trivial⟩ (by kernel_rfl)
theorem Qs144:za2 pr zIW:=
 za5 (mask:=85070591730234615865843651857942052864) (n:=400) (l:=[zi3]) ⟨znl,trivial⟩ (by kernel_rfl)
theorem Qs148:za2 pr zIX:=
 za5 (mask:=0) (n:=400) (l:=[]) trivial (by kernel_rfl)
theorem Qs152:za2 pr zIZ:=
 za5 (mask:=0) (n:=400) (l:=[]) trivial (by kernel_rfl)
end Go.Proofs.YtlnfpifjdcmmlaaGreatDoor
end
