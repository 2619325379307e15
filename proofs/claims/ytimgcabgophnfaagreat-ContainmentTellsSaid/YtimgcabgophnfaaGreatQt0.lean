/- Closed runs. Written by program. -/
import Derived.Test.YtimgcabgophnfaaGreatQtE
import Derived.KernelRfl
set_option linter.all false
section
namespace Go.Proofs.YtimgcabgophnfaaGreat
open Go.Vse
open Go (BinOp IntKind UnOp)
set_option maxRecDepth 100000
theorem Qt13:zbR pr QtE13:=
 zbX (mask:=0) (n:=400) (l:=[]) trivial (by kernel_rfl)
theorem Qt17:zbR pr QtE17:=
 zbX (mask:=0) (n:=400) (l:=[]) trivial (by kernel_rfl)
theorem Qt19:zbR pr QtE19:=
 zbX (mask:=0) (n:=400) (l:=[]) trivial (by kernel_rfl)
theorem Qt25:zbR pr QtE25:=
 zbX (mask:=0) (n:=400) (l:=[]) trivial (by kernel_rfl)
theorem Qt27:zbR pr QtE27:=
 zbX (mask:=0) (n:=400) (l:=[]) trivial (by kernel_rfl)
theorem Qt29:zbR pr zHI:=
 zbX (mask:=0) (n:=400) (l:=[]) trivial (by kernel_rfl)
theorem Qt31:zbR pr QtE31:=
 zbX (mask:=0) (n:=400) (l:=[]) trivial (by kernel_rfl)
theorem Qt35:zbR pr QtE35:=
 zbX (mask:=0) (n:=400) (l:=[]) trivial (by kernel_rfl)
theorem Qt42:zbR pr QtE42:=
 zbX (mask:=0) (n:=400) (l:=[]) trivial (by kernel_rfl)
theorem zlk:zbR pr ziq:=
 zbX (mask:=0) (n:=400) (l:=[]) trivial (by kernel_rfl)
theorem zyQ:zbR pr zou:=
 zbX (mask:=187072209578355573530071658587684226515959365500928) (n:=400) (l:=[ziq]) ⟨zlk,trivial⟩ (by kernel_rfl)
theorem zE8:zbR pr zsE:=
 zbX (mask:=191749014817814462868323450052376332178858349638451200) (n:=400) (l:=[ziq,zou]) ⟨zlk,zyQ,trivial⟩ (by kernel_rfl)
theorem Qt59:zbR pr zHJ:=
 zbX (mask:=239639500469873489692021794650823494166943947206688768) (n:=400) (l:=[ziq,zou,zsE]) ⟨zlk,zyQ,zE8,trivial⟩ (by kernel_rfl)
theorem zth:zbR pr zmq:=
 zbX (mask:=1683649886205200161770644927289158038643634289508352) (n:=400) (l:=[ziq,zHJ]) ⟨zlk,Qt59,trivial⟩ (by kernel_rfl)
theorem Qt69:zbR pr QtE69:=
 zbX (mask:=365375409332725729550921208179070754913983135744) (n:=400) (l:=[zmq]) ⟨zth,trivial⟩ (by kernel_rfl)
theorem Qt81:zbR pr zHL:=
 zbX (mask:=239639500469873489692021794650823494166943947206688768) (n:=400) (l:=[ziq,zou,zsE]) ⟨zlk,zyQ,zE8,trivial⟩ (by kernel_rfl)
theorem ztj:zbR pr zmr:=
 zbX (mask:=1683649886205200161770644927289158038643634289508352) (n:=400) (l:=[ziq,zHL]) ⟨zlk,Qt81,trivial⟩ (by kernel_rfl)
theorem Qt91:zbR pr QtE91:=
 zbX (mask:=365375409332725729550921208179070754913983135744) (n:=400) (l:=[zmr]) ⟨ztj,trivial⟩ (by kernel_rfl)
theorem Qt104:zbR pr zBF:=
 zbX (mask:=239639500469873489692021794650823494166943947206688768) (n:=400) (l:=[ziq,zou,zsE]) ⟨zlk,zyQ,zE8,trivial⟩ (by kernel_rfl)
theorem zot:zbR pr zjX:=
 zbX (mask:=1683649886205200161770644927289158038643634289508352) (n:=400) (l:=[ziq,zBF]) ⟨zlk,Qt104,trivial⟩ (by kernel_rfl)
theorem Qt114:zbR pr zOr:=
 zbX (mask:=365375409332725729550921208179070754913983135744) (n:=400) (l:=[zjX]) ⟨zot,trivial⟩ (by kernel_rfl)
theorem Qt116:zbR pr zOs:=
 zbX (mask:=0) (n:=400) (l:=[]) trivial (by kernel_rfl)
theorem Qt118:zbR pr zOu:=
 zbX (mask:=0) (n:=400) (l:=[]) trivial (by kernel_rfl)
theorem Qt120:zbR pr zOw:=
 zbX (mask:=0) (n:=400) (l:=[]) trivial (by kernel_rfl)
theorem Qt124:zbR pr zOx:=
 zbX (mask:=365375409332725729550921208179070754913983135744) (n:=400) (l:=[zmq]) ⟨zth,trivial⟩ (by kernel_rfl)
theorem Qt128:zbR pr zOy:=
 zbX (mask:=365375409332725729550921208179070754913983135744) (n:=400) (l:=[zmr]) ⟨ztj,trivial⟩ (by kernel_rfl)
theorem Qt132:zbR pr zOz:=
 zbX (mask:=365375409332725729550921208179070754913983135744) (n:=400) (l:=[zjX]) ⟨zot,trivial⟩ (by kernel_rfl)
theorem Qt136:zbR pr zOB:=
 zbX (mask:=365375409332725729550921208179070754913983135744) (n:=400) (l:=[zmq]) ⟨zth,trivial⟩ (by kernel_rfl)
theorem Qt140:zbR pr zOE:=
 zbX (mask:=365375409332725729550921208179070754913983135744) (n:=400) (l:=[zmr]) ⟨ztj,trivial⟩ (by kernel_rfl)
theorem Qt144:zbR pr zOF:=
 zbX (mask:=365375409332725729550921208179070754913983135744) (n:=400) (l:=[zjX]) ⟨zot,trivial⟩ (by kernel_rfl)
theorem Qt148:zbR pr zOG:=
 zbX (mask:=0) (n:=400) (l:=[]) trivial (by kernel_rfl)
theorem Qt152:zbR pr zOH:=
 zbX (mask:=0) (n:=400) (l:=[]) trivial (by kernel_rfl)
theorem Qt154:zbR pr zOI:=
 zbX (mask:=0) (n:=400) (l:=[]) trivial (by kernel_rfl)
end Go.Proofs.YtimgcabgophnfaaGreat
end
section
namespace Go.Proofs.YtimgcabgophnfaaGreat
open Go.Vse
open Go (BinOp IntKind UnOp)
set_option maxRecDepth 100000
theorem Qt156:zbR pr zOJ:=
 zbX (mask:=0) (n:=400) (l:=[]) trivial (by kernel_rfl)
theorem Qt158:zbR pr zOL:=
 zbX (mask:=0) (n:=400) (l:=[]) trivial (by kernel_rfl)
theorem Qt164:zbR pr zON:=
 zbX (mask:=365375409332725729550921208179070754913983135744) (n:=400) (l:=[zmq]) ⟨zth,trivial⟩ (by kernel_rfl)
theorem Qt168:zbR pr zOO:=
 zbX (mask:=365375409332725729550921208179070754913983135744) (n:=400) (l:=[zmr]) ⟨ztj,trivial⟩ (by kernel_rfl)
theorem Qt172:zbR pr zOR:=
 zbX (mask:=365375409332725729550921208179070754913983135744) (n:=400) (l:=[zjX]) ⟨zot,trivial⟩ (by kernel_rfl)
theorem Qt174:zbR pr zOT:=
 zbX (mask:=0) (n:=400) (l:=[]) trivial (by kernel_rfl)
theorem Qt176:zbR pr zOU:=
 zbX (mask:=0) (n:=400) (l:=[]) trivial (by kernel_rfl)
theorem Qt180:zbR pr zOV:=
 zbX (mask:=365375409332725729550921208179070754913983135744) (n:=400) (l:=[zmq]) ⟨zth,trivial⟩ (by kernel_rfl)
theorem Qt184:zbR pr zOW:=
 zbX (mask:=365375409332725729550921208179070754913983135744) (n:=400) (l:=[zmr]) ⟨ztj,trivial⟩ (by kernel_rfl)
theorem Qt188:zbR pr zOX:=
 zbX (mask:=365375409332725729550921208179070754913983135744) (n:=400) (l:=[zjX]) ⟨zot,trivial⟩ (by kernel_rfl)
theorem zHH:zbR pr zBH:=
 zbX (mask:=0) (n:=400) (l:=[]) trivial (by kernel_rfl)
theorem Qt192:zbR pr zOY:=
 zbX (mask:=0) (n:=400) (l:=[]) trivial (by kernel_rfl)
theorem Qt194:zbR pr zOZ:=
 zbX (mask:=0) (n:=400) (l:=[]) trivial (by kernel_rfl)
theorem Qt196:zbR pr zO0:=
 zbX (mask:=0) (n:=400) (l:=[]) trivial (by kernel_rfl)
theorem Qt197:zbR pr zO1:=
 zbX (mask:=0) (n:=400) (l:=[]) trivial (by kernel_rfl)
theorem Qt198:zbR pr zO2:=
 zbX (mask:=0) (n:=400) (l:=[]) trivial (by kernel_rfl)
theorem Qt268:zbR pr zBI:=
 zbX (mask:=0) (n:=400) (l:=[]) trivial (by kernel_rfl)
theorem Qt272:zbR pr zBJ:=
 zbX (mask:=0) (n:=400) (l:=[]) trivial (by kernel_rfl)
theorem Qt288:zbR pr zO4:=
 zbX (mask:=75557881740312832901120) (n:=400) (l:=[zHI,zBH,zBI,zBJ]) ⟨Qt29,zHH,Qt268,Qt272,trivial⟩ (by kernel_rfl)
end Go.Proofs.YtimgcabgophnfaaGreat
end
