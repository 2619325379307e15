/- The resolved code is what the compiler makes of the program. Written by program. -/
import Derived.Test.YtlinkhjnihjbaaaGreatDoorProg
import Derived.Test.YtlinkhjnihjbaaaGreatDoorPr
import Derived.KernelRfl
set_option linter.all false
namespace Go.Proofs.YtlinkhjnihjbaaaGreatDoor
open Go.Vse
open Go (BinOp IntKind UnOp)
set_option maxRecDepth 100000
def c4:zae Tryz.prog pur Tryz.f4=some g4:=by kernel_rfl
def c8:zae Tryz.prog pur Tryz.f8=some g8:=by kernel_rfl
def c12:zae Tryz.prog pur Tryz.f12=some g12:=by kernel_rfl
def c16:zae Tryz.prog pur Tryz.f16=some g16:=by kernel_rfl
def c20:zae Tryz.prog pur Tryz.f20=some g20:=by kernel_rfl
def c24:zae Tryz.prog pur Tryz.f24=some g24:=by kernel_rfl
def c28:zae Tryz.prog pur Tryz.f28=some g28:=by kernel_rfl
def c32:zae Tryz.prog pur Tryz.f32=some g32:=by kernel_rfl
def c36:zae Tryz.prog pur Tryz.f36=some g36:=by kernel_rfl
def c40:zae Tryz.prog pur Tryz.f40=some g40:=by kernel_rfl
def c44:zae Tryz.prog pur Tryz.f44=some g44:=by kernel_rfl
def c49:zae Tryz.prog pur Tryz.f49=some g49:=by kernel_rfl
def c53:zae Tryz.prog pur Tryz.f53=some g53:=by kernel_rfl
def c60:zae Tryz.prog pur Tryz.f60=some g60:=by kernel_rfl
def c64:zae Tryz.prog pur Tryz.f64=some g64:=by kernel_rfl
def c69:zae Tryz.prog pur Tryz.f69=some g69:=by kernel_rfl
def c73:zae Tryz.prog pur Tryz.f73=some g73:=by kernel_rfl
def c77:zae Tryz.prog pur Tryz.f77=some g77:=by kernel_rfl
def c81:zae Tryz.prog pur Tryz.f81=some g81:=by kernel_rfl
def c85:zae Tryz.prog pur Tryz.f85=some g85:=by kernel_rfl
def c92:zae Tryz.prog pur Tryz.f92=some g92:=by kernel_rfl
def c96:zae Tryz.prog pur Tryz.f96=some g96:=by kernel_rfl
def c100:zae Tryz.prog pur Tryz.f100=some zyo:=by kernel_rfl
def c104:zae Tryz.prog pur Tryz.f104=some zun:=by kernel_rfl
def c112:zae Tryz.prog pur Tryz.f112=some zyq:=by kernel_rfl
def c117:zae Tryz.prog pur Tryz.f117=some zyt:=by kernel_rfl
def c121:zae Tryz.prog pur Tryz.f121=some g121:=by kernel_rfl
def c125:zae Tryz.prog pur Tryz.f125=some g125:=by kernel_rfl
def c133:zae Tryz.prog pur Tryz.f133=some g133:=by kernel_rfl
def c137:zae Tryz.prog pur Tryz.f137=some g137:=by kernel_rfl
def c142:zae Tryz.prog pur Tryz.f142=some g142:=by kernel_rfl
def c147:zae Tryz.prog pur Tryz.f147=some g147:=by kernel_rfl
def c153:zae Tryz.prog pur Tryz.f153=some g153:=by kernel_rfl
def c157:zae Tryz.prog pur Tryz.f157=some g157:=by kernel_rfl
def c161:zae Tryz.prog pur Tryz.f161=some g161:=by kernel_rfl
def c169:zae Tryz.prog pur Tryz.f169=some g169:=by kernel_rfl
def c181:zae Tryz.prog pur Tryz.f181=some g181:=by kernel_rfl
def c185:zae Tryz.prog pur Tryz.f185=some g185:=by kernel_rfl
def c189:zae Tryz.prog pur Tryz.f189=some g189:=by kernel_rfl
def c197:zae Tryz.prog pur Tryz.f197=some g197:=by kernel_rfl
def c201:zae Tryz.prog pur Tryz.f201=some g201:=by kernel_rfl
def c207:zae Tryz.prog pur Tryz.f207=some g207:=by kernel_rfl
def c211:zae Tryz.prog pur Tryz.f211=some zyA:=by kernel_rfl
def c215:zae Tryz.prog pur Tryz.f215=some zup:=by kernel_rfl
def c226:zae Tryz.prog pur Tryz.f226=some g226:=by kernel_rfl
def c230:zae Tryz.prog pur Tryz.f230=some g230:=by kernel_rfl
def c234:zae Tryz.prog pur Tryz.f234=some g234:=by kernel_rfl
def c243:zae Tryz.prog pur Tryz.f243=some g243:=by kernel_rfl
def c247:zae Tryz.prog pur Tryz.f247=some g247:=by kernel_rfl
def c252:zae Tryz.prog pur Tryz.f252=some g252:=by kernel_rfl
def c257:zae Tryz.prog pur Tryz.f257=some g257:=by kernel_rfl
def c263:zae Tryz.prog pur Tryz.f263=some g263:=by kernel_rfl
def c271:zae Tryz.prog pur Tryz.f271=some g271:=by kernel_rfl
def c277:zae Tryz.prog pur Tryz.f277=some g277:=by kernel_rfl
def c282:zae Tryz.prog pur Tryz.f282=some g282:=by kernel_rfl
def c287:zae Tryz.prog pur Tryz.f287=some zyK:=by kernel_rfl
def c291:zae Tryz.prog pur Tryz.f291=some g291:=by kernel_rfl
def c300:zae Tryz.prog pur Tryz.f300=some g300:=by kernel_rfl
def c306:zae Tryz.prog pur Tryz.f306=some g306:=by kernel_rfl
def c315:zae Tryz.prog pur Tryz.f315=some g315:=by kernel_rfl
def c322:zae Tryz.prog pur Tryz.f322=some zyM:=by kernel_rfl
def c327:zae Tryz.prog pur Tryz.f327=some g327:=by kernel_rfl
def c333:zae Tryz.prog pur Tryz.f333=some g333:=by kernel_rfl
def c337:zae Tryz.prog pur Tryz.f337=some g337:=by kernel_rfl
def c347:zae Tryz.prog pur Tryz.f347=some g347:=by kernel_rfl
end Go.Proofs.YtlinkhjnihjbaaaGreatDoor
