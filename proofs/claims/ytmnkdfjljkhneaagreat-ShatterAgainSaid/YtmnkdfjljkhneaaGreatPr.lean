/- The list of the functions, and which of them only read; what the variables hold. Written by program. -/
import Derived.Lib.Bytealg
import Derived.Test.YtmnkdfjljkhneaaGreatProg
import Derived.Test.YtmnkdfjljkhneaaGreatHa
import Derived.Test.YtmnkdfjljkhneaaGreatVd
import Derived.Test.YtmnkdfjljkhneaaGreatCode0
set_option linter.all false
noncomputable section
namespace Go.Proofs.YtmnkdfjljkhneaaGreat
open Go.Vse
open Go (BinOp IntKind UnOp)
def zHz:Nat:=24424077559028300331600467418373870343174382069575319544
def pur(i:Nat):Bool:=Nat.beq (Nat.mod (Nat.div zHz (Nat.pow 2 i)) 2) 1
def globF(n:Nat):Option (List F):=none
noncomputable instance globs:Globs:=⟨globF⟩
def fns:List (Nat×Go.Vse.Fn):=[(3,g3),(4,g4),(5,g5),(6,g6),(7,g7),(8,g8),(11,g11),(13,g13),(16,g16),(18,g18),(21,g21),(22,g22),(23,g23),(24,g24),(25,g25),(26,g26),(27,g27),(28,g28),(31,g31),(32,g32),(33,g33),(34,g34),(37,g37),(38,g38),(39,g39),(42,g42),(43,g43),(44,g44),(45,g45),(46,g46),(49,g49),(50,g50),(51,g51),(52,g52),(54,g54),(55,g55),(56,g56),(57,g57),(58,g58),(59,g59),(60,g60),(61,g61),(62,g62),(65,g65),(66,g66),(67,g67),(72,g72),(73,g73),(74,g74),(75,g75),(76,g76),(78,g78),(79,g79),(80,g80),(81,g81),(82,g82),(83,g83),(84,g84),(86,g86),(87,g87),(88,g88),(89,g89),(90,g90),(91,g91),(92,g92),(93,g93),(94,g94),(95,g95),(100,g100),(101,g101),(102,g102),(103,g103),(104,g104),(105,g105),(112,zvI),(113,zvJ),(114,zvK),(115,zvL),(116,zvM),(118,g118),(119,g119),(120,g120),(121,g121),(122,g122),(123,g123),(124,g124),(125,g125),(126,g126),(127,g127),(128,g128),(129,zvN),(131,zvO),(132,zvQ),(133,znW),(135,g135),(136,g136),(137,g137),(138,g138),(139,g139),(140,g140),(141,g141),(144,zvR),(145,zvS),(146,g146),(147,g147),(148,g148),(149,g149),(150,g150),(152,g152),(153,g153),(154,g154),(155,g155),(157,zvW),(158,g158),(159,g159),(160,g160),(161,g161),(162,g162),(163,g163),(164,g164),(165,g165),(166,g166),(167,g167),(168,g168),(169,g169),(170,g170),(171,g171),(172,g172),(173,g173),(174,g174),(175,g175),(176,g176),(177,g177),(178,g178),(179,g179),(180,g180),(181,g181),(182,g182),(183,g183)]
def zpV(l:List (Nat×Go.Vse.Fn))(n:Nat):Option Go.Vse.Fn:=
 @List.rec (Nat×Go.Vse.Fn) (fun _=>Option Go.Vse.Fn) none (fun p _ ih=>@Bool.rec (fun _=>Option Go.Vse.Fn) ih (some p.2) (Nat.beq p.1 n)) l
def zAS(f:Nat)(args:List D):Option F:=
 @Bool.rec (fun _=>Option F) none (match args with
  |[.f (.s a),.f (.s b)]=>some (.i .i64 (Go.Lib.compareBytes a b))
  |_=>none) (Nat.beq f 130)
open Classical in
def zlH(f:Nat)(args:List D)(h:T Ob)(n:Nat):Option CR:=if hx:∃q,zc0 Go.Proofs.Tryz.prog f args h n q/\(f=19/\SpS args h n q\/f=64/\SpR 2 args h n q)then some (Classical.choose hx)else none
def pr:Pr:={fn:=zpV fns,ext:=zAS,exq:=zlH}
end Go.Proofs.YtmnkdfjljkhneaaGreat
