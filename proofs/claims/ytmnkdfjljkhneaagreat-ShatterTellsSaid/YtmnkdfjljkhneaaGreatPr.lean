/- The list of the functions, and which of them only read; what the variables hold. Written by program. -/
import Derived.Lib.Bytealg
import Derived.Test.YtmnkdfjljkhneaaGreatProg
import Derived.Test.YtmnkdfjljkhneaaGreatHa
import Derived.Test.YtmnkdfjljkhneaaGreatVd
import Derived.Test.YtmnkdfjljkhneaaGreatCode0
set_option linter.all false
noncomputable section
namespace Go.Proofs.YtmnkdfjljkhneaaGreat
open Go.Vse
open Go (BinOp IntKind UnOp)
def zMc:Nat:=24424077559028300331600467418373870343174382069575319544
def pur(i:Nat):Bool:=Nat.beq (Nat.mod (Nat.div zMc (Nat.pow 2 i)) 2) 1
def globF(n:Nat):Option (List F):=none
noncomputable instance globs:Globs:=⟨globF⟩
def fns:List (Nat×Go.Vse.Fn):=[(3,g3),(4,g4),(5,g5),(6,g6),(7,g7),(8,g8),(9,g9),(10,g10),(11,g11),(12,g12),(13,g13),(14,g14),(15,g15),(16,g16),(17,g17),(18,g18),(20,g20),(21,g21),(23,g23),(24,g24),(25,g25),(26,g26),(27,g27),(28,g28),(29,g29),(30,g30),(31,g31),(32,g32),(33,g33),(34,g34),(35,g35),(36,g36),(37,g37),(38,g38),(39,g39),(40,g40),(41,g41),(42,g42),(43,g43),(44,g44),(45,g45),(46,g46),(47,g47),(48,g48),(49,g49),(50,g50),(51,g51),(52,g52),(53,g53),(54,g54),(55,g55),(56,g56),(57,g57),(58,g58),(59,g59),(60,g60),(61,g61),(62,g62),(63,g63),(65,g65),(66,g66),(67,g67),(68,g68),(69,g69),(70,g70),(71,g71),(72,g72),(73,g73),(74,g74),(75,g75),(76,g76),(77,g77),(78,g78),(79,g79),(80,g80),(81,g81),(82,g82),(83,g83),(84,g84),(85,g85),(86,g86),(87,g87),(88,g88),(89,g89),(90,g90),(91,g91),(92,g92),(93,g93),(94,g94),(95,g95),(96,g96),(97,g97),(98,g98),(99,g99),(100,g100),(101,g101),(102,g102),(103,g103),(104,g104),(105,g105),(106,zym),(111,zyo),(112,zyq),(113,zys),(114,zyt),(115,zyw),(116,zyx),(117,zyy),(118,zs9),(127,zyz),(128,g128),(129,zyA),(131,zyB),(132,zyC),(133,zpS),(134,zyG),(135,g135),(136,g136),(137,g137),(138,g138),(139,g139),(140,g140),(141,g141),(143,zyH),(144,zyI),(145,zyK),(152,g152),(153,g153),(154,g154),(155,g155),(157,zyL),(159,g159),(160,g160),(161,g161),(162,g162),(163,g163),(164,g164),(165,g165),(166,g166),(167,g167),(168,g168),(169,g169),(170,g170),(171,g171),(172,g172),(173,g173),(174,g174),(175,g175),(176,g176),(177,g177),(178,g178),(179,g179),(180,g180),(181,g181),(182,g182),(183,g183)]
def zr2(l:List (Nat×Go.Vse.Fn))(n:Nat):Option Go.Vse.Fn:=
 @List.rec (Nat×Go.Vse.Fn) (fun _=>Option Go.Vse.Fn) none (fun p _ ih=>@Bool.rec (fun _=>Option Go.Vse.Fn) ih (some p.2) (Nat.beq p.1 n)) l
def zEe(f:Nat)(args:List D):Option F:=
 @Bool.rec (fun _=>Option F) none (match args with
  |[.f (.s a),.f (.s b)]=>some (.i .i64 (Go.Lib.compareBytes a b))
  |_=>none) (Nat.beq f 130)
open Classical in
def znk(f:Nat)(args:List D)(h:T Ob)(n:Nat):Option CR:=if hx:∃q,zdG Go.Proofs.Tryz.prog f args h n q/\(f=19/\SpS args h n q\/f=64/\SpR 2 args h n q)then some (Classical.choose hx)else none
def pr:Pr:={fn:=zr2 fns,ext:=zEe,exq:=znk}
end Go.Proofs.YtmnkdfjljkhneaaGreat
