/- The list of the functions, and which of them only read; what the variables hold. Written by program. -/
import Derived.Lib.Bytealg
import Derived.Test.YtimgcabgophnfaaGreatCode0
set_option linter.all false
noncomputable section
namespace Go.Proofs.YtimgcabgophnfaaGreat
open Go.Vse
open Go (BinOp IntKind UnOp)
def zKo : Nat := 763252790121291110677690479842782617065203060631928824
def pur (i : Nat) : Bool := Nat.beq (Nat.mod (Nat.div zKo (Nat.pow 2 i)) 2) 1
def globF (n : Nat) : Option (List F) := none
noncomputable instance globs : Globs := ⟨globF⟩
def fns : List (Nat × Go.Vse.Fn) := [(3,g3),(5,g5),(6,g6),(7,g7),(8,g8),(9,g9),(10,g10),(11,g11),(19,g19),(24,g24),(25,g25),(26,g26),(27,g27),(28,g28),(29,g29),(30,g30),(31,g31),(32,g32),(33,g33),(34,g34),(35,g35),(37,g37),(38,g38),(43,g43),(45,g45),(46,g46),(47,g47),(54,g54),(55,g55),(56,g56),(57,g57),(58,g58),(59,g59),(60,g60),(61,g61),(62,g62),(63,g63),(64,g64),(65,g65),(66,g66),(67,g67),(68,g68),(69,g69),(70,g70),(71,g71),(72,g72),(73,g73),(74,g74),(75,g75),(76,g76),(79,g79),(80,g80),(81,g81),(82,g82),(86,g86),(87,g87),(88,g88),(89,g89),(90,g90),(91,g91),(92,g92),(93,g93),(94,g94),(95,g95),(96,g96),(97,g97),(98,g98),(99,g99),(100,zyb),(101,zx0),(102,zwz),(103,zxZ),(104,zyN),(105,g105),(106,g106),(108,g108),(109,g109),(110,g110),(111,zyS),(112,zyX),(114,zxE),(115,zsd),(116,zyq),(117,zym),(118,zwT),(120,zyg),(121,zyV),(122,zx7),(124,zyt),(125,zx1),(126,zyG),(127,zwB),(129,zyL),(130,zxy),(131,zwC),(132,g132),(133,g133),(134,g134),(136,g136),(137,g137),(138,g138),(139,zyW),(140,zyz),(141,zy3),(142,zw0),(144,zwH),(145,zyZ),(146,zy1),(148,g148),(149,g149),(150,g150),(151,g151),(152,zwU),(153,g153),(154,g154),(155,g155),(156,g156),(157,g157),(158,g158),(159,g159),(160,g160),(161,g161),(162,g162),(163,g163),(164,g164),(165,g165),(166,g166),(167,g167),(168,g168),(169,g169),(170,g170),(171,g171),(172,g172),(173,g173),(174,g174),(175,g175),(176,g176),(177,g177),(178,g178)]
def zq4 (l : List (Nat × Go.Vse.Fn)) (n : Nat) : Option Go.Vse.Fn :=
 @List.rec (Nat × Go.Vse.Fn) (fun _ => Option Go.Vse.Fn) none (fun p _ ih => @Bool.rec (fun _ => Option Go.Vse.Fn) ih (some p.2) (Nat.beq p.1 n)) l
def zEA (f : Nat) (args : List D) : Option F :=
 @Bool.rec (fun _ => Option F) none (match args with
  | [.f (.s a),.f (.s b)] => some (.i .i64 (Go.Lib.compareBytes a b))
  | _ => none) (Nat.beq f 128)
def pr : Pr := { fn := zq4 fns,ext := zEA }
end Go.Proofs.YtimgcabgophnfaaGreat
