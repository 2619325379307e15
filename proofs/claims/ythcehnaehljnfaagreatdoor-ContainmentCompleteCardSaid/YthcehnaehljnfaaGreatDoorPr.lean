/- The list of the functions, and which of them only read; what the variables hold. Written by program. -/
import Derived.Lib.Bytealg
import Derived.Test.YthcehnaehljnfaaGreatDoorProg
import Derived.Test.YthcehnaehljnfaaGreatDoorHa
import Derived.Test.YthcehnaehljnfaaGreatDoorVd
import Derived.Test.YthcehnaehljnfaaGreatDoorCode0
set_option linter.all false
noncomputable section
namespace Go.Proofs.YthcehnaehljnfaaGreatDoor
open Go.Vse
open Go (BinOp IntKind UnOp)
def zTf:Nat:=970734236235470098784411495518365372128465389379530626849650637928434061787313184760
def pur(i:Nat):Bool:=Nat.beq (Nat.mod (Nat.div zTf (Nat.pow 2 i)) 2) 1
def zDO(n:Nat):Option (List F):=@Bool.rec (fun _=>Option (List F)) (@Bool.rec (fun _=>Option (List F)) (none) (some [.i .u8 0,.i .u8 1,.i .u8 28,.i .u8 2,.i .u8 29,.i .u8 14,.i .u8 24,.i .u8 3,.i .u8 30,.i .u8 22,.i .u8 20,.i .u8 15,.i .u8 25,.i .u8 17,.i .u8 4,.i .u8 8,.i .u8 31,.i .u8 27,.i .u8 13,.i .u8 23,.i .u8 21,.i .u8 19,.i .u8 16,.i .u8 7,.i .u8 26,.i .u8 12,.i .u8 18,.i .u8 6,.i .u8 11,.i .u8 5,.i .u8 10,.i .u8 9]) (Nat.beq n 0)) (some [.i .u8 0,.i .u8 1,.i .u8 56,.i .u8 2,.i .u8 57,.i .u8 49,.i .u8 28,.i .u8 3,.i .u8 61,.i .u8 58,.i .u8 42,.i .u8 50,.i .u8 38,.i .u8 29,.i .u8 17,.i .u8 4,.i .u8 62,.i .u8 47,.i .u8 59,.i .u8 36,.i .u8 45,.i .u8 43,.i .u8 51,.i .u8 22,.i .u8 53,.i .u8 39,.i .u8 33,.i .u8 30,.i .u8 24,.i .u8 18,.i .u8 12,.i .u8 5,.i .u8 63,.i .u8 55,.i .u8 48,.i .u8 27,.i .u8 60,.i .u8 41,.i .u8 37,.i .u8 16,.i .u8 46,.i .u8 35,.i .u8 44,.i .u8 21,.i .u8 52,.i .u8 32,.i .u8 23,.i .u8 11,.i .u8 54,.i .u8 26,.i .u8 40,.i .u8 15,.i .u8 34,.i .u8 20,.i .u8 31,.i .u8 10,.i .u8 25,.i .u8 14,.i .u8 19,.i .u8 9,.i .u8 13,.i .u8 8,.i .u8 7,.i .u8 6]) (Nat.beq n 1)
noncomputable instance globs:Globs:=⟨zDO⟩
def fns:List (Nat×Go.Vse.Fn):=[(3,g3),(4,g4),(5,g5),(6,g6),(7,g7),(9,g9),(10,g10),(11,g11),(12,g12),(13,g13),(14,g14),(15,g15),(16,g16),(17,g17),(18,g18),(19,g19),(20,g20),(21,g21),(22,g22),(23,g23),(24,g24),(25,g25),(26,g26),(27,g27),(28,g28),(29,g29),(30,g30),(31,g31),(32,g32),(33,g33),(34,g34),(35,g35),(36,g36),(37,g37),(38,g38),(39,g39),(40,g40),(41,g41),(42,g42),(43,g43),(44,g44),(45,g45),(46,g46),(47,g47),(48,g48),(49,g49),(50,g50),(51,g51),(52,g52),(53,g53),(54,g54),(55,g55),(56,g56),(57,g57),(58,g58),(59,g59),(60,g60),(61,g61),(62,g62),(63,g63),(64,g64),(65,g65),(66,g66),(67,g67),(69,g69),(70,g70),(71,g71),(72,g72),(73,g73),(74,g74),(75,g75),(76,g76),(77,g77),(78,g78),(79,g79),(80,g80),(81,g81),(82,g82),(83,g83),(84,g84),(86,g86),(87,g87),(88,g88),(89,g89),(90,g90),(91,g91),(92,g92),(93,g93),(94,g94),(95,g95),(96,g96),(97,g97),(98,g98),(99,g99),(100,g100),(101,g101),(102,g102),(103,g103),(104,g104),(105,g105),(106,g106),(107,g107),(108,g108),(109,g109),(110,g110),(111,g111),(112,g112),(113,zDf),(114,zjh),(115,zjk),(116,zjl),(117,zDh),(118,zDi),(119,zDk),(120,zDl),(121,g121),(122,zDm),(123,zpc),(124,zpe),(125,zDn),(126,zkq),(134,g134),(135,zDo),(136,zDp),(137,zDq),(138,zDr),(139,zDs),(140,g140),(141,g141),(142,g142),(144,g144),(145,g145),(146,g146),(147,g147),(148,g148),(149,g149),(150,g150),(151,g151),(155,g155),(156,g156),(157,g157),(158,g158),(159,g159),(160,g160),(162,g162),(163,g163),(164,g164),(165,g165),(166,g166),(167,g167),(168,g168),(169,g169),(170,g170),(171,g171),(173,g173),(174,g174),(175,g175),(176,g176),(177,g177),(178,g178),(179,g179),(180,g180),(181,zkr),(183,g183),(184,zDt),(185,zDv),(186,zix),(187,ziy),(188,zDx),(190,zDy),(191,zph),(197,zDz),(198,zDB),(200,g200),(201,g201),(202,g202),(203,g203),(204,g204),(205,g205),(214,g214),(215,g215),(216,g216),(217,g217),(218,g218),(219,g219),(220,g220),(225,g225),(226,g226),(227,g227),(228,g228),(230,g230),(232,g232),(233,g233),(234,zDD),(235,zDE),(236,zDF),(237,zDG),(238,zDH),(241,g241),(242,g242),(247,g247),(250,g250),(251,g251),(252,g252),(253,g253),(255,zDJ),(256,zDK),(257,g257),(258,g258),(262,g262),(265,g265),(266,g266),(267,g267),(274,g274),(275,g275),(276,g276),(277,g277),(278,g278)]
def zuw(l:List (Nat×Go.Vse.Fn))(n:Nat):Option Go.Vse.Fn:=
 @List.rec (Nat×Go.Vse.Fn) (fun _=>Option Go.Vse.Fn) none (fun p _ ih=>@Bool.rec (fun _=>Option Go.Vse.Fn) ih (some p.2) (Nat.beq p.1 n)) l
def zJv(f:Nat)(args:List D):Option F:=
 @Bool.rec (fun _=>Option F) none (match args with
  |[.f (.s a),.f (.s b)]=>some (.i .i64 (Go.Lib.compareBytes a b))
  |_=>none) (Nat.beq f 199)
open Classical in
def zo6(f:Nat)(args:List D)(h:T Ob)(n:Nat):Option CR:=if hx:∃q,zgx Go.Proofs.Tryz.prog f args h n q/\(f=8/\Sm.SpE args h n q)then some (Classical.choose hx)else none
def pr:Pr:={fn:=zuw fns,ext:=zJv,exq:=zo6}
end Go.Proofs.YthcehnaehljnfaaGreatDoor
