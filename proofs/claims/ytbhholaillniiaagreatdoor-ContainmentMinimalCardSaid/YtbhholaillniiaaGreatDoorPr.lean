/- The list of the functions, and which of them only read; what the variables hold. Written by program. -/
import Derived.Lib.Bytealg
import Derived.Test.YtbhholaillniiaaGreatDoorProg
import Derived.Test.YtbhholaillniiaaGreatDoorVd
import Derived.Test.YtbhholaillniiaaGreatDoorHa
import Derived.Test.YtbhholaillniiaaGreatDoorCode0
set_option linter.all false
noncomputable section
namespace Go.Proofs.YtbhholaillniiaaGreatDoor
open Go.Vse
open Go (BinOp IntKind UnOp)
def zKL:Nat:=978929637355698363895590167705934731851202078584552008016765287005215940258665442705400
def pur(i:Nat):Bool:=Nat.beq (Nat.mod (Nat.div zKL (Nat.pow 2 i)) 2) 1
def zAo(n:Nat):Option (List F):=@Bool.rec (fun _=>Option (List F)) (@Bool.rec (fun _=>Option (List F)) (none) (some [.i .u8 0,.i .u8 1,.i .u8 28,.i .u8 2,.i .u8 29,.i .u8 14,.i .u8 24,.i .u8 3,.i .u8 30,.i .u8 22,.i .u8 20,.i .u8 15,.i .u8 25,.i .u8 17,.i .u8 4,.i .u8 8,.i .u8 31,.i .u8 27,.i .u8 13,.i .u8 23,.i .u8 21,.i .u8 19,.i .u8 16,.i .u8 7,.i .u8 26,.i .u8 12,.i .u8 18,.i .u8 6,.i .u8 11,.i .u8 5,.i .u8 10,.i .u8 9]) (Nat.beq n 0)) (some [.i .u8 0,.i .u8 1,.i .u8 56,.i .u8 2,.i .u8 57,.i .u8 49,.i .u8 28,.i .u8 3,.i .u8 61,.i .u8 58,.i .u8 42,.i .u8 50,.i .u8 38,.i .u8 29,.i .u8 17,.i .u8 4,.i .u8 62,.i .u8 47,.i .u8 59,.i .u8 36,.i .u8 45,.i .u8 43,.i .u8 51,.i .u8 22,.i .u8 53,.i .u8 39,.i .u8 33,.i .u8 30,.i .u8 24,.i .u8 18,.i .u8 12,.i .u8 5,.i .u8 63,.i .u8 55,.i .u8 48,.i .u8 27,.i .u8 60,.i .u8 41,.i .u8 37,.i .u8 16,.i .u8 46,.i .u8 35,.i .u8 44,.i .u8 21,.i .u8 52,.i .u8 32,.i .u8 23,.i .u8 11,.i .u8 54,.i .u8 26,.i .u8 40,.i .u8 15,.i .u8 34,.i .u8 20,.i .u8 31,.i .u8 10,.i .u8 25,.i .u8 14,.i .u8 19,.i .u8 9,.i .u8 13,.i .u8 8,.i .u8 7,.i .u8 6]) (Nat.beq n 1)
noncomputable instance globs:Globs:=⟨zAo⟩
def fns:List (Nat×Go.Vse.Fn):=[(3,g3),(4,g4),(5,g5),(6,g6),(7,g7),(8,g8),(9,g9),(12,g12),(13,g13),(15,g15),(16,g16),(17,g17),(20,g20),(21,g21),(22,g22),(23,g23),(25,g25),(26,g26),(27,g27),(28,g28),(29,g29),(30,g30),(32,g32),(33,g33),(34,g34),(35,g35),(36,g36),(37,g37),(39,g39),(40,g40),(41,g41),(42,g42),(44,g44),(46,g46),(51,g51),(54,g54),(55,g55),(56,g56),(57,g57),(59,g59),(60,g60),(61,g61),(62,g62),(64,g64),(65,g65),(66,g66),(67,g67),(68,g68),(69,g69),(70,g70),(71,g71),(72,g72),(75,g75),(77,g77),(78,g78),(82,g82),(83,g83),(84,g84),(85,g85),(86,g86),(87,g87),(88,g88),(94,g94),(95,g95),(96,g96),(97,g97),(98,g98),(100,g100),(101,zuy),(103,g103),(104,g104),(105,g105),(106,zzJ),(109,g109),(110,g110),(111,zzM),(112,zzN),(113,zzO),(114,zzP),(115,zzQ),(116,g116),(117,zzS),(118,zn3),(119,zn4),(120,zzT),(121,zkj),(130,zzV),(131,zzY),(132,zzZ),(133,zz0),(134,zz2),(135,g135),(144,g144),(145,g145),(146,g146),(147,g147),(148,g148),(149,g149),(150,g150),(151,g151),(152,g152),(153,g153),(154,g154),(155,g155),(157,g157),(158,g158),(159,g159),(160,g160),(163,g163),(164,g164),(165,g165),(166,g166),(167,g167),(170,g170),(171,g171),(172,g172),(173,g173),(179,g179),(181,g181),(182,g182),(183,g183),(184,zz3),(185,zz7),(186,zis),(187,ziu),(188,zz8),(190,zAa),(191,zn5),(197,zAb),(198,zAc),(207,g207),(208,g208),(209,g209),(210,g210),(214,g214),(215,g215),(216,g216),(217,g217),(222,g222),(225,g225),(226,g226),(227,g227),(228,g228),(229,g229),(230,zAd),(231,zAh),(232,zAi),(233,zAj),(234,zAk),(241,g241),(242,g242),(251,g251),(254,g254),(255,g255),(256,g256),(257,g257),(258,g258),(259,zAm),(260,zAn),(269,g269),(270,g270)]
def zpF(l:List (Nat×Go.Vse.Fn))(n:Nat):Option Go.Vse.Fn:=
 @List.rec (Nat×Go.Vse.Fn) (fun _=>Option Go.Vse.Fn) none (fun p _ ih=>@Bool.rec (fun _=>Option Go.Vse.Fn) ih (some p.2) (Nat.beq p.1 n)) l
def zEW(f:Nat)(args:List D):Option F:=
 @Bool.rec (fun _=>Option F) none (match args with
  |[.f (.s a),.f (.s b)]=>some (.i .i64 (Go.Lib.compareBytes a b))
  |_=>none) (Nat.beq f 199)
def zzw:List Nat:=[10,14,18,19,24,31,38,43,45,47,48,49,50,52,53,58,63,73,74,76,79,80,81,89,90,91,92,93,99,102,107,108,122,123,124,125,126,127,128,129,136,137,138,139,140,141,142,143,156,161,162,168,169,174,175,176,177,178,180,189,192,193,194,195,196,200,201,202,203,204,205,206,211,212,213,219,221,223,224,235,237,238,239,240,243,244,245,246,247,248,249,250,252,253,261,262,263,264,265,266,267,268,271,272,273,274,275,276,277,278,279,280,281,282,283,284,285,286,287,288]
def cAt(n:Nat):Option Go.Vse.Fn:=(Go.Proofs.Tryz.prog.funcs[n]?).bind (zhk Go.Proofs.Tryz.prog pur)
def zsM(l:List Nat)(n:Nat):Option Go.Vse.Fn:=
 @List.rec Nat (fun _=>Option Go.Vse.Fn) none (fun p _ ih=>@Bool.rec (fun _=>Option Go.Vse.Fn) ih (cAt p) (Nat.beq p n)) l
def zAs(n:Nat):Option Go.Vse.Fn:=@Option.rec Go.Vse.Fn (fun _=>Option Go.Vse.Fn) (zsM zzw n) (fun g=>some g) (zpF fns n)
open Classical in
def znZ(f:Nat)(args:List D)(h:T Ob)(n:Nat):Option CR:=if hx:∃q,zgx Go.Proofs.Tryz.prog f args h n q/\(f=11/\Sm.SpE args h n q)then some (Classical.choose hx)else none
def pr:Pr:={fn:=zAs,ext:=zEW,exq:=znZ}
end Go.Proofs.YtbhholaillniiaaGreatDoor
