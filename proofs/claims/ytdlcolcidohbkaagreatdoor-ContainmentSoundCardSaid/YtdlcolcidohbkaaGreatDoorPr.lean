/- The list of the functions, and which of them only read; what the variables hold. Written by program. -/
import Derived.Lib.Bytealg
import Derived.Test.YtdlcolcidohbkaaGreatDoorProg
import Derived.Test.YtdlcolcidohbkaaGreatDoorVd
import Derived.Test.YtdlcolcidohbkaaGreatDoorHa
import Derived.Test.YtdlcolcidohbkaaGreatDoorCode0
set_option linter.all false
noncomputable section
namespace Go.Proofs.YtdlcolcidohbkaaGreatDoor
open Go.Vse
open Go (BinOp IntKind UnOp)
def zJD:Nat:=31062663984276981873076181566711909061022918651859192193343998879040614004884701708280
def pur(i:Nat):Bool:=Nat.beq (Nat.mod (Nat.div zJD (Nat.pow 2 i)) 2) 1
def zAo(n:Nat):Option (List F):=@Bool.rec (fun _=>Option (List F)) (@Bool.rec (fun _=>Option (List F)) (none) (some [.i .u8 0,.i .u8 1,.i .u8 28,.i .u8 2,.i .u8 29,.i .u8 14,.i .u8 24,.i .u8 3,.i .u8 30,.i .u8 22,.i .u8 20,.i .u8 15,.i .u8 25,.i .u8 17,.i .u8 4,.i .u8 8,.i .u8 31,.i .u8 27,.i .u8 13,.i .u8 23,.i .u8 21,.i .u8 19,.i .u8 16,.i .u8 7,.i .u8 26,.i .u8 12,.i .u8 18,.i .u8 6,.i .u8 11,.i .u8 5,.i .u8 10,.i .u8 9]) (Nat.beq n 0)) (some [.i .u8 0,.i .u8 1,.i .u8 56,.i .u8 2,.i .u8 57,.i .u8 49,.i .u8 28,.i .u8 3,.i .u8 61,.i .u8 58,.i .u8 42,.i .u8 50,.i .u8 38,.i .u8 29,.i .u8 17,.i .u8 4,.i .u8 62,.i .u8 47,.i .u8 59,.i .u8 36,.i .u8 45,.i .u8 43,.i .u8 51,.i .u8 22,.i .u8 53,.i .u8 39,.i .u8 33,.i .u8 30,.i .u8 24,.i .u8 18,.i .u8 12,.i .u8 5,.i .u8 63,.i .u8 55,.i .u8 48,.i .u8 27,.i .u8 60,.i .u8 41,.i .u8 37,.i .u8 16,.i .u8 46,.i .u8 35,.i .u8 44,.i .u8 21,.i .u8 52,.i .u8 32,.i .u8 23,.i .u8 11,.i .u8 54,.i .u8 26,.i .u8 40,.i .u8 15,.i .u8 34,.i .u8 20,.i .u8 31,.i .u8 10,.i .u8 25,.i .u8 14,.i .u8 19,.i .u8 9,.i .u8 13,.i .u8 8,.i .u8 7,.i .u8 6]) (Nat.beq n 1)
noncomputable instance globs:Globs:=⟨zAo⟩
def fns:List (Nat×Go.Vse.Fn):=[(3,g3),(4,g4),(5,g5),(6,g6),(7,g7),(8,g8),(10,g10),(12,g12),(13,g13),(15,g15),(16,g16),(18,g18),(20,g20),(21,g21),(26,g26),(27,g27),(28,g28),(29,g29),(30,g30),(31,g31),(32,g32),(33,g33),(34,g34),(35,g35),(36,g36),(37,g37),(39,g39),(44,g44),(46,g46),(47,g47),(54,g54),(55,g55),(56,g56),(58,g58),(59,g59),(60,g60),(61,g61),(62,g62),(63,g63),(64,g64),(65,g65),(66,g66),(67,g67),(68,g68),(69,g69),(70,g70),(71,g71),(72,g72),(73,g73),(74,g74),(84,g84),(100,zzI),(102,zzJ),(103,zkk),(104,zis),(105,zjc),(106,g106),(107,zzM),(108,zzN),(109,zzO),(110,zzP),(111,g111),(112,zzQ),(113,zpk),(114,zpm),(115,zzS),(116,zlq),(125,zzT),(126,zzV),(127,zzY),(128,g128),(129,zzZ),(130,g130),(131,g131),(132,g132),(133,g133),(134,g134),(135,g135),(136,g136),(137,g137),(138,g138),(139,g139),(140,g140),(141,g141),(142,g142),(143,g143),(144,g144),(145,g145),(146,g146),(150,zz0),(181,zlt),(182,zjh),(184,g184),(185,zz2),(186,zz3),(187,zjk),(188,zjl),(189,zz7),(191,zz8),(192,zpp),(198,zAa),(199,zAb),(201,g201),(202,g202),(203,g203),(204,g204),(205,g205),(206,g206),(207,g207),(208,g208),(229,zAc),(230,zAd),(231,zAh),(232,zAi),(233,zAj),(236,g236),(237,g237),(245,g245),(257,zAk),(258,zAm)]
def zqH(l:List (Nat×Go.Vse.Fn))(n:Nat):Option Go.Vse.Fn:=
 @List.rec (Nat×Go.Vse.Fn) (fun _=>Option Go.Vse.Fn) none (fun p _ ih=>@Bool.rec (fun _=>Option Go.Vse.Fn) ih (some p.2) (Nat.beq p.1 n)) l
def zD1(f:Nat)(args:List D):Option F:=
 @Bool.rec (fun _=>Option F) none (match args with
  |[.f (.s a),.f (.s b)]=>some (.i .i64 (Go.Lib.compareBytes a b))
  |_=>none) (Nat.beq f 200)
def zyU:List Nat:=[11,14,17,19,22,23,24,25,38,40,41,42,43,45,48,49,50,51,52,53,57,75,76,77,78,79,80,81,82,83,85,86,87,88,89,90,91,92,93,94,95,96,97,98,99,101,117,118,119,120,121,122,123,124,147,148,149,151,152,153,154,155,156,157,158,159,160,161,162,163,164,165,166,167,168,169,170,171,172,173,174,175,176,177,178,179,180,183,190,193,194,195,196,197,209,210,211,212,213,214,215,217,219,220,221,222,223,224,225,226,227,228,234,238,239,240,241,242,243,244,246,247,248,249,250,251,252,253,254,255,256,259,260,261,262,263,264,265,266,267,268,269,270,271,272,273,274,275,276,277,278,279,280,281,282,283]
def cAt(n:Nat):Option Go.Vse.Fn:=(Go.Proofs.Tryz.prog.funcs[n]?).bind (zhZ Go.Proofs.Tryz.prog pur)
def ztp(l:List Nat)(n:Nat):Option Go.Vse.Fn:=
 @List.rec Nat (fun _=>Option Go.Vse.Fn) none (fun p _ ih=>@Bool.rec (fun _=>Option Go.Vse.Fn) ih (cAt p) (Nat.beq p n)) l
def zAu(n:Nat):Option Go.Vse.Fn:=@Option.rec Go.Vse.Fn (fun _=>Option Go.Vse.Fn) (ztp zyU n) (fun g=>some g) (zqH fns n)
open Classical in
def zpc(f:Nat)(args:List D)(h:T Ob)(n:Nat):Option CR:=if hx:∃q,zgW Go.Proofs.Tryz.prog f args h n q/\(f=9/\Sm.SpG args h n q)then some (Classical.choose hx)else none
def pr:Pr:={fn:=zAu,ext:=zD1,exq:=zpc}
end Go.Proofs.YtdlcolcidohbkaaGreatDoor
