/- Sums of probabilities; what is known of relations of the four schemas. Written by program. -/
import Derived.Test.YtdonnbdegnkflaaGreatDoorPg
import Derived.Test.YtdonnbdegnkflaaGreatDoorPf
import Derived.Test.YtdonnbdegnkflaaGreatDoorQs0
import Derived.Test.YtdonnbdegnkflaaGreatDoorQs5
import Derived.Test.YtdonnbdegnkflaaGreatDoorQs6
import Derived.Test.YtdonnbdegnkflaaGreatDoorQs7
import Derived.Test.YtdonnbdegnkflaaGreatDoorQs8
import Derived.Test.YtdonnbdegnkflaaGreatDoorQs9
import Derived.Test.YtdonnbdegnkflaaGreatDoorQs1
import Derived.Test.YtdonnbdegnkflaaGreatDoorQs2
import Derived.Test.YtdonnbdegnkflaaGreatDoorQs3
import Derived.Test.YtdonnbdegnkflaaGreatDoorQs4
import Derived.Test.YtdonnbdegnkflaaGreatDoorQs10
import Derived.KernelRfl
set_option linter.all false
set_option maxRecDepth 100000
set_option maxHeartbeats 4000000
noncomputable section
section
namespace Go.Proofs.YtdonnbdegnkflaaGreatDoor
open Go Go.Vse Go.Vse.Sm
def AllL{α:Type}(P:α->Prop):List α->Prop
 |[]=>True
 |a::l=>P a/\AllL P l
theorem allL{α:Type}{P:α->Prop}:∀{l:List α},AllL P l->∀a∈l,P a
 |[],_,a,h=>by simp at h
 |b::l,h,a,ha=>by
  rcases Z5.1 ha with rfl|ha
  .exact h.1
  .exact allL h.2 a ha
def mg{α:Type}{l:List α}(n:Nat){a:α}(h:l[n]? =some a):a∈l:=Z39 h
def zdd:∀p∈PPl,Pc p:=allL (P:=Pc) (l:=PPl) ⟨⟨_,_,_,rfl,rfl,rfl,rfl⟩,⟨_,_,_,rfl,rfl,rfl,rfl⟩,⟨_,_,_,rfl,rfl,rfl,rfl⟩,⟨_,_,_,rfl,rfl,rfl,rfl⟩,⟨_,_,_,rfl,rfl,rfl,rfl⟩,⟨_,_,_,rfl,rfl,rfl,rfl⟩,⟨_,_,_,rfl,rfl,rfl,rfl⟩,⟨_,_,_,rfl,rfl,rfl,rfl⟩,trivial⟩
def zacx:∀p∈Sl0,Pc p:=allL (P:=Pc) (l:=Sl0) ⟨⟨_,_,_,rfl,rfl,rfl,rfl⟩,trivial⟩
def zacy:∀p∈Sl1,Pc p:=allL (P:=Pc) (l:=Sl1) ⟨⟨_,_,_,rfl,rfl,rfl,rfl⟩,⟨_,_,_,rfl,rfl,rfl,rfl⟩,⟨_,_,_,rfl,rfl,rfl,rfl⟩,⟨_,_,_,rfl,rfl,rfl,rfl⟩,⟨_,_,_,rfl,rfl,rfl,rfl⟩,⟨_,_,_,rfl,rfl,rfl,rfl⟩,⟨_,_,_,rfl,rfl,rfl,rfl⟩,⟨_,_,_,rfl,rfl,rfl,rfl⟩,trivial⟩
def zacz:∀p∈Sl2,Pc p:=allL (P:=Pc) (l:=Sl2) ⟨⟨_,_,_,rfl,rfl,rfl,rfl⟩,⟨_,_,_,rfl,rfl,rfl,rfl⟩,⟨_,_,_,rfl,rfl,rfl,rfl⟩,⟨_,_,_,rfl,rfl,rfl,rfl⟩,⟨_,_,_,rfl,rfl,rfl,rfl⟩,⟨_,_,_,rfl,rfl,rfl,rfl⟩,⟨_,_,_,rfl,rfl,rfl,rfl⟩,⟨_,_,_,rfl,rfl,rfl,rfl⟩,⟨_,_,_,rfl,rfl,rfl,rfl⟩,⟨_,_,_,rfl,rfl,rfl,rfl⟩,⟨_,_,_,rfl,rfl,rfl,rfl⟩,⟨_,_,_,rfl,rfl,rfl,rfl⟩,⟨_,_,_,rfl,rfl,rfl,rfl⟩,⟨_,_,_,rfl,rfl,rfl,rfl⟩,⟨_,_,_,rfl,rfl,rfl,rfl⟩,⟨_,_,_,rfl,rfl,rfl,rfl⟩,⟨_,_,_,rfl,rfl,rfl,rfl⟩,⟨_,_,_,rfl,rfl,rfl,rfl⟩,⟨_,_,_,rfl,rfl,rfl,rfl⟩,⟨_,_,_,rfl,rfl,rfl,rfl⟩,⟨_,_,_,rfl,rfl,rfl,rfl⟩,⟨_,_,_,rfl,rfl,rfl,rfl⟩,⟨_,_,_,rfl,rfl,rfl,rfl⟩,⟨_,_,_,rfl,rfl,rfl,rfl⟩,⟨_,_,_,rfl,rfl,rfl,rfl⟩,⟨_,_,_,rfl,rfl,rfl,rfl⟩,⟨_,_,_,rfl,rfl,rfl,rfl⟩,⟨_,_,_,rfl,rfl,rfl,rfl⟩,⟨_,_,_,rfl,rfl,rfl,rfl⟩,⟨_,_,_,rfl,rfl,rfl,rfl⟩,⟨_,_,_,rfl,rfl,rfl,rfl⟩,trivial⟩
def zacA:∀p∈Sl3,Pc p:=allL (P:=Pc) (l:=Sl3) ⟨⟨_,_,_,rfl,rfl,rfl,rfl⟩,⟨_,_,_,rfl,rfl,rfl,rfl⟩,⟨_,_,_,rfl,rfl,rfl,rfl⟩,⟨_,_,_,rfl,rfl,rfl,rfl⟩,⟨_,_,_,rfl,rfl,rfl,rfl⟩,⟨_,_,_,rfl,rfl,rfl,rfl⟩,⟨_,_,_,rfl,rfl,rfl,rfl⟩,⟨_,_,_,rfl,rfl,rfl,rfl⟩,⟨_,_,_,rfl,rfl,rfl,rfl⟩,⟨_,_,_,rfl,rfl,rfl,rfl⟩,⟨_,_,_,rfl,rfl,rfl,rfl⟩,⟨_,_,_,rfl,rfl,rfl,rfl⟩,⟨_,_,_,rfl,rfl,rfl,rfl⟩,⟨_,_,_,rfl,rfl,rfl,rfl⟩,⟨_,_,_,rfl,rfl,rfl,rfl⟩,⟨_,_,_,rfl,rfl,rfl,rfl⟩,⟨_,_,_,rfl,rfl,rfl,rfl⟩,⟨_,_,_,rfl,rfl,rfl,rfl⟩,⟨_,_,_,rfl,rfl,rfl,rfl⟩,⟨_,_,_,rfl,rfl,rfl,rfl⟩,⟨_,_,_,rfl,rfl,rfl,rfl⟩,⟨_,_,_,rfl,rfl,rfl,rfl⟩,⟨_,_,_,rfl,rfl,rfl,rfl⟩,⟨_,_,_,rfl,rfl,rfl,rfl⟩,⟨_,_,_,rfl,rfl,rfl,rfl⟩,⟨_,_,_,rfl,rfl,rfl,rfl⟩,⟨_,_,_,rfl,rfl,rfl,rfl⟩,⟨_,_,_,rfl,rfl,rfl,rfl⟩,⟨_,_,_,rfl,rfl,rfl,rfl⟩,⟨_,_,_,rfl,rfl,rfl,rfl⟩,⟨_,_,_,rfl,rfl,rfl,rfl⟩,⟨_,_,_,rfl,rfl,rfl,rfl⟩,⟨_,_,_,rfl,rfl,rfl,rfl⟩,⟨_,_,_,rfl,rfl,rfl,rfl⟩,⟨_,_,_,rfl,rfl,rfl,rfl⟩,⟨_,_,_,rfl,rfl,rfl,rfl⟩,⟨_,_,_,rfl,rfl,rfl,rfl⟩,⟨_,_,_,rfl,rfl,rfl,rfl⟩,⟨_,_,_,rfl,rfl,rfl,rfl⟩,⟨_,_,_,rfl,rfl,rfl,rfl⟩,⟨_,_,_,rfl,rfl,rfl,rfl⟩,⟨_,_,_,rfl,rfl,rfl,rfl⟩,⟨_,_,_,rfl,rfl,rfl,rfl⟩,⟨_,_,_,rfl,rfl,rfl,rfl⟩,⟨_,_,_,rfl,rfl,rfl,rfl⟩,⟨_,_,_,rfl,rfl,rfl,rfl⟩,⟨_,_,_,rfl,rfl,rfl,rfl⟩,⟨_,_,_,rfl,rfl,rfl,rfl⟩,⟨_,_,_,rfl,rfl,rfl,rfl⟩,⟨_,_,_,rfl,rfl,rfl,rfl⟩,⟨_,_,_,rfl,rfl,rfl,rfl⟩,⟨_,_,_,rfl,rfl,rfl,rfl⟩,⟨_,_,_,rfl,rfl,rfl,rfl⟩,⟨_,_,_,rfl,rfl,rfl,rfl⟩,⟨_,_,_,rfl,rfl,rfl,rfl⟩,⟨_,_,_,rfl,rfl,rfl,rfl⟩,⟨_,_,_,rfl,rfl,rfl,rfl⟩,⟨_,_,_,rfl,rfl,rfl,rfl⟩,⟨_,_,_,rfl,rfl,rfl,rfl⟩,⟨_,_,_,rfl,rfl,rfl,rfl⟩,⟨_,_,_,rfl,rfl,rfl,rfl⟩,⟨_,_,_,rfl,rfl,rfl,rfl⟩,⟨_,_,_,rfl,rfl,rfl,rfl⟩,⟨_,_,_,rfl,rfl,rfl,rfl⟩,⟨_,_,_,rfl,rfl,rfl,rfl⟩,⟨_,_,_,rfl,rfl,rfl,rfl⟩,⟨_,_,_,rfl,rfl,rfl,rfl⟩,⟨_,_,_,rfl,rfl,rfl,rfl⟩,⟨_,_,_,rfl,rfl,rfl,rfl⟩,⟨_,_,_,rfl,rfl,rfl,rfl⟩,⟨_,_,_,rfl,rfl,rfl,rfl⟩,⟨_,_,_,rfl,rfl,rfl,rfl⟩,⟨_,_,_,rfl,rfl,rfl,rfl⟩,⟨_,_,_,rfl,rfl,rfl,rfl⟩,⟨_,_,_,rfl,rfl,rfl,rfl⟩,⟨_,_,_,rfl,rfl,rfl,rfl⟩,⟨_,_,_,rfl,rfl,rfl,rfl⟩,⟨_,_,_,rfl,rfl,rfl,rfl⟩,⟨_,_,_,rfl,rfl,rfl,rfl⟩,⟨_,_,_,rfl,rfl,rfl,rfl⟩,⟨_,_,_,rfl,rfl,rfl,rfl⟩,⟨_,_,_,rfl,rfl,rfl,rfl⟩,trivial⟩
def add0:∀s∈Sl0,∀p∈PPl,∃r,r∈Sl1/\Ans pr 161 [.ag s,.ag p] (.ag r):=allL (P:=fun s=>∀p∈PPl,∃r,r∈Sl1/\Ans pr 161 [.ag s,.ag p] (.ag r)) (l:=Sl0) ⟨
 allL (P:=fun p=>∃r,r∈Sl1/\Ans pr 161 [.ag u0,.ag p] (.ag r)) (l:=PPl) ⟨⟨u1,mg 0 rfl,zEG⟩,⟨u2,mg 1 rfl,zEJ⟩,⟨u3,mg 2 rfl,zLx⟩,⟨u4,mg 3 rfl,zLA⟩,⟨u5,mg 4 rfl,zLB⟩,⟨u0,mg 5 rfl,zLC⟩,⟨u6,mg 6 rfl,zLE⟩,⟨u7,mg 7 rfl,zEy⟩,trivial⟩,
 trivial⟩
def add1:∀s∈Sl1,∀p∈PPl,∃r,r∈Sl2/\Ans pr 161 [.ag s,.ag p] (.ag r):=allL (P:=fun s=>∀p∈PPl,∃r,r∈Sl2/\Ans pr 161 [.ag s,.ag p] (.ag r)) (l:=Sl1) ⟨
 allL (P:=fun p=>∃r,r∈Sl2/\Ans pr 161 [.ag u1,.ag p] (.ag r)) (l:=PPl) ⟨⟨u5,mg 0 rfl,zNS⟩,⟨u8,mg 1 rfl,zNT⟩,⟨u9,mg 2 rfl,zNU⟩,⟨u10,mg 3 rfl,zNW⟩,⟨u11,mg 4 rfl,zNX⟩,⟨u1,mg 5 rfl,zN1⟩,⟨u12,mg 6 rfl,zN3⟩,⟨u13,mg 7 rfl,zN5⟩,trivial⟩,
 allL (P:=fun p=>∃r,r∈Sl2/\Ans pr 161 [.ag u2,.ag p] (.ag r)) (l:=PPl) ⟨⟨u8,mg 1 rfl,zN7⟩,⟨u3,mg 8 rfl,zOa⟩,⟨u5,mg 0 rfl,zOi⟩,⟨u14,mg 9 rfl,zOo⟩,⟨u15,mg 10 rfl,zOp⟩,⟨u2,mg 11 rfl,zOq⟩,⟨u16,mg 12 rfl,zOr⟩,⟨u17,mg 13 rfl,zOs⟩,trivial⟩,
 allL (P:=fun p=>∃r,r∈Sl2/\Ans pr 161 [.ag u3,.ag p] (.ag r)) (l:=PPl) ⟨⟨u9,mg 2 rfl,zOu⟩,⟨u5,mg 0 rfl,zOw⟩,⟨u15,mg 10 rfl,zOx⟩,⟨u18,mg 14 rfl,zOy⟩,⟨u19,mg 15 rfl,zOz⟩,⟨u3,mg 8 rfl,zOB⟩,⟨u20,mg 16 rfl,zOE⟩,⟨u21,mg 17 rfl,zOF⟩,trivial⟩,
 allL (P:=fun p=>∃r,r∈Sl2/\Ans pr 161 [.ag u4,.ag p] (.ag r)) (l:=PPl) ⟨⟨u10,mg 3 rfl,zOG⟩,⟨u14,mg 9 rfl,zOH⟩,⟨u18,mg 14 rfl,zOI⟩,⟨u1,mg 5 rfl,zOL⟩,⟨u22,mg 18 rfl,zON⟩,⟨u4,mg 19 rfl,zOO⟩,⟨u23,mg 20 rfl,zOR⟩,⟨u24,mg 21 rfl,zOT⟩,trivial⟩,
 allL (P:=fun p=>∃r,r∈Sl2/\Ans pr 161 [.ag u5,.ag p] (.ag r)) (l:=PPl) ⟨⟨u11,mg 4 rfl,zOU⟩,⟨u15,mg 10 rfl,zOV⟩,⟨u19,mg 15 rfl,zOW⟩,⟨u22,mg 18 rfl,zOX⟩,⟨u25,mg 22 rfl,zOY⟩,⟨u5,mg 0 rfl,zEA⟩,⟨u26,mg 23 rfl,zOZ⟩,⟨u27,mg 24 rfl,zO0⟩,trivial⟩,
 allL (P:=fun p=>∃r,r∈Sl2/\Ans pr 161 [.ag u0,.ag p] (.ag r)) (l:=PPl) ⟨⟨u1,mg 5 rfl,zEG⟩,⟨u2,mg 11 rfl,zEJ⟩,⟨u3,mg 8 rfl,zLx⟩,⟨u4,mg 19 rfl,zLA⟩,⟨u5,mg 0 rfl,zLB⟩,⟨u0,mg 25 rfl,zLC⟩,⟨u6,mg 26 rfl,zLE⟩,⟨u7,mg 27 rfl,zEy⟩,trivial⟩,
 allL (P:=fun p=>∃r,r∈Sl2/\Ans pr 161 [.ag u6,.ag p] (.ag r)) (l:=PPl) ⟨⟨u12,mg 6 rfl,zO1⟩,⟨u16,mg 12 rfl,zO2⟩,⟨u20,mg 16 rfl,zO4⟩,⟨u23,mg 20 rfl,zO6⟩,⟨u26,mg 23 rfl,zO8⟩,⟨u6,mg 26 rfl,zO9⟩,⟨u28,mg 28 rfl,zPa⟩,⟨u29,mg 29 rfl,zPb⟩,trivial⟩,
 allL (P:=fun p=>∃r,r∈Sl2/\Ans pr 161 [.ag u7,.ag p] (.ag r)) (l:=PPl) ⟨⟨u13,mg 7 rfl,zPc⟩,⟨u17,mg 13 rfl,zPd⟩,⟨u21,mg 17 rfl,zPh⟩,⟨u24,mg 21 rfl,zPj⟩,⟨u27,mg 24 rfl,zPk⟩,⟨u7,mg 27 rfl,zPm⟩,⟨u29,mg 29 rfl,zPn⟩,⟨u30,mg 30 rfl,zPp⟩,trivial⟩,
 trivial⟩
def add2:∀s∈Sl2,∀p∈PPl,∃r,r∈Sl3/\Ans pr 161 [.ag s,.ag p] (.ag r):=allL (P:=fun s=>∀p∈PPl,∃r,r∈Sl3/\Ans pr 161 [.ag s,.ag p] (.ag r)) (l:=Sl2) ⟨
 allL (P:=fun p=>∃r,r∈Sl3/\Ans pr 161 [.ag u5,.ag p] (.ag r)) (l:=PPl) ⟨⟨u11,mg 0 rfl,zOU⟩,⟨u15,mg 1 rfl,zOV⟩,⟨u19,mg 2 rfl,zOW⟩,⟨u22,mg 3 rfl,zOX⟩,⟨u25,mg 4 rfl,zOY⟩,⟨u5,mg 5 rfl,zEA⟩,⟨u26,mg 6 rfl,zOZ⟩,⟨u27,mg 7 rfl,zO0⟩,trivial⟩,
 allL (P:=fun p=>∃r,r∈Sl3/\Ans pr 161 [.ag u8,.ag p] (.ag r)) (l:=PPl) ⟨⟨u15,mg 1 rfl,Qs449⟩,⟨u9,mg 8 rfl,Qs459⟩,⟨u11,mg 0 rfl,Qs472⟩,⟨u31,mg 9 rfl,Qs482⟩,⟨u32,mg 10 rfl,Qs486⟩,⟨u8,mg 11 rfl,Qs489⟩,⟨u33,mg 12 rfl,Qs499⟩,⟨u34,mg 13 rfl,Qs508⟩,trivial⟩,
 allL (P:=fun p=>∃r,r∈Sl3/\Ans pr 161 [.ag u9,.ag p] (.ag r)) (l:=PPl) ⟨⟨u19,mg 2 rfl,Qs516⟩,⟨u11,mg 0 rfl,Qs518⟩,⟨u32,mg 10 rfl,Qs525⟩,⟨u35,mg 14 rfl,Qs533⟩,⟨u36,mg 15 rfl,Qs538⟩,⟨u9,mg 8 rfl,Qs540⟩,⟨u37,mg 16 rfl,Qs549⟩,⟨u38,mg 17 rfl,Qs556⟩,trivial⟩,
 allL (P:=fun p=>∃r,r∈Sl3/\Ans pr 161 [.ag u10,.ag p] (.ag r)) (l:=PPl) ⟨⟨u22,mg 3 rfl,Qs564⟩,⟨u31,mg 9 rfl,Qs568⟩,⟨u35,mg 14 rfl,Qs572⟩,⟨u5,mg 5 rfl,Qs585⟩,⟨u39,mg 18 rfl,Qs588⟩,⟨u10,mg 19 rfl,Qs589⟩,⟨u40,mg 20 rfl,Qs596⟩,⟨u41,mg 21 rfl,Qs604⟩,trivial⟩,
 allL (P:=fun p=>∃r,r∈Sl3/\Ans pr 161 [.ag u11,.ag p] (.ag r)) (l:=PPl) ⟨⟨u25,mg 4 rfl,Qs610⟩,⟨u32,mg 10 rfl,Qs612⟩,⟨u36,mg 15 rfl,Qs613⟩,⟨u39,mg 18 rfl,Qs618⟩,⟨u42,mg 22 rfl,Qs621⟩,⟨u11,mg 0 rfl,Qs622⟩,⟨u43,mg 23 rfl,Qs625⟩,⟨u44,mg 24 rfl,Qs632⟩,trivial⟩,
 allL (P:=fun p=>∃r,r∈Sl3/\Ans pr 161 [.ag u1,.ag p] (.ag r)) (l:=PPl) ⟨⟨u5,mg 5 rfl,zNS⟩,⟨u8,mg 11 rfl,zNT⟩,⟨u9,mg 8 rfl,zNU⟩,⟨u10,mg 19 rfl,zNW⟩,⟨u11,mg 0 rfl,zNX⟩,⟨u1,mg 25 rfl,zN1⟩,⟨u12,mg 26 rfl,zN3⟩,⟨u13,mg 27 rfl,zN5⟩,trivial⟩,
 allL (P:=fun p=>∃r,r∈Sl3/\Ans pr 161 [.ag u12,.ag p] (.ag r)) (l:=PPl) ⟨⟨u26,mg 6 rfl,Qs642⟩,⟨u33,mg 12 rfl,Qs646⟩,⟨u37,mg 16 rfl,Qs649⟩,⟨u40,mg 20 rfl,Qs659⟩,⟨u43,mg 23 rfl,Qs663⟩,⟨u12,mg 26 rfl,Qs666⟩,⟨u45,mg 28 rfl,Qs679⟩,⟨u46,mg 29 rfl,Qs691⟩,trivial⟩,
 allL (P:=fun p=>∃r,r∈Sl3/\Ans pr 161 [.ag u13,.ag p] (.ag r)) (l:=PPl) ⟨⟨u27,mg 7 rfl,Qs702⟩,⟨u34,mg 13 rfl,Qs706⟩,⟨u38,mg 17 rfl,Qs709⟩,⟨u41,mg 21 rfl,Qs718⟩,⟨u44,mg 24 rfl,Qs722⟩,⟨u13,mg 27 rfl,Qs725⟩,⟨u46,mg 29 rfl,Qs730⟩,⟨u47,mg 30 rfl,Qs744⟩,trivial⟩,
 allL (P:=fun p=>∃r,r∈Sl3/\Ans pr 161 [.ag u3,.ag p] (.ag r)) (l:=PPl) ⟨⟨u9,mg 8 rfl,zOu⟩,⟨u5,mg 5 rfl,zOw⟩,⟨u15,mg 1 rfl,zOx⟩,⟨u18,mg 31 rfl,zOy⟩,⟨u19,mg 2 rfl,zOz⟩,⟨u3,mg 32 rfl,zOB⟩,⟨u20,mg 33 rfl,zOE⟩,⟨u21,mg 34 rfl,zOF⟩,trivial⟩,
 allL (P:=fun p=>∃r,r∈Sl3/\Ans pr 161 [.ag u14,.ag p] (.ag r)) (l:=PPl) ⟨⟨u31,mg 9 rfl,Qs749⟩,⟨u18,mg 31 rfl,Qs755⟩,⟨u22,mg 3 rfl,Qs768⟩,⟨u8,mg 11 rfl,Qs783⟩,⟨u48,mg 35 rfl,Qs790⟩,⟨u14,mg 36 rfl,Qs792⟩,⟨u49,mg 37 rfl,Qs802⟩,⟨u50,mg 38 rfl,Qs812⟩,trivial⟩,
 allL (P:=fun p=>∃r,r∈Sl3/\Ans pr 161 [.ag u15,.ag p] (.ag r)) (l:=PPl) ⟨⟨u32,mg 10 rfl,Qs814⟩,⟨u19,mg 2 rfl,Qs821⟩,⟨u25,mg 4 rfl,Qs825⟩,⟨u48,mg 35 rfl,Qs827⟩,⟨u51,mg 39 rfl,Qs830⟩,⟨u15,mg 1 rfl,Qs832⟩,⟨u52,mg 40 rfl,Qs839⟩,⟨u53,mg 41 rfl,Qs846⟩,trivial⟩,
 allL (P:=fun p=>∃r,r∈Sl3/\Ans pr 161 [.ag u2,.ag p] (.ag r)) (l:=PPl) ⟨⟨u8,mg 11 rfl,zN7⟩,⟨u3,mg 32 rfl,zOa⟩,⟨u5,mg 5 rfl,zOi⟩,⟨u14,mg 36 rfl,zOo⟩,⟨u15,mg 1 rfl,zOp⟩,⟨u2,mg 42 rfl,zOq⟩,⟨u16,mg 43 rfl,zOr⟩,⟨u17,mg 44 rfl,zOs⟩,trivial⟩,
 allL (P:=fun p=>∃r,r∈Sl3/\Ans pr 161 [.ag u16,.ag p] (.ag r)) (l:=PPl) ⟨⟨u33,mg 12 rfl,Qs851⟩,⟨u20,mg 33 rfl,Qs865⟩,⟨u26,mg 6 rfl,Qs873⟩,⟨u49,mg 37 rfl,Qs876⟩,⟨u52,mg 40 rfl,Qs879⟩,⟨u16,mg 43 rfl,Qs882⟩,⟨u54,mg 45 rfl,Qs903⟩,⟨u55,mg 46 rfl,Qs918⟩,trivial⟩,
 allL (P:=fun p=>∃r,r∈Sl3/\Ans pr 161 [.ag u17,.ag p] (.ag r)) (l:=PPl) ⟨⟨u34,mg 13 rfl,Qs923⟩,⟨u21,mg 34 rfl,Qs935⟩,⟨u27,mg 7 rfl,Qs946⟩,⟨u50,mg 38 rfl,Qs949⟩,⟨u53,mg 41 rfl,Qs952⟩,⟨u17,mg 44 rfl,Qs955⟩,⟨u55,mg 46 rfl,Qs959⟩,⟨u56,mg 47 rfl,Qs973⟩,trivial⟩,
 allL (P:=fun p=>∃r,r∈Sl3/\Ans pr 161 [.ag u18,.ag p] (.ag r)) (l:=PPl) ⟨⟨u35,mg 14 rfl,Qs976⟩,⟨u22,mg 3 rfl,Qs978⟩,⟨u48,mg 35 rfl,Qs984⟩,⟨u9,mg 8 rfl,Qs993⟩,⟨u57,mg 48 rfl,Qs999⟩,⟨u18,mg 31 rfl,z1o⟩,⟨u58,mg 49 rfl,z1p⟩,⟨u59,mg 50 rfl,z1q⟩,trivial⟩,
 allL (P:=fun p=>∃r,r∈Sl3/\Ans pr 161 [.ag u19,.ag p] (.ag r)) (l:=PPl) ⟨⟨u36,mg 15 rfl,z1s⟩,⟨u25,mg 4 rfl,z1t⟩,⟨u51,mg 39 rfl,z1u⟩,⟨u57,mg 48 rfl,z1w⟩,⟨u60,mg 51 rfl,z1y⟩,⟨u19,mg 2 rfl,z1A⟩,⟨u61,mg 52 rfl,z1C⟩,⟨u62,mg 53 rfl,z1D⟩,trivial⟩,
 allL (P:=fun p=>∃r,r∈Sl3/\Ans pr 161 [.ag u20,.ag p] (.ag r)) (l:=PPl) ⟨⟨u37,mg 16 rfl,z1E⟩,⟨u26,mg 6 rfl,z1F⟩,⟨u52,mg 40 rfl,z1J⟩,⟨u58,mg 49 rfl,z1L⟩,⟨u61,mg 52 rfl,z1M⟩,⟨u20,mg 33 rfl,z1N⟩,⟨u63,mg 54 rfl,z1O⟩,⟨u64,mg 55 rfl,z1P⟩,trivial⟩,
 allL (P:=fun p=>∃r,r∈Sl3/\Ans pr 161 [.ag u21,.ag p] (.ag r)) (l:=PPl) ⟨⟨u38,mg 17 rfl,z1R⟩,⟨u27,mg 7 rfl,z1S⟩,⟨u53,mg 41 rfl,z1U⟩,⟨u59,mg 50 rfl,z1X⟩,⟨u62,mg 53 rfl,z1Z⟩,⟨u21,mg 34 rfl,z15⟩,⟨u64,mg 55 rfl,z18⟩,⟨u65,mg 56 rfl,z2c⟩,trivial⟩,
 allL (P:=fun p=>∃r,r∈Sl3/\Ans pr 161 [.ag u22,.ag p] (.ag r)) (l:=PPl) ⟨⟨u39,mg 18 rfl,z2e⟩,⟨u48,mg 35 rfl,z2f⟩,⟨u57,mg 48 rfl,z2h⟩,⟨u11,mg 0 rfl,z2i⟩,⟨u66,mg 57 rfl,z2j⟩,⟨u22,mg 3 rfl,z2k⟩,⟨u67,mg 58 rfl,z2m⟩,⟨u68,mg 59 rfl,z2o⟩,trivial⟩,
 allL (P:=fun p=>∃r,r∈Sl3/\Ans pr 161 [.ag u4,.ag p] (.ag r)) (l:=PPl) ⟨⟨u10,mg 19 rfl,zOG⟩,⟨u14,mg 36 rfl,zOH⟩,⟨u18,mg 31 rfl,zOI⟩,⟨u1,mg 25 rfl,zOL⟩,⟨u22,mg 3 rfl,zON⟩,⟨u4,mg 60 rfl,zOO⟩,⟨u23,mg 61 rfl,zOR⟩,⟨u24,mg 62 rfl,zOT⟩,trivial⟩,
 allL (P:=fun p=>∃r,r∈Sl3/\Ans pr 161 [.ag u23,.ag p] (.ag r)) (l:=PPl) ⟨⟨u40,mg 20 rfl,z2p⟩,⟨u49,mg 37 rfl,z2q⟩,⟨u58,mg 49 rfl,z2t⟩,⟨u12,mg 26 rfl,z2x⟩,⟨u67,mg 58 rfl,z2y⟩,⟨u23,mg 61 rfl,z2z⟩,⟨u69,mg 63 rfl,z2B⟩,⟨u70,mg 64 rfl,z2C⟩,trivial⟩,
 allL (P:=fun p=>∃r,r∈Sl3/\Ans pr 161 [.ag u24,.ag p] (.ag r)) (l:=PPl) ⟨⟨u41,mg 21 rfl,z2D⟩,⟨u50,mg 38 rfl,z2E⟩,⟨u59,mg 50 rfl,z2I⟩,⟨u13,mg 27 rfl,z2K⟩,⟨u68,mg 59 rfl,z2M⟩,⟨u24,mg 62 rfl,z2N⟩,⟨u70,mg 64 rfl,z2O⟩,⟨u71,mg 65 rfl,z2T⟩,trivial⟩,
 allL (P:=fun p=>∃r,r∈Sl3/\Ans pr 161 [.ag u25,.ag p] (.ag r)) (l:=PPl) ⟨⟨u42,mg 22 rfl,z2U⟩,⟨u51,mg 39 rfl,z2V⟩,⟨u60,mg 51 rfl,z3e⟩,⟨u66,mg 57 rfl,z3f⟩,⟨u72,mg 66 rfl,z3i⟩,⟨u25,mg 4 rfl,z3m⟩,⟨u73,mg 67 rfl,z3o⟩,⟨u74,mg 68 rfl,z3p⟩,trivial⟩,
 allL (P:=fun p=>∃r,r∈Sl3/\Ans pr 161 [.ag u26,.ag p] (.ag r)) (l:=PPl) ⟨⟨u43,mg 23 rfl,z3r⟩,⟨u52,mg 40 rfl,z3t⟩,⟨u61,mg 52 rfl,z3u⟩,⟨u67,mg 58 rfl,z3v⟩,⟨u73,mg 67 rfl,z3x⟩,⟨u26,mg 6 rfl,z3z⟩,⟨u75,mg 69 rfl,z3A⟩,⟨u76,mg 70 rfl,z3B⟩,trivial⟩,
 allL (P:=fun p=>∃r,r∈Sl3/\Ans pr 161 [.ag u27,.ag p] (.ag r)) (l:=PPl) ⟨⟨u44,mg 24 rfl,z3D⟩,⟨u53,mg 41 rfl,z3E⟩,⟨u62,mg 53 rfl,z3F⟩,⟨u68,mg 59 rfl,z3H⟩,⟨u74,mg 68 rfl,z3J⟩,⟨u27,mg 7 rfl,z3K⟩,⟨u76,mg 70 rfl,z3L⟩,⟨u77,mg 71 rfl,z3M⟩,trivial⟩,
 allL (P:=fun p=>∃r,r∈Sl3/\Ans pr 161 [.ag u0,.ag p] (.ag r)) (l:=PPl) ⟨⟨u1,mg 25 rfl,zEG⟩,⟨u2,mg 42 rfl,zEJ⟩,⟨u3,mg 32 rfl,zLx⟩,⟨u4,mg 60 rfl,zLA⟩,⟨u5,mg 5 rfl,zLB⟩,⟨u0,mg 72 rfl,zLC⟩,⟨u6,mg 73 rfl,zLE⟩,⟨u7,mg 74 rfl,zEy⟩,trivial⟩,
 allL (P:=fun p=>∃r,r∈Sl3/\Ans pr 161 [.ag u6,.ag p] (.ag r)) (l:=PPl) ⟨⟨u12,mg 26 rfl,zO1⟩,⟨u16,mg 43 rfl,zO2⟩,⟨u20,mg 33 rfl,zO4⟩,⟨u23,mg 61 rfl,zO6⟩,⟨u26,mg 6 rfl,zO8⟩,⟨u6,mg 73 rfl,zO9⟩,⟨u28,mg 75 rfl,zPa⟩,⟨u29,mg 76 rfl,zPb⟩,trivial⟩,
 allL (P:=fun p=>∃r,r∈Sl3/\Ans pr 161 [.ag u7,.ag p] (.ag r)) (l:=PPl) ⟨⟨u13,mg 27 rfl,zPc⟩,⟨u17,mg 44 rfl,zPd⟩,⟨u21,mg 34 rfl,zPh⟩,⟨u24,mg 62 rfl,zPj⟩,⟨u27,mg 7 rfl,zPk⟩,⟨u7,mg 74 rfl,zPm⟩,⟨u29,mg 76 rfl,zPn⟩,⟨u30,mg 77 rfl,zPp⟩,trivial⟩,
 allL (P:=fun p=>∃r,r∈Sl3/\Ans pr 161 [.ag u28,.ag p] (.ag r)) (l:=PPl) ⟨⟨u45,mg 28 rfl,z3N⟩,⟨u54,mg 45 rfl,z3O⟩,⟨u63,mg 54 rfl,z3P⟩,⟨u69,mg 63 rfl,z3S⟩,⟨u75,mg 69 rfl,z3T⟩,⟨u28,mg 75 rfl,z4a⟩,⟨u78,mg 78 rfl,z4b⟩,⟨u79,mg 79 rfl,z4e⟩,trivial⟩,
 allL (P:=fun p=>∃r,r∈Sl3/\Ans pr 161 [.ag u29,.ag p] (.ag r)) (l:=PPl) ⟨⟨u46,mg 29 rfl,z4f⟩,⟨u55,mg 46 rfl,z4h⟩,⟨u64,mg 55 rfl,z4j⟩,⟨u70,mg 64 rfl,z4l⟩,⟨u76,mg 70 rfl,z4m⟩,⟨u29,mg 76 rfl,z4q⟩,⟨u79,mg 79 rfl,z4t⟩,⟨u80,mg 80 rfl,z4C⟩,trivial⟩,
 allL (P:=fun p=>∃r,r∈Sl3/\Ans pr 161 [.ag u30,.ag p] (.ag r)) (l:=PPl) ⟨⟨u47,mg 30 rfl,z4F⟩,⟨u56,mg 47 rfl,z4G⟩,⟨u65,mg 56 rfl,z4J⟩,⟨u71,mg 65 rfl,z4K⟩,⟨u77,mg 71 rfl,z4L⟩,⟨u30,mg 77 rfl,z4O⟩,⟨u80,mg 80 rfl,z4P⟩,⟨u81,mg 81 rfl,z4R⟩,trivial⟩,
 trivial⟩
def prob0:∀s∈Sl0,∃b,Ans pr 83 [.ag s] (.b b):=allL (P:=fun s=>∃b,Ans pr 83 [.ag s] (.b b)) (l:=Sl0) ⟨⟨true,zk4⟩,trivial⟩
def prob1:∀s∈Sl1,∃b,Ans pr 83 [.ag s] (.b b):=allL (P:=fun s=>∃b,Ans pr 83 [.ag s] (.b b)) (l:=Sl1) ⟨⟨true,zk5⟩,⟨true,zk6⟩,⟨true,zlP⟩,⟨true,zlQ⟩,⟨true,zlR⟩,⟨true,zk4⟩,⟨true,zlT⟩,⟨true,zlU⟩,trivial⟩
def prob2:∀s∈Sl2,∃b,Ans pr 83 [.ag s] (.b b):=allL (P:=fun s=>∃b,Ans pr 83 [.ag s] (.b b)) (l:=Sl2) ⟨⟨true,zlR⟩,⟨true,zHW⟩,⟨false,zHX⟩,⟨true,zHY⟩,⟨false,zHZ⟩,⟨true,zk5⟩,⟨false,zH0⟩,⟨true,zH1⟩,⟨true,zlP⟩,⟨true,zH3⟩,⟨false,zH5⟩,⟨true,zk6⟩,⟨true,zH6⟩,⟨true,zH8⟩,⟨true,zIb⟩,⟨false,zId⟩,⟨false,zIe⟩,⟨true,zIh⟩,⟨false,zIi⟩,⟨true,zlQ⟩,⟨true,zIj⟩,⟨true,zIk⟩,⟨false,zIl⟩,⟨false,zIm⟩,⟨false,zIp⟩,⟨true,zk4⟩,⟨true,zlT⟩,⟨true,zlU⟩,⟨false,zIr⟩,⟨true,zIs⟩,⟨true,zIt⟩,trivial⟩
def prob3:∀s∈Sl3,∃b,Ans pr 83 [.ag s] (.b b):=allL (P:=fun s=>∃b,Ans pr 83 [.ag s] (.b b)) (l:=Sl3) ⟨⟨false,zHZ⟩,⟨false,zH5⟩,⟨false,zId⟩,⟨false,zIi⟩,⟨false,zIl⟩,⟨true,zlR⟩,⟨false,zIm⟩,⟨false,zIp⟩,⟨false,zHX⟩,⟨false,z5m⟩,⟨false,z5u⟩,⟨true,zHW⟩,⟨false,z5z⟩,⟨true,z5F⟩,⟨false,z5K⟩,⟨false,z5Q⟩,⟨false,z5S⟩,⟨false,z5W⟩,⟨false,z5Y⟩,⟨true,zHY⟩,⟨false,z6a⟩,⟨true,z6c⟩,⟨false,z6d⟩,⟨false,z6e⟩,⟨false,z6f⟩,⟨true,zk5⟩,⟨false,zH0⟩,⟨true,zH1⟩,⟨false,z6k⟩,⟨false,z6s⟩,⟨true,z6u⟩,⟨true,zIb⟩,⟨true,zlP⟩,⟨false,zIe⟩,⟨true,zIh⟩,⟨false,z6w⟩,⟨true,zH3⟩,⟨false,z6E⟩,⟨true,z6G⟩,⟨false,z6H⟩,⟨false,z6J⟩,⟨false,z6K⟩,⟨true,zk6⟩,⟨true,zH6⟩,⟨true,zH8⟩,⟨false,z6M⟩,⟨false,z6P⟩,⟨true,z6T⟩,⟨false,z6U⟩,⟨false,z7b⟩,⟨false,z7e⟩,⟨false,z7j⟩,⟨false,z7k⟩,⟨false,z7l⟩,⟨false,z7p⟩,⟨false,z7s⟩,⟨true,z7v⟩,⟨false,z7w⟩,⟨false,z7x⟩,⟨false,z7z⟩,⟨true,zlQ⟩,⟨true,zIj⟩,⟨true,zIk⟩,⟨false,z7B⟩,⟨true,z7D⟩,⟨true,z7J⟩,⟨false,z7O⟩,⟨false,z7P⟩,⟨false,z7Q⟩,⟨false,z7R⟩,⟨false,z7T⟩,⟨false,z7U⟩,⟨true,zk4⟩,⟨true,zlT⟩,⟨true,zlU⟩,⟨false,zIr⟩,⟨true,zIs⟩,⟨true,zIt⟩,⟨false,z7X⟩,⟨false,z8b⟩,⟨true,z8f⟩,⟨true,z8j⟩,trivial⟩
def norm1:∀p∈PPl,Ans pr 87 [.ag p] (.ag p):=allL (P:=fun p=>Ans pr 87 [.ag p] (.ag p)) (l:=PPl) ⟨zcJ,zcC,zcL,zcM,zay,zcA,zcX,zbX,trivial⟩
def SSp(k:Nat)(p:List F):Prop:=match k with
 |0=>p∈Sl0
 |1=>p∈Sl1
 |2=>p∈Sl2
 |3=>p∈Sl3
 |_=>False
def PPp(p:List F):Prop:=p∈PPl
theorem zu7:znS SSp PPp where
 z:=⟨u0,mg 0 rfl,Qs63⟩
 pc:=fun k p h=>match k,h with
  |0,h=>zacx p h
  |1,h=>zacy p h
  |2,h=>zacz p h
  |3,h=>zacA p h
  |_+4,h=>h.elim
 pp:=zdd
 add:=fun k s p hk hs hp=>match k,hk,hs with
  |0,_,hs=>add0 s hs p hp
  |1,_,hs=>add1 s hs p hp
  |2,_,hs=>add2 s hs p hp
  |_+3,h,_=>absurd h (by omega)
 prob:=fun k s h=>match k,h with
  |0,h=>prob0 s h
  |1,h=>prob1 s h
  |2,h=>prob2 s h
  |3,h=>prob3 s h
  |_+4,h=>h.elim
 norm:=norm1
def coR:F:= .sl 3 [[.s [97],.i .i64 1,.b false],[.s [98],.i .i64 1,.b false]]
def rR(tu:List (List Int×List F)):Rl:=⟨[82],false,coR,tu⟩
def TuR(t:List Int×List F):Prop:=PPp t.2/\∃a b:Int,t.1=[a,b]
def ckR(t:List Int×List F)(h:TuR t):∃e,Ans pr 44 [.ag [.s [82],.b false,coR],.ag (tuF t)] (.i .i64 e):=by
 obtain⟨hp,a,b,he⟩ :=h;obtain⟨vs,p⟩ :=t;simp only at he;subst he;exact allL (P:=fun p=>∃e,Ans pr 44 [.ag [.s [82],.b false,coR],.ag (tuF ([a,b],p))] (.i .i64 e)) (l:=PPl) ⟨⟨_,ctR0 a b⟩,⟨_,ctR1 a b⟩,⟨_,ctR2 a b⟩,⟨_,ctR3 a b⟩,⟨_,ctR4 a b⟩,⟨_,ctR5 a b⟩,⟨_,ctR6 a b⟩,⟨_,ctR7 a b⟩,trivial⟩ p hp
def gR(tu:List (List Int×List F))(hn:tu.length<=3)(h:∀t∈tu,TuR t):∃B:List (List Nat),Ans pr 82 [.ag (rlF (rR tu))] (zj6 B)/\B.length<=3/\∀b∈B,b.length<=3/\∀i∈b,i<tu.length:=by
 match tu,hn with
 |[],_=>
  exact⟨[],grR0,by simp,by simp⟩
 |[t0],_=>
  obtain⟨hp0,a0,b0,he0⟩ :=h t0 (by simp);obtain⟨x0,y0,z0,hx0,_,_,_⟩ :=zdd _ hp0;obtain⟨v0,w0⟩ :=t0;simp only at he0 hx0;subst he0 hx0;exact⟨[[0]],grR1 a0 b0 x0 y0 z0,by simp,by simp⟩
 |[t0,t1],_=>
  obtain⟨hp0,a0,b0,he0⟩ :=h t0 (by simp);obtain⟨x0,y0,z0,hx0,_,_,_⟩ :=zdd _ hp0;obtain⟨v0,w0⟩ :=t0;simp only at he0 hx0;subst he0 hx0;obtain⟨hp1,a1,b1,he1⟩ :=h t1 (by simp);obtain⟨x1,y1,z1,hx1,_,_,_⟩ :=zdd _ hp1;obtain⟨v1,w1⟩ :=t1;simp only at he1 hx1;subst he1 hx1;exact⟨[[0],[1]],grR2 a0 b0 x0 y0 z0 a1 b1 x1 y1 z1,by simp,by simp⟩
 |[t0,t1,t2],_=>
  obtain⟨hp0,a0,b0,he0⟩ :=h t0 (by simp);obtain⟨x0,y0,z0,hx0,_,_,_⟩ :=zdd _ hp0;obtain⟨v0,w0⟩ :=t0;simp only at he0 hx0;subst he0 hx0;obtain⟨hp1,a1,b1,he1⟩ :=h t1 (by simp);obtain⟨x1,y1,z1,hx1,_,_,_⟩ :=zdd _ hp1;obtain⟨v1,w1⟩ :=t1;simp only at he1 hx1;subst he1 hx1;obtain⟨hp2,a2,b2,he2⟩ :=h t2 (by simp);obtain⟨x2,y2,z2,hx2,_,_,_⟩ :=zdd _ hp2;obtain⟨v2,w2⟩ :=t2;simp only at he2 hx2;subst he2 hx2;exact⟨[[0],[1],[2]],grR3 a0 b0 x0 y0 z0 a1 b1 x1 y1 z1 a2 b2 x2 y2 z2,by simp,by simp⟩
 |_::_::_::_::_,h=>exact absurd h (by simp)
theorem okR(tu:List (List Int×List F))(hn:tu.length<=3)(h:∀t∈tu,TuR t):zg4 SSp PPp (rR tu) where
 co:=rfl
 cc:=rfl
 v:=zjS
 n:=hn
 p:=fun t ht=>(h t ht).1
 c:=fun t ht=>ckR t (h t ht)
 l:=fun t ht=>by obtain⟨_,a,b,he⟩ :=h t ht;rw[he];simp
 g:=gR tu hn h
def coS:F:= .sl 3 [[.s [97],.i .i64 1,.b false]]
def rS(tu:List (List Int×List F)):Rl:=⟨[83],false,coS,tu⟩
def TuS(t:List Int×List F):Prop:=PPp t.2/\∃a:Int,t.1=[a]
def ckS(t:List Int×List F)(h:TuS t):∃e,Ans pr 44 [.ag [.s [83],.b false,coS],.ag (tuF t)] (.i .i64 e):=by
 obtain⟨hp,a,he⟩ :=h;obtain⟨vs,p⟩ :=t;simp only at he;subst he;exact allL (P:=fun p=>∃e,Ans pr 44 [.ag [.s [83],.b false,coS],.ag (tuF ([a],p))] (.i .i64 e)) (l:=PPl) ⟨⟨_,ctS0 a⟩,⟨_,ctS1 a⟩,⟨_,ctS2 a⟩,⟨_,ctS3 a⟩,⟨_,ctS4 a⟩,⟨_,ctS5 a⟩,⟨_,ctS6 a⟩,⟨_,ctS7 a⟩,trivial⟩ p hp
def gS(tu:List (List Int×List F))(hn:tu.length<=3)(h:∀t∈tu,TuS t):∃B:List (List Nat),Ans pr 82 [.ag (rlF (rS tu))] (zj6 B)/\B.length<=3/\∀b∈B,b.length<=3/\∀i∈b,i<tu.length:=by
 match tu,hn with
 |[],_=>
  exact⟨[],grS0,by simp,by simp⟩
 |[t0],_=>
  obtain⟨hp0,a0,he0⟩ :=h t0 (by simp);obtain⟨x0,y0,z0,hx0,_,_,_⟩ :=zdd _ hp0;obtain⟨v0,w0⟩ :=t0;simp only at he0 hx0;subst he0 hx0;exact⟨[[0]],grS1 a0 x0 y0 z0,by simp,by simp⟩
 |[t0,t1],_=>
  obtain⟨hp0,a0,he0⟩ :=h t0 (by simp);obtain⟨x0,y0,z0,hx0,_,_,_⟩ :=zdd _ hp0;obtain⟨v0,w0⟩ :=t0;simp only at he0 hx0;subst he0 hx0;obtain⟨hp1,a1,he1⟩ :=h t1 (by simp);obtain⟨x1,y1,z1,hx1,_,_,_⟩ :=zdd _ hp1;obtain⟨v1,w1⟩ :=t1;simp only at he1 hx1;subst he1 hx1;exact⟨[[0],[1]],grS2 a0 x0 y0 z0 a1 x1 y1 z1,by simp,by simp⟩
 |[t0,t1,t2],_=>
  obtain⟨hp0,a0,he0⟩ :=h t0 (by simp);obtain⟨x0,y0,z0,hx0,_,_,_⟩ :=zdd _ hp0;obtain⟨v0,w0⟩ :=t0;simp only at he0 hx0;subst he0 hx0;obtain⟨hp1,a1,he1⟩ :=h t1 (by simp);obtain⟨x1,y1,z1,hx1,_,_,_⟩ :=zdd _ hp1;obtain⟨v1,w1⟩ :=t1;simp only at he1 hx1;subst he1 hx1;obtain⟨hp2,a2,he2⟩ :=h t2 (by simp);obtain⟨x2,y2,z2,hx2,_,_,_⟩ :=zdd _ hp2;obtain⟨v2,w2⟩ :=t2;simp only at he2 hx2;subst he2 hx2;exact⟨[[0],[1],[2]],grS3 a0 x0 y0 z0 a1 x1 y1 z1 a2 x2 y2 z2,by simp,by simp⟩
 |_::_::_::_::_,h=>exact absurd h (by simp)
theorem okS(tu:List (List Int×List F))(hn:tu.length<=3)(h:∀t∈tu,TuS t):zg4 SSp PPp (rS tu) where
 co:=rfl
 cc:=rfl
 v:=ziw
 n:=hn
 p:=fun t ht=>(h t ht).1
 c:=fun t ht=>ckS t (h t ht)
 l:=fun t ht=>by obtain⟨_,a,he⟩ :=h t ht;rw[he];simp
 g:=gS tu hn h
def coK:F:= .sl 3 [[.s [107],.i .i64 1,.b true],[.s [118],.i .i64 1,.b false]]
def rK(tu:List (List Int×List F)):Rl:=⟨[75],false,coK,tu⟩
def TuK(t:List Int×List F):Prop:=PPp t.2/\∃a b:Int,t.1=[a,b]/\1<=a/\a<=3
def ckK(t:List Int×List F)(h:TuK t):∃e,Ans pr 44 [.ag [.s [75],.b false,coK],.ag (tuF t)] (.i .i64 e):=by
 obtain⟨hp,a,b,he,_,_⟩ :=h;obtain⟨vs,p⟩ :=t;simp only at he;subst he;exact allL (P:=fun p=>∃e,Ans pr 44 [.ag [.s [75],.b false,coK],.ag (tuF ([a,b],p))] (.i .i64 e)) (l:=PPl) ⟨⟨_,ctK0 a b⟩,⟨_,ctK1 a b⟩,⟨_,ctK2 a b⟩,⟨_,ctK3 a b⟩,⟨_,ctK4 a b⟩,⟨_,ctK5 a b⟩,⟨_,ctK6 a b⟩,⟨_,ctK7 a b⟩,trivial⟩ p hp
def gK(tu:List (List Int×List F))(hn:tu.length<=3)(h:∀t∈tu,TuK t):∃B:List (List Nat),Ans pr 82 [.ag (rlF (rK tu))] (zj6 B)/\B.length<=3/\∀b∈B,b.length<=3/\∀i∈b,i<tu.length:=by
 match tu,hn with
 |[],_=>
  exact⟨[],grK0,by simp,by simp⟩
 |[t0],_=>
  obtain⟨hp0,a0,b0,he0,l0,k0⟩ :=h t0 (by simp);obtain⟨x0,y0,z0,hx0,_,_,_⟩ :=zdd _ hp0;obtain⟨v0,w0⟩ :=t0;simp only at he0 hx0;subst he0 hx0;exact⟨[[0]],grK1 a0 b0 x0 y0 z0,by simp,by simp⟩
 |[t0,t1],_=>
  obtain⟨hp0,a0,b0,he0,l0,k0⟩ :=h t0 (by simp);obtain⟨x0,y0,z0,hx0,_,_,_⟩ :=zdd _ hp0;obtain⟨v0,w0⟩ :=t0;simp only at he0 hx0;subst he0 hx0;obtain⟨hp1,a1,b1,he1,l1,k1⟩ :=h t1 (by simp);obtain⟨x1,y1,z1,hx1,_,_,_⟩ :=zdd _ hp1;obtain⟨v1,w1⟩ :=t1;simp only at he1 hx1;subst he1 hx1;have q0:a0=1\/a0=2\/a0=3:=by omega
  have q1:a1=1\/a1=2\/a1=3:=by omega
  rcases q0 with rfl|rfl|rfl<;>rcases q1 with rfl|rfl|rfl
  .exact⟨[[0,1]],zMs b0 x0 y0 z0 b1 x1 y1 z1,by simp,by simp⟩
  .exact⟨[[0],[1]],zMt b0 x0 y0 z0 b1 x1 y1 z1,by simp,by simp⟩
  .exact⟨[[0],[1]],zMu b0 x0 y0 z0 b1 x1 y1 z1,by simp,by simp⟩
  .exact⟨[[1],[0]],zMv b0 x0 y0 z0 b1 x1 y1 z1,by simp,by simp⟩
  .exact⟨[[0,1]],zMw b0 x0 y0 z0 b1 x1 y1 z1,by simp,by simp⟩
  .exact⟨[[0],[1]],zMx b0 x0 y0 z0 b1 x1 y1 z1,by simp,by simp⟩
  .exact⟨[[1],[0]],zMy b0 x0 y0 z0 b1 x1 y1 z1,by simp,by simp⟩
  .exact⟨[[1],[0]],zMA b0 x0 y0 z0 b1 x1 y1 z1,by simp,by simp⟩
  .exact⟨[[0,1]],zMB b0 x0 y0 z0 b1 x1 y1 z1,by simp,by simp⟩
 |[t0,t1,t2],_=>
  obtain⟨hp0,a0,b0,he0,l0,k0⟩ :=h t0 (by simp);obtain⟨x0,y0,z0,hx0,_,_,_⟩ :=zdd _ hp0;obtain⟨v0,w0⟩ :=t0;simp only at he0 hx0;subst he0 hx0;obtain⟨hp1,a1,b1,he1,l1,k1⟩ :=h t1 (by simp);obtain⟨x1,y1,z1,hx1,_,_,_⟩ :=zdd _ hp1;obtain⟨v1,w1⟩ :=t1;simp only at he1 hx1;subst he1 hx1;obtain⟨hp2,a2,b2,he2,l2,k2⟩ :=h t2 (by simp);obtain⟨x2,y2,z2,hx2,_,_,_⟩ :=zdd _ hp2;obtain⟨v2,w2⟩ :=t2;simp only at he2 hx2;subst he2 hx2;have q0:a0=1\/a0=2\/a0=3:=by omega
  have q1:a1=1\/a1=2\/a1=3:=by omega
  have q2:a2=1\/a2=2\/a2=3:=by omega
  rcases q0 with rfl|rfl|rfl<;>rcases q1 with rfl|rfl|rfl<;>rcases q2 with rfl|rfl|rfl
  .exact⟨[[0,1,2]],zFX b0 x0 y0 z0 b1 x1 y1 z1 b2 x2 y2 z2,by simp,by simp⟩
  .exact⟨[[0,1],[2]],zFY b0 x0 y0 z0 b1 x1 y1 z1 b2 x2 y2 z2,by simp,by simp⟩
  .exact⟨[[0,1],[2]],zFZ b0 x0 y0 z0 b1 x1 y1 z1 b2 x2 y2 z2,by simp,by simp⟩
  .exact⟨[[0,2],[1]],zF0 b0 x0 y0 z0 b1 x1 y1 z1 b2 x2 y2 z2,by simp,by simp⟩
  .exact⟨[[0],[1,2]],zF3 b0 x0 y0 z0 b1 x1 y1 z1 b2 x2 y2 z2,by simp,by simp⟩
  .exact⟨[[0],[1],[2]],zF6 b0 x0 y0 z0 b1 x1 y1 z1 b2 x2 y2 z2,by simp,by simp⟩
  .exact⟨[[0,2],[1]],zF7 b0 x0 y0 z0 b1 x1 y1 z1 b2 x2 y2 z2,by simp,by simp⟩
  .exact⟨[[0],[2],[1]],zF9 b0 x0 y0 z0 b1 x1 y1 z1 b2 x2 y2 z2,by simp,by simp⟩
  .exact⟨[[0],[1,2]],zGa b0 x0 y0 z0 b1 x1 y1 z1 b2 x2 y2 z2,by simp,by simp⟩
  .exact⟨[[1,2],[0]],zGc b0 x0 y0 z0 b1 x1 y1 z1 b2 x2 y2 z2,by simp,by simp⟩
  .exact⟨[[1],[0,2]],zGd b0 x0 y0 z0 b1 x1 y1 z1 b2 x2 y2 z2,by simp,by simp⟩
  .exact⟨[[1],[0],[2]],zGi b0 x0 y0 z0 b1 x1 y1 z1 b2 x2 y2 z2,by simp,by simp⟩
  .exact⟨[[2],[0,1]],zGj b0 x0 y0 z0 b1 x1 y1 z1 b2 x2 y2 z2,by simp,by simp⟩
  .exact⟨[[0,1,2]],zGk b0 x0 y0 z0 b1 x1 y1 z1 b2 x2 y2 z2,by simp,by simp⟩
  .exact⟨[[0,1],[2]],zGl b0 x0 y0 z0 b1 x1 y1 z1 b2 x2 y2 z2,by simp,by simp⟩
  .exact⟨[[2],[0],[1]],zGn b0 x0 y0 z0 b1 x1 y1 z1 b2 x2 y2 z2,by simp,by simp⟩
  .exact⟨[[0,2],[1]],zGp b0 x0 y0 z0 b1 x1 y1 z1 b2 x2 y2 z2,by simp,by simp⟩
  .exact⟨[[0],[1,2]],zGr b0 x0 y0 z0 b1 x1 y1 z1 b2 x2 y2 z2,by simp,by simp⟩
  .exact⟨[[1,2],[0]],zGu b0 x0 y0 z0 b1 x1 y1 z1 b2 x2 y2 z2,by simp,by simp⟩
  .exact⟨[[1],[2],[0]],zGv b0 x0 y0 z0 b1 x1 y1 z1 b2 x2 y2 z2,by simp,by simp⟩
  .exact⟨[[1],[0,2]],zGy b0 x0 y0 z0 b1 x1 y1 z1 b2 x2 y2 z2,by simp,by simp⟩
  .exact⟨[[2],[1],[0]],zGA b0 x0 y0 z0 b1 x1 y1 z1 b2 x2 y2 z2,by simp,by simp⟩
  .exact⟨[[1,2],[0]],zGB b0 x0 y0 z0 b1 x1 y1 z1 b2 x2 y2 z2,by simp,by simp⟩
  .exact⟨[[1],[0,2]],zGC b0 x0 y0 z0 b1 x1 y1 z1 b2 x2 y2 z2,by simp,by simp⟩
  .exact⟨[[2],[0,1]],zGH b0 x0 y0 z0 b1 x1 y1 z1 b2 x2 y2 z2,by simp,by simp⟩
  .exact⟨[[2],[0,1]],zGI b0 x0 y0 z0 b1 x1 y1 z1 b2 x2 y2 z2,by simp,by simp⟩
  .exact⟨[[0,1,2]],zGJ b0 x0 y0 z0 b1 x1 y1 z1 b2 x2 y2 z2,by simp,by simp⟩
 |_::_::_::_::_,h=>exact absurd h (by simp)
theorem okK(tu:List (List Int×List F))(hn:tu.length<=3)(h:∀t∈tu,TuK t):zg4 SSp PPp (rK tu) where
 co:=rfl
 cc:=rfl
 v:=zjT
 n:=hn
 p:=fun t ht=>(h t ht).1
 c:=fun t ht=>ckK t (h t ht)
 l:=fun t ht=>by obtain⟨_,a,b,he,_,_⟩ :=h t ht;rw[he];simp
 g:=gK tu hn h
def coC:F:= .sl 3 [[.s [97],.i .i64 1,.b false],[.s [98],.i .i64 1,.b false]]
def rC(tu:List (List Int×List F)):Rl:=⟨[67],true,coC,tu⟩
def TuC(t:List Int×List F):Prop:=PPp t.2/\∃a b:Int,t.1=[a,b]
def ckC(t:List Int×List F)(h:TuC t):∃e,Ans pr 44 [.ag [.s [67],.b true,coC],.ag (tuF t)] (.i .i64 e):=by
 obtain⟨hp,a,b,he⟩ :=h;obtain⟨vs,p⟩ :=t;simp only at he;subst he;exact allL (P:=fun p=>∃e,Ans pr 44 [.ag [.s [67],.b true,coC],.ag (tuF ([a,b],p))] (.i .i64 e)) (l:=PPl) ⟨⟨_,ctC0 a b⟩,⟨_,ctC1 a b⟩,⟨_,ctC2 a b⟩,⟨_,ctC3 a b⟩,⟨_,ctC4 a b⟩,⟨_,ctC5 a b⟩,⟨_,ctC6 a b⟩,⟨_,ctC7 a b⟩,trivial⟩ p hp
def gC(tu:List (List Int×List F))(hn:tu.length<=3)(h:∀t∈tu,TuC t):∃B:List (List Nat),Ans pr 82 [.ag (rlF (rC tu))] (zj6 B)/\B.length<=3/\∀b∈B,b.length<=3/\∀i∈b,i<tu.length:=by
 exact⟨[],grC _,by simp,by simp⟩
theorem okC(tu:List (List Int×List F))(hn:tu.length<=3)(h:∀t∈tu,TuC t):zg4 SSp PPp (rC tu) where
 co:=rfl
 cc:=rfl
 v:=zjW
 n:=hn
 p:=fun t ht=>(h t ht).1
 c:=fun t ht=>ckC t (h t ht)
 l:=fun t ht=>by obtain⟨_,a,b,he⟩ :=h t ht;rw[he];simp
 g:=gC tu hn h
end Go.Proofs.YtdonnbdegnkflaaGreatDoor
end
section
namespace Go.Proofs.YtdonnbdegnkflaaGreatDoor
open Go Go.Vse Go.Vse.Sm
def rb(r:Nat)(b:UInt8):UInt8:=if b=64 then UInt8.ofNat (49+r)else b
def rb_no{p:Str}(h:p.all (· != 64)=true)(r:Nat):p.map (rb r)=p:=by
  refine (Z68 fun b hb=> ?_).trans (List.map_id p);have:=Z50.1 h b hb;have h2:¬b=64:=by simpa using this
  simp[rb,h2]
def cq0:CQ:=⟨[⟨[82],false,[.var [120],.var [121]]⟩],[],false,false⟩
def cq1:CQ:=⟨[⟨[82],false,[.var [120],.var [121]]⟩,⟨[83],false,[.var [121]]⟩],[],false,false⟩
def cq2:CQ:=⟨[⟨[82],false,[.var [120],.var [121]]⟩,⟨[83],false,[.var [120]]⟩],[],false,false⟩
def cq3:CQ:=⟨[⟨[82],false,[.var [120],.var [121]]⟩,⟨[75],false,[.var [121],.var [122]]⟩],[],false,false⟩
def cq4:CQ:=⟨[⟨[75],false,[.var [120],.var [121]]⟩,⟨[83],false,[.var [121]]⟩],[],false,false⟩
def cq5:CQ:=⟨[⟨[82],false,[.var [120],.var [121]]⟩,⟨[82],false,[.var [121],.var [122]]⟩],[],false,false⟩
def cq6:CQ:=⟨[⟨[82],false,[.var [120],.var [121]]⟩,⟨[82],false,[.var [121],.var [120]]⟩],[],false,false⟩
def cq7:CQ:=⟨[⟨[67],false,[.var [120],.var [121]]⟩,⟨[82],false,[.var [121],.var [122]]⟩],[],false,false⟩
def cq8:CQ:=⟨[⟨[82],false,[.var [120],.var [121]]⟩,⟨[83],true,[.var [121]]⟩],[],false,false⟩
def cq9:CQ:=⟨[⟨[83],false,[.var [120]]⟩,⟨[82],true,[.var [120],.cst 1]⟩],[],false,false⟩
def zou:CQ:=⟨[⟨[83],false,[.var [120]]⟩,⟨[82],true,[.var [120],.cst 2]⟩],[],false,false⟩
def zov:CQ:=⟨[⟨[83],false,[.var [120]]⟩,⟨[82],true,[.var [120],.cst 3]⟩],[],false,false⟩
def zoz:CQ:=⟨[⟨[67],false,[.var [120],.var [121]]⟩,⟨[83],false,[.var [121]]⟩,⟨[75],true,[.var [120],.var [121]]⟩],[],false,false⟩
def zoA:CQ:=⟨[⟨[82],false,[.var [120],.var [121]]⟩,⟨[83],false,[.var [120]]⟩,⟨[83],false,[.var [121]]⟩],[],false,false⟩
def zoC:CQ:=⟨[⟨[75],false,[.var [120],.var [121]]⟩,⟨[75],false,[.var [122],.var [121]]⟩],[],false,false⟩
def zoE:CQ:=⟨[⟨[82],false,[.var [120],.cst 1]⟩],[],false,false⟩
def zoF:CQ:=⟨[⟨[82],false,[.var [120],.cst 2]⟩],[],false,false⟩
def zoG:CQ:=⟨[⟨[82],false,[.var [120],.cst 3]⟩],[],false,false⟩
def zoK:CQ:=⟨[⟨[83],false,[.var [120]]⟩,⟨[75],false,[.var [120],.cst 1]⟩],[],false,false⟩
def zoL:CQ:=⟨[⟨[83],false,[.var [120]]⟩,⟨[75],false,[.var [120],.cst 2]⟩],[],false,false⟩
def zoM:CQ:=⟨[⟨[83],false,[.var [120]]⟩,⟨[75],false,[.var [120],.cst 3]⟩],[],false,false⟩
def zoS:CQ:=⟨[⟨[82],false,[.var [120],.var [121]]⟩],[⟨3,.var [120],.var [121]⟩],false,false⟩
def zoT:CQ:=⟨[⟨[82],false,[.var [120],.var [121]]⟩,⟨[83],false,[.var [122]]⟩],[⟨2,.var [121],.var [122]⟩],false,false⟩
def zoU:CQ:=⟨[⟨[83],false,[.var [120]]⟩,⟨[83],false,[.var [121]]⟩],[⟨4,.var [120],.var [121]⟩],false,false⟩
def zoW:CQ:=⟨[⟨[67],false,[.var [120],.var [121]]⟩,⟨[82],true,[.var [120],.var [121]]⟩],[],false,false⟩
def zoX:CQ:=⟨[⟨[82],false,[.var [120],.var [120]]⟩],[],false,false⟩
def zo1:CQ:=⟨[⟨[83],false,[.var [120]]⟩],[⟨1,.var [120],.cst 1⟩],false,false⟩
def zo2:CQ:=⟨[⟨[83],false,[.var [120]]⟩],[⟨1,.var [120],.cst 2⟩],false,false⟩
def zo3:CQ:=⟨[⟨[83],false,[.var [120]]⟩],[⟨1,.var [120],.cst 3⟩],false,false⟩
def zo4:CQ:=⟨[⟨[75],false,[.var [120],.var [121]]⟩,⟨[82],false,[.var [121],.var [122]]⟩,⟨[83],false,[.var [122]]⟩],[],false,false⟩
def zo5:CQ:=⟨[⟨[82],false,[.var [120],.var [121]]⟩,⟨[82],false,[.var [120],.var [122]]⟩],[⟨3,.var [121],.var [122]⟩],false,false⟩
def zo6:CQ:=⟨[⟨[75],false,[.var [120],.cst 1]⟩,⟨[67],false,[.var [121],.var [120]]⟩],[],false,false⟩
def zo8:CQ:=⟨[⟨[75],false,[.var [120],.cst 2]⟩,⟨[67],false,[.var [121],.var [120]]⟩],[],false,false⟩
def zo9:CQ:=⟨[⟨[75],false,[.var [120],.cst 3]⟩,⟨[67],false,[.var [121],.var [120]]⟩],[],false,false⟩
def CQl:List CQ:=[cq0,cq1,cq2,cq3,cq4,cq5,cq6,cq7,cq8,cq9,zou,zov,zoz,zoA,zoC,zoE,zoF,zoG,zoK,zoL,zoM,zoS,zoT,zoU,zoW,zoX,zo1,zo2,zo3,zo4,zo5,zo6,zo8,zo9]
def pa0:Str:=[82,40,120,44,32,121,41]
def pa1:Str:=[82,40,120,44,32,121,41,44,32,83,40,121,41]
def pa2:Str:=[82,40,120,44,32,121,41,44,32,83,40,120,41]
def pa3:Str:=[82,40,120,44,32,121,41,44,32,75,40,121,44,32,122,41]
def pa4:Str:=[75,40,120,44,32,121,41,44,32,83,40,121,41]
def pa5:Str:=[82,40,120,44,32,121,41,44,32,82,40,121,44,32,122,41]
def pa6:Str:=[82,40,120,44,32,121,41,44,32,82,40,121,44,32,120,41]
def pa7:Str:=[67,40,120,44,32,121,41,44,32,82,40,121,44,32,122,41]
def pa8:Str:=[82,40,120,44,32,121,41,44,32,110,111,116,32,83,40,121,41]
def pa9:Str:=[83,40,120,41,44,32,110,111,116,32,82,40,120,44,32,64,41]
def zMN:Str:=[67,40,120,44,32,121,41,44,32,83,40,121,41,44,32,110,111,116,32,75,40,120,44,32,121,41]
def zMO:Str:=[82,40,120,44,32,121,41,44,32,83,40,120,41,44,32,83,40,121,41]
def zMR:Str:=[75,40,120,44,32,121,41,44,32,75,40,122,44,32,121,41]
def zMT:Str:=[82,40,120,44,32,64,41]
def zMV:Str:=[83,40,120,41,44,32,75,40,120,44,32,64,41]
def zMW:Str:=[82,40,120,44,32,121,41,44,32,120,32,60,32,121]
def zMZ:Str:=[82,40,120,44,32,121,41,44,32,83,40,122,41,44,32,121,32,33,61,32,122]
def zM0:Str:=[83,40,120,41,44,32,83,40,121,41,44,32,120,32,60,61,32,121]
def zM1:Str:=[67,40,120,44,32,121,41,44,32,110,111,116,32,82,40,120,44,32,121,41]
def zM3:Str:=[82,40,120,44,32,120,41]
def zM5:Str:=[83,40,120,41,44,32,120,32,61,32,64]
def zM6:Str:=[75,40,120,44,32,121,41,44,32,82,40,121,44,32,122,41,44,32,83,40,122,41]
def zM8:Str:=[82,40,120,44,32,121,41,44,32,82,40,120,44,32,122,41,44,32,121,32,60,32,122]
def zNa:Str:=[75,40,120,44,32,64,41,44,32,67,40,121,44,32,120,41]
def paL:List (List F):=[[.s pa0],[.s pa1],[.s pa2],[.s pa3],[.s pa4],[.s pa5],[.s pa6],[.s pa7],[.s pa8],[.s pa9],[.s zMN],[.s zMO],[.s zMR],[.s zMT],[.s zMV],[.s zMW],[.s zMZ],[.s zM0],[.s zM1],[.s zM3],[.s zM5],[.s zM6],[.s zM8],[.s zNa]]
def zQN:Ans pr 19 [] (.sl 1 paL):=Qs66
def ans13:Ans pr 13 [] (.b true):=z9s
def Rd(p:Str)(r:Nat):Prop:=∃c∈CQl,Ans pr 35 [.s (p.map (rb r))] (.tu [.ag [.nils,.sl 2 [cqF c]],.i .i64 0])
def Rds(p:Str):Prop:=p≠[]/\p.length<1000/\∀r,r<3->Rd p r
def RdX(x:List F):Prop:=∃p,x=[.s p]/\Rds p
def qa{fs gs:List F}{x y:F}(h:Ans pr 35 fs x)(e1:fs=gs)(e2:x=y):Ans pr 35 gs y:=by rw[<-e1,<-e2];exact h
def rn{p:Str}{fs:List F}{x:F}(h1:p≠[])(h2:p.length<1000)(h:p.all (· != 64)=true){c:CQ}(n:Nat)(hc:CQl[n]? =some c)(q:Ans pr 35 fs x)(e1:fs=[.s p])(e2:x= .tu [.ag [.nils,.sl 2 [cqF c]],.i .i64 0]):RdX [.s p]:=
  ⟨p,rfl,h1,h2,fun r _=>⟨c,mg n hc,by rw[rb_no h];exact qa q e1 e2⟩⟩
def r3{p:Str}(h1:p≠[])(h2:p.length<1000)(a:Rd p 0)(b:Rd p 1)(c:Rd p 2):RdX [.s p]:=⟨p,rfl,h1,h2,fun r hr=>match r,hr with
 |0,_=>a
 |1,_=>b
 |2,_=>c⟩
def rd0:RdX [.s pa0]:=rn (by simp[pa0]) (by decide) (by decide) (c:=cq0) 0 rfl z8k (by kernel_rfl) (by kernel_rfl)
def rd1:RdX [.s pa1]:=rn (by simp[pa1]) (by decide) (by decide) (c:=cq1) 1 rfl z8l (by kernel_rfl) (by kernel_rfl)
def rd2:RdX [.s pa2]:=rn (by simp[pa2]) (by decide) (by decide) (c:=cq2) 2 rfl z8n (by kernel_rfl) (by kernel_rfl)
def rd3:RdX [.s pa3]:=rn (by simp[pa3]) (by decide) (by decide) (c:=cq3) 3 rfl z8o (by kernel_rfl) (by kernel_rfl)
def rd4:RdX [.s pa4]:=rn (by simp[pa4]) (by decide) (by decide) (c:=cq4) 4 rfl z8p (by kernel_rfl) (by kernel_rfl)
def rd5:RdX [.s pa5]:=rn (by simp[pa5]) (by decide) (by decide) (c:=cq5) 5 rfl z8s (by kernel_rfl) (by kernel_rfl)
def rd6:RdX [.s pa6]:=rn (by simp[pa6]) (by decide) (by decide) (c:=cq6) 6 rfl z8t (by kernel_rfl) (by kernel_rfl)
def rd7:RdX [.s pa7]:=rn (by simp[pa7]) (by decide) (by decide) (c:=cq7) 7 rfl z8u (by kernel_rfl) (by kernel_rfl)
def rd8:RdX [.s pa8]:=rn (by simp[pa8]) (by decide) (by decide) (c:=cq8) 8 rfl z8w (by kernel_rfl) (by kernel_rfl)
def rd9:RdX [.s pa9]:=r3 (by simp[pa9]) (by decide) ⟨cq9,mg 9 rfl,qa z8y (by kernel_rfl) (by kernel_rfl)⟩ ⟨zou,mg 10 rfl,qa z8z (by kernel_rfl) (by kernel_rfl)⟩ ⟨zov,mg 11 rfl,qa z8B (by kernel_rfl) (by kernel_rfl)⟩
def rd10:RdX [.s zMN]:=rn (by simp[zMN]) (by decide) (by decide) (c:=zoz) 12 rfl z8C (by kernel_rfl) (by kernel_rfl)
def rd11:RdX [.s zMO]:=rn (by simp[zMO]) (by decide) (by decide) (c:=zoA) 13 rfl z8D (by kernel_rfl) (by kernel_rfl)
def rd12:RdX [.s zMR]:=rn (by simp[zMR]) (by decide) (by decide) (c:=zoC) 14 rfl z8G (by kernel_rfl) (by kernel_rfl)
def rd13:RdX [.s zMT]:=r3 (by simp[zMT]) (by decide) ⟨zoE,mg 15 rfl,qa z8H (by kernel_rfl) (by kernel_rfl)⟩ ⟨zoF,mg 16 rfl,qa z8J (by kernel_rfl) (by kernel_rfl)⟩ ⟨zoG,mg 17 rfl,qa z8N (by kernel_rfl) (by kernel_rfl)⟩
def rd14:RdX [.s zMV]:=r3 (by simp[zMV]) (by decide) ⟨zoK,mg 18 rfl,qa z8O (by kernel_rfl) (by kernel_rfl)⟩ ⟨zoL,mg 19 rfl,qa z8R (by kernel_rfl) (by kernel_rfl)⟩ ⟨zoM,mg 20 rfl,qa z8U (by kernel_rfl) (by kernel_rfl)⟩
def rd15:RdX [.s zMW]:=rn (by simp[zMW]) (by decide) (by decide) (c:=zoS) 21 rfl z8V (by kernel_rfl) (by kernel_rfl)
def rd16:RdX [.s zMZ]:=rn (by simp[zMZ]) (by decide) (by decide) (c:=zoT) 22 rfl z8W (by kernel_rfl) (by kernel_rfl)
def rd17:RdX [.s zM0]:=rn (by simp[zM0]) (by decide) (by decide) (c:=zoU) 23 rfl z8Y (by kernel_rfl) (by kernel_rfl)
def rd18:RdX [.s zM1]:=rn (by simp[zM1]) (by decide) (by decide) (c:=zoW) 24 rfl z88 (by kernel_rfl) (by kernel_rfl)
def rd19:RdX [.s zM3]:=rn (by simp[zM3]) (by decide) (by decide) (c:=zoX) 25 rfl z9b (by kernel_rfl) (by kernel_rfl)
def rd20:RdX [.s zM5]:=r3 (by simp[zM5]) (by decide) ⟨zo1,mg 26 rfl,qa z9c (by kernel_rfl) (by kernel_rfl)⟩ ⟨zo2,mg 27 rfl,qa z9d (by kernel_rfl) (by kernel_rfl)⟩ ⟨zo3,mg 28 rfl,qa z9h (by kernel_rfl) (by kernel_rfl)⟩
def rd21:RdX [.s zM6]:=rn (by simp[zM6]) (by decide) (by decide) (c:=zo4) 29 rfl z9i (by kernel_rfl) (by kernel_rfl)
def rd22:RdX [.s zM8]:=rn (by simp[zM8]) (by decide) (by decide) (c:=zo5) 30 rfl z9k (by kernel_rfl) (by kernel_rfl)
def rd23:RdX [.s zNa]:=r3 (by simp[zNa]) (by decide) ⟨zo6,mg 31 rfl,qa z9m (by kernel_rfl) (by kernel_rfl)⟩ ⟨zo8,mg 32 rfl,qa z9n (by kernel_rfl) (by kernel_rfl)⟩ ⟨zo9,mg 33 rfl,qa z9p (by kernel_rfl) (by kernel_rfl)⟩
def rdA:∀x∈paL,RdX x:=allL (P:=RdX) (l:=paL) ⟨rd0,rd1,rd2,rd3,rd4,rd5,rd6,rd7,rd8,rd9,rd10,rd11,rd12,rd13,rd14,rd15,rd16,rd17,rd18,rd19,rd20,rd21,rd22,rd23,trivial⟩
def TmV:Trm->Prop
 | .var s=>s=[120]\/s=[121]\/s=[122]
 | .cst _=>True
structure CqN(n:Nat)(c:CQ):Prop where
 al:∀a∈c.as,zdv a/\a.ts.length<=2
 cs:∀k∈c.cs,zdL k
 av:∀a∈c.as,a.ts≠[]/\∀t∈a.ts,TmV t
 cv:∀k∈c.cs,TmV k.l/\TmV k.r
 op:∀k∈c.cs,1<=k.op/\k.op<=4
 la:c.as.length<=3*n
 lc:c.cs.length<=n
 ne:c.as≠[]
 nk:((c.as.flatMap (·.ts))++c.cs.flatMap fun k=>[k.l,k.r]).countP (fun t=>decide (tv t=[]))<=n
 p2:∀x∈[[120],[121],[122]],(c.as.flatMap fun a=>if a.neg=true then[]else a.ts).countP (fun t=>decide (t= .var x))<=2
def cg0:CqN 1 cq0:=⟨by simp[cq0,zdv,zaN],by simp[cq0,zdL,zaN],by simp[cq0,TmV],by simp[cq0,TmV],by simp[cq0],by decide,by decide,by simp[cq0],by decide,by decide⟩
def cg1:CqN 1 cq1:=⟨by simp[cq1,zdv,zaN],by simp[cq1,zdL,zaN],by simp[cq1,TmV],by simp[cq1,TmV],by simp[cq1],by decide,by decide,by simp[cq1],by decide,by decide⟩
def cg2:CqN 1 cq2:=⟨by simp[cq2,zdv,zaN],by simp[cq2,zdL,zaN],by simp[cq2,TmV],by simp[cq2,TmV],by simp[cq2],by decide,by decide,by simp[cq2],by decide,by decide⟩
def cg3:CqN 1 cq3:=⟨by simp[cq3,zdv,zaN],by simp[cq3,zdL,zaN],by simp[cq3,TmV],by simp[cq3,TmV],by simp[cq3],by decide,by decide,by simp[cq3],by decide,by decide⟩
def cg4:CqN 1 cq4:=⟨by simp[cq4,zdv,zaN],by simp[cq4,zdL,zaN],by simp[cq4,TmV],by simp[cq4,TmV],by simp[cq4],by decide,by decide,by simp[cq4],by decide,by decide⟩
def cg5:CqN 1 cq5:=⟨by simp[cq5,zdv,zaN],by simp[cq5,zdL,zaN],by simp[cq5,TmV],by simp[cq5,TmV],by simp[cq5],by decide,by decide,by simp[cq5],by decide,by decide⟩
def cg6:CqN 1 cq6:=⟨by simp[cq6,zdv,zaN],by simp[cq6,zdL,zaN],by simp[cq6,TmV],by simp[cq6,TmV],by simp[cq6],by decide,by decide,by simp[cq6],by decide,by decide⟩
def cg7:CqN 1 cq7:=⟨by simp[cq7,zdv,zaN],by simp[cq7,zdL,zaN],by simp[cq7,TmV],by simp[cq7,TmV],by simp[cq7],by decide,by decide,by simp[cq7],by decide,by decide⟩
def cg8:CqN 1 cq8:=⟨by simp[cq8,zdv,zaN],by simp[cq8,zdL,zaN],by simp[cq8,TmV],by simp[cq8,TmV],by simp[cq8],by decide,by decide,by simp[cq8],by decide,by decide⟩
def cg9:CqN 1 cq9:=⟨by simp[cq9,zdv,zaN],by simp[cq9,zdL,zaN],by simp[cq9,TmV],by simp[cq9,TmV],by simp[cq9],by decide,by decide,by simp[cq9],by decide,by decide⟩
def cg10:CqN 1 zou:=⟨by simp[zou,zdv,zaN],by simp[zou,zdL,zaN],by simp[zou,TmV],by simp[zou,TmV],by simp[zou],by decide,by decide,by simp[zou],by decide,by decide⟩
def cg11:CqN 1 zov:=⟨by simp[zov,zdv,zaN],by simp[zov,zdL,zaN],by simp[zov,TmV],by simp[zov,TmV],by simp[zov],by decide,by decide,by simp[zov],by decide,by decide⟩
def cg12:CqN 1 zoz:=⟨by simp[zoz,zdv,zaN],by simp[zoz,zdL,zaN],by simp[zoz,TmV],by simp[zoz,TmV],by simp[zoz],by decide,by decide,by simp[zoz],by decide,by decide⟩
def cg13:CqN 1 zoA:=⟨by simp[zoA,zdv,zaN],by simp[zoA,zdL,zaN],by simp[zoA,TmV],by simp[zoA,TmV],by simp[zoA],by decide,by decide,by simp[zoA],by decide,by decide⟩
def cg14:CqN 1 zoC:=⟨by simp[zoC,zdv,zaN],by simp[zoC,zdL,zaN],by simp[zoC,TmV],by simp[zoC,TmV],by simp[zoC],by decide,by decide,by simp[zoC],by decide,by decide⟩
def cg15:CqN 1 zoE:=⟨by simp[zoE,zdv,zaN],by simp[zoE,zdL,zaN],by simp[zoE,TmV],by simp[zoE,TmV],by simp[zoE],by decide,by decide,by simp[zoE],by decide,by decide⟩
def cg16:CqN 1 zoF:=⟨by simp[zoF,zdv,zaN],by simp[zoF,zdL,zaN],by simp[zoF,TmV],by simp[zoF,TmV],by simp[zoF],by decide,by decide,by simp[zoF],by decide,by decide⟩
def cg17:CqN 1 zoG:=⟨by simp[zoG,zdv,zaN],by simp[zoG,zdL,zaN],by simp[zoG,TmV],by simp[zoG,TmV],by simp[zoG],by decide,by decide,by simp[zoG],by decide,by decide⟩
def cg18:CqN 1 zoK:=⟨by simp[zoK,zdv,zaN],by simp[zoK,zdL,zaN],by simp[zoK,TmV],by simp[zoK,TmV],by simp[zoK],by decide,by decide,by simp[zoK],by decide,by decide⟩
def cg19:CqN 1 zoL:=⟨by simp[zoL,zdv,zaN],by simp[zoL,zdL,zaN],by simp[zoL,TmV],by simp[zoL,TmV],by simp[zoL],by decide,by decide,by simp[zoL],by decide,by decide⟩
def cg20:CqN 1 zoM:=⟨by simp[zoM,zdv,zaN],by simp[zoM,zdL,zaN],by simp[zoM,TmV],by simp[zoM,TmV],by simp[zoM],by decide,by decide,by simp[zoM],by decide,by decide⟩
def cg21:CqN 1 zoS:=⟨by simp[zoS,zdv,zaN],by simp[zoS,zdL,zaN],by simp[zoS,TmV],by simp[zoS,TmV],by simp[zoS],by decide,by decide,by simp[zoS],by decide,by decide⟩
def cg22:CqN 1 zoT:=⟨by simp[zoT,zdv,zaN],by simp[zoT,zdL,zaN],by simp[zoT,TmV],by simp[zoT,TmV],by simp[zoT],by decide,by decide,by simp[zoT],by decide,by decide⟩
def cg23:CqN 1 zoU:=⟨by simp[zoU,zdv,zaN],by simp[zoU,zdL,zaN],by simp[zoU,TmV],by simp[zoU,TmV],by simp[zoU],by decide,by decide,by simp[zoU],by decide,by decide⟩
def cg24:CqN 1 zoW:=⟨by simp[zoW,zdv,zaN],by simp[zoW,zdL,zaN],by simp[zoW,TmV],by simp[zoW,TmV],by simp[zoW],by decide,by decide,by simp[zoW],by decide,by decide⟩
def cg25:CqN 1 zoX:=⟨by simp[zoX,zdv,zaN],by simp[zoX,zdL,zaN],by simp[zoX,TmV],by simp[zoX,TmV],by simp[zoX],by decide,by decide,by simp[zoX],by decide,by decide⟩
def cg26:CqN 1 zo1:=⟨by simp[zo1,zdv,zaN],by simp[zo1,zdL,zaN],by simp[zo1,TmV],by simp[zo1,TmV],by simp[zo1],by decide,by decide,by simp[zo1],by decide,by decide⟩
def cg27:CqN 1 zo2:=⟨by simp[zo2,zdv,zaN],by simp[zo2,zdL,zaN],by simp[zo2,TmV],by simp[zo2,TmV],by simp[zo2],by decide,by decide,by simp[zo2],by decide,by decide⟩
def cg28:CqN 1 zo3:=⟨by simp[zo3,zdv,zaN],by simp[zo3,zdL,zaN],by simp[zo3,TmV],by simp[zo3,TmV],by simp[zo3],by decide,by decide,by simp[zo3],by decide,by decide⟩
def cg29:CqN 1 zo4:=⟨by simp[zo4,zdv,zaN],by simp[zo4,zdL,zaN],by simp[zo4,TmV],by simp[zo4,TmV],by simp[zo4],by decide,by decide,by simp[zo4],by decide,by decide⟩
def cg30:CqN 1 zo5:=⟨by simp[zo5,zdv,zaN],by simp[zo5,zdL,zaN],by simp[zo5,TmV],by simp[zo5,TmV],by simp[zo5],by decide,by decide,by simp[zo5],by decide,by decide⟩
def cg31:CqN 1 zo6:=⟨by simp[zo6,zdv,zaN],by simp[zo6,zdL,zaN],by simp[zo6,TmV],by simp[zo6,TmV],by simp[zo6],by decide,by decide,by simp[zo6],by decide,by decide⟩
def cg32:CqN 1 zo8:=⟨by simp[zo8,zdv,zaN],by simp[zo8,zdL,zaN],by simp[zo8,TmV],by simp[zo8,TmV],by simp[zo8],by decide,by decide,by simp[zo8],by decide,by decide⟩
def cg33:CqN 1 zo9:=⟨by simp[zo9,zdv,zaN],by simp[zo9,zdL,zaN],by simp[zo9,TmV],by simp[zo9,TmV],by simp[zo9],by decide,by decide,by simp[zo9],by decide,by decide⟩
def zFx:∀c∈CQl,CqN 1 c:=allL (P:=CqN 1) (l:=CQl) ⟨cg0,cg1,cg2,cg3,cg4,cg5,cg6,cg7,cg8,cg9,cg10,cg11,cg12,cg13,cg14,cg15,cg16,cg17,cg18,cg19,cg20,cg21,cg22,cg23,cg24,cg25,cg26,cg27,cg28,cg29,cg30,cg31,cg32,cg33,trivial⟩
end Go.Proofs.YtdonnbdegnkflaaGreatDoor
end
