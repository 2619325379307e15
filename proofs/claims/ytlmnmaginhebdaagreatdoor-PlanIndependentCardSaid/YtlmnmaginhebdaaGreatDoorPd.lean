/- Sums of probabilities; what is known of relations of the four schemas. Written by program. -/
import Derived.Test.YtlmnmaginhebdaaGreatDoorPc
import Derived.Test.YtlmnmaginhebdaaGreatDoorPb
import Derived.Test.YtlmnmaginhebdaaGreatDoorQs0
import Derived.Test.YtlmnmaginhebdaaGreatDoorQs5
import Derived.Test.YtlmnmaginhebdaaGreatDoorQs6
import Derived.Test.YtlmnmaginhebdaaGreatDoorQs7
import Derived.Test.YtlmnmaginhebdaaGreatDoorQs8
import Derived.Test.YtlmnmaginhebdaaGreatDoorQs9
import Derived.Test.YtlmnmaginhebdaaGreatDoorQs1
import Derived.Test.YtlmnmaginhebdaaGreatDoorQs2
import Derived.Test.YtlmnmaginhebdaaGreatDoorQs3
import Derived.Test.YtlmnmaginhebdaaGreatDoorQs4
import Derived.Test.YtlmnmaginhebdaaGreatDoorQs10
import Derived.KernelRfl
set_option linter.all false
set_option maxRecDepth 100000
set_option maxHeartbeats 4000000
noncomputable section
section
namespace Go.Proofs.YtlmnmaginhebdaaGreatDoor
open Go Go.Vse Go.Vse.Sm
def AllL{α:Type}(P:α->Prop):List α->Prop
 |[]=>True
 |a::l=>P a/\AllL P l
theorem allL{α:Type}{P:α->Prop}:∀{l:List α},AllL P l->∀a∈l,P a
 |[],_,a,h=>by simp at h
 |b::l,h,a,ha=>by
  rcases Z5.1 ha with rfl|ha
  .exact h.1
  .exact allL h.2 a ha
def mg{α:Type}{l:List α}(n:Nat){a:α}(h:l[n]? =some a):a∈l:=Z39 h
def zbW:∀p∈PPl,Pc p:=allL (P:=Pc) (l:=PPl) ⟨⟨_,_,_,rfl,rfl,rfl,rfl⟩,⟨_,_,_,rfl,rfl,rfl,rfl⟩,⟨_,_,_,rfl,rfl,rfl,rfl⟩,⟨_,_,_,rfl,rfl,rfl,rfl⟩,⟨_,_,_,rfl,rfl,rfl,rfl⟩,⟨_,_,_,rfl,rfl,rfl,rfl⟩,⟨_,_,_,rfl,rfl,rfl,rfl⟩,⟨_,_,_,rfl,rfl,rfl,rfl⟩,trivial⟩
def zaat:∀p∈Sl0,Pc p:=allL (P:=Pc) (l:=Sl0) ⟨⟨_,_,_,rfl,rfl,rfl,rfl⟩,trivial⟩
def zaau:∀p∈Sl1,Pc p:=allL (P:=Pc) (l:=Sl1) ⟨⟨_,_,_,rfl,rfl,rfl,rfl⟩,⟨_,_,_,rfl,rfl,rfl,rfl⟩,⟨_,_,_,rfl,rfl,rfl,rfl⟩,⟨_,_,_,rfl,rfl,rfl,rfl⟩,⟨_,_,_,rfl,rfl,rfl,rfl⟩,⟨_,_,_,rfl,rfl,rfl,rfl⟩,⟨_,_,_,rfl,rfl,rfl,rfl⟩,⟨_,_,_,rfl,rfl,rfl,rfl⟩,trivial⟩
def zaav:∀p∈Sl2,Pc p:=allL (P:=Pc) (l:=Sl2) ⟨⟨_,_,_,rfl,rfl,rfl,rfl⟩,⟨_,_,_,rfl,rfl,rfl,rfl⟩,⟨_,_,_,rfl,rfl,rfl,rfl⟩,⟨_,_,_,rfl,rfl,rfl,rfl⟩,⟨_,_,_,rfl,rfl,rfl,rfl⟩,⟨_,_,_,rfl,rfl,rfl,rfl⟩,⟨_,_,_,rfl,rfl,rfl,rfl⟩,⟨_,_,_,rfl,rfl,rfl,rfl⟩,⟨_,_,_,rfl,rfl,rfl,rfl⟩,⟨_,_,_,rfl,rfl,rfl,rfl⟩,⟨_,_,_,rfl,rfl,rfl,rfl⟩,⟨_,_,_,rfl,rfl,rfl,rfl⟩,⟨_,_,_,rfl,rfl,rfl,rfl⟩,⟨_,_,_,rfl,rfl,rfl,rfl⟩,⟨_,_,_,rfl,rfl,rfl,rfl⟩,⟨_,_,_,rfl,rfl,rfl,rfl⟩,⟨_,_,_,rfl,rfl,rfl,rfl⟩,⟨_,_,_,rfl,rfl,rfl,rfl⟩,⟨_,_,_,rfl,rfl,rfl,rfl⟩,⟨_,_,_,rfl,rfl,rfl,rfl⟩,⟨_,_,_,rfl,rfl,rfl,rfl⟩,⟨_,_,_,rfl,rfl,rfl,rfl⟩,⟨_,_,_,rfl,rfl,rfl,rfl⟩,⟨_,_,_,rfl,rfl,rfl,rfl⟩,⟨_,_,_,rfl,rfl,rfl,rfl⟩,⟨_,_,_,rfl,rfl,rfl,rfl⟩,⟨_,_,_,rfl,rfl,rfl,rfl⟩,⟨_,_,_,rfl,rfl,rfl,rfl⟩,⟨_,_,_,rfl,rfl,rfl,rfl⟩,⟨_,_,_,rfl,rfl,rfl,rfl⟩,⟨_,_,_,rfl,rfl,rfl,rfl⟩,trivial⟩
def zaaw:∀p∈Sl3,Pc p:=allL (P:=Pc) (l:=Sl3) ⟨⟨_,_,_,rfl,rfl,rfl,rfl⟩,⟨_,_,_,rfl,rfl,rfl,rfl⟩,⟨_,_,_,rfl,rfl,rfl,rfl⟩,⟨_,_,_,rfl,rfl,rfl,rfl⟩,⟨_,_,_,rfl,rfl,rfl,rfl⟩,⟨_,_,_,rfl,rfl,rfl,rfl⟩,⟨_,_,_,rfl,rfl,rfl,rfl⟩,⟨_,_,_,rfl,rfl,rfl,rfl⟩,⟨_,_,_,rfl,rfl,rfl,rfl⟩,⟨_,_,_,rfl,rfl,rfl,rfl⟩,⟨_,_,_,rfl,rfl,rfl,rfl⟩,⟨_,_,_,rfl,rfl,rfl,rfl⟩,⟨_,_,_,rfl,rfl,rfl,rfl⟩,⟨_,_,_,rfl,rfl,rfl,rfl⟩,⟨_,_,_,rfl,rfl,rfl,rfl⟩,⟨_,_,_,rfl,rfl,rfl,rfl⟩,⟨_,_,_,rfl,rfl,rfl,rfl⟩,⟨_,_,_,rfl,rfl,rfl,rfl⟩,⟨_,_,_,rfl,rfl,rfl,rfl⟩,⟨_,_,_,rfl,rfl,rfl,rfl⟩,⟨_,_,_,rfl,rfl,rfl,rfl⟩,⟨_,_,_,rfl,rfl,rfl,rfl⟩,⟨_,_,_,rfl,rfl,rfl,rfl⟩,⟨_,_,_,rfl,rfl,rfl,rfl⟩,⟨_,_,_,rfl,rfl,rfl,rfl⟩,⟨_,_,_,rfl,rfl,rfl,rfl⟩,⟨_,_,_,rfl,rfl,rfl,rfl⟩,⟨_,_,_,rfl,rfl,rfl,rfl⟩,⟨_,_,_,rfl,rfl,rfl,rfl⟩,⟨_,_,_,rfl,rfl,rfl,rfl⟩,⟨_,_,_,rfl,rfl,rfl,rfl⟩,⟨_,_,_,rfl,rfl,rfl,rfl⟩,⟨_,_,_,rfl,rfl,rfl,rfl⟩,⟨_,_,_,rfl,rfl,rfl,rfl⟩,⟨_,_,_,rfl,rfl,rfl,rfl⟩,⟨_,_,_,rfl,rfl,rfl,rfl⟩,⟨_,_,_,rfl,rfl,rfl,rfl⟩,⟨_,_,_,rfl,rfl,rfl,rfl⟩,⟨_,_,_,rfl,rfl,rfl,rfl⟩,⟨_,_,_,rfl,rfl,rfl,rfl⟩,⟨_,_,_,rfl,rfl,rfl,rfl⟩,⟨_,_,_,rfl,rfl,rfl,rfl⟩,⟨_,_,_,rfl,rfl,rfl,rfl⟩,⟨_,_,_,rfl,rfl,rfl,rfl⟩,⟨_,_,_,rfl,rfl,rfl,rfl⟩,⟨_,_,_,rfl,rfl,rfl,rfl⟩,⟨_,_,_,rfl,rfl,rfl,rfl⟩,⟨_,_,_,rfl,rfl,rfl,rfl⟩,⟨_,_,_,rfl,rfl,rfl,rfl⟩,⟨_,_,_,rfl,rfl,rfl,rfl⟩,⟨_,_,_,rfl,rfl,rfl,rfl⟩,⟨_,_,_,rfl,rfl,rfl,rfl⟩,⟨_,_,_,rfl,rfl,rfl,rfl⟩,⟨_,_,_,rfl,rfl,rfl,rfl⟩,⟨_,_,_,rfl,rfl,rfl,rfl⟩,⟨_,_,_,rfl,rfl,rfl,rfl⟩,⟨_,_,_,rfl,rfl,rfl,rfl⟩,⟨_,_,_,rfl,rfl,rfl,rfl⟩,⟨_,_,_,rfl,rfl,rfl,rfl⟩,⟨_,_,_,rfl,rfl,rfl,rfl⟩,⟨_,_,_,rfl,rfl,rfl,rfl⟩,⟨_,_,_,rfl,rfl,rfl,rfl⟩,⟨_,_,_,rfl,rfl,rfl,rfl⟩,⟨_,_,_,rfl,rfl,rfl,rfl⟩,⟨_,_,_,rfl,rfl,rfl,rfl⟩,⟨_,_,_,rfl,rfl,rfl,rfl⟩,⟨_,_,_,rfl,rfl,rfl,rfl⟩,⟨_,_,_,rfl,rfl,rfl,rfl⟩,⟨_,_,_,rfl,rfl,rfl,rfl⟩,⟨_,_,_,rfl,rfl,rfl,rfl⟩,⟨_,_,_,rfl,rfl,rfl,rfl⟩,⟨_,_,_,rfl,rfl,rfl,rfl⟩,⟨_,_,_,rfl,rfl,rfl,rfl⟩,⟨_,_,_,rfl,rfl,rfl,rfl⟩,⟨_,_,_,rfl,rfl,rfl,rfl⟩,⟨_,_,_,rfl,rfl,rfl,rfl⟩,⟨_,_,_,rfl,rfl,rfl,rfl⟩,⟨_,_,_,rfl,rfl,rfl,rfl⟩,⟨_,_,_,rfl,rfl,rfl,rfl⟩,⟨_,_,_,rfl,rfl,rfl,rfl⟩,⟨_,_,_,rfl,rfl,rfl,rfl⟩,⟨_,_,_,rfl,rfl,rfl,rfl⟩,trivial⟩
def add0:∀s∈Sl0,∀p∈PPl,∃r,r∈Sl1/\Ans pr 136 [.ag s,.ag p] (.ag r):=allL (P:=fun s=>∀p∈PPl,∃r,r∈Sl1/\Ans pr 136 [.ag s,.ag p] (.ag r)) (l:=Sl0) ⟨
 allL (P:=fun p=>∃r,r∈Sl1/\Ans pr 136 [.ag u0,.ag p] (.ag r)) (l:=PPl) ⟨⟨u1,mg 0 rfl,zCq⟩,⟨u2,mg 1 rfl,zCr⟩,⟨u3,mg 2 rfl,zIk⟩,⟨u4,mg 3 rfl,zIl⟩,⟨u5,mg 4 rfl,zIm⟩,⟨u0,mg 5 rfl,zIp⟩,⟨u6,mg 6 rfl,zIr⟩,⟨u7,mg 7 rfl,zCj⟩,trivial⟩,
 trivial⟩
def add1:∀s∈Sl1,∀p∈PPl,∃r,r∈Sl2/\Ans pr 136 [.ag s,.ag p] (.ag r):=allL (P:=fun s=>∀p∈PPl,∃r,r∈Sl2/\Ans pr 136 [.ag s,.ag p] (.ag r)) (l:=Sl1) ⟨
 allL (P:=fun p=>∃r,r∈Sl2/\Ans pr 136 [.ag u1,.ag p] (.ag r)) (l:=PPl) ⟨⟨u5,mg 0 rfl,zKI⟩,⟨u8,mg 1 rfl,zKJ⟩,⟨u9,mg 2 rfl,zKK⟩,⟨u10,mg 3 rfl,zKM⟩,⟨u11,mg 4 rfl,zKN⟩,⟨u1,mg 5 rfl,zKO⟩,⟨u12,mg 6 rfl,zKR⟩,⟨u13,mg 7 rfl,zKS⟩,trivial⟩,
 allL (P:=fun p=>∃r,r∈Sl2/\Ans pr 136 [.ag u2,.ag p] (.ag r)) (l:=PPl) ⟨⟨u8,mg 1 rfl,zKU⟩,⟨u3,mg 8 rfl,zKX⟩,⟨u5,mg 0 rfl,zK7⟩,⟨u14,mg 9 rfl,zK9⟩,⟨u15,mg 10 rfl,zLc⟩,⟨u2,mg 11 rfl,zLe⟩,⟨u16,mg 12 rfl,zLh⟩,⟨u17,mg 13 rfl,zLk⟩,trivial⟩,
 allL (P:=fun p=>∃r,r∈Sl2/\Ans pr 136 [.ag u3,.ag p] (.ag r)) (l:=PPl) ⟨⟨u9,mg 2 rfl,zLo⟩,⟨u5,mg 0 rfl,zLp⟩,⟨u15,mg 10 rfl,zLq⟩,⟨u18,mg 14 rfl,zLr⟩,⟨u19,mg 15 rfl,zLs⟩,⟨u3,mg 8 rfl,zLx⟩,⟨u20,mg 16 rfl,zLA⟩,⟨u21,mg 17 rfl,zLB⟩,trivial⟩,
 allL (P:=fun p=>∃r,r∈Sl2/\Ans pr 136 [.ag u4,.ag p] (.ag r)) (l:=PPl) ⟨⟨u10,mg 3 rfl,zLC⟩,⟨u14,mg 9 rfl,zLE⟩,⟨u18,mg 14 rfl,zLF⟩,⟨u1,mg 5 rfl,zLI⟩,⟨u22,mg 18 rfl,zLK⟩,⟨u4,mg 19 rfl,zLL⟩,⟨u23,mg 20 rfl,zLM⟩,⟨u24,mg 21 rfl,zLN⟩,trivial⟩,
 allL (P:=fun p=>∃r,r∈Sl2/\Ans pr 136 [.ag u5,.ag p] (.ag r)) (l:=PPl) ⟨⟨u11,mg 4 rfl,zLO⟩,⟨u15,mg 10 rfl,zLP⟩,⟨u19,mg 15 rfl,zLR⟩,⟨u22,mg 18 rfl,zLS⟩,⟨u25,mg 22 rfl,zLT⟩,⟨u5,mg 0 rfl,zCl⟩,⟨u26,mg 23 rfl,zLV⟩,⟨u27,mg 24 rfl,zLW⟩,trivial⟩,
 allL (P:=fun p=>∃r,r∈Sl2/\Ans pr 136 [.ag u0,.ag p] (.ag r)) (l:=PPl) ⟨⟨u1,mg 5 rfl,zCq⟩,⟨u2,mg 11 rfl,zCr⟩,⟨u3,mg 8 rfl,zIk⟩,⟨u4,mg 19 rfl,zIl⟩,⟨u5,mg 0 rfl,zIm⟩,⟨u0,mg 25 rfl,zIp⟩,⟨u6,mg 26 rfl,zIr⟩,⟨u7,mg 27 rfl,zCj⟩,trivial⟩,
 allL (P:=fun p=>∃r,r∈Sl2/\Ans pr 136 [.ag u6,.ag p] (.ag r)) (l:=PPl) ⟨⟨u12,mg 6 rfl,zL0⟩,⟨u16,mg 12 rfl,zL1⟩,⟨u20,mg 16 rfl,zL2⟩,⟨u23,mg 20 rfl,zL4⟩,⟨u26,mg 23 rfl,zL6⟩,⟨u6,mg 26 rfl,zL9⟩,⟨u28,mg 28 rfl,zMa⟩,⟨u29,mg 29 rfl,zMb⟩,trivial⟩,
 allL (P:=fun p=>∃r,r∈Sl2/\Ans pr 136 [.ag u7,.ag p] (.ag r)) (l:=PPl) ⟨⟨u13,mg 7 rfl,zMc⟩,⟨u17,mg 13 rfl,zMe⟩,⟨u21,mg 17 rfl,zMh⟩,⟨u24,mg 21 rfl,zMk⟩,⟨u27,mg 24 rfl,zMl⟩,⟨u7,mg 27 rfl,zMn⟩,⟨u29,mg 29 rfl,zMo⟩,⟨u30,mg 30 rfl,zMp⟩,trivial⟩,
 trivial⟩
def add2:∀s∈Sl2,∀p∈PPl,∃r,r∈Sl3/\Ans pr 136 [.ag s,.ag p] (.ag r):=allL (P:=fun s=>∀p∈PPl,∃r,r∈Sl3/\Ans pr 136 [.ag s,.ag p] (.ag r)) (l:=Sl2) ⟨
 allL (P:=fun p=>∃r,r∈Sl3/\Ans pr 136 [.ag u5,.ag p] (.ag r)) (l:=PPl) ⟨⟨u11,mg 0 rfl,zLO⟩,⟨u15,mg 1 rfl,zLP⟩,⟨u19,mg 2 rfl,zLR⟩,⟨u22,mg 3 rfl,zLS⟩,⟨u25,mg 4 rfl,zLT⟩,⟨u5,mg 5 rfl,zCl⟩,⟨u26,mg 6 rfl,zLV⟩,⟨u27,mg 7 rfl,zLW⟩,trivial⟩,
 allL (P:=fun p=>∃r,r∈Sl3/\Ans pr 136 [.ag u8,.ag p] (.ag r)) (l:=PPl) ⟨⟨u15,mg 1 rfl,Qs449⟩,⟨u9,mg 8 rfl,Qs459⟩,⟨u11,mg 0 rfl,Qs472⟩,⟨u31,mg 9 rfl,Qs482⟩,⟨u32,mg 10 rfl,Qs486⟩,⟨u8,mg 11 rfl,Qs489⟩,⟨u33,mg 12 rfl,Qs499⟩,⟨u34,mg 13 rfl,Qs508⟩,trivial⟩,
 allL (P:=fun p=>∃r,r∈Sl3/\Ans pr 136 [.ag u9,.ag p] (.ag r)) (l:=PPl) ⟨⟨u19,mg 2 rfl,Qs516⟩,⟨u11,mg 0 rfl,Qs518⟩,⟨u32,mg 10 rfl,Qs525⟩,⟨u35,mg 14 rfl,Qs533⟩,⟨u36,mg 15 rfl,Qs538⟩,⟨u9,mg 8 rfl,Qs540⟩,⟨u37,mg 16 rfl,Qs549⟩,⟨u38,mg 17 rfl,Qs556⟩,trivial⟩,
 allL (P:=fun p=>∃r,r∈Sl3/\Ans pr 136 [.ag u10,.ag p] (.ag r)) (l:=PPl) ⟨⟨u22,mg 3 rfl,Qs564⟩,⟨u31,mg 9 rfl,Qs568⟩,⟨u35,mg 14 rfl,Qs572⟩,⟨u5,mg 5 rfl,Qs585⟩,⟨u39,mg 18 rfl,Qs588⟩,⟨u10,mg 19 rfl,Qs589⟩,⟨u40,mg 20 rfl,Qs596⟩,⟨u41,mg 21 rfl,Qs604⟩,trivial⟩,
 allL (P:=fun p=>∃r,r∈Sl3/\Ans pr 136 [.ag u11,.ag p] (.ag r)) (l:=PPl) ⟨⟨u25,mg 4 rfl,Qs610⟩,⟨u32,mg 10 rfl,Qs612⟩,⟨u36,mg 15 rfl,Qs613⟩,⟨u39,mg 18 rfl,Qs618⟩,⟨u42,mg 22 rfl,Qs621⟩,⟨u11,mg 0 rfl,Qs622⟩,⟨u43,mg 23 rfl,Qs625⟩,⟨u44,mg 24 rfl,Qs632⟩,trivial⟩,
 allL (P:=fun p=>∃r,r∈Sl3/\Ans pr 136 [.ag u1,.ag p] (.ag r)) (l:=PPl) ⟨⟨u5,mg 5 rfl,zKI⟩,⟨u8,mg 11 rfl,zKJ⟩,⟨u9,mg 8 rfl,zKK⟩,⟨u10,mg 19 rfl,zKM⟩,⟨u11,mg 0 rfl,zKN⟩,⟨u1,mg 25 rfl,zKO⟩,⟨u12,mg 26 rfl,zKR⟩,⟨u13,mg 27 rfl,zKS⟩,trivial⟩,
 allL (P:=fun p=>∃r,r∈Sl3/\Ans pr 136 [.ag u12,.ag p] (.ag r)) (l:=PPl) ⟨⟨u26,mg 6 rfl,Qs642⟩,⟨u33,mg 12 rfl,Qs646⟩,⟨u37,mg 16 rfl,Qs649⟩,⟨u40,mg 20 rfl,Qs659⟩,⟨u43,mg 23 rfl,Qs663⟩,⟨u12,mg 26 rfl,Qs666⟩,⟨u45,mg 28 rfl,Qs679⟩,⟨u46,mg 29 rfl,Qs691⟩,trivial⟩,
 allL (P:=fun p=>∃r,r∈Sl3/\Ans pr 136 [.ag u13,.ag p] (.ag r)) (l:=PPl) ⟨⟨u27,mg 7 rfl,Qs702⟩,⟨u34,mg 13 rfl,Qs706⟩,⟨u38,mg 17 rfl,Qs709⟩,⟨u41,mg 21 rfl,Qs718⟩,⟨u44,mg 24 rfl,Qs722⟩,⟨u13,mg 27 rfl,Qs725⟩,⟨u46,mg 29 rfl,Qs730⟩,⟨u47,mg 30 rfl,Qs744⟩,trivial⟩,
 allL (P:=fun p=>∃r,r∈Sl3/\Ans pr 136 [.ag u3,.ag p] (.ag r)) (l:=PPl) ⟨⟨u9,mg 8 rfl,zLo⟩,⟨u5,mg 5 rfl,zLp⟩,⟨u15,mg 1 rfl,zLq⟩,⟨u18,mg 31 rfl,zLr⟩,⟨u19,mg 2 rfl,zLs⟩,⟨u3,mg 32 rfl,zLx⟩,⟨u20,mg 33 rfl,zLA⟩,⟨u21,mg 34 rfl,zLB⟩,trivial⟩,
 allL (P:=fun p=>∃r,r∈Sl3/\Ans pr 136 [.ag u14,.ag p] (.ag r)) (l:=PPl) ⟨⟨u31,mg 9 rfl,Qs749⟩,⟨u18,mg 31 rfl,Qs755⟩,⟨u22,mg 3 rfl,Qs768⟩,⟨u8,mg 11 rfl,Qs783⟩,⟨u48,mg 35 rfl,Qs790⟩,⟨u14,mg 36 rfl,Qs792⟩,⟨u49,mg 37 rfl,Qs802⟩,⟨u50,mg 38 rfl,Qs812⟩,trivial⟩,
 allL (P:=fun p=>∃r,r∈Sl3/\Ans pr 136 [.ag u15,.ag p] (.ag r)) (l:=PPl) ⟨⟨u32,mg 10 rfl,Qs814⟩,⟨u19,mg 2 rfl,Qs821⟩,⟨u25,mg 4 rfl,Qs825⟩,⟨u48,mg 35 rfl,Qs827⟩,⟨u51,mg 39 rfl,Qs830⟩,⟨u15,mg 1 rfl,Qs832⟩,⟨u52,mg 40 rfl,Qs839⟩,⟨u53,mg 41 rfl,Qs846⟩,trivial⟩,
 allL (P:=fun p=>∃r,r∈Sl3/\Ans pr 136 [.ag u2,.ag p] (.ag r)) (l:=PPl) ⟨⟨u8,mg 11 rfl,zKU⟩,⟨u3,mg 32 rfl,zKX⟩,⟨u5,mg 5 rfl,zK7⟩,⟨u14,mg 36 rfl,zK9⟩,⟨u15,mg 1 rfl,zLc⟩,⟨u2,mg 42 rfl,zLe⟩,⟨u16,mg 43 rfl,zLh⟩,⟨u17,mg 44 rfl,zLk⟩,trivial⟩,
 allL (P:=fun p=>∃r,r∈Sl3/\Ans pr 136 [.ag u16,.ag p] (.ag r)) (l:=PPl) ⟨⟨u33,mg 12 rfl,Qs851⟩,⟨u20,mg 33 rfl,Qs865⟩,⟨u26,mg 6 rfl,Qs873⟩,⟨u49,mg 37 rfl,Qs876⟩,⟨u52,mg 40 rfl,Qs879⟩,⟨u16,mg 43 rfl,Qs882⟩,⟨u54,mg 45 rfl,Qs903⟩,⟨u55,mg 46 rfl,Qs918⟩,trivial⟩,
 allL (P:=fun p=>∃r,r∈Sl3/\Ans pr 136 [.ag u17,.ag p] (.ag r)) (l:=PPl) ⟨⟨u34,mg 13 rfl,Qs923⟩,⟨u21,mg 34 rfl,Qs935⟩,⟨u27,mg 7 rfl,Qs946⟩,⟨u50,mg 38 rfl,Qs949⟩,⟨u53,mg 41 rfl,Qs952⟩,⟨u17,mg 44 rfl,Qs955⟩,⟨u55,mg 46 rfl,Qs959⟩,⟨u56,mg 47 rfl,Qs973⟩,trivial⟩,
 allL (P:=fun p=>∃r,r∈Sl3/\Ans pr 136 [.ag u18,.ag p] (.ag r)) (l:=PPl) ⟨⟨u35,mg 14 rfl,Qs976⟩,⟨u22,mg 3 rfl,Qs978⟩,⟨u48,mg 35 rfl,Qs984⟩,⟨u9,mg 8 rfl,Qs993⟩,⟨u57,mg 48 rfl,Qs999⟩,⟨u18,mg 31 rfl,zYc⟩,⟨u58,mg 49 rfl,zYe⟩,⟨u59,mg 50 rfl,zYf⟩,trivial⟩,
 allL (P:=fun p=>∃r,r∈Sl3/\Ans pr 136 [.ag u19,.ag p] (.ag r)) (l:=PPl) ⟨⟨u36,mg 15 rfl,zYg⟩,⟨u25,mg 4 rfl,zYi⟩,⟨u51,mg 39 rfl,zYm⟩,⟨u57,mg 48 rfl,zYo⟩,⟨u60,mg 51 rfl,zYp⟩,⟨u19,mg 2 rfl,zYq⟩,⟨u61,mg 52 rfl,zYr⟩,⟨u62,mg 53 rfl,zYt⟩,trivial⟩,
 allL (P:=fun p=>∃r,r∈Sl3/\Ans pr 136 [.ag u20,.ag p] (.ag r)) (l:=PPl) ⟨⟨u37,mg 16 rfl,zYu⟩,⟨u26,mg 6 rfl,zYw⟩,⟨u52,mg 40 rfl,zYy⟩,⟨u58,mg 49 rfl,zYC⟩,⟨u61,mg 52 rfl,zYF⟩,⟨u20,mg 33 rfl,zYG⟩,⟨u63,mg 54 rfl,zYH⟩,⟨u64,mg 55 rfl,zYI⟩,trivial⟩,
 allL (P:=fun p=>∃r,r∈Sl3/\Ans pr 136 [.ag u21,.ag p] (.ag r)) (l:=PPl) ⟨⟨u38,mg 17 rfl,zYJ⟩,⟨u27,mg 7 rfl,zYK⟩,⟨u53,mg 41 rfl,zYM⟩,⟨u59,mg 50 rfl,zYN⟩,⟨u62,mg 53 rfl,zYO⟩,⟨u21,mg 34 rfl,zYQ⟩,⟨u64,mg 55 rfl,zYS⟩,⟨u65,mg 56 rfl,zYT⟩,trivial⟩,
 allL (P:=fun p=>∃r,r∈Sl3/\Ans pr 136 [.ag u22,.ag p] (.ag r)) (l:=PPl) ⟨⟨u39,mg 18 rfl,zYU⟩,⟨u48,mg 35 rfl,zYW⟩,⟨u57,mg 48 rfl,zYX⟩,⟨u11,mg 0 rfl,zYY⟩,⟨u66,mg 57 rfl,zYZ⟩,⟨u22,mg 3 rfl,zY0⟩,⟨u67,mg 58 rfl,zY1⟩,⟨u68,mg 59 rfl,zY2⟩,trivial⟩,
 allL (P:=fun p=>∃r,r∈Sl3/\Ans pr 136 [.ag u4,.ag p] (.ag r)) (l:=PPl) ⟨⟨u10,mg 19 rfl,zLC⟩,⟨u14,mg 36 rfl,zLE⟩,⟨u18,mg 31 rfl,zLF⟩,⟨u1,mg 25 rfl,zLI⟩,⟨u22,mg 3 rfl,zLK⟩,⟨u4,mg 60 rfl,zLL⟩,⟨u23,mg 61 rfl,zLM⟩,⟨u24,mg 62 rfl,zLN⟩,trivial⟩,
 allL (P:=fun p=>∃r,r∈Sl3/\Ans pr 136 [.ag u23,.ag p] (.ag r)) (l:=PPl) ⟨⟨u40,mg 20 rfl,zY3⟩,⟨u49,mg 37 rfl,zY7⟩,⟨u58,mg 49 rfl,zY8⟩,⟨u12,mg 26 rfl,zZc⟩,⟨u67,mg 58 rfl,zZd⟩,⟨u23,mg 61 rfl,zZf⟩,⟨u69,mg 63 rfl,zZh⟩,⟨u70,mg 64 rfl,zZi⟩,trivial⟩,
 allL (P:=fun p=>∃r,r∈Sl3/\Ans pr 136 [.ag u24,.ag p] (.ag r)) (l:=PPl) ⟨⟨u41,mg 21 rfl,zZj⟩,⟨u50,mg 38 rfl,zZk⟩,⟨u59,mg 50 rfl,zZl⟩,⟨u13,mg 27 rfl,zZn⟩,⟨u68,mg 59 rfl,zZq⟩,⟨u24,mg 62 rfl,zZr⟩,⟨u70,mg 64 rfl,zZt⟩,⟨u71,mg 65 rfl,zZx⟩,trivial⟩,
 allL (P:=fun p=>∃r,r∈Sl3/\Ans pr 136 [.ag u25,.ag p] (.ag r)) (l:=PPl) ⟨⟨u42,mg 22 rfl,zZy⟩,⟨u51,mg 39 rfl,zZA⟩,⟨u60,mg 51 rfl,zZB⟩,⟨u66,mg 57 rfl,zZC⟩,⟨u72,mg 66 rfl,zZH⟩,⟨u25,mg 4 rfl,zZI⟩,⟨u73,mg 67 rfl,zZK⟩,⟨u74,mg 68 rfl,zZL⟩,trivial⟩,
 allL (P:=fun p=>∃r,r∈Sl3/\Ans pr 136 [.ag u26,.ag p] (.ag r)) (l:=PPl) ⟨⟨u43,mg 23 rfl,zZN⟩,⟨u52,mg 40 rfl,zZQ⟩,⟨u61,mg 52 rfl,zZR⟩,⟨u67,mg 58 rfl,zZS⟩,⟨u73,mg 67 rfl,zZU⟩,⟨u26,mg 6 rfl,zZX⟩,⟨u75,mg 69 rfl,zZY⟩,⟨u76,mg 70 rfl,zZ2⟩,trivial⟩,
 allL (P:=fun p=>∃r,r∈Sl3/\Ans pr 136 [.ag u27,.ag p] (.ag r)) (l:=PPl) ⟨⟨u44,mg 24 rfl,zZ3⟩,⟨u53,mg 41 rfl,zZ4⟩,⟨u62,mg 53 rfl,zZ6⟩,⟨u68,mg 59 rfl,zZ7⟩,⟨u74,mg 68 rfl,zZ8⟩,⟨u27,mg 7 rfl,zZ9⟩,⟨u76,mg 70 rfl,z0a⟩,⟨u77,mg 71 rfl,z0b⟩,trivial⟩,
 allL (P:=fun p=>∃r,r∈Sl3/\Ans pr 136 [.ag u0,.ag p] (.ag r)) (l:=PPl) ⟨⟨u1,mg 25 rfl,zCq⟩,⟨u2,mg 42 rfl,zCr⟩,⟨u3,mg 32 rfl,zIk⟩,⟨u4,mg 60 rfl,zIl⟩,⟨u5,mg 5 rfl,zIm⟩,⟨u0,mg 72 rfl,zIp⟩,⟨u6,mg 73 rfl,zIr⟩,⟨u7,mg 74 rfl,zCj⟩,trivial⟩,
 allL (P:=fun p=>∃r,r∈Sl3/\Ans pr 136 [.ag u6,.ag p] (.ag r)) (l:=PPl) ⟨⟨u12,mg 26 rfl,zL0⟩,⟨u16,mg 43 rfl,zL1⟩,⟨u20,mg 33 rfl,zL2⟩,⟨u23,mg 61 rfl,zL4⟩,⟨u26,mg 6 rfl,zL6⟩,⟨u6,mg 73 rfl,zL9⟩,⟨u28,mg 75 rfl,zMa⟩,⟨u29,mg 76 rfl,zMb⟩,trivial⟩,
 allL (P:=fun p=>∃r,r∈Sl3/\Ans pr 136 [.ag u7,.ag p] (.ag r)) (l:=PPl) ⟨⟨u13,mg 27 rfl,zMc⟩,⟨u17,mg 44 rfl,zMe⟩,⟨u21,mg 34 rfl,zMh⟩,⟨u24,mg 62 rfl,zMk⟩,⟨u27,mg 7 rfl,zMl⟩,⟨u7,mg 74 rfl,zMn⟩,⟨u29,mg 76 rfl,zMo⟩,⟨u30,mg 77 rfl,zMp⟩,trivial⟩,
 allL (P:=fun p=>∃r,r∈Sl3/\Ans pr 136 [.ag u28,.ag p] (.ag r)) (l:=PPl) ⟨⟨u45,mg 28 rfl,z0c⟩,⟨u54,mg 45 rfl,z0d⟩,⟨u63,mg 54 rfl,z0e⟩,⟨u69,mg 63 rfl,z0f⟩,⟨u75,mg 69 rfl,z0h⟩,⟨u28,mg 75 rfl,z0i⟩,⟨u78,mg 78 rfl,z0j⟩,⟨u79,mg 79 rfl,z0l⟩,trivial⟩,
 allL (P:=fun p=>∃r,r∈Sl3/\Ans pr 136 [.ag u29,.ag p] (.ag r)) (l:=PPl) ⟨⟨u46,mg 29 rfl,z0n⟩,⟨u55,mg 46 rfl,z0q⟩,⟨u64,mg 55 rfl,z0r⟩,⟨u70,mg 64 rfl,z0s⟩,⟨u76,mg 70 rfl,z0u⟩,⟨u29,mg 76 rfl,z0w⟩,⟨u79,mg 79 rfl,z0z⟩,⟨u80,mg 80 rfl,z0B⟩,trivial⟩,
 allL (P:=fun p=>∃r,r∈Sl3/\Ans pr 136 [.ag u30,.ag p] (.ag r)) (l:=PPl) ⟨⟨u47,mg 30 rfl,z0C⟩,⟨u56,mg 47 rfl,z0D⟩,⟨u65,mg 56 rfl,z0E⟩,⟨u71,mg 65 rfl,z0F⟩,⟨u77,mg 71 rfl,z0H⟩,⟨u30,mg 77 rfl,z0K⟩,⟨u80,mg 80 rfl,z0M⟩,⟨u81,mg 81 rfl,z0S⟩,trivial⟩,
 trivial⟩
def prob0:∀s∈Sl0,∃b,Ans pr 67 [.ag s] (.b b):=allL (P:=fun s=>∃b,Ans pr 67 [.ag s] (.b b)) (l:=Sl0) ⟨⟨true,zkp⟩,trivial⟩
def prob1:∀s∈Sl1,∃b,Ans pr 67 [.ag s] (.b b):=allL (P:=fun s=>∃b,Ans pr 67 [.ag s] (.b b)) (l:=Sl1) ⟨⟨true,zkq⟩,⟨true,zkr⟩,⟨true,zlc⟩,⟨true,zlg⟩,⟨true,zlh⟩,⟨true,zkp⟩,⟨true,zlk⟩,⟨true,zll⟩,trivial⟩
def prob2:∀s∈Sl2,∃b,Ans pr 67 [.ag s] (.b b):=allL (P:=fun s=>∃b,Ans pr 67 [.ag s] (.b b)) (l:=Sl2) ⟨⟨true,zlh⟩,⟨true,zFa⟩,⟨false,zFb⟩,⟨true,zFd⟩,⟨false,zFf⟩,⟨true,zkq⟩,⟨false,zFi⟩,⟨true,zFk⟩,⟨true,zlc⟩,⟨true,zFn⟩,⟨false,zFs⟩,⟨true,zkr⟩,⟨true,zFu⟩,⟨true,zFv⟩,⟨true,zFx⟩,⟨false,zFy⟩,⟨false,zFA⟩,⟨true,zFB⟩,⟨false,zFC⟩,⟨true,zlg⟩,⟨true,zFD⟩,⟨true,zFE⟩,⟨false,zFG⟩,⟨false,zFJ⟩,⟨false,zFK⟩,⟨true,zkp⟩,⟨true,zlk⟩,⟨true,zll⟩,⟨false,zFM⟩,⟨true,zFN⟩,⟨true,zFO⟩,trivial⟩
def prob3:∀s∈Sl3,∃b,Ans pr 67 [.ag s] (.b b):=allL (P:=fun s=>∃b,Ans pr 67 [.ag s] (.b b)) (l:=Sl3) ⟨⟨false,zFf⟩,⟨false,zFs⟩,⟨false,zFy⟩,⟨false,zFC⟩,⟨false,zFG⟩,⟨true,zlh⟩,⟨false,zFJ⟩,⟨false,zFK⟩,⟨false,zFb⟩,⟨false,z1d⟩,⟨false,z1e⟩,⟨true,zFa⟩,⟨false,z1j⟩,⟨true,z1p⟩,⟨false,z1q⟩,⟨false,z1s⟩,⟨false,z1u⟩,⟨false,z1y⟩,⟨false,z1A⟩,⟨true,zFd⟩,⟨false,z1D⟩,⟨true,z1F⟩,⟨false,z1J⟩,⟨false,z1L⟩,⟨false,z1M⟩,⟨true,zkq⟩,⟨false,zFi⟩,⟨true,zFk⟩,⟨false,z1O⟩,⟨false,z1R⟩,⟨true,z1U⟩,⟨true,zFx⟩,⟨true,zlc⟩,⟨false,zFA⟩,⟨true,zFB⟩,⟨false,z1X⟩,⟨true,zFn⟩,⟨false,z15⟩,⟨true,z2c⟩,⟨false,z2e⟩,⟨false,z2f⟩,⟨false,z2h⟩,⟨true,zkr⟩,⟨true,zFu⟩,⟨true,zFv⟩,⟨false,z2j⟩,⟨false,z2m⟩,⟨true,z2p⟩,⟨false,z2q⟩,⟨false,z2w⟩,⟨false,z2y⟩,⟨false,z2z⟩,⟨false,z2A⟩,⟨false,z2B⟩,⟨false,z2D⟩,⟨false,z2I⟩,⟨true,z2K⟩,⟨false,z2M⟩,⟨false,z2N⟩,⟨false,z2O⟩,⟨true,zlg⟩,⟨true,zFD⟩,⟨true,zFE⟩,⟨false,z2T⟩,⟨true,z2V⟩,⟨true,z3f⟩,⟨false,z3i⟩,⟨false,z3m⟩,⟨false,z3o⟩,⟨false,z3p⟩,⟨false,z3r⟩,⟨false,z3t⟩,⟨true,zkp⟩,⟨true,zlk⟩,⟨true,zll⟩,⟨false,zFM⟩,⟨true,zFN⟩,⟨true,zFO⟩,⟨false,z3x⟩,⟨false,z3A⟩,⟨true,z3D⟩,⟨true,z3H⟩,trivial⟩
def norm1:∀p∈PPl,Ans pr 71 [.ag p] (.ag p):=allL (P:=fun p=>Ans pr 71 [.ag p] (.ag p)) (l:=PPl) ⟨zcF,zcx,zcG,zcH,zaw,zcw,zcL,zbD,trivial⟩
def SSp(k:Nat)(p:List F):Prop:=match k with
 |0=>p∈Sl0
 |1=>p∈Sl1
 |2=>p∈Sl2
 |3=>p∈Sl3
 |_=>False
def PPp(p:List F):Prop:=p∈PPl
theorem ztw:znJ SSp PPp where
 z:=⟨u0,mg 0 rfl,Qs63⟩
 pc:=fun k p h=>match k,h with
  |0,h=>zaat p h
  |1,h=>zaau p h
  |2,h=>zaav p h
  |3,h=>zaaw p h
  |_+4,h=>h.elim
 pp:=zbW
 add:=fun k s p hk hs hp=>match k,hk,hs with
  |0,_,hs=>add0 s hs p hp
  |1,_,hs=>add1 s hs p hp
  |2,_,hs=>add2 s hs p hp
  |_+3,h,_=>absurd h (by omega)
 prob:=fun k s h=>match k,h with
  |0,h=>prob0 s h
  |1,h=>prob1 s h
  |2,h=>prob2 s h
  |3,h=>prob3 s h
  |_+4,h=>h.elim
 norm:=norm1
def coR:F:= .sl 3 [[.s [97],.i .i64 1,.b false],[.s [98],.i .i64 1,.b false]]
def rR(tu:List (List Int×List F)):Rl:=⟨[82],false,coR,tu⟩
def TuR(t:List Int×List F):Prop:=PPp t.2/\∃a b:Int,t.1=[a,b]/\1<=b/\b<=3
def ckR(t:List Int×List F)(h:TuR t):∃e,Ans pr 33 [.ag [.s [82],.b false,coR],.ag (tuF t)] (.i .i64 e):=by
 obtain⟨hp,a,b,he,_,_⟩ :=h;obtain⟨vs,p⟩ :=t;simp only at he;subst he;exact allL (P:=fun p=>∃e,Ans pr 33 [.ag [.s [82],.b false,coR],.ag (tuF ([a,b],p))] (.i .i64 e)) (l:=PPl) ⟨⟨_,ctR0 a b⟩,⟨_,ctR1 a b⟩,⟨_,ctR2 a b⟩,⟨_,ctR3 a b⟩,⟨_,ctR4 a b⟩,⟨_,ctR5 a b⟩,⟨_,ctR6 a b⟩,⟨_,ctR7 a b⟩,trivial⟩ p hp
def gR(tu:List (List Int×List F))(hn:tu.length<=3)(h:∀t∈tu,TuR t):∃B:List (List Nat),Ans pr 66 [.ag (rlF (rR tu))] (zjE B)/\B.length<=3/\∀b∈B,b.length<=3/\∀i∈b,i<tu.length:=by
 match tu,hn with
 |[],_=>
  exact⟨[],grR0,by simp,by simp⟩
 |[t0],_=>
  obtain⟨hp0,a0,b0,he0,l0,k0⟩ :=h t0 (by simp);obtain⟨x0,y0,z0,hx0,_,_,_⟩ :=zbW _ hp0;obtain⟨v0,w0⟩ :=t0;simp only at he0 hx0;subst he0 hx0;exact⟨[[0]],grR1 a0 b0 x0 y0 z0,by simp,by simp⟩
 |[t0,t1],_=>
  obtain⟨hp0,a0,b0,he0,l0,k0⟩ :=h t0 (by simp);obtain⟨x0,y0,z0,hx0,_,_,_⟩ :=zbW _ hp0;obtain⟨v0,w0⟩ :=t0;simp only at he0 hx0;subst he0 hx0;obtain⟨hp1,a1,b1,he1,l1,k1⟩ :=h t1 (by simp);obtain⟨x1,y1,z1,hx1,_,_,_⟩ :=zbW _ hp1;obtain⟨v1,w1⟩ :=t1;simp only at he1 hx1;subst he1 hx1;exact⟨[[0],[1]],grR2 a0 b0 x0 y0 z0 a1 b1 x1 y1 z1,by simp,by simp⟩
 |[t0,t1,t2],_=>
  obtain⟨hp0,a0,b0,he0,l0,k0⟩ :=h t0 (by simp);obtain⟨x0,y0,z0,hx0,_,_,_⟩ :=zbW _ hp0;obtain⟨v0,w0⟩ :=t0;simp only at he0 hx0;subst he0 hx0;obtain⟨hp1,a1,b1,he1,l1,k1⟩ :=h t1 (by simp);obtain⟨x1,y1,z1,hx1,_,_,_⟩ :=zbW _ hp1;obtain⟨v1,w1⟩ :=t1;simp only at he1 hx1;subst he1 hx1;obtain⟨hp2,a2,b2,he2,l2,k2⟩ :=h t2 (by simp);obtain⟨x2,y2,z2,hx2,_,_,_⟩ :=zbW _ hp2;obtain⟨v2,w2⟩ :=t2;simp only at he2 hx2;subst he2 hx2;exact⟨[[0],[1],[2]],grR3 a0 b0 x0 y0 z0 a1 b1 x1 y1 z1 a2 b2 x2 y2 z2,by simp,by simp⟩
 |_::_::_::_::_,h=>exact absurd h (by simp)
theorem okR(tu:List (List Int×List F))(hn:tu.length<=3)(h:∀t∈tu,TuR t):zgE SSp PPp (rR tu) where
 co:=rfl
 cc:=rfl
 v:=zjr
 n:=hn
 p:=fun t ht=>(h t ht).1
 c:=fun t ht=>ckR t (h t ht)
 l:=fun t ht=>by obtain⟨_,a,b,he,_,_⟩ :=h t ht;rw[he];simp
 g:=gR tu hn h
def coS:F:= .sl 3 [[.s [97],.i .i64 1,.b false]]
def rS(tu:List (List Int×List F)):Rl:=⟨[83],false,coS,tu⟩
def TuS(t:List Int×List F):Prop:=PPp t.2/\∃a:Int,t.1=[a]
def ckS(t:List Int×List F)(h:TuS t):∃e,Ans pr 33 [.ag [.s [83],.b false,coS],.ag (tuF t)] (.i .i64 e):=by
 obtain⟨hp,a,he⟩ :=h;obtain⟨vs,p⟩ :=t;simp only at he;subst he;exact allL (P:=fun p=>∃e,Ans pr 33 [.ag [.s [83],.b false,coS],.ag (tuF ([a],p))] (.i .i64 e)) (l:=PPl) ⟨⟨_,ctS0 a⟩,⟨_,ctS1 a⟩,⟨_,ctS2 a⟩,⟨_,ctS3 a⟩,⟨_,ctS4 a⟩,⟨_,ctS5 a⟩,⟨_,ctS6 a⟩,⟨_,ctS7 a⟩,trivial⟩ p hp
def gS(tu:List (List Int×List F))(hn:tu.length<=3)(h:∀t∈tu,TuS t):∃B:List (List Nat),Ans pr 66 [.ag (rlF (rS tu))] (zjE B)/\B.length<=3/\∀b∈B,b.length<=3/\∀i∈b,i<tu.length:=by
 match tu,hn with
 |[],_=>
  exact⟨[],grS0,by simp,by simp⟩
 |[t0],_=>
  obtain⟨hp0,a0,he0⟩ :=h t0 (by simp);obtain⟨x0,y0,z0,hx0,_,_,_⟩ :=zbW _ hp0;obtain⟨v0,w0⟩ :=t0;simp only at he0 hx0;subst he0 hx0;exact⟨[[0]],grS1 a0 x0 y0 z0,by simp,by simp⟩
 |[t0,t1],_=>
  obtain⟨hp0,a0,he0⟩ :=h t0 (by simp);obtain⟨x0,y0,z0,hx0,_,_,_⟩ :=zbW _ hp0;obtain⟨v0,w0⟩ :=t0;simp only at he0 hx0;subst he0 hx0;obtain⟨hp1,a1,he1⟩ :=h t1 (by simp);obtain⟨x1,y1,z1,hx1,_,_,_⟩ :=zbW _ hp1;obtain⟨v1,w1⟩ :=t1;simp only at he1 hx1;subst he1 hx1;exact⟨[[0],[1]],grS2 a0 x0 y0 z0 a1 x1 y1 z1,by simp,by simp⟩
 |[t0,t1,t2],_=>
  obtain⟨hp0,a0,he0⟩ :=h t0 (by simp);obtain⟨x0,y0,z0,hx0,_,_,_⟩ :=zbW _ hp0;obtain⟨v0,w0⟩ :=t0;simp only at he0 hx0;subst he0 hx0;obtain⟨hp1,a1,he1⟩ :=h t1 (by simp);obtain⟨x1,y1,z1,hx1,_,_,_⟩ :=zbW _ hp1;obtain⟨v1,w1⟩ :=t1;simp only at he1 hx1;subst he1 hx1;obtain⟨hp2,a2,he2⟩ :=h t2 (by simp);obtain⟨x2,y2,z2,hx2,_,_,_⟩ :=zbW _ hp2;obtain⟨v2,w2⟩ :=t2;simp only at he2 hx2;subst he2 hx2;exact⟨[[0],[1],[2]],grS3 a0 x0 y0 z0 a1 x1 y1 z1 a2 x2 y2 z2,by simp,by simp⟩
 |_::_::_::_::_,h=>exact absurd h (by simp)
theorem okS(tu:List (List Int×List F))(hn:tu.length<=3)(h:∀t∈tu,TuS t):zgE SSp PPp (rS tu) where
 co:=rfl
 cc:=rfl
 v:=zh8
 n:=hn
 p:=fun t ht=>(h t ht).1
 c:=fun t ht=>ckS t (h t ht)
 l:=fun t ht=>by obtain⟨_,a,he⟩ :=h t ht;rw[he];simp
 g:=gS tu hn h
def coK:F:= .sl 3 [[.s [107],.i .i64 1,.b true],[.s [118],.i .i64 1,.b false]]
def rK(tu:List (List Int×List F)):Rl:=⟨[75],false,coK,tu⟩
def TuK(t:List Int×List F):Prop:=PPp t.2/\∃a b:Int,t.1=[a,b]/\1<=a/\a<=3
def ckK(t:List Int×List F)(h:TuK t):∃e,Ans pr 33 [.ag [.s [75],.b false,coK],.ag (tuF t)] (.i .i64 e):=by
 obtain⟨hp,a,b,he,_,_⟩ :=h;obtain⟨vs,p⟩ :=t;simp only at he;subst he;exact allL (P:=fun p=>∃e,Ans pr 33 [.ag [.s [75],.b false,coK],.ag (tuF ([a,b],p))] (.i .i64 e)) (l:=PPl) ⟨⟨_,ctK0 a b⟩,⟨_,ctK1 a b⟩,⟨_,ctK2 a b⟩,⟨_,ctK3 a b⟩,⟨_,ctK4 a b⟩,⟨_,ctK5 a b⟩,⟨_,ctK6 a b⟩,⟨_,ctK7 a b⟩,trivial⟩ p hp
def gK(tu:List (List Int×List F))(hn:tu.length<=3)(h:∀t∈tu,TuK t):∃B:List (List Nat),Ans pr 66 [.ag (rlF (rK tu))] (zjE B)/\B.length<=3/\∀b∈B,b.length<=3/\∀i∈b,i<tu.length:=by
 match tu,hn with
 |[],_=>
  exact⟨[],grK0,by simp,by simp⟩
 |[t0],_=>
  obtain⟨hp0,a0,b0,he0,l0,k0⟩ :=h t0 (by simp);obtain⟨x0,y0,z0,hx0,_,_,_⟩ :=zbW _ hp0;obtain⟨v0,w0⟩ :=t0;simp only at he0 hx0;subst he0 hx0;exact⟨[[0]],grK1 a0 b0 x0 y0 z0,by simp,by simp⟩
 |[t0,t1],_=>
  obtain⟨hp0,a0,b0,he0,l0,k0⟩ :=h t0 (by simp);obtain⟨x0,y0,z0,hx0,_,_,_⟩ :=zbW _ hp0;obtain⟨v0,w0⟩ :=t0;simp only at he0 hx0;subst he0 hx0;obtain⟨hp1,a1,b1,he1,l1,k1⟩ :=h t1 (by simp);obtain⟨x1,y1,z1,hx1,_,_,_⟩ :=zbW _ hp1;obtain⟨v1,w1⟩ :=t1;simp only at he1 hx1;subst he1 hx1;have q0:a0=1\/a0=2\/a0=3:=by omega
  have q1:a1=1\/a1=2\/a1=3:=by omega
  rcases q0 with rfl|rfl|rfl<;>rcases q1 with rfl|rfl|rfl
  .exact⟨[[0,1]],zJm b0 x0 y0 z0 b1 x1 y1 z1,by simp,by simp⟩
  .exact⟨[[0],[1]],zJp b0 x0 y0 z0 b1 x1 y1 z1,by simp,by simp⟩
  .exact⟨[[0],[1]],zJq b0 x0 y0 z0 b1 x1 y1 z1,by simp,by simp⟩
  .exact⟨[[1],[0]],zJr b0 x0 y0 z0 b1 x1 y1 z1,by simp,by simp⟩
  .exact⟨[[0,1]],zJs b0 x0 y0 z0 b1 x1 y1 z1,by simp,by simp⟩
  .exact⟨[[0],[1]],zJt b0 x0 y0 z0 b1 x1 y1 z1,by simp,by simp⟩
  .exact⟨[[1],[0]],zJu b0 x0 y0 z0 b1 x1 y1 z1,by simp,by simp⟩
  .exact⟨[[1],[0]],zJv b0 x0 y0 z0 b1 x1 y1 z1,by simp,by simp⟩
  .exact⟨[[0,1]],zJw b0 x0 y0 z0 b1 x1 y1 z1,by simp,by simp⟩
 |[t0,t1,t2],_=>
  obtain⟨hp0,a0,b0,he0,l0,k0⟩ :=h t0 (by simp);obtain⟨x0,y0,z0,hx0,_,_,_⟩ :=zbW _ hp0;obtain⟨v0,w0⟩ :=t0;simp only at he0 hx0;subst he0 hx0;obtain⟨hp1,a1,b1,he1,l1,k1⟩ :=h t1 (by simp);obtain⟨x1,y1,z1,hx1,_,_,_⟩ :=zbW _ hp1;obtain⟨v1,w1⟩ :=t1;simp only at he1 hx1;subst he1 hx1;obtain⟨hp2,a2,b2,he2,l2,k2⟩ :=h t2 (by simp);obtain⟨x2,y2,z2,hx2,_,_,_⟩ :=zbW _ hp2;obtain⟨v2,w2⟩ :=t2;simp only at he2 hx2;subst he2 hx2;have q0:a0=1\/a0=2\/a0=3:=by omega
  have q1:a1=1\/a1=2\/a1=3:=by omega
  have q2:a2=1\/a2=2\/a2=3:=by omega
  rcases q0 with rfl|rfl|rfl<;>rcases q1 with rfl|rfl|rfl<;>rcases q2 with rfl|rfl|rfl
  .exact⟨[[0,1,2]],zDn b0 x0 y0 z0 b1 x1 y1 z1 b2 x2 y2 z2,by simp,by simp⟩
  .exact⟨[[0,1],[2]],zDo b0 x0 y0 z0 b1 x1 y1 z1 b2 x2 y2 z2,by simp,by simp⟩
  .exact⟨[[0,1],[2]],zDp b0 x0 y0 z0 b1 x1 y1 z1 b2 x2 y2 z2,by simp,by simp⟩
  .exact⟨[[0,2],[1]],zDq b0 x0 y0 z0 b1 x1 y1 z1 b2 x2 y2 z2,by simp,by simp⟩
  .exact⟨[[0],[1,2]],zDr b0 x0 y0 z0 b1 x1 y1 z1 b2 x2 y2 z2,by simp,by simp⟩
  .exact⟨[[0],[1],[2]],zDs b0 x0 y0 z0 b1 x1 y1 z1 b2 x2 y2 z2,by simp,by simp⟩
  .exact⟨[[0,2],[1]],zDt b0 x0 y0 z0 b1 x1 y1 z1 b2 x2 y2 z2,by simp,by simp⟩
  .exact⟨[[0],[2],[1]],zDv b0 x0 y0 z0 b1 x1 y1 z1 b2 x2 y2 z2,by simp,by simp⟩
  .exact⟨[[0],[1,2]],zDx b0 x0 y0 z0 b1 x1 y1 z1 b2 x2 y2 z2,by simp,by simp⟩
  .exact⟨[[1,2],[0]],zDy b0 x0 y0 z0 b1 x1 y1 z1 b2 x2 y2 z2,by simp,by simp⟩
  .exact⟨[[1],[0,2]],zDz b0 x0 y0 z0 b1 x1 y1 z1 b2 x2 y2 z2,by simp,by simp⟩
  .exact⟨[[1],[0],[2]],zDB b0 x0 y0 z0 b1 x1 y1 z1 b2 x2 y2 z2,by simp,by simp⟩
  .exact⟨[[2],[0,1]],zDD b0 x0 y0 z0 b1 x1 y1 z1 b2 x2 y2 z2,by simp,by simp⟩
  .exact⟨[[0,1,2]],zDE b0 x0 y0 z0 b1 x1 y1 z1 b2 x2 y2 z2,by simp,by simp⟩
  .exact⟨[[0,1],[2]],zDF b0 x0 y0 z0 b1 x1 y1 z1 b2 x2 y2 z2,by simp,by simp⟩
  .exact⟨[[2],[0],[1]],zDG b0 x0 y0 z0 b1 x1 y1 z1 b2 x2 y2 z2,by simp,by simp⟩
  .exact⟨[[0,2],[1]],zDH b0 x0 y0 z0 b1 x1 y1 z1 b2 x2 y2 z2,by simp,by simp⟩
  .exact⟨[[0],[1,2]],zDJ b0 x0 y0 z0 b1 x1 y1 z1 b2 x2 y2 z2,by simp,by simp⟩
  .exact⟨[[1,2],[0]],zDK b0 x0 y0 z0 b1 x1 y1 z1 b2 x2 y2 z2,by simp,by simp⟩
  .exact⟨[[1],[2],[0]],zDN b0 x0 y0 z0 b1 x1 y1 z1 b2 x2 y2 z2,by simp,by simp⟩
  .exact⟨[[1],[0,2]],zDO b0 x0 y0 z0 b1 x1 y1 z1 b2 x2 y2 z2,by simp,by simp⟩
  .exact⟨[[2],[1],[0]],zDP b0 x0 y0 z0 b1 x1 y1 z1 b2 x2 y2 z2,by simp,by simp⟩
  .exact⟨[[1,2],[0]],zDS b0 x0 y0 z0 b1 x1 y1 z1 b2 x2 y2 z2,by simp,by simp⟩
  .exact⟨[[1],[0,2]],zDT b0 x0 y0 z0 b1 x1 y1 z1 b2 x2 y2 z2,by simp,by simp⟩
  .exact⟨[[2],[0,1]],zDU b0 x0 y0 z0 b1 x1 y1 z1 b2 x2 y2 z2,by simp,by simp⟩
  .exact⟨[[2],[0,1]],zDW b0 x0 y0 z0 b1 x1 y1 z1 b2 x2 y2 z2,by simp,by simp⟩
  .exact⟨[[0,1,2]],zDX b0 x0 y0 z0 b1 x1 y1 z1 b2 x2 y2 z2,by simp,by simp⟩
 |_::_::_::_::_,h=>exact absurd h (by simp)
theorem okK(tu:List (List Int×List F))(hn:tu.length<=3)(h:∀t∈tu,TuK t):zgE SSp PPp (rK tu) where
 co:=rfl
 cc:=rfl
 v:=zjs
 n:=hn
 p:=fun t ht=>(h t ht).1
 c:=fun t ht=>ckK t (h t ht)
 l:=fun t ht=>by obtain⟨_,a,b,he,_,_⟩ :=h t ht;rw[he];simp
 g:=gK tu hn h
def coC:F:= .sl 3 [[.s [97],.i .i64 1,.b false],[.s [98],.i .i64 1,.b false]]
def rC(tu:List (List Int×List F)):Rl:=⟨[67],true,coC,tu⟩
def TuC(t:List Int×List F):Prop:=PPp t.2/\∃a b:Int,t.1=[a,b]
def ckC(t:List Int×List F)(h:TuC t):∃e,Ans pr 33 [.ag [.s [67],.b true,coC],.ag (tuF t)] (.i .i64 e):=by
 obtain⟨hp,a,b,he⟩ :=h;obtain⟨vs,p⟩ :=t;simp only at he;subst he;exact allL (P:=fun p=>∃e,Ans pr 33 [.ag [.s [67],.b true,coC],.ag (tuF ([a,b],p))] (.i .i64 e)) (l:=PPl) ⟨⟨_,ctC0 a b⟩,⟨_,ctC1 a b⟩,⟨_,ctC2 a b⟩,⟨_,ctC3 a b⟩,⟨_,ctC4 a b⟩,⟨_,ctC5 a b⟩,⟨_,ctC6 a b⟩,⟨_,ctC7 a b⟩,trivial⟩ p hp
def gC(tu:List (List Int×List F))(hn:tu.length<=3)(h:∀t∈tu,TuC t):∃B:List (List Nat),Ans pr 66 [.ag (rlF (rC tu))] (zjE B)/\B.length<=3/\∀b∈B,b.length<=3/\∀i∈b,i<tu.length:=by
 exact⟨[],grC _,by simp,by simp⟩
theorem okC(tu:List (List Int×List F))(hn:tu.length<=3)(h:∀t∈tu,TuC t):zgE SSp PPp (rC tu) where
 co:=rfl
 cc:=rfl
 v:=zjt
 n:=hn
 p:=fun t ht=>(h t ht).1
 c:=fun t ht=>ckC t (h t ht)
 l:=fun t ht=>by obtain⟨_,a,b,he⟩ :=h t ht;rw[he];simp
 g:=gC tu hn h
end Go.Proofs.YtlmnmaginhebdaaGreatDoor
end
section
namespace Go.Proofs.YtlmnmaginhebdaaGreatDoor
open Go Go.Vse Go.Vse.Sm
def rb(r:Nat)(b:UInt8):UInt8:=if b=64 then UInt8.ofNat (49+r)else b
def rb_no{p:Str}(h:p.all (· != 64)=true)(r:Nat):p.map (rb r)=p:=by
  refine (Z68 fun b hb=> ?_).trans (List.map_id p);have:=Z50.1 h b hb;have h2:¬b=64:=by simpa using this
  simp[rb,h2]
def cq0:CQ:=⟨[⟨[82],false,[.var [120],.var [121]]⟩],[],false,false⟩
def cq1:CQ:=⟨[⟨[82],false,[.var [120],.var [121]]⟩,⟨[83],false,[.var [121]]⟩],[],false,false⟩
def cq2:CQ:=⟨[⟨[82],false,[.var [120],.var [121]]⟩,⟨[83],false,[.var [120]]⟩],[],false,false⟩
def cq3:CQ:=⟨[⟨[82],false,[.var [120],.var [121]]⟩,⟨[75],false,[.var [121],.var [122]]⟩],[],false,false⟩
def cq4:CQ:=⟨[⟨[75],false,[.var [120],.var [121]]⟩,⟨[83],false,[.var [121]]⟩],[],false,false⟩
def cq5:CQ:=⟨[⟨[82],false,[.var [120],.var [121]]⟩,⟨[82],false,[.var [121],.var [122]]⟩],[],false,false⟩
def cq6:CQ:=⟨[⟨[82],false,[.var [120],.var [121]]⟩,⟨[82],false,[.var [121],.var [120]]⟩],[],false,false⟩
def cq7:CQ:=⟨[⟨[67],false,[.var [120],.var [121]]⟩,⟨[82],false,[.var [121],.var [122]]⟩],[],false,false⟩
def cq8:CQ:=⟨[⟨[82],false,[.var [120],.var [121]]⟩,⟨[83],true,[.var [121]]⟩],[],false,false⟩
def cq9:CQ:=⟨[⟨[83],false,[.var [120]]⟩,⟨[82],true,[.var [120],.cst 1]⟩],[],false,false⟩
def zlw:CQ:=⟨[⟨[83],false,[.var [120]]⟩,⟨[82],true,[.var [120],.cst 2]⟩],[],false,false⟩
def zlx:CQ:=⟨[⟨[83],false,[.var [120]]⟩,⟨[82],true,[.var [120],.cst 3]⟩],[],false,false⟩
def zly:CQ:=⟨[⟨[67],false,[.var [120],.var [121]]⟩,⟨[83],false,[.var [121]]⟩,⟨[75],true,[.var [120],.var [121]]⟩],[],false,false⟩
def zlz:CQ:=⟨[⟨[82],false,[.var [120],.var [121]]⟩,⟨[83],false,[.var [120]]⟩,⟨[83],false,[.var [121]]⟩],[],false,false⟩
def zlA:CQ:=⟨[⟨[75],false,[.var [120],.var [121]]⟩,⟨[75],false,[.var [122],.var [121]]⟩],[],false,false⟩
def zlB:CQ:=⟨[⟨[82],false,[.var [120],.cst 1]⟩],[],false,false⟩
def zlC:CQ:=⟨[⟨[82],false,[.var [120],.cst 2]⟩],[],false,false⟩
def zlD:CQ:=⟨[⟨[82],false,[.var [120],.cst 3]⟩],[],false,false⟩
def zlF:CQ:=⟨[⟨[83],false,[.var [120]]⟩,⟨[75],false,[.var [120],.cst 1]⟩],[],false,false⟩
def zlG:CQ:=⟨[⟨[83],false,[.var [120]]⟩,⟨[75],false,[.var [120],.cst 2]⟩],[],false,false⟩
def zlH:CQ:=⟨[⟨[83],false,[.var [120]]⟩,⟨[75],false,[.var [120],.cst 3]⟩],[],false,false⟩
def zlI:CQ:=⟨[⟨[82],false,[.var [120],.var [121]]⟩],[⟨3,.var [120],.var [121]⟩],false,false⟩
def zlJ:CQ:=⟨[⟨[82],false,[.var [120],.var [121]]⟩,⟨[83],false,[.var [122]]⟩],[⟨2,.var [121],.var [122]⟩],false,false⟩
def zlK:CQ:=⟨[⟨[83],false,[.var [120]]⟩,⟨[83],false,[.var [121]]⟩],[⟨4,.var [120],.var [121]⟩],false,false⟩
def zlL:CQ:=⟨[⟨[67],false,[.var [120],.var [121]]⟩,⟨[82],true,[.var [120],.var [121]]⟩],[],false,false⟩
def zlM:CQ:=⟨[⟨[82],false,[.var [120],.var [120]]⟩],[],false,false⟩
def zlO:CQ:=⟨[⟨[83],false,[.var [120]]⟩],[⟨1,.var [120],.cst 1⟩],false,false⟩
def zlP:CQ:=⟨[⟨[83],false,[.var [120]]⟩],[⟨1,.var [120],.cst 2⟩],false,false⟩
def zlQ:CQ:=⟨[⟨[83],false,[.var [120]]⟩],[⟨1,.var [120],.cst 3⟩],false,false⟩
def zlR:CQ:=⟨[⟨[75],false,[.var [120],.var [121]]⟩,⟨[82],false,[.var [121],.var [122]]⟩,⟨[83],false,[.var [122]]⟩],[],false,false⟩
def zlT:CQ:=⟨[⟨[82],false,[.var [120],.var [121]]⟩,⟨[82],false,[.var [120],.var [122]]⟩],[⟨3,.var [121],.var [122]⟩],false,false⟩
def zlU:CQ:=⟨[⟨[75],false,[.var [120],.cst 1]⟩,⟨[67],false,[.var [121],.var [120]]⟩],[],false,false⟩
def zlV:CQ:=⟨[⟨[75],false,[.var [120],.cst 2]⟩,⟨[67],false,[.var [121],.var [120]]⟩],[],false,false⟩
def zlW:CQ:=⟨[⟨[75],false,[.var [120],.cst 3]⟩,⟨[67],false,[.var [121],.var [120]]⟩],[],false,false⟩
def CQl:List CQ:=[cq0,cq1,cq2,cq3,cq4,cq5,cq6,cq7,cq8,cq9,zlw,zlx,zly,zlz,zlA,zlB,zlC,zlD,zlF,zlG,zlH,zlI,zlJ,zlK,zlL,zlM,zlO,zlP,zlQ,zlR,zlT,zlU,zlV,zlW]
def pa0:Str:=[82,40,120,44,32,121,41]
def pa1:Str:=[82,40,120,44,32,121,41,44,32,83,40,121,41]
def pa2:Str:=[82,40,120,44,32,121,41,44,32,83,40,120,41]
def pa3:Str:=[82,40,120,44,32,121,41,44,32,75,40,121,44,32,122,41]
def pa4:Str:=[75,40,120,44,32,121,41,44,32,83,40,121,41]
def pa5:Str:=[82,40,120,44,32,121,41,44,32,82,40,121,44,32,122,41]
def pa6:Str:=[82,40,120,44,32,121,41,44,32,82,40,121,44,32,120,41]
def pa7:Str:=[67,40,120,44,32,121,41,44,32,82,40,121,44,32,122,41]
def pa8:Str:=[82,40,120,44,32,121,41,44,32,110,111,116,32,83,40,121,41]
def pa9:Str:=[83,40,120,41,44,32,110,111,116,32,82,40,120,44,32,64,41]
def zJL:Str:=[67,40,120,44,32,121,41,44,32,83,40,121,41,44,32,110,111,116,32,75,40,120,44,32,121,41]
def zJM:Str:=[82,40,120,44,32,121,41,44,32,83,40,120,41,44,32,83,40,121,41]
def zJO:Str:=[75,40,120,44,32,121,41,44,32,75,40,122,44,32,121,41]
def zJQ:Str:=[82,40,120,44,32,64,41]
def zJS:Str:=[83,40,120,41,44,32,75,40,120,44,32,64,41]
def zJU:Str:=[82,40,120,44,32,121,41,44,32,120,32,60,32,121]
def zJV:Str:=[82,40,120,44,32,121,41,44,32,83,40,122,41,44,32,121,32,33,61,32,122]
def zJX:Str:=[83,40,120,41,44,32,83,40,121,41,44,32,120,32,60,61,32,121]
def zJY:Str:=[67,40,120,44,32,121,41,44,32,110,111,116,32,82,40,120,44,32,121,41]
def zJ0:Str:=[82,40,120,44,32,120,41]
def zJ1:Str:=[83,40,120,41,44,32,120,32,61,32,64]
def zJ3:Str:=[75,40,120,44,32,121,41,44,32,82,40,121,44,32,122,41,44,32,83,40,122,41]
def zJ4:Str:=[82,40,120,44,32,121,41,44,32,82,40,120,44,32,122,41,44,32,121,32,60,32,122]
def zJ5:Str:=[75,40,120,44,32,64,41,44,32,67,40,121,44,32,120,41]
def paL:List (List F):=[[.s pa0],[.s pa1],[.s pa2],[.s pa3],[.s pa4],[.s pa5],[.s pa6],[.s pa7],[.s pa8],[.s pa9],[.s zJL],[.s zJM],[.s zJO],[.s zJQ],[.s zJS],[.s zJU],[.s zJV],[.s zJX],[.s zJY],[.s zJ0],[.s zJ1],[.s zJ3],[.s zJ4],[.s zJ5]]
def ans9:Ans pr 9 [] (.sl 1 paL):=Qs66
def ans8:Ans pr 8 [] (.b true):=z5c
def Rd(p:Str)(r:Nat):Prop:=∃c∈CQl,Ans pr 24 [.s (p.map (rb r))] (.tu [.ag [.nils,.sl 2 [cqF c]],.i .i64 0])
def Rds(p:Str):Prop:=p≠[]/\p.length<1000/\∀r,r<3->Rd p r
def RdX(x:List F):Prop:=∃p,x=[.s p]/\Rds p
def qa{fs gs:List F}{x y:F}(h:Ans pr 24 fs x)(e1:fs=gs)(e2:x=y):Ans pr 24 gs y:=by rw[<-e1,<-e2];exact h
def rn{p:Str}{fs:List F}{x:F}(h1:p≠[])(h2:p.length<1000)(h:p.all (· != 64)=true){c:CQ}(n:Nat)(hc:CQl[n]? =some c)(q:Ans pr 24 fs x)(e1:fs=[.s p])(e2:x= .tu [.ag [.nils,.sl 2 [cqF c]],.i .i64 0]):RdX [.s p]:=
  ⟨p,rfl,h1,h2,fun r _=>⟨c,mg n hc,by rw[rb_no h];exact qa q e1 e2⟩⟩
def r3{p:Str}(h1:p≠[])(h2:p.length<1000)(a:Rd p 0)(b:Rd p 1)(c:Rd p 2):RdX [.s p]:=⟨p,rfl,h1,h2,fun r hr=>match r,hr with
 |0,_=>a
 |1,_=>b
 |2,_=>c⟩
def rd0:RdX [.s pa0]:=rn (by simp[pa0]) (by decide) (by decide) (c:=cq0) 0 rfl z3J (by kernel_rfl) (by kernel_rfl)
def rd1:RdX [.s pa1]:=rn (by simp[pa1]) (by decide) (by decide) (c:=cq1) 1 rfl z3K (by kernel_rfl) (by kernel_rfl)
def rd2:RdX [.s pa2]:=rn (by simp[pa2]) (by decide) (by decide) (c:=cq2) 2 rfl z3L (by kernel_rfl) (by kernel_rfl)
def rd3:RdX [.s pa3]:=rn (by simp[pa3]) (by decide) (by decide) (c:=cq3) 3 rfl z3M (by kernel_rfl) (by kernel_rfl)
def rd4:RdX [.s pa4]:=rn (by simp[pa4]) (by decide) (by decide) (c:=cq4) 4 rfl z3N (by kernel_rfl) (by kernel_rfl)
def rd5:RdX [.s pa5]:=rn (by simp[pa5]) (by decide) (by decide) (c:=cq5) 5 rfl z3O (by kernel_rfl) (by kernel_rfl)
def rd6:RdX [.s pa6]:=rn (by simp[pa6]) (by decide) (by decide) (c:=cq6) 6 rfl z3P (by kernel_rfl) (by kernel_rfl)
def rd7:RdX [.s pa7]:=rn (by simp[pa7]) (by decide) (by decide) (c:=cq7) 7 rfl z3S (by kernel_rfl) (by kernel_rfl)
def rd8:RdX [.s pa8]:=rn (by simp[pa8]) (by decide) (by decide) (c:=cq8) 8 rfl z3T (by kernel_rfl) (by kernel_rfl)
def rd9:RdX [.s pa9]:=r3 (by simp[pa9]) (by decide) ⟨cq9,mg 9 rfl,qa z4a (by kernel_rfl) (by kernel_rfl)⟩ ⟨zlw,mg 10 rfl,qa z4b (by kernel_rfl) (by kernel_rfl)⟩ ⟨zlx,mg 11 rfl,qa z4e (by kernel_rfl) (by kernel_rfl)⟩
def rd10:RdX [.s zJL]:=rn (by simp[zJL]) (by decide) (by decide) (c:=zly) 12 rfl z4f (by kernel_rfl) (by kernel_rfl)
def rd11:RdX [.s zJM]:=rn (by simp[zJM]) (by decide) (by decide) (c:=zlz) 13 rfl z4h (by kernel_rfl) (by kernel_rfl)
def rd12:RdX [.s zJO]:=rn (by simp[zJO]) (by decide) (by decide) (c:=zlA) 14 rfl z4j (by kernel_rfl) (by kernel_rfl)
def rd13:RdX [.s zJQ]:=r3 (by simp[zJQ]) (by decide) ⟨zlB,mg 15 rfl,qa z4l (by kernel_rfl) (by kernel_rfl)⟩ ⟨zlC,mg 16 rfl,qa z4m (by kernel_rfl) (by kernel_rfl)⟩ ⟨zlD,mg 17 rfl,qa z4q (by kernel_rfl) (by kernel_rfl)⟩
def rd14:RdX [.s zJS]:=r3 (by simp[zJS]) (by decide) ⟨zlF,mg 18 rfl,qa z4r (by kernel_rfl) (by kernel_rfl)⟩ ⟨zlG,mg 19 rfl,qa z4t (by kernel_rfl) (by kernel_rfl)⟩ ⟨zlH,mg 20 rfl,qa z4A (by kernel_rfl) (by kernel_rfl)⟩
def rd15:RdX [.s zJU]:=rn (by simp[zJU]) (by decide) (by decide) (c:=zlI) 21 rfl z4C (by kernel_rfl) (by kernel_rfl)
def rd16:RdX [.s zJV]:=rn (by simp[zJV]) (by decide) (by decide) (c:=zlJ) 22 rfl z4F (by kernel_rfl) (by kernel_rfl)
def rd17:RdX [.s zJX]:=rn (by simp[zJX]) (by decide) (by decide) (c:=zlK) 23 rfl z4G (by kernel_rfl) (by kernel_rfl)
def rd18:RdX [.s zJY]:=rn (by simp[zJY]) (by decide) (by decide) (c:=zlL) 24 rfl z4J (by kernel_rfl) (by kernel_rfl)
def rd19:RdX [.s zJ0]:=rn (by simp[zJ0]) (by decide) (by decide) (c:=zlM) 25 rfl z4K (by kernel_rfl) (by kernel_rfl)
def rd20:RdX [.s zJ1]:=r3 (by simp[zJ1]) (by decide) ⟨zlO,mg 26 rfl,qa z4L (by kernel_rfl) (by kernel_rfl)⟩ ⟨zlP,mg 27 rfl,qa z4O (by kernel_rfl) (by kernel_rfl)⟩ ⟨zlQ,mg 28 rfl,qa z4P (by kernel_rfl) (by kernel_rfl)⟩
def rd21:RdX [.s zJ3]:=rn (by simp[zJ3]) (by decide) (by decide) (c:=zlR) 29 rfl z4R (by kernel_rfl) (by kernel_rfl)
def rd22:RdX [.s zJ4]:=rn (by simp[zJ4]) (by decide) (by decide) (c:=zlT) 30 rfl z4S (by kernel_rfl) (by kernel_rfl)
def rd23:RdX [.s zJ5]:=r3 (by simp[zJ5]) (by decide) ⟨zlU,mg 31 rfl,qa z4T (by kernel_rfl) (by kernel_rfl)⟩ ⟨zlV,mg 32 rfl,qa z4U (by kernel_rfl) (by kernel_rfl)⟩ ⟨zlW,mg 33 rfl,qa z4V (by kernel_rfl) (by kernel_rfl)⟩
def rdA:∀x∈paL,RdX x:=allL (P:=RdX) (l:=paL) ⟨rd0,rd1,rd2,rd3,rd4,rd5,rd6,rd7,rd8,rd9,rd10,rd11,rd12,rd13,rd14,rd15,rd16,rd17,rd18,rd19,rd20,rd21,rd22,rd23,trivial⟩
def TmV:Trm->Prop
 | .var s=>s=[120]\/s=[121]\/s=[122]
 | .cst _=>True
structure CqN(n:Nat)(c:CQ):Prop where
 al:∀a∈c.as,zdo a/\a.ts.length<=2
 cs:∀k∈c.cs,zdz k
 av:∀a∈c.as,a.ts≠[]/\∀t∈a.ts,TmV t
 cv:∀k∈c.cs,TmV k.l/\TmV k.r
 op:∀k∈c.cs,1<=k.op/\k.op<=4
 la:c.as.length<=3*n
 lc:c.cs.length<=n
 ne:c.as≠[]
 nk:((c.as.flatMap (·.ts))++c.cs.flatMap fun k=>[k.l,k.r]).countP (fun t=>decide (tv t=[]))<=n
 p2:∀x∈[[120],[121],[122]],(c.as.flatMap fun a=>if a.neg=true then[]else a.ts).countP (fun t=>decide (t= .var x))<=2
def cg0:CqN 1 cq0:=⟨by simp[cq0,zdo,zaU],by simp[cq0,zdz,zaU],by simp[cq0,TmV],by simp[cq0,TmV],by simp[cq0],by decide,by decide,by simp[cq0],by decide,by decide⟩
def cg1:CqN 1 cq1:=⟨by simp[cq1,zdo,zaU],by simp[cq1,zdz,zaU],by simp[cq1,TmV],by simp[cq1,TmV],by simp[cq1],by decide,by decide,by simp[cq1],by decide,by decide⟩
def cg2:CqN 1 cq2:=⟨by simp[cq2,zdo,zaU],by simp[cq2,zdz,zaU],by simp[cq2,TmV],by simp[cq2,TmV],by simp[cq2],by decide,by decide,by simp[cq2],by decide,by decide⟩
def cg3:CqN 1 cq3:=⟨by simp[cq3,zdo,zaU],by simp[cq3,zdz,zaU],by simp[cq3,TmV],by simp[cq3,TmV],by simp[cq3],by decide,by decide,by simp[cq3],by decide,by decide⟩
def cg4:CqN 1 cq4:=⟨by simp[cq4,zdo,zaU],by simp[cq4,zdz,zaU],by simp[cq4,TmV],by simp[cq4,TmV],by simp[cq4],by decide,by decide,by simp[cq4],by decide,by decide⟩
def cg5:CqN 1 cq5:=⟨by simp[cq5,zdo,zaU],by simp[cq5,zdz,zaU],by simp[cq5,TmV],by simp[cq5,TmV],by simp[cq5],by decide,by decide,by simp[cq5],by decide,by decide⟩
def cg6:CqN 1 cq6:=⟨by simp[cq6,zdo,zaU],by simp[cq6,zdz,zaU],by simp[cq6,TmV],by simp[cq6,TmV],by simp[cq6],by decide,by decide,by simp[cq6],by decide,by decide⟩
def cg7:CqN 1 cq7:=⟨by simp[cq7,zdo,zaU],by simp[cq7,zdz,zaU],by simp[cq7,TmV],by simp[cq7,TmV],by simp[cq7],by decide,by decide,by simp[cq7],by decide,by decide⟩
def cg8:CqN 1 cq8:=⟨by simp[cq8,zdo,zaU],by simp[cq8,zdz,zaU],by simp[cq8,TmV],by simp[cq8,TmV],by simp[cq8],by decide,by decide,by simp[cq8],by decide,by decide⟩
def cg9:CqN 1 cq9:=⟨by simp[cq9,zdo,zaU],by simp[cq9,zdz,zaU],by simp[cq9,TmV],by simp[cq9,TmV],by simp[cq9],by decide,by decide,by simp[cq9],by decide,by decide⟩
def cg10:CqN 1 zlw:=⟨by simp[zlw,zdo,zaU],by simp[zlw,zdz,zaU],by simp[zlw,TmV],by simp[zlw,TmV],by simp[zlw],by decide,by decide,by simp[zlw],by decide,by decide⟩
def cg11:CqN 1 zlx:=⟨by simp[zlx,zdo,zaU],by simp[zlx,zdz,zaU],by simp[zlx,TmV],by simp[zlx,TmV],by simp[zlx],by decide,by decide,by simp[zlx],by decide,by decide⟩
def cg12:CqN 1 zly:=⟨by simp[zly,zdo,zaU],by simp[zly,zdz,zaU],by simp[zly,TmV],by simp[zly,TmV],by simp[zly],by decide,by decide,by simp[zly],by decide,by decide⟩
def cg13:CqN 1 zlz:=⟨by simp[zlz,zdo,zaU],by simp[zlz,zdz,zaU],by simp[zlz,TmV],by simp[zlz,TmV],by simp[zlz],by decide,by decide,by simp[zlz],by decide,by decide⟩
def cg14:CqN 1 zlA:=⟨by simp[zlA,zdo,zaU],by simp[zlA,zdz,zaU],by simp[zlA,TmV],by simp[zlA,TmV],by simp[zlA],by decide,by decide,by simp[zlA],by decide,by decide⟩
def cg15:CqN 1 zlB:=⟨by simp[zlB,zdo,zaU],by simp[zlB,zdz,zaU],by simp[zlB,TmV],by simp[zlB,TmV],by simp[zlB],by decide,by decide,by simp[zlB],by decide,by decide⟩
def cg16:CqN 1 zlC:=⟨by simp[zlC,zdo,zaU],by simp[zlC,zdz,zaU],by simp[zlC,TmV],by simp[zlC,TmV],by simp[zlC],by decide,by decide,by simp[zlC],by decide,by decide⟩
def cg17:CqN 1 zlD:=⟨by simp[zlD,zdo,zaU],by simp[zlD,zdz,zaU],by simp[zlD,TmV],by simp[zlD,TmV],by simp[zlD],by decide,by decide,by simp[zlD],by decide,by decide⟩
def cg18:CqN 1 zlF:=⟨by simp[zlF,zdo,zaU],by simp[zlF,zdz,zaU],by simp[zlF,TmV],by simp[zlF,TmV],by simp[zlF],by decide,by decide,by simp[zlF],by decide,by decide⟩
def cg19:CqN 1 zlG:=⟨by simp[zlG,zdo,zaU],by simp[zlG,zdz,zaU],by simp[zlG,TmV],by simp[zlG,TmV],by simp[zlG],by decide,by decide,by simp[zlG],by decide,by decide⟩
def cg20:CqN 1 zlH:=⟨by simp[zlH,zdo,zaU],by simp[zlH,zdz,zaU],by simp[zlH,TmV],by simp[zlH,TmV],by simp[zlH],by decide,by decide,by simp[zlH],by decide,by decide⟩
def cg21:CqN 1 zlI:=⟨by simp[zlI,zdo,zaU],by simp[zlI,zdz,zaU],by simp[zlI,TmV],by simp[zlI,TmV],by simp[zlI],by decide,by decide,by simp[zlI],by decide,by decide⟩
def cg22:CqN 1 zlJ:=⟨by simp[zlJ,zdo,zaU],by simp[zlJ,zdz,zaU],by simp[zlJ,TmV],by simp[zlJ,TmV],by simp[zlJ],by decide,by decide,by simp[zlJ],by decide,by decide⟩
def cg23:CqN 1 zlK:=⟨by simp[zlK,zdo,zaU],by simp[zlK,zdz,zaU],by simp[zlK,TmV],by simp[zlK,TmV],by simp[zlK],by decide,by decide,by simp[zlK],by decide,by decide⟩
def cg24:CqN 1 zlL:=⟨by simp[zlL,zdo,zaU],by simp[zlL,zdz,zaU],by simp[zlL,TmV],by simp[zlL,TmV],by simp[zlL],by decide,by decide,by simp[zlL],by decide,by decide⟩
def cg25:CqN 1 zlM:=⟨by simp[zlM,zdo,zaU],by simp[zlM,zdz,zaU],by simp[zlM,TmV],by simp[zlM,TmV],by simp[zlM],by decide,by decide,by simp[zlM],by decide,by decide⟩
def cg26:CqN 1 zlO:=⟨by simp[zlO,zdo,zaU],by simp[zlO,zdz,zaU],by simp[zlO,TmV],by simp[zlO,TmV],by simp[zlO],by decide,by decide,by simp[zlO],by decide,by decide⟩
def cg27:CqN 1 zlP:=⟨by simp[zlP,zdo,zaU],by simp[zlP,zdz,zaU],by simp[zlP,TmV],by simp[zlP,TmV],by simp[zlP],by decide,by decide,by simp[zlP],by decide,by decide⟩
def cg28:CqN 1 zlQ:=⟨by simp[zlQ,zdo,zaU],by simp[zlQ,zdz,zaU],by simp[zlQ,TmV],by simp[zlQ,TmV],by simp[zlQ],by decide,by decide,by simp[zlQ],by decide,by decide⟩
def cg29:CqN 1 zlR:=⟨by simp[zlR,zdo,zaU],by simp[zlR,zdz,zaU],by simp[zlR,TmV],by simp[zlR,TmV],by simp[zlR],by decide,by decide,by simp[zlR],by decide,by decide⟩
def cg30:CqN 1 zlT:=⟨by simp[zlT,zdo,zaU],by simp[zlT,zdz,zaU],by simp[zlT,TmV],by simp[zlT,TmV],by simp[zlT],by decide,by decide,by simp[zlT],by decide,by decide⟩
def cg31:CqN 1 zlU:=⟨by simp[zlU,zdo,zaU],by simp[zlU,zdz,zaU],by simp[zlU,TmV],by simp[zlU,TmV],by simp[zlU],by decide,by decide,by simp[zlU],by decide,by decide⟩
def cg32:CqN 1 zlV:=⟨by simp[zlV,zdo,zaU],by simp[zlV,zdz,zaU],by simp[zlV,TmV],by simp[zlV,TmV],by simp[zlV],by decide,by decide,by simp[zlV],by decide,by decide⟩
def cg33:CqN 1 zlW:=⟨by simp[zlW,zdo,zaU],by simp[zlW,zdz,zaU],by simp[zlW,TmV],by simp[zlW,TmV],by simp[zlW],by decide,by decide,by simp[zlW],by decide,by decide⟩
def zNS:∀c∈CQl,CqN 1 c:=allL (P:=CqN 1) (l:=CQl) ⟨cg0,cg1,cg2,cg3,cg4,cg5,cg6,cg7,cg8,cg9,cg10,cg11,cg12,cg13,cg14,cg15,cg16,cg17,cg18,cg19,cg20,cg21,cg22,cg23,cg24,cg25,cg26,cg27,cg28,cg29,cg30,cg31,cg32,cg33,trivial⟩
end Go.Proofs.YtlmnmaginhebdaaGreatDoor
end
