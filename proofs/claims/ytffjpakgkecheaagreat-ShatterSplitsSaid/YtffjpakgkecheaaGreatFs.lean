/- Sums of probabilities; what is known of relations of the four schemas. Written by program. -/
import Derived.Test.YtffjpakgkecheaaGreatFg
import Derived.Test.YtffjpakgkecheaaGreatW9
import Derived.Test.YtffjpakgkecheaaGreatPM0
import Derived.Test.YtffjpakgkecheaaGreatPM1
import Derived.Test.YtffjpakgkecheaaGreatPM2
import Derived.Test.YtffjpakgkecheaaGreatPM3
import Derived.Test.YtffjpakgkecheaaGreatPM4
import Derived.Test.YtffjpakgkecheaaGreatPM5
set_option linter.all false
namespace Go.Proofs.YtffjpakgkecheaaGreat
open Go Go.Vse Go.Vse.Sm
set_option maxRecDepth 100000
set_option maxHeartbeats 4000000
def AllL {α : Type} (P : α → Prop) : List α → Prop
 | [] => True
 | a :: l => P a ∧ AllL P l
theorem allL {α : Type} {P : α → Prop} : ∀ {l : List α}, AllL P l → ∀ a ∈ l, P a
 | [], _, a, h => by simp at h
 | b :: l, h, a, ha => by
  rcases List.mem_cons.1 ha with rfl | ha
  ·exact h.1
  ·exact allL h.2 a ha
theorem mg {α : Type} {l : List α} (n : Nat) {a : α} (h : l[n]? = some a) : a ∈ l := List.mem_of_getElem? h
theorem pc_PPl : ∀ p ∈ PPl, Pc p := allL (P := Pc) (l := PPl) ⟨⟨_, _, _, rfl, rfl, rfl, rfl⟩, ⟨_, _, _, rfl, rfl, rfl, rfl⟩, ⟨_, _, _, rfl, rfl, rfl, rfl⟩, ⟨_, _, _, rfl, rfl, rfl, rfl⟩, ⟨_, _, _, rfl, rfl, rfl, rfl⟩, ⟨_, _, _, rfl, rfl, rfl, rfl⟩, ⟨_, _, _, rfl, rfl, rfl, rfl⟩, ⟨_, _, _, rfl, rfl, rfl, rfl⟩, trivial⟩
theorem pc_Sl0 : ∀ p ∈ Sl0, Pc p := allL (P := Pc) (l := Sl0) ⟨⟨_, _, _, rfl, rfl, rfl, rfl⟩, trivial⟩
theorem pc_Sl1 : ∀ p ∈ Sl1, Pc p := allL (P := Pc) (l := Sl1) ⟨⟨_, _, _, rfl, rfl, rfl, rfl⟩, ⟨_, _, _, rfl, rfl, rfl, rfl⟩, ⟨_, _, _, rfl, rfl, rfl, rfl⟩, ⟨_, _, _, rfl, rfl, rfl, rfl⟩, ⟨_, _, _, rfl, rfl, rfl, rfl⟩, ⟨_, _, _, rfl, rfl, rfl, rfl⟩, ⟨_, _, _, rfl, rfl, rfl, rfl⟩, ⟨_, _, _, rfl, rfl, rfl, rfl⟩, trivial⟩
theorem pc_Sl2 : ∀ p ∈ Sl2, Pc p := allL (P := Pc) (l := Sl2) ⟨⟨_, _, _, rfl, rfl, rfl, rfl⟩, ⟨_, _, _, rfl, rfl, rfl, rfl⟩, ⟨_, _, _, rfl, rfl, rfl, rfl⟩, ⟨_, _, _, rfl, rfl, rfl, rfl⟩, ⟨_, _, _, rfl, rfl, rfl, rfl⟩, ⟨_, _, _, rfl, rfl, rfl, rfl⟩, ⟨_, _, _, rfl, rfl, rfl, rfl⟩, ⟨_, _, _, rfl, rfl, rfl, rfl⟩, ⟨_, _, _, rfl, rfl, rfl, rfl⟩, ⟨_, _, _, rfl, rfl, rfl, rfl⟩, ⟨_, _, _, rfl, rfl, rfl, rfl⟩, ⟨_, _, _, rfl, rfl, rfl, rfl⟩, ⟨_, _, _, rfl, rfl, rfl, rfl⟩, ⟨_, _, _, rfl, rfl, rfl, rfl⟩, ⟨_, _, _, rfl, rfl, rfl, rfl⟩, ⟨_, _, _, rfl, rfl, rfl, rfl⟩, ⟨_, _, _, rfl, rfl, rfl, rfl⟩, ⟨_, _, _, rfl, rfl, rfl, rfl⟩, ⟨_, _, _, rfl, rfl, rfl, rfl⟩, ⟨_, _, _, rfl, rfl, rfl, rfl⟩, ⟨_, _, _, rfl, rfl, rfl, rfl⟩, ⟨_, _, _, rfl, rfl, rfl, rfl⟩, ⟨_, _, _, rfl, rfl, rfl, rfl⟩, ⟨_, _, _, rfl, rfl, rfl, rfl⟩, ⟨_, _, _, rfl, rfl, rfl, rfl⟩, ⟨_, _, _, rfl, rfl, rfl, rfl⟩, ⟨_, _, _, rfl, rfl, rfl, rfl⟩, ⟨_, _, _, rfl, rfl, rfl, rfl⟩, ⟨_, _, _, rfl, rfl, rfl, rfl⟩, ⟨_, _, _, rfl, rfl, rfl, rfl⟩, ⟨_, _, _, rfl, rfl, rfl, rfl⟩, trivial⟩
theorem pc_Sl3 : ∀ p ∈ Sl3, Pc p := allL (P := Pc) (l := Sl3) ⟨⟨_, _, _, rfl, rfl, rfl, rfl⟩, ⟨_, _, _, rfl, rfl, rfl, rfl⟩, ⟨_, _, _, rfl, rfl, rfl, rfl⟩, ⟨_, _, _, rfl, rfl, rfl, rfl⟩, ⟨_, _, _, rfl, rfl, rfl, rfl⟩, ⟨_, _, _, rfl, rfl, rfl, rfl⟩, ⟨_, _, _, rfl, rfl, rfl, rfl⟩, ⟨_, _, _, rfl, rfl, rfl, rfl⟩, ⟨_, _, _, rfl, rfl, rfl, rfl⟩, ⟨_, _, _, rfl, rfl, rfl, rfl⟩, ⟨_, _, _, rfl, rfl, rfl, rfl⟩, ⟨_, _, _, rfl, rfl, rfl, rfl⟩, ⟨_, _, _, rfl, rfl, rfl, rfl⟩, ⟨_, _, _, rfl, rfl, rfl, rfl⟩, ⟨_, _, _, rfl, rfl, rfl, rfl⟩, ⟨_, _, _, rfl, rfl, rfl, rfl⟩, ⟨_, _, _, rfl, rfl, rfl, rfl⟩, ⟨_, _, _, rfl, rfl, rfl, rfl⟩, ⟨_, _, _, rfl, rfl, rfl, rfl⟩, ⟨_, _, _, rfl, rfl, rfl, rfl⟩, ⟨_, _, _, rfl, rfl, rfl, rfl⟩, ⟨_, _, _, rfl, rfl, rfl, rfl⟩, ⟨_, _, _, rfl, rfl, rfl, rfl⟩, ⟨_, _, _, rfl, rfl, rfl, rfl⟩, ⟨_, _, _, rfl, rfl, rfl, rfl⟩, ⟨_, _, _, rfl, rfl, rfl, rfl⟩, ⟨_, _, _, rfl, rfl, rfl, rfl⟩, ⟨_, _, _, rfl, rfl, rfl, rfl⟩, ⟨_, _, _, rfl, rfl, rfl, rfl⟩, ⟨_, _, _, rfl, rfl, rfl, rfl⟩, ⟨_, _, _, rfl, rfl, rfl, rfl⟩, ⟨_, _, _, rfl, rfl, rfl, rfl⟩, ⟨_, _, _, rfl, rfl, rfl, rfl⟩, ⟨_, _, _, rfl, rfl, rfl, rfl⟩, ⟨_, _, _, rfl, rfl, rfl, rfl⟩, ⟨_, _, _, rfl, rfl, rfl, rfl⟩, ⟨_, _, _, rfl, rfl, rfl, rfl⟩, ⟨_, _, _, rfl, rfl, rfl, rfl⟩, ⟨_, _, _, rfl, rfl, rfl, rfl⟩, ⟨_, _, _, rfl, rfl, rfl, rfl⟩, ⟨_, _, _, rfl, rfl, rfl, rfl⟩, ⟨_, _, _, rfl, rfl, rfl, rfl⟩, ⟨_, _, _, rfl, rfl, rfl, rfl⟩, ⟨_, _, _, rfl, rfl, rfl, rfl⟩, ⟨_, _, _, rfl, rfl, rfl, rfl⟩, ⟨_, _, _, rfl, rfl, rfl, rfl⟩, ⟨_, _, _, rfl, rfl, rfl, rfl⟩, ⟨_, _, _, rfl, rfl, rfl, rfl⟩, ⟨_, _, _, rfl, rfl, rfl, rfl⟩, ⟨_, _, _, rfl, rfl, rfl, rfl⟩, ⟨_, _, _, rfl, rfl, rfl, rfl⟩, ⟨_, _, _, rfl, rfl, rfl, rfl⟩, ⟨_, _, _, rfl, rfl, rfl, rfl⟩, ⟨_, _, _, rfl, rfl, rfl, rfl⟩, ⟨_, _, _, rfl, rfl, rfl, rfl⟩, ⟨_, _, _, rfl, rfl, rfl, rfl⟩, ⟨_, _, _, rfl, rfl, rfl, rfl⟩, ⟨_, _, _, rfl, rfl, rfl, rfl⟩, ⟨_, _, _, rfl, rfl, rfl, rfl⟩, ⟨_, _, _, rfl, rfl, rfl, rfl⟩, ⟨_, _, _, rfl, rfl, rfl, rfl⟩, ⟨_, _, _, rfl, rfl, rfl, rfl⟩, ⟨_, _, _, rfl, rfl, rfl, rfl⟩, ⟨_, _, _, rfl, rfl, rfl, rfl⟩, ⟨_, _, _, rfl, rfl, rfl, rfl⟩, ⟨_, _, _, rfl, rfl, rfl, rfl⟩, ⟨_, _, _, rfl, rfl, rfl, rfl⟩, ⟨_, _, _, rfl, rfl, rfl, rfl⟩, ⟨_, _, _, rfl, rfl, rfl, rfl⟩, ⟨_, _, _, rfl, rfl, rfl, rfl⟩, ⟨_, _, _, rfl, rfl, rfl, rfl⟩, ⟨_, _, _, rfl, rfl, rfl, rfl⟩, ⟨_, _, _, rfl, rfl, rfl, rfl⟩, ⟨_, _, _, rfl, rfl, rfl, rfl⟩, ⟨_, _, _, rfl, rfl, rfl, rfl⟩, ⟨_, _, _, rfl, rfl, rfl, rfl⟩, ⟨_, _, _, rfl, rfl, rfl, rfl⟩, ⟨_, _, _, rfl, rfl, rfl, rfl⟩, ⟨_, _, _, rfl, rfl, rfl, rfl⟩, ⟨_, _, _, rfl, rfl, rfl, rfl⟩, ⟨_, _, _, rfl, rfl, rfl, rfl⟩, ⟨_, _, _, rfl, rfl, rfl, rfl⟩, trivial⟩
theorem add0 : ∀ s ∈ Sl0, ∀ p ∈ PPl, ∃ r, r ∈ Sl1 ∧ Ans pr 113 [.ag s, .ag p] (.ag r) := allL (P := fun s => ∀ p ∈ PPl, ∃ r, r ∈ Sl1 ∧ Ans pr 113 [.ag s, .ag p] (.ag r)) (l := Sl0) ⟨
 allL (P := fun p => ∃ r, r ∈ Sl1 ∧ Ans pr 113 [.ag u0, .ag p] (.ag r)) (l := PPl) ⟨⟨u1, mg 0 rfl, P84⟩, ⟨u2, mg 1 rfl, P88⟩, ⟨u3, mg 2 rfl, P92⟩, ⟨u4, mg 3 rfl, P96⟩, ⟨u5, mg 4 rfl, P99⟩, ⟨u0, mg 5 rfl, P101⟩, ⟨u6, mg 6 rfl, P107⟩, ⟨u7, mg 7 rfl, P111⟩, trivial⟩,
 trivial⟩
theorem add1 : ∀ s ∈ Sl1, ∀ p ∈ PPl, ∃ r, r ∈ Sl2 ∧ Ans pr 113 [.ag s, .ag p] (.ag r) := allL (P := fun s => ∀ p ∈ PPl, ∃ r, r ∈ Sl2 ∧ Ans pr 113 [.ag s, .ag p] (.ag r)) (l := Sl1) ⟨
 allL (P := fun p => ∃ r, r ∈ Sl2 ∧ Ans pr 113 [.ag u1, .ag p] (.ag r)) (l := PPl) ⟨⟨u5, mg 0 rfl, P124⟩, ⟨u8, mg 1 rfl, P130⟩, ⟨u9, mg 2 rfl, P136⟩, ⟨u10, mg 3 rfl, P151⟩, ⟨u11, mg 4 rfl, P155⟩, ⟨u1, mg 5 rfl, P157⟩, ⟨u12, mg 6 rfl, P168⟩, ⟨u13, mg 7 rfl, P178⟩, trivial⟩,
 allL (P := fun p => ∃ r, r ∈ Sl2 ∧ Ans pr 113 [.ag u2, .ag p] (.ag r)) (l := PPl) ⟨⟨u8, mg 1 rfl, P180⟩, ⟨u3, mg 8 rfl, P196⟩, ⟨u5, mg 0 rfl, P208⟩, ⟨u14, mg 9 rfl, P215⟩, ⟨u15, mg 10 rfl, P219⟩, ⟨u2, mg 11 rfl, P220⟩, ⟨u16, mg 12 rfl, P229⟩, ⟨u17, mg 13 rfl, P241⟩, trivial⟩,
 allL (P := fun p => ∃ r, r ∈ Sl2 ∧ Ans pr 113 [.ag u3, .ag p] (.ag r)) (l := PPl) ⟨⟨u9, mg 2 rfl, P242⟩, ⟨u5, mg 0 rfl, P244⟩, ⟨u15, mg 10 rfl, P249⟩, ⟨u18, mg 14 rfl, P255⟩, ⟨u19, mg 15 rfl, P258⟩, ⟨u3, mg 8 rfl, P260⟩, ⟨u20, mg 16 rfl, P269⟩, ⟨u21, mg 17 rfl, P279⟩, trivial⟩,
 allL (P := fun p => ∃ r, r ∈ Sl2 ∧ Ans pr 113 [.ag u4, .ag p] (.ag r)) (l := PPl) ⟨⟨u10, mg 3 rfl, P282⟩, ⟨u14, mg 9 rfl, P284⟩, ⟨u18, mg 14 rfl, P286⟩, ⟨u1, mg 5 rfl, P300⟩, ⟨u22, mg 18 rfl, P305⟩, ⟨u4, mg 19 rfl, P306⟩, ⟨u23, mg 20 rfl, P315⟩, ⟨u24, mg 21 rfl, P324⟩, trivial⟩,
 allL (P := fun p => ∃ r, r ∈ Sl2 ∧ Ans pr 113 [.ag u5, .ag p] (.ag r)) (l := PPl) ⟨⟨u11, mg 4 rfl, P326⟩, ⟨u15, mg 10 rfl, P328⟩, ⟨u19, mg 15 rfl, P329⟩, ⟨u22, mg 18 rfl, P331⟩, ⟨u25, mg 22 rfl, P335⟩, ⟨u5, mg 0 rfl, P336⟩, ⟨u26, mg 23 rfl, P342⟩, ⟨u27, mg 24 rfl, P346⟩, trivial⟩,
 allL (P := fun p => ∃ r, r ∈ Sl2 ∧ Ans pr 113 [.ag u0, .ag p] (.ag r)) (l := PPl) ⟨⟨u1, mg 5 rfl, P84⟩, ⟨u2, mg 11 rfl, P88⟩, ⟨u3, mg 8 rfl, P92⟩, ⟨u4, mg 19 rfl, P96⟩, ⟨u5, mg 0 rfl, P99⟩, ⟨u0, mg 25 rfl, P101⟩, ⟨u6, mg 26 rfl, P107⟩, ⟨u7, mg 27 rfl, P111⟩, trivial⟩,
 allL (P := fun p => ∃ r, r ∈ Sl2 ∧ Ans pr 113 [.ag u6, .ag p] (.ag r)) (l := PPl) ⟨⟨u12, mg 6 rfl, P349⟩, ⟨u16, mg 12 rfl, P352⟩, ⟨u20, mg 16 rfl, P354⟩, ⟨u23, mg 20 rfl, P357⟩, ⟨u26, mg 23 rfl, P360⟩, ⟨u6, mg 26 rfl, P362⟩, ⟨u28, mg 28 rfl, P386⟩, ⟨u29, mg 29 rfl, P402⟩, trivial⟩,
 allL (P := fun p => ∃ r, r ∈ Sl2 ∧ Ans pr 113 [.ag u7, .ag p] (.ag r)) (l := PPl) ⟨⟨u13, mg 7 rfl, P405⟩, ⟨u17, mg 13 rfl, P408⟩, ⟨u21, mg 17 rfl, P410⟩, ⟨u24, mg 21 rfl, P413⟩, ⟨u27, mg 24 rfl, P416⟩, ⟨u7, mg 27 rfl, P417⟩, ⟨u29, mg 29 rfl, P420⟩, ⟨u30, mg 30 rfl, P445⟩, trivial⟩,
 trivial⟩
theorem add2 : ∀ s ∈ Sl2, ∀ p ∈ PPl, ∃ r, r ∈ Sl3 ∧ Ans pr 113 [.ag s, .ag p] (.ag r) := allL (P := fun s => ∀ p ∈ PPl, ∃ r, r ∈ Sl3 ∧ Ans pr 113 [.ag s, .ag p] (.ag r)) (l := Sl2) ⟨
 allL (P := fun p => ∃ r, r ∈ Sl3 ∧ Ans pr 113 [.ag u5, .ag p] (.ag r)) (l := PPl) ⟨⟨u11, mg 0 rfl, P326⟩, ⟨u15, mg 1 rfl, P328⟩, ⟨u19, mg 2 rfl, P329⟩, ⟨u22, mg 3 rfl, P331⟩, ⟨u25, mg 4 rfl, P335⟩, ⟨u5, mg 5 rfl, P336⟩, ⟨u26, mg 6 rfl, P342⟩, ⟨u27, mg 7 rfl, P346⟩, trivial⟩,
 allL (P := fun p => ∃ r, r ∈ Sl3 ∧ Ans pr 113 [.ag u8, .ag p] (.ag r)) (l := PPl) ⟨⟨u15, mg 1 rfl, P457⟩, ⟨u9, mg 8 rfl, P467⟩, ⟨u11, mg 0 rfl, P480⟩, ⟨u31, mg 9 rfl, P490⟩, ⟨u32, mg 10 rfl, P494⟩, ⟨u8, mg 11 rfl, P497⟩, ⟨u33, mg 12 rfl, P507⟩, ⟨u34, mg 13 rfl, P516⟩, trivial⟩,
 allL (P := fun p => ∃ r, r ∈ Sl3 ∧ Ans pr 113 [.ag u9, .ag p] (.ag r)) (l := PPl) ⟨⟨u19, mg 2 rfl, P524⟩, ⟨u11, mg 0 rfl, P526⟩, ⟨u32, mg 10 rfl, P533⟩, ⟨u35, mg 14 rfl, P541⟩, ⟨u36, mg 15 rfl, P546⟩, ⟨u9, mg 8 rfl, P548⟩, ⟨u37, mg 16 rfl, P557⟩, ⟨u38, mg 17 rfl, P564⟩, trivial⟩,
 allL (P := fun p => ∃ r, r ∈ Sl3 ∧ Ans pr 113 [.ag u10, .ag p] (.ag r)) (l := PPl) ⟨⟨u22, mg 3 rfl, P572⟩, ⟨u31, mg 9 rfl, P576⟩, ⟨u35, mg 14 rfl, P580⟩, ⟨u5, mg 5 rfl, P593⟩, ⟨u39, mg 18 rfl, P596⟩, ⟨u10, mg 19 rfl, P597⟩, ⟨u40, mg 20 rfl, P604⟩, ⟨u41, mg 21 rfl, P612⟩, trivial⟩,
 allL (P := fun p => ∃ r, r ∈ Sl3 ∧ Ans pr 113 [.ag u11, .ag p] (.ag r)) (l := PPl) ⟨⟨u25, mg 4 rfl, P618⟩, ⟨u32, mg 10 rfl, P620⟩, ⟨u36, mg 15 rfl, P621⟩, ⟨u39, mg 18 rfl, P626⟩, ⟨u42, mg 22 rfl, P629⟩, ⟨u11, mg 0 rfl, P630⟩, ⟨u43, mg 23 rfl, P633⟩, ⟨u44, mg 24 rfl, P640⟩, trivial⟩,
 allL (P := fun p => ∃ r, r ∈ Sl3 ∧ Ans pr 113 [.ag u1, .ag p] (.ag r)) (l := PPl) ⟨⟨u5, mg 5 rfl, P124⟩, ⟨u8, mg 11 rfl, P130⟩, ⟨u9, mg 8 rfl, P136⟩, ⟨u10, mg 19 rfl, P151⟩, ⟨u11, mg 0 rfl, P155⟩, ⟨u1, mg 25 rfl, P157⟩, ⟨u12, mg 26 rfl, P168⟩, ⟨u13, mg 27 rfl, P178⟩, trivial⟩,
 allL (P := fun p => ∃ r, r ∈ Sl3 ∧ Ans pr 113 [.ag u12, .ag p] (.ag r)) (l := PPl) ⟨⟨u26, mg 6 rfl, P650⟩, ⟨u33, mg 12 rfl, P654⟩, ⟨u37, mg 16 rfl, P657⟩, ⟨u40, mg 20 rfl, P667⟩, ⟨u43, mg 23 rfl, P671⟩, ⟨u12, mg 26 rfl, P674⟩, ⟨u45, mg 28 rfl, P687⟩, ⟨u46, mg 29 rfl, P699⟩, trivial⟩,
 allL (P := fun p => ∃ r, r ∈ Sl3 ∧ Ans pr 113 [.ag u13, .ag p] (.ag r)) (l := PPl) ⟨⟨u27, mg 7 rfl, P710⟩, ⟨u34, mg 13 rfl, P714⟩, ⟨u38, mg 17 rfl, P717⟩, ⟨u41, mg 21 rfl, P726⟩, ⟨u44, mg 24 rfl, P730⟩, ⟨u13, mg 27 rfl, P733⟩, ⟨u46, mg 29 rfl, P738⟩, ⟨u47, mg 30 rfl, P752⟩, trivial⟩,
 allL (P := fun p => ∃ r, r ∈ Sl3 ∧ Ans pr 113 [.ag u3, .ag p] (.ag r)) (l := PPl) ⟨⟨u9, mg 8 rfl, P242⟩, ⟨u5, mg 5 rfl, P244⟩, ⟨u15, mg 1 rfl, P249⟩, ⟨u18, mg 31 rfl, P255⟩, ⟨u19, mg 2 rfl, P258⟩, ⟨u3, mg 32 rfl, P260⟩, ⟨u20, mg 33 rfl, P269⟩, ⟨u21, mg 34 rfl, P279⟩, trivial⟩,
 allL (P := fun p => ∃ r, r ∈ Sl3 ∧ Ans pr 113 [.ag u14, .ag p] (.ag r)) (l := PPl) ⟨⟨u31, mg 9 rfl, P757⟩, ⟨u18, mg 31 rfl, P763⟩, ⟨u22, mg 3 rfl, P776⟩, ⟨u8, mg 11 rfl, P791⟩, ⟨u48, mg 35 rfl, P798⟩, ⟨u14, mg 36 rfl, P800⟩, ⟨u49, mg 37 rfl, P810⟩, ⟨u50, mg 38 rfl, P820⟩, trivial⟩,
 allL (P := fun p => ∃ r, r ∈ Sl3 ∧ Ans pr 113 [.ag u15, .ag p] (.ag r)) (l := PPl) ⟨⟨u32, mg 10 rfl, P822⟩, ⟨u19, mg 2 rfl, P829⟩, ⟨u25, mg 4 rfl, P833⟩, ⟨u48, mg 35 rfl, P835⟩, ⟨u51, mg 39 rfl, P838⟩, ⟨u15, mg 1 rfl, P840⟩, ⟨u52, mg 40 rfl, P847⟩, ⟨u53, mg 41 rfl, P854⟩, trivial⟩,
 allL (P := fun p => ∃ r, r ∈ Sl3 ∧ Ans pr 113 [.ag u2, .ag p] (.ag r)) (l := PPl) ⟨⟨u8, mg 11 rfl, P180⟩, ⟨u3, mg 32 rfl, P196⟩, ⟨u5, mg 5 rfl, P208⟩, ⟨u14, mg 36 rfl, P215⟩, ⟨u15, mg 1 rfl, P219⟩, ⟨u2, mg 42 rfl, P220⟩, ⟨u16, mg 43 rfl, P229⟩, ⟨u17, mg 44 rfl, P241⟩, trivial⟩,
 allL (P := fun p => ∃ r, r ∈ Sl3 ∧ Ans pr 113 [.ag u16, .ag p] (.ag r)) (l := PPl) ⟨⟨u33, mg 12 rfl, P859⟩, ⟨u20, mg 33 rfl, P873⟩, ⟨u26, mg 6 rfl, P881⟩, ⟨u49, mg 37 rfl, P884⟩, ⟨u52, mg 40 rfl, P887⟩, ⟨u16, mg 43 rfl, P890⟩, ⟨u54, mg 45 rfl, P911⟩, ⟨u55, mg 46 rfl, P926⟩, trivial⟩,
 allL (P := fun p => ∃ r, r ∈ Sl3 ∧ Ans pr 113 [.ag u17, .ag p] (.ag r)) (l := PPl) ⟨⟨u34, mg 13 rfl, P931⟩, ⟨u21, mg 34 rfl, P943⟩, ⟨u27, mg 7 rfl, P954⟩, ⟨u50, mg 38 rfl, P957⟩, ⟨u53, mg 41 rfl, P960⟩, ⟨u17, mg 44 rfl, P963⟩, ⟨u55, mg 46 rfl, P967⟩, ⟨u56, mg 47 rfl, P981⟩, trivial⟩,
 allL (P := fun p => ∃ r, r ∈ Sl3 ∧ Ans pr 113 [.ag u18, .ag p] (.ag r)) (l := PPl) ⟨⟨u35, mg 14 rfl, P984⟩, ⟨u22, mg 3 rfl, P986⟩, ⟨u48, mg 35 rfl, P992⟩, ⟨u9, mg 8 rfl, P1001⟩, ⟨u57, mg 48 rfl, P1007⟩, ⟨u18, mg 31 rfl, P1008⟩, ⟨u58, mg 49 rfl, P1016⟩, ⟨u59, mg 50 rfl, P1024⟩, trivial⟩,
 allL (P := fun p => ∃ r, r ∈ Sl3 ∧ Ans pr 113 [.ag u19, .ag p] (.ag r)) (l := PPl) ⟨⟨u36, mg 15 rfl, P1027⟩, ⟨u25, mg 4 rfl, P1029⟩, ⟨u51, mg 39 rfl, P1032⟩, ⟨u57, mg 48 rfl, P1034⟩, ⟨u60, mg 51 rfl, P1037⟩, ⟨u19, mg 2 rfl, P1038⟩, ⟨u61, mg 52 rfl, P1045⟩, ⟨u62, mg 53 rfl, P1057⟩, trivial⟩,
 allL (P := fun p => ∃ r, r ∈ Sl3 ∧ Ans pr 113 [.ag u20, .ag p] (.ag r)) (l := PPl) ⟨⟨u37, mg 16 rfl, P1061⟩, ⟨u26, mg 6 rfl, P1064⟩, ⟨u52, mg 40 rfl, P1073⟩, ⟨u58, mg 49 rfl, P1076⟩, ⟨u61, mg 52 rfl, P1079⟩, ⟨u20, mg 33 rfl, P1081⟩, ⟨u63, mg 54 rfl, P1091⟩, ⟨u64, mg 55 rfl, P1104⟩, trivial⟩,
 allL (P := fun p => ∃ r, r ∈ Sl3 ∧ Ans pr 113 [.ag u21, .ag p] (.ag r)) (l := PPl) ⟨⟨u38, mg 17 rfl, P1108⟩, ⟨u27, mg 7 rfl, P1111⟩, ⟨u53, mg 41 rfl, P1122⟩, ⟨u59, mg 50 rfl, P1125⟩, ⟨u62, mg 53 rfl, P1128⟩, ⟨u21, mg 34 rfl, P1130⟩, ⟨u64, mg 55 rfl, P1133⟩, ⟨u65, mg 56 rfl, P1145⟩, trivial⟩,
 allL (P := fun p => ∃ r, r ∈ Sl3 ∧ Ans pr 113 [.ag u22, .ag p] (.ag r)) (l := PPl) ⟨⟨u39, mg 18 rfl, P1148⟩, ⟨u48, mg 35 rfl, P1150⟩, ⟨u57, mg 48 rfl, P1152⟩, ⟨u11, mg 0 rfl, P1157⟩, ⟨u66, mg 57 rfl, P1161⟩, ⟨u22, mg 3 rfl, P1162⟩, ⟨u67, mg 58 rfl, P1169⟩, ⟨u68, mg 59 rfl, P1176⟩, trivial⟩,
 allL (P := fun p => ∃ r, r ∈ Sl3 ∧ Ans pr 113 [.ag u4, .ag p] (.ag r)) (l := PPl) ⟨⟨u10, mg 19 rfl, P282⟩, ⟨u14, mg 36 rfl, P284⟩, ⟨u18, mg 31 rfl, P286⟩, ⟨u1, mg 25 rfl, P300⟩, ⟨u22, mg 3 rfl, P305⟩, ⟨u4, mg 60 rfl, P306⟩, ⟨u23, mg 61 rfl, P315⟩, ⟨u24, mg 62 rfl, P324⟩, trivial⟩,
 allL (P := fun p => ∃ r, r ∈ Sl3 ∧ Ans pr 113 [.ag u23, .ag p] (.ag r)) (l := PPl) ⟨⟨u40, mg 20 rfl, P1181⟩, ⟨u49, mg 37 rfl, P1184⟩, ⟨u58, mg 49 rfl, P1187⟩, ⟨u12, mg 26 rfl, P1199⟩, ⟨u67, mg 58 rfl, P1202⟩, ⟨u23, mg 61 rfl, P1204⟩, ⟨u69, mg 63 rfl, P1216⟩, ⟨u70, mg 64 rfl, P1225⟩, trivial⟩,
 allL (P := fun p => ∃ r, r ∈ Sl3 ∧ Ans pr 113 [.ag u24, .ag p] (.ag r)) (l := PPl) ⟨⟨u41, mg 21 rfl, P1230⟩, ⟨u50, mg 38 rfl, P1233⟩, ⟨u59, mg 50 rfl, P1236⟩, ⟨u13, mg 27 rfl, P1245⟩, ⟨u68, mg 59 rfl, P1248⟩, ⟨u24, mg 62 rfl, P1250⟩, ⟨u70, mg 64 rfl, P1254⟩, ⟨u71, mg 65 rfl, P1266⟩, trivial⟩,
 allL (P := fun p => ∃ r, r ∈ Sl3 ∧ Ans pr 113 [.ag u25, .ag p] (.ag r)) (l := PPl) ⟨⟨u42, mg 22 rfl, P1268⟩, ⟨u51, mg 39 rfl, P1270⟩, ⟨u60, mg 51 rfl, P1271⟩, ⟨u66, mg 57 rfl, P1273⟩, ⟨u72, mg 66 rfl, P1276⟩, ⟨u25, mg 4 rfl, P1277⟩, ⟨u73, mg 67 rfl, P1282⟩, ⟨u74, mg 68 rfl, P1286⟩, trivial⟩,
 allL (P := fun p => ∃ r, r ∈ Sl3 ∧ Ans pr 113 [.ag u26, .ag p] (.ag r)) (l := PPl) ⟨⟨u43, mg 23 rfl, P1290⟩, ⟨u52, mg 40 rfl, P1293⟩, ⟨u61, mg 52 rfl, P1295⟩, ⟨u67, mg 58 rfl, P1298⟩, ⟨u73, mg 67 rfl, P1301⟩, ⟨u26, mg 6 rfl, P1303⟩, ⟨u75, mg 69 rfl, P1311⟩, ⟨u76, mg 70 rfl, P1318⟩, trivial⟩,
 allL (P := fun p => ∃ r, r ∈ Sl3 ∧ Ans pr 113 [.ag u27, .ag p] (.ag r)) (l := PPl) ⟨⟨u44, mg 24 rfl, P1321⟩, ⟨u53, mg 41 rfl, P1323⟩, ⟨u62, mg 53 rfl, P1325⟩, ⟨u68, mg 59 rfl, P1327⟩, ⟨u74, mg 68 rfl, P1329⟩, ⟨u27, mg 7 rfl, P1330⟩, ⟨u76, mg 70 rfl, P1331⟩, ⟨u77, mg 71 rfl, P1338⟩, trivial⟩,
 allL (P := fun p => ∃ r, r ∈ Sl3 ∧ Ans pr 113 [.ag u0, .ag p] (.ag r)) (l := PPl) ⟨⟨u1, mg 25 rfl, P84⟩, ⟨u2, mg 42 rfl, P88⟩, ⟨u3, mg 32 rfl, P92⟩, ⟨u4, mg 60 rfl, P96⟩, ⟨u5, mg 5 rfl, P99⟩, ⟨u0, mg 72 rfl, P101⟩, ⟨u6, mg 73 rfl, P107⟩, ⟨u7, mg 74 rfl, P111⟩, trivial⟩,
 allL (P := fun p => ∃ r, r ∈ Sl3 ∧ Ans pr 113 [.ag u6, .ag p] (.ag r)) (l := PPl) ⟨⟨u12, mg 26 rfl, P349⟩, ⟨u16, mg 43 rfl, P352⟩, ⟨u20, mg 33 rfl, P354⟩, ⟨u23, mg 61 rfl, P357⟩, ⟨u26, mg 6 rfl, P360⟩, ⟨u6, mg 73 rfl, P362⟩, ⟨u28, mg 75 rfl, P386⟩, ⟨u29, mg 76 rfl, P402⟩, trivial⟩,
 allL (P := fun p => ∃ r, r ∈ Sl3 ∧ Ans pr 113 [.ag u7, .ag p] (.ag r)) (l := PPl) ⟨⟨u13, mg 27 rfl, P405⟩, ⟨u17, mg 44 rfl, P408⟩, ⟨u21, mg 34 rfl, P410⟩, ⟨u24, mg 62 rfl, P413⟩, ⟨u27, mg 7 rfl, P416⟩, ⟨u7, mg 74 rfl, P417⟩, ⟨u29, mg 76 rfl, P420⟩, ⟨u30, mg 77 rfl, P445⟩, trivial⟩,
 allL (P := fun p => ∃ r, r ∈ Sl3 ∧ Ans pr 113 [.ag u28, .ag p] (.ag r)) (l := PPl) ⟨⟨u45, mg 28 rfl, P1344⟩, ⟨u54, mg 45 rfl, P1350⟩, ⟨u63, mg 54 rfl, P1354⟩, ⟨u69, mg 63 rfl, P1359⟩, ⟨u75, mg 69 rfl, P1362⟩, ⟨u28, mg 75 rfl, P1364⟩, ⟨u78, mg 78 rfl, P1373⟩, ⟨u79, mg 79 rfl, P1382⟩, trivial⟩,
 allL (P := fun p => ∃ r, r ∈ Sl3 ∧ Ans pr 113 [.ag u29, .ag p] (.ag r)) (l := PPl) ⟨⟨u46, mg 29 rfl, P1388⟩, ⟨u55, mg 46 rfl, P1392⟩, ⟨u64, mg 55 rfl, P1395⟩, ⟨u70, mg 64 rfl, P1399⟩, ⟨u76, mg 70 rfl, P1403⟩, ⟨u29, mg 76 rfl, P1406⟩, ⟨u79, mg 79 rfl, P1420⟩, ⟨u80, mg 80 rfl, P1437⟩, trivial⟩,
 allL (P := fun p => ∃ r, r ∈ Sl3 ∧ Ans pr 113 [.ag u30, .ag p] (.ag r)) (l := PPl) ⟨⟨u47, mg 30 rfl, P1443⟩, ⟨u56, mg 47 rfl, P1450⟩, ⟨u65, mg 56 rfl, P1454⟩, ⟨u71, mg 65 rfl, P1457⟩, ⟨u77, mg 71 rfl, P1460⟩, ⟨u30, mg 77 rfl, P1461⟩, ⟨u80, mg 80 rfl, P1470⟩, ⟨u81, mg 81 rfl, P1478⟩, trivial⟩,
 trivial⟩
theorem prob0 : ∀ s ∈ Sl0, ∃ b, Ans pr 72 [.ag s] (.b b) := allL (P := fun s => ∃ b, Ans pr 72 [.ag s] (.b b)) (l := Sl0) ⟨⟨true, P1485⟩, trivial⟩
theorem prob1 : ∀ s ∈ Sl1, ∃ b, Ans pr 72 [.ag s] (.b b) := allL (P := fun s => ∃ b, Ans pr 72 [.ag s] (.b b)) (l := Sl1) ⟨⟨true, P1495⟩, ⟨true, P1504⟩, ⟨true, P1511⟩, ⟨true, P1522⟩, ⟨true, P1529⟩, ⟨true, P1485⟩, ⟨true, P1541⟩, ⟨true, P1553⟩, trivial⟩
theorem prob2 : ∀ s ∈ Sl2, ∃ b, Ans pr 72 [.ag s] (.b b) := allL (P := fun s => ∃ b, Ans pr 72 [.ag s] (.b b)) (l := Sl2) ⟨⟨true, P1529⟩, ⟨true, P1565⟩, ⟨false, P1578⟩, ⟨true, P1585⟩, ⟨false, P1594⟩, ⟨true, P1495⟩, ⟨false, P1609⟩, ⟨true, P1623⟩, ⟨true, P1511⟩, ⟨true, P1635⟩, ⟨false, P1644⟩, ⟨true, P1504⟩, ⟨true, P1658⟩, ⟨true, P1675⟩, ⟨true, P1689⟩, ⟨false, P1698⟩, ⟨false, P1710⟩, ⟨true, P1725⟩, ⟨false, P1734⟩, ⟨true, P1522⟩, ⟨true, P1748⟩, ⟨true, P1764⟩, ⟨false, P1773⟩, ⟨false, P1782⟩, ⟨false, P1791⟩, ⟨true, P1485⟩, ⟨true, P1541⟩, ⟨true, P1553⟩, ⟨false, P1804⟩, ⟨true, P1822⟩, ⟨true, P1836⟩, trivial⟩
theorem prob3 : ∀ s ∈ Sl3, ∃ b, Ans pr 72 [.ag s] (.b b) := allL (P := fun s => ∃ b, Ans pr 72 [.ag s] (.b b)) (l := Sl3) ⟨⟨false, P1594⟩, ⟨false, P1644⟩, ⟨false, P1698⟩, ⟨false, P1734⟩, ⟨false, P1773⟩, ⟨true, P1529⟩, ⟨false, P1782⟩, ⟨false, P1791⟩, ⟨false, P1578⟩, ⟨false, P1852⟩, ⟨false, P1865⟩, ⟨true, P1565⟩, ⟨false, P1886⟩, ⟨true, P1903⟩, ⟨false, P1918⟩, ⟨false, P1931⟩, ⟨false, P1948⟩, ⟨false, P1965⟩, ⟨false, P1975⟩, ⟨true, P1585⟩, ⟨false, P1992⟩, ⟨true, P2008⟩, ⟨false, P2020⟩, ⟨false, P2031⟩, ⟨false, P2045⟩, ⟨true, P1495⟩, ⟨false, P1609⟩, ⟨true, P1623⟩, ⟨false, P2061⟩, ⟨false, P2084⟩, ⟨true, P2099⟩, ⟨true, P1689⟩, ⟨true, P1511⟩, ⟨false, P1710⟩, ⟨true, P1725⟩, ⟨false, P2112⟩, ⟨true, P1635⟩, ⟨false, P2133⟩, ⟨true, P2152⟩, ⟨false, P2162⟩, ⟨false, P2174⟩, ⟨false, P2186⟩, ⟨true, P1504⟩, ⟨true, P1658⟩, ⟨true, P1675⟩, ⟨false, P2200⟩, ⟨false, P2217⟩, ⟨true, P2230⟩, ⟨false, P2243⟩, ⟨false, P2262⟩, ⟨false, P2279⟩, ⟨false, P2291⟩, ⟨false, P2305⟩, ⟨false, P2319⟩, ⟨false, P2335⟩, ⟨false, P2360⟩, ⟨true, P2375⟩, ⟨false, P2387⟩, ⟨false, P2401⟩, ⟨false, P2415⟩, ⟨true, P1522⟩, ⟨true, P1748⟩, ⟨true, P1764⟩, ⟨false, P2431⟩, ⟨true, P2452⟩, ⟨true, P2465⟩, ⟨false, P2475⟩, ⟨false, P2486⟩, ⟨false, P2496⟩, ⟨false, P2506⟩, ⟨false, P2517⟩, ⟨false, P2527⟩, ⟨true, P1485⟩, ⟨true, P1541⟩, ⟨true, P1553⟩, ⟨false, P1804⟩, ⟨true, P1822⟩, ⟨true, P1836⟩, ⟨false, P2542⟩, ⟨false, P2558⟩, ⟨true, P2571⟩, ⟨true, P2586⟩, trivial⟩
theorem norm1 : ∀ p ∈ PPl, Ans pr 76 [.ag p] (.ag p) := allL (P := fun p => Ans pr 76 [.ag p] (.ag p)) (l := PPl) ⟨P79, P85, P89, P93, P97, P78, P102, P108, trivial⟩
def SSp (k : Nat) (p : List F) : Prop := match k with
 | 0 => p ∈ Sl0
 | 1 => p ∈ Sl1
 | 2 => p ∈ Sl2
 | 3 => p ∈ Sl3
 | _ => False
def PPp (p : List F) : Prop := p ∈ PPl
theorem sumTab : SumTab SSp PPp where
 z := ⟨u0, mg 0 rfl, P71⟩
 pc := fun k p h => match k, h with
  | 0, h => pc_Sl0 p h
  | 1, h => pc_Sl1 p h
  | 2, h => pc_Sl2 p h
  | 3, h => pc_Sl3 p h
  | _ + 4, h => h.elim
 pp := pc_PPl
 add := fun k s p hk hs hp => match k, hk, hs with
  | 0, _, hs => add0 s hs p hp
  | 1, _, hs => add1 s hs p hp
  | 2, _, hs => add2 s hs p hp
  | _ + 3, h, _ => absurd h (by omega)
 prob := fun k s h => match k, h with
  | 0, h => prob0 s h
  | 1, h => prob1 s h
  | 2, h => prob2 s h
  | 3, h => prob3 s h
  | _ + 4, h => h.elim
 norm := norm1
noncomputable def coR : F := .sl 3 [[.s [97],.i .i64 1,.b false],[.s [98],.i .i64 1,.b false]]
noncomputable def rR (tu : List (List Int × List F)) : Rl := ⟨[82], false, coR, tu⟩
def TuR (t : List Int × List F) : Prop := PPp t.2 ∧ ∃ a b : Int, t.1 = [a, b]
theorem ckR (t : List Int × List F) (h : TuR t) : ∃ e, Ans pr 35 [.ag [.s [82], .b false, coR], .ag (tuF t)] (.i .i64 e) := by
 obtain ⟨hp, a, b, he⟩ := h
 obtain ⟨vs, p⟩ := t
 simp only at he
 subst he
 exact allL (P := fun p => ∃ e, Ans pr 35 [.ag [.s [82], .b false, coR], .ag (tuF ([a, b], p))] (.i .i64 e)) (l := PPl) ⟨⟨_, ctR0 a b⟩, ⟨_, ctR1 a b⟩, ⟨_, ctR2 a b⟩, ⟨_, ctR3 a b⟩, ⟨_, ctR4 a b⟩, ⟨_, ctR5 a b⟩, ⟨_, ctR6 a b⟩, ⟨_, ctR7 a b⟩, trivial⟩ p hp
theorem gR (tu : List (List Int × List F)) (hn : tu.length ≤ 3) (h : ∀ t ∈ tu, TuR t) : ∃ B : List (List Nat), Ans pr 71 [.ag (rlF (rR tu))] (blkF B) ∧ B.length ≤ 3 ∧ ∀ b ∈ B, b.length ≤ 3 ∧ ∀ i ∈ b, i < tu.length := by
 match tu, hn with
 | [], _ =>
  exact ⟨[], grR0 , by simp, by simp⟩
 | [t0], _ =>
  obtain ⟨hp0, a0, b0, he0⟩ := h t0 (by simp)
  obtain ⟨x0, y0, z0, hx0, _, _, _⟩ := pc_PPl _ hp0
  obtain ⟨v0, w0⟩ := t0
  simp only at he0 hx0
  subst he0 hx0
  exact ⟨[[0]], grR1 a0 b0 x0 y0 z0, by simp, by simp⟩
 | [t0, t1], _ =>
  obtain ⟨hp0, a0, b0, he0⟩ := h t0 (by simp)
  obtain ⟨x0, y0, z0, hx0, _, _, _⟩ := pc_PPl _ hp0
  obtain ⟨v0, w0⟩ := t0
  simp only at he0 hx0
  subst he0 hx0
  obtain ⟨hp1, a1, b1, he1⟩ := h t1 (by simp)
  obtain ⟨x1, y1, z1, hx1, _, _, _⟩ := pc_PPl _ hp1
  obtain ⟨v1, w1⟩ := t1
  simp only at he1 hx1
  subst he1 hx1
  exact ⟨[[0], [1]], grR2 a0 b0 x0 y0 z0 a1 b1 x1 y1 z1, by simp, by simp⟩
 | [t0, t1, t2], _ =>
  obtain ⟨hp0, a0, b0, he0⟩ := h t0 (by simp)
  obtain ⟨x0, y0, z0, hx0, _, _, _⟩ := pc_PPl _ hp0
  obtain ⟨v0, w0⟩ := t0
  simp only at he0 hx0
  subst he0 hx0
  obtain ⟨hp1, a1, b1, he1⟩ := h t1 (by simp)
  obtain ⟨x1, y1, z1, hx1, _, _, _⟩ := pc_PPl _ hp1
  obtain ⟨v1, w1⟩ := t1
  simp only at he1 hx1
  subst he1 hx1
  obtain ⟨hp2, a2, b2, he2⟩ := h t2 (by simp)
  obtain ⟨x2, y2, z2, hx2, _, _, _⟩ := pc_PPl _ hp2
  obtain ⟨v2, w2⟩ := t2
  simp only at he2 hx2
  subst he2 hx2
  exact ⟨[[0], [1], [2]], grR3 a0 b0 x0 y0 z0 a1 b1 x1 y1 z1 a2 b2 x2 y2 z2, by simp, by simp⟩
 | _ :: _ :: _ :: _ :: _, h => exact absurd h (by simp)
theorem okR (tu : List (List Int × List F)) (hn : tu.length ≤ 3) (h : ∀ t ∈ tu, TuR t) : RelOk SSp PPp (rR tu) where
 co := rfl
 cc := rfl
 v := P2634
 n := hn
 p := fun t ht => (h t ht).1
 c := fun t ht => ckR t (h t ht)
 l := fun t ht => by obtain ⟨_, a, b, he⟩ := h t ht; rw [he]; simp
 g := gR tu hn h
noncomputable def coS : F := .sl 3 [[.s [97],.i .i64 1,.b false]]
noncomputable def rS (tu : List (List Int × List F)) : Rl := ⟨[83], false, coS, tu⟩
def TuS (t : List Int × List F) : Prop := PPp t.2 ∧ ∃ a : Int, t.1 = [a]
theorem ckS (t : List Int × List F) (h : TuS t) : ∃ e, Ans pr 35 [.ag [.s [83], .b false, coS], .ag (tuF t)] (.i .i64 e) := by
 obtain ⟨hp, a, he⟩ := h
 obtain ⟨vs, p⟩ := t
 simp only at he
 subst he
 exact allL (P := fun p => ∃ e, Ans pr 35 [.ag [.s [83], .b false, coS], .ag (tuF ([a], p))] (.i .i64 e)) (l := PPl) ⟨⟨_, ctS0 a⟩, ⟨_, ctS1 a⟩, ⟨_, ctS2 a⟩, ⟨_, ctS3 a⟩, ⟨_, ctS4 a⟩, ⟨_, ctS5 a⟩, ⟨_, ctS6 a⟩, ⟨_, ctS7 a⟩, trivial⟩ p hp
theorem gS (tu : List (List Int × List F)) (hn : tu.length ≤ 3) (h : ∀ t ∈ tu, TuS t) : ∃ B : List (List Nat), Ans pr 71 [.ag (rlF (rS tu))] (blkF B) ∧ B.length ≤ 3 ∧ ∀ b ∈ B, b.length ≤ 3 ∧ ∀ i ∈ b, i < tu.length := by
 match tu, hn with
 | [], _ =>
  exact ⟨[], grS0 , by simp, by simp⟩
 | [t0], _ =>
  obtain ⟨hp0, a0, he0⟩ := h t0 (by simp)
  obtain ⟨x0, y0, z0, hx0, _, _, _⟩ := pc_PPl _ hp0
  obtain ⟨v0, w0⟩ := t0
  simp only at he0 hx0
  subst he0 hx0
  exact ⟨[[0]], grS1 a0 x0 y0 z0, by simp, by simp⟩
 | [t0, t1], _ =>
  obtain ⟨hp0, a0, he0⟩ := h t0 (by simp)
  obtain ⟨x0, y0, z0, hx0, _, _, _⟩ := pc_PPl _ hp0
  obtain ⟨v0, w0⟩ := t0
  simp only at he0 hx0
  subst he0 hx0
  obtain ⟨hp1, a1, he1⟩ := h t1 (by simp)
  obtain ⟨x1, y1, z1, hx1, _, _, _⟩ := pc_PPl _ hp1
  obtain ⟨v1, w1⟩ := t1
  simp only at he1 hx1
  subst he1 hx1
  exact ⟨[[0], [1]], grS2 a0 x0 y0 z0 a1 x1 y1 z1, by simp, by simp⟩
 | [t0, t1, t2], _ =>
  obtain ⟨hp0, a0, he0⟩ := h t0 (by simp)
  obtain ⟨x0, y0, z0, hx0, _, _, _⟩ := pc_PPl _ hp0
  obtain ⟨v0, w0⟩ := t0
  simp only at he0 hx0
  subst he0 hx0
  obtain ⟨hp1, a1, he1⟩ := h t1 (by simp)
  obtain ⟨x1, y1, z1, hx1, _, _, _⟩ := pc_PPl _ hp1
  obtain ⟨v1, w1⟩ := t1
  simp only at he1 hx1
  subst he1 hx1
  obtain ⟨hp2, a2, he2⟩ := h t2 (by simp)
  obtain ⟨x2, y2, z2, hx2, _, _, _⟩ := pc_PPl _ hp2
  obtain ⟨v2, w2⟩ := t2
  simp only at he2 hx2
  subst he2 hx2
  exact ⟨[[0], [1], [2]], grS3 a0 x0 y0 z0 a1 x1 y1 z1 a2 x2 y2 z2, by simp, by simp⟩
 | _ :: _ :: _ :: _ :: _, h => exact absurd h (by simp)
theorem okS (tu : List (List Int × List F)) (hn : tu.length ≤ 3) (h : ∀ t ∈ tu, TuS t) : RelOk SSp PPp (rS tu) where
 co := rfl
 cc := rfl
 v := P2636
 n := hn
 p := fun t ht => (h t ht).1
 c := fun t ht => ckS t (h t ht)
 l := fun t ht => by obtain ⟨_, a, he⟩ := h t ht; rw [he]; simp
 g := gS tu hn h
noncomputable def coK : F := .sl 3 [[.s [107],.i .i64 1,.b true],[.s [118],.i .i64 1,.b false]]
noncomputable def rK (tu : List (List Int × List F)) : Rl := ⟨[75], false, coK, tu⟩
def TuK (t : List Int × List F) : Prop := PPp t.2 ∧ ∃ a b : Int, t.1 = [a, b] ∧ 1 ≤ a ∧ a ≤ 3
theorem ckK (t : List Int × List F) (h : TuK t) : ∃ e, Ans pr 35 [.ag [.s [75], .b false, coK], .ag (tuF t)] (.i .i64 e) := by
 obtain ⟨hp, a, b, he, _, _⟩ := h
 obtain ⟨vs, p⟩ := t
 simp only at he
 subst he
 exact allL (P := fun p => ∃ e, Ans pr 35 [.ag [.s [75], .b false, coK], .ag (tuF ([a, b], p))] (.i .i64 e)) (l := PPl) ⟨⟨_, ctK0 a b⟩, ⟨_, ctK1 a b⟩, ⟨_, ctK2 a b⟩, ⟨_, ctK3 a b⟩, ⟨_, ctK4 a b⟩, ⟨_, ctK5 a b⟩, ⟨_, ctK6 a b⟩, ⟨_, ctK7 a b⟩, trivial⟩ p hp
theorem gK (tu : List (List Int × List F)) (hn : tu.length ≤ 3) (h : ∀ t ∈ tu, TuK t) : ∃ B : List (List Nat), Ans pr 71 [.ag (rlF (rK tu))] (blkF B) ∧ B.length ≤ 3 ∧ ∀ b ∈ B, b.length ≤ 3 ∧ ∀ i ∈ b, i < tu.length := by
 match tu, hn with
 | [], _ =>
  exact ⟨[], grK0 , by simp, by simp⟩
 | [t0], _ =>
  obtain ⟨hp0, a0, b0, he0, l0, k0⟩ := h t0 (by simp)
  obtain ⟨x0, y0, z0, hx0, _, _, _⟩ := pc_PPl _ hp0
  obtain ⟨v0, w0⟩ := t0
  simp only at he0 hx0
  subst he0 hx0
  exact ⟨[[0]], grK1 a0 b0 x0 y0 z0, by simp, by simp⟩
 | [t0, t1], _ =>
  obtain ⟨hp0, a0, b0, he0, l0, k0⟩ := h t0 (by simp)
  obtain ⟨x0, y0, z0, hx0, _, _, _⟩ := pc_PPl _ hp0
  obtain ⟨v0, w0⟩ := t0
  simp only at he0 hx0
  subst he0 hx0
  obtain ⟨hp1, a1, b1, he1, l1, k1⟩ := h t1 (by simp)
  obtain ⟨x1, y1, z1, hx1, _, _, _⟩ := pc_PPl _ hp1
  obtain ⟨v1, w1⟩ := t1
  simp only at he1 hx1
  subst he1 hx1
  have q0 : a0 = 1 ∨ a0 = 2 ∨ a0 = 3 := by omega
  have q1 : a1 = 1 ∨ a1 = 2 ∨ a1 = 3 := by omega
  rcases q0 with rfl | rfl | rfl <;> rcases q1 with rfl | rfl | rfl
  ·exact ⟨[[0, 1]], grK2_1_1 b0 x0 y0 z0 b1 x1 y1 z1, by simp, by simp⟩
  ·exact ⟨[[0], [1]], grK2_1_2 b0 x0 y0 z0 b1 x1 y1 z1, by simp, by simp⟩
  ·exact ⟨[[0], [1]], grK2_1_3 b0 x0 y0 z0 b1 x1 y1 z1, by simp, by simp⟩
  ·exact ⟨[[1], [0]], grK2_2_1 b0 x0 y0 z0 b1 x1 y1 z1, by simp, by simp⟩
  ·exact ⟨[[0, 1]], grK2_2_2 b0 x0 y0 z0 b1 x1 y1 z1, by simp, by simp⟩
  ·exact ⟨[[0], [1]], grK2_2_3 b0 x0 y0 z0 b1 x1 y1 z1, by simp, by simp⟩
  ·exact ⟨[[1], [0]], grK2_3_1 b0 x0 y0 z0 b1 x1 y1 z1, by simp, by simp⟩
  ·exact ⟨[[1], [0]], grK2_3_2 b0 x0 y0 z0 b1 x1 y1 z1, by simp, by simp⟩
  ·exact ⟨[[0, 1]], grK2_3_3 b0 x0 y0 z0 b1 x1 y1 z1, by simp, by simp⟩
 | [t0, t1, t2], _ =>
  obtain ⟨hp0, a0, b0, he0, l0, k0⟩ := h t0 (by simp)
  obtain ⟨x0, y0, z0, hx0, _, _, _⟩ := pc_PPl _ hp0
  obtain ⟨v0, w0⟩ := t0
  simp only at he0 hx0
  subst he0 hx0
  obtain ⟨hp1, a1, b1, he1, l1, k1⟩ := h t1 (by simp)
  obtain ⟨x1, y1, z1, hx1, _, _, _⟩ := pc_PPl _ hp1
  obtain ⟨v1, w1⟩ := t1
  simp only at he1 hx1
  subst he1 hx1
  obtain ⟨hp2, a2, b2, he2, l2, k2⟩ := h t2 (by simp)
  obtain ⟨x2, y2, z2, hx2, _, _, _⟩ := pc_PPl _ hp2
  obtain ⟨v2, w2⟩ := t2
  simp only at he2 hx2
  subst he2 hx2
  have q0 : a0 = 1 ∨ a0 = 2 ∨ a0 = 3 := by omega
  have q1 : a1 = 1 ∨ a1 = 2 ∨ a1 = 3 := by omega
  have q2 : a2 = 1 ∨ a2 = 2 ∨ a2 = 3 := by omega
  rcases q0 with rfl | rfl | rfl <;> rcases q1 with rfl | rfl | rfl <;> rcases q2 with rfl | rfl | rfl
  ·exact ⟨[[0, 1, 2]], grK3_1_1_1 b0 x0 y0 z0 b1 x1 y1 z1 b2 x2 y2 z2, by simp, by simp⟩
  ·exact ⟨[[0, 1], [2]], grK3_1_1_2 b0 x0 y0 z0 b1 x1 y1 z1 b2 x2 y2 z2, by simp, by simp⟩
  ·exact ⟨[[0, 1], [2]], grK3_1_1_3 b0 x0 y0 z0 b1 x1 y1 z1 b2 x2 y2 z2, by simp, by simp⟩
  ·exact ⟨[[0, 2], [1]], grK3_1_2_1 b0 x0 y0 z0 b1 x1 y1 z1 b2 x2 y2 z2, by simp, by simp⟩
  ·exact ⟨[[0], [1, 2]], grK3_1_2_2 b0 x0 y0 z0 b1 x1 y1 z1 b2 x2 y2 z2, by simp, by simp⟩
  ·exact ⟨[[0], [1], [2]], grK3_1_2_3 b0 x0 y0 z0 b1 x1 y1 z1 b2 x2 y2 z2, by simp, by simp⟩
  ·exact ⟨[[0, 2], [1]], grK3_1_3_1 b0 x0 y0 z0 b1 x1 y1 z1 b2 x2 y2 z2, by simp, by simp⟩
  ·exact ⟨[[0], [2], [1]], grK3_1_3_2 b0 x0 y0 z0 b1 x1 y1 z1 b2 x2 y2 z2, by simp, by simp⟩
  ·exact ⟨[[0], [1, 2]], grK3_1_3_3 b0 x0 y0 z0 b1 x1 y1 z1 b2 x2 y2 z2, by simp, by simp⟩
  ·exact ⟨[[1, 2], [0]], grK3_2_1_1 b0 x0 y0 z0 b1 x1 y1 z1 b2 x2 y2 z2, by simp, by simp⟩
  ·exact ⟨[[1], [0, 2]], grK3_2_1_2 b0 x0 y0 z0 b1 x1 y1 z1 b2 x2 y2 z2, by simp, by simp⟩
  ·exact ⟨[[1], [0], [2]], grK3_2_1_3 b0 x0 y0 z0 b1 x1 y1 z1 b2 x2 y2 z2, by simp, by simp⟩
  ·exact ⟨[[2], [0, 1]], grK3_2_2_1 b0 x0 y0 z0 b1 x1 y1 z1 b2 x2 y2 z2, by simp, by simp⟩
  ·exact ⟨[[0, 1, 2]], grK3_2_2_2 b0 x0 y0 z0 b1 x1 y1 z1 b2 x2 y2 z2, by simp, by simp⟩
  ·exact ⟨[[0, 1], [2]], grK3_2_2_3 b0 x0 y0 z0 b1 x1 y1 z1 b2 x2 y2 z2, by simp, by simp⟩
  ·exact ⟨[[2], [0], [1]], grK3_2_3_1 b0 x0 y0 z0 b1 x1 y1 z1 b2 x2 y2 z2, by simp, by simp⟩
  ·exact ⟨[[0, 2], [1]], grK3_2_3_2 b0 x0 y0 z0 b1 x1 y1 z1 b2 x2 y2 z2, by simp, by simp⟩
  ·exact ⟨[[0], [1, 2]], grK3_2_3_3 b0 x0 y0 z0 b1 x1 y1 z1 b2 x2 y2 z2, by simp, by simp⟩
  ·exact ⟨[[1, 2], [0]], grK3_3_1_1 b0 x0 y0 z0 b1 x1 y1 z1 b2 x2 y2 z2, by simp, by simp⟩
  ·exact ⟨[[1], [2], [0]], grK3_3_1_2 b0 x0 y0 z0 b1 x1 y1 z1 b2 x2 y2 z2, by simp, by simp⟩
  ·exact ⟨[[1], [0, 2]], grK3_3_1_3 b0 x0 y0 z0 b1 x1 y1 z1 b2 x2 y2 z2, by simp, by simp⟩
  ·exact ⟨[[2], [1], [0]], grK3_3_2_1 b0 x0 y0 z0 b1 x1 y1 z1 b2 x2 y2 z2, by simp, by simp⟩
  ·exact ⟨[[1, 2], [0]], grK3_3_2_2 b0 x0 y0 z0 b1 x1 y1 z1 b2 x2 y2 z2, by simp, by simp⟩
  ·exact ⟨[[1], [0, 2]], grK3_3_2_3 b0 x0 y0 z0 b1 x1 y1 z1 b2 x2 y2 z2, by simp, by simp⟩
  ·exact ⟨[[2], [0, 1]], grK3_3_3_1 b0 x0 y0 z0 b1 x1 y1 z1 b2 x2 y2 z2, by simp, by simp⟩
  ·exact ⟨[[2], [0, 1]], grK3_3_3_2 b0 x0 y0 z0 b1 x1 y1 z1 b2 x2 y2 z2, by simp, by simp⟩
  ·exact ⟨[[0, 1, 2]], grK3_3_3_3 b0 x0 y0 z0 b1 x1 y1 z1 b2 x2 y2 z2, by simp, by simp⟩
 | _ :: _ :: _ :: _ :: _, h => exact absurd h (by simp)
theorem okK (tu : List (List Int × List F)) (hn : tu.length ≤ 3) (h : ∀ t ∈ tu, TuK t) : RelOk SSp PPp (rK tu) where
 co := rfl
 cc := rfl
 v := P2640
 n := hn
 p := fun t ht => (h t ht).1
 c := fun t ht => ckK t (h t ht)
 l := fun t ht => by obtain ⟨_, a, b, he, _, _⟩ := h t ht; rw [he]; simp
 g := gK tu hn h
noncomputable def coC : F := .sl 3 [[.s [97],.i .i64 1,.b false],[.s [98],.i .i64 1,.b false]]
noncomputable def rC (tu : List (List Int × List F)) : Rl := ⟨[67], true, coC, tu⟩
def TuC (t : List Int × List F) : Prop := PPp t.2 ∧ ∃ a b : Int, t.1 = [a, b]
theorem ckC (t : List Int × List F) (h : TuC t) : ∃ e, Ans pr 35 [.ag [.s [67], .b true, coC], .ag (tuF t)] (.i .i64 e) := by
 obtain ⟨hp, a, b, he⟩ := h
 obtain ⟨vs, p⟩ := t
 simp only at he
 subst he
 exact allL (P := fun p => ∃ e, Ans pr 35 [.ag [.s [67], .b true, coC], .ag (tuF ([a, b], p))] (.i .i64 e)) (l := PPl) ⟨⟨_, ctC0 a b⟩, ⟨_, ctC1 a b⟩, ⟨_, ctC2 a b⟩, ⟨_, ctC3 a b⟩, ⟨_, ctC4 a b⟩, ⟨_, ctC5 a b⟩, ⟨_, ctC6 a b⟩, ⟨_, ctC7 a b⟩, trivial⟩ p hp
theorem gC (tu : List (List Int × List F)) (hn : tu.length ≤ 3) (h : ∀ t ∈ tu, TuC t) : ∃ B : List (List Nat), Ans pr 71 [.ag (rlF (rC tu))] (blkF B) ∧ B.length ≤ 3 ∧ ∀ b ∈ B, b.length ≤ 3 ∧ ∀ i ∈ b, i < tu.length := by
 exact ⟨[], grC _, by simp, by simp⟩
theorem okC (tu : List (List Int × List F)) (hn : tu.length ≤ 3) (h : ∀ t ∈ tu, TuC t) : RelOk SSp PPp (rC tu) where
 co := rfl
 cc := rfl
 v := P2642
 n := hn
 p := fun t ht => (h t ht).1
 c := fun t ht => ckC t (h t ht)
 l := fun t ht => by obtain ⟨_, a, b, he⟩ := h t ht; rw [he]; simp
 g := gC tu hn h
end Go.Proofs.YtffjpakgkecheaaGreat
