/- The conjunctive queries of the builder: what they are read from, what splitting makes of them. Written by program. -/
import Derived.Test.YtffjpakgkecheaaGreatFs
import Derived.Test.YtffjpakgkecheaaGreatW6
import Derived.Test.YtffjpakgkecheaaGreatPM0
import Derived.Test.YtffjpakgkecheaaGreatPM5
import Derived.Test.YtffjpakgkecheaaGreatPM6
set_option linter.all false
namespace Go.Proofs.YtffjpakgkecheaaGreat
open Go Go.Vse Go.Vse.Sm
set_option maxRecDepth 100000
set_option maxHeartbeats 4000000
noncomputable def cq0 : CQ := ⟨[⟨[82], false, [.var [120], .var [121]]⟩], []⟩
noncomputable def cq1 : CQ := ⟨[⟨[82], false, [.var [120], .var [121]]⟩, ⟨[83], false, [.var [121]]⟩], []⟩
noncomputable def cq2 : CQ := ⟨[⟨[82], false, [.var [120], .var [121]]⟩, ⟨[83], false, [.var [120]]⟩], []⟩
noncomputable def cq3 : CQ := ⟨[⟨[82], false, [.var [120], .var [121]]⟩, ⟨[75], false, [.var [121], .var [122]]⟩], []⟩
noncomputable def cq4 : CQ := ⟨[⟨[75], false, [.var [120], .var [121]]⟩, ⟨[83], false, [.var [121]]⟩], []⟩
noncomputable def cq5 : CQ := ⟨[⟨[82], false, [.var [120], .var [121]]⟩, ⟨[82], false, [.var [121], .var [122]]⟩], []⟩
noncomputable def cq6 : CQ := ⟨[⟨[82], false, [.var [120], .var [121]]⟩, ⟨[82], false, [.var [121], .var [120]]⟩], []⟩
noncomputable def cq7 : CQ := ⟨[⟨[67], false, [.var [120], .var [121]]⟩, ⟨[82], false, [.var [121], .var [122]]⟩], []⟩
noncomputable def cq8 : CQ := ⟨[⟨[82], false, [.var [120], .var [121]]⟩, ⟨[83], true, [.var [121]]⟩], []⟩
noncomputable def cq9 : CQ := ⟨[⟨[83], false, [.var [120]]⟩, ⟨[82], true, [.var [120], .cst 1]⟩], []⟩
noncomputable def cq10 : CQ := ⟨[⟨[83], false, [.var [120]]⟩, ⟨[82], true, [.var [120], .cst 2]⟩], []⟩
noncomputable def cq11 : CQ := ⟨[⟨[83], false, [.var [120]]⟩, ⟨[82], true, [.var [120], .cst 3]⟩], []⟩
noncomputable def cq12 : CQ := ⟨[⟨[67], false, [.var [120], .var [121]]⟩, ⟨[83], false, [.var [121]]⟩, ⟨[75], true, [.var [120], .var [121]]⟩], []⟩
noncomputable def cq13 : CQ := ⟨[⟨[82], false, [.var [120], .var [121]]⟩, ⟨[83], false, [.var [120]]⟩, ⟨[83], false, [.var [121]]⟩], []⟩
noncomputable def cq14 : CQ := ⟨[⟨[75], false, [.var [120], .var [121]]⟩, ⟨[75], false, [.var [122], .var [121]]⟩], []⟩
noncomputable def cq15 : CQ := ⟨[⟨[82], false, [.var [120], .cst 1]⟩], []⟩
noncomputable def cq16 : CQ := ⟨[⟨[82], false, [.var [120], .cst 2]⟩], []⟩
noncomputable def cq17 : CQ := ⟨[⟨[82], false, [.var [120], .cst 3]⟩], []⟩
noncomputable def cq18 : CQ := ⟨[⟨[83], false, [.var [120]]⟩, ⟨[75], false, [.var [120], .cst 1]⟩], []⟩
noncomputable def cq19 : CQ := ⟨[⟨[83], false, [.var [120]]⟩, ⟨[75], false, [.var [120], .cst 2]⟩], []⟩
noncomputable def cq20 : CQ := ⟨[⟨[83], false, [.var [120]]⟩, ⟨[75], false, [.var [120], .cst 3]⟩], []⟩
noncomputable def cq21 : CQ := ⟨[⟨[82], false, [.var [120], .var [121]]⟩], [⟨3, .var [120], .var [121]⟩]⟩
noncomputable def cq22 : CQ := ⟨[⟨[82], false, [.var [120], .var [121]]⟩, ⟨[83], false, [.var [122]]⟩], [⟨2, .var [121], .var [122]⟩]⟩
noncomputable def cq23 : CQ := ⟨[⟨[83], false, [.var [120]]⟩, ⟨[83], false, [.var [121]]⟩], [⟨4, .var [120], .var [121]⟩]⟩
noncomputable def cq24 : CQ := ⟨[⟨[67], false, [.var [120], .var [121]]⟩, ⟨[82], true, [.var [120], .var [121]]⟩], []⟩
noncomputable def cq25 : CQ := ⟨[⟨[82], false, [.var [120], .var [120]]⟩], []⟩
noncomputable def cq26 : CQ := ⟨[⟨[83], false, [.var [120]]⟩], [⟨1, .var [120], .cst 1⟩]⟩
noncomputable def cq27 : CQ := ⟨[⟨[83], false, [.var [120]]⟩], [⟨1, .var [120], .cst 2⟩]⟩
noncomputable def cq28 : CQ := ⟨[⟨[83], false, [.var [120]]⟩], [⟨1, .var [120], .cst 3⟩]⟩
noncomputable def cq29 : CQ := ⟨[⟨[75], false, [.var [120], .var [121]]⟩, ⟨[82], false, [.var [121], .var [122]]⟩, ⟨[83], false, [.var [122]]⟩], []⟩
noncomputable def cq30 : CQ := ⟨[⟨[82], false, [.var [120], .var [121]]⟩, ⟨[82], false, [.var [120], .var [122]]⟩], [⟨3, .var [121], .var [122]⟩]⟩
noncomputable def cq31 : CQ := ⟨[⟨[75], false, [.var [120], .cst 1]⟩, ⟨[67], false, [.var [121], .var [120]]⟩], []⟩
noncomputable def cq32 : CQ := ⟨[⟨[75], false, [.var [120], .cst 2]⟩, ⟨[67], false, [.var [121], .var [120]]⟩], []⟩
noncomputable def cq33 : CQ := ⟨[⟨[75], false, [.var [120], .cst 3]⟩, ⟨[67], false, [.var [121], .var [120]]⟩], []⟩
noncomputable def CQl : List CQ := [cq0, cq1, cq2, cq3, cq4, cq5, cq6, cq7, cq8, cq9, cq10, cq11, cq12, cq13, cq14, cq15, cq16, cq17, cq18, cq19, cq20, cq21, cq22, cq23, cq24, cq25, cq26, cq27, cq28, cq29, cq30, cq31, cq32, cq33]
noncomputable def pa0 : List UInt8 := [82,40,120,44,32,121,41]
noncomputable def pa1 : List UInt8 := [82,40,120,44,32,121,41,44,32,83,40,121,41]
noncomputable def pa2 : List UInt8 := [82,40,120,44,32,121,41,44,32,83,40,120,41]
noncomputable def pa3 : List UInt8 := [82,40,120,44,32,121,41,44,32,75,40,121,44,32,122,41]
noncomputable def pa4 : List UInt8 := [75,40,120,44,32,121,41,44,32,83,40,121,41]
noncomputable def pa5 : List UInt8 := [82,40,120,44,32,121,41,44,32,82,40,121,44,32,122,41]
noncomputable def pa6 : List UInt8 := [82,40,120,44,32,121,41,44,32,82,40,121,44,32,120,41]
noncomputable def pa7 : List UInt8 := [67,40,120,44,32,121,41,44,32,82,40,121,44,32,122,41]
noncomputable def pa8 : List UInt8 := [82,40,120,44,32,121,41,44,32,110,111,116,32,83,40,121,41]
noncomputable def pa9 : List UInt8 := [83,40,120,41,44,32,110,111,116,32,82,40,120,44,32,64,41]
noncomputable def pa10 : List UInt8 := [67,40,120,44,32,121,41,44,32,83,40,121,41,44,32,110,111,116,32,75,40,120,44,32,121,41]
noncomputable def pa11 : List UInt8 := [82,40,120,44,32,121,41,44,32,83,40,120,41,44,32,83,40,121,41]
noncomputable def pa12 : List UInt8 := [75,40,120,44,32,121,41,44,32,75,40,122,44,32,121,41]
noncomputable def pa13 : List UInt8 := [82,40,120,44,32,64,41]
noncomputable def pa14 : List UInt8 := [83,40,120,41,44,32,75,40,120,44,32,64,41]
noncomputable def pa15 : List UInt8 := [82,40,120,44,32,121,41,44,32,120,32,60,32,121]
noncomputable def pa16 : List UInt8 := [82,40,120,44,32,121,41,44,32,83,40,122,41,44,32,121,32,33,61,32,122]
noncomputable def pa17 : List UInt8 := [83,40,120,41,44,32,83,40,121,41,44,32,120,32,60,61,32,121]
noncomputable def pa18 : List UInt8 := [67,40,120,44,32,121,41,44,32,110,111,116,32,82,40,120,44,32,121,41]
noncomputable def pa19 : List UInt8 := [82,40,120,44,32,120,41]
noncomputable def pa20 : List UInt8 := [83,40,120,41,44,32,120,32,61,32,64]
noncomputable def pa21 : List UInt8 := [75,40,120,44,32,121,41,44,32,82,40,121,44,32,122,41,44,32,83,40,122,41]
noncomputable def pa22 : List UInt8 := [82,40,120,44,32,121,41,44,32,82,40,120,44,32,122,41,44,32,121,32,60,32,122]
noncomputable def pa23 : List UInt8 := [75,40,120,44,32,64,41,44,32,67,40,121,44,32,120,41]
noncomputable def paL : List (List F) := [[.s pa0], [.s pa1], [.s pa2], [.s pa3], [.s pa4], [.s pa5], [.s pa6], [.s pa7], [.s pa8], [.s pa9], [.s pa10], [.s pa11], [.s pa12], [.s pa13], [.s pa14], [.s pa15], [.s pa16], [.s pa17], [.s pa18], [.s pa19], [.s pa20], [.s pa21], [.s pa22], [.s pa23]]
theorem rq {fs : List F} {y : F} {l : List En} (ha : AnsAll pr l) (h : runP (orcL 134217728 l) pr 400 19 fs = some y) : Ans pr 19 fs y := runE (e := (19, fs, y)) ha h
theorem ans18 : Ans pr 18 [] (.sl 1 paL) := P74
theorem rd0 (k : Nat) (_ : k < 8) : ∃ c ∈ CQl, Ans pr 19 [.s pa0, .i .i64 k] (.ag (cqF c)) := ⟨cq0, mg 0 rfl, rq (aU P2656<|aZ) (by kernel_rfl)⟩
theorem rd1 (k : Nat) (_ : k < 8) : ∃ c ∈ CQl, Ans pr 19 [.s pa1, .i .i64 k] (.ag (cqF c)) := ⟨cq1, mg 1 rfl, rq (aU P2660<|aZ) (by kernel_rfl)⟩
theorem rd2 (k : Nat) (_ : k < 8) : ∃ c ∈ CQl, Ans pr 19 [.s pa2, .i .i64 k] (.ag (cqF c)) := ⟨cq2, mg 2 rfl, rq (aU P2662<|aZ) (by kernel_rfl)⟩
theorem rd3 (k : Nat) (_ : k < 8) : ∃ c ∈ CQl, Ans pr 19 [.s pa3, .i .i64 k] (.ag (cqF c)) := ⟨cq3, mg 3 rfl, rq (aU P2668<|aZ) (by kernel_rfl)⟩
theorem rd4 (k : Nat) (_ : k < 8) : ∃ c ∈ CQl, Ans pr 19 [.s pa4, .i .i64 k] (.ag (cqF c)) := ⟨cq4, mg 4 rfl, rq (aU P2670<|aZ) (by kernel_rfl)⟩
theorem rd5 (k : Nat) (_ : k < 8) : ∃ c ∈ CQl, Ans pr 19 [.s pa5, .i .i64 k] (.ag (cqF c)) := ⟨cq5, mg 5 rfl, rq (aU P2672<|aZ) (by kernel_rfl)⟩
theorem rd6 (k : Nat) (_ : k < 8) : ∃ c ∈ CQl, Ans pr 19 [.s pa6, .i .i64 k] (.ag (cqF c)) := ⟨cq6, mg 6 rfl, rq (aU P2674<|aZ) (by kernel_rfl)⟩
theorem rd7 (k : Nat) (_ : k < 8) : ∃ c ∈ CQl, Ans pr 19 [.s pa7, .i .i64 k] (.ag (cqF c)) := ⟨cq7, mg 7 rfl, rq (aU P2678<|aZ) (by kernel_rfl)⟩
theorem rd8 (k : Nat) (_ : k < 8) : ∃ c ∈ CQl, Ans pr 19 [.s pa8, .i .i64 k] (.ag (cqF c)) := ⟨cq8, mg 8 rfl, rq (aU P2685<|aZ) (by kernel_rfl)⟩
theorem rd9 : ∀ k : Nat, k < 8 → ∃ c ∈ CQl, Ans pr 19 [.s pa9, .i .i64 k] (.ag (cqF c))
 | 0, _ => ⟨cq9, mg 9 rfl, rq (aU P2699<|aZ) (by kernel_rfl)⟩
 | 1, _ => ⟨cq10, mg 10 rfl, rq (aU P2714<|aZ) (by kernel_rfl)⟩
 | 2, _ => ⟨cq11, mg 11 rfl, rq (aU P2729<|aZ) (by kernel_rfl)⟩
 | 3, _ => ⟨cq9, mg 9 rfl, rq (aU P2699<|aZ) (by kernel_rfl)⟩
 | 4, _ => ⟨cq10, mg 10 rfl, rq (aU P2714<|aZ) (by kernel_rfl)⟩
 | 5, _ => ⟨cq11, mg 11 rfl, rq (aU P2729<|aZ) (by kernel_rfl)⟩
 | 6, _ => ⟨cq9, mg 9 rfl, rq (aU P2699<|aZ) (by kernel_rfl)⟩
 | 7, _ => ⟨cq10, mg 10 rfl, rq (aU P2714<|aZ) (by kernel_rfl)⟩
 | _ + 8, h => absurd h (by omega)
theorem rd10 (k : Nat) (_ : k < 8) : ∃ c ∈ CQl, Ans pr 19 [.s pa10, .i .i64 k] (.ag (cqF c)) := ⟨cq12, mg 12 rfl, rq (aU P2731<|aZ) (by kernel_rfl)⟩
theorem rd11 (k : Nat) (_ : k < 8) : ∃ c ∈ CQl, Ans pr 19 [.s pa11, .i .i64 k] (.ag (cqF c)) := ⟨cq13, mg 13 rfl, rq (aU P2733<|aZ) (by kernel_rfl)⟩
theorem rd12 (k : Nat) (_ : k < 8) : ∃ c ∈ CQl, Ans pr 19 [.s pa12, .i .i64 k] (.ag (cqF c)) := ⟨cq14, mg 14 rfl, rq (aU P2735<|aZ) (by kernel_rfl)⟩
theorem rd13 : ∀ k : Nat, k < 8 → ∃ c ∈ CQl, Ans pr 19 [.s pa13, .i .i64 k] (.ag (cqF c))
 | 0, _ => ⟨cq15, mg 15 rfl, rq (aU P2739<|aZ) (by kernel_rfl)⟩
 | 1, _ => ⟨cq16, mg 16 rfl, rq (aU P2743<|aZ) (by kernel_rfl)⟩
 | 2, _ => ⟨cq17, mg 17 rfl, rq (aU P2747<|aZ) (by kernel_rfl)⟩
 | 3, _ => ⟨cq15, mg 15 rfl, rq (aU P2739<|aZ) (by kernel_rfl)⟩
 | 4, _ => ⟨cq16, mg 16 rfl, rq (aU P2743<|aZ) (by kernel_rfl)⟩
 | 5, _ => ⟨cq17, mg 17 rfl, rq (aU P2747<|aZ) (by kernel_rfl)⟩
 | 6, _ => ⟨cq15, mg 15 rfl, rq (aU P2739<|aZ) (by kernel_rfl)⟩
 | 7, _ => ⟨cq16, mg 16 rfl, rq (aU P2743<|aZ) (by kernel_rfl)⟩
 | _ + 8, h => absurd h (by omega)
theorem rd14 : ∀ k : Nat, k < 8 → ∃ c ∈ CQl, Ans pr 19 [.s pa14, .i .i64 k] (.ag (cqF c))
 | 0, _ => ⟨cq18, mg 18 rfl, rq (aU P2751<|aZ) (by kernel_rfl)⟩
 | 1, _ => ⟨cq19, mg 19 rfl, rq (aU P2755<|aZ) (by kernel_rfl)⟩
 | 2, _ => ⟨cq20, mg 20 rfl, rq (aU P2759<|aZ) (by kernel_rfl)⟩
 | 3, _ => ⟨cq18, mg 18 rfl, rq (aU P2751<|aZ) (by kernel_rfl)⟩
 | 4, _ => ⟨cq19, mg 19 rfl, rq (aU P2755<|aZ) (by kernel_rfl)⟩
 | 5, _ => ⟨cq20, mg 20 rfl, rq (aU P2759<|aZ) (by kernel_rfl)⟩
 | 6, _ => ⟨cq18, mg 18 rfl, rq (aU P2751<|aZ) (by kernel_rfl)⟩
 | 7, _ => ⟨cq19, mg 19 rfl, rq (aU P2755<|aZ) (by kernel_rfl)⟩
 | _ + 8, h => absurd h (by omega)
theorem rd15 (k : Nat) (_ : k < 8) : ∃ c ∈ CQl, Ans pr 19 [.s pa15, .i .i64 k] (.ag (cqF c)) := ⟨cq21, mg 21 rfl, rq (aU P2763<|aZ) (by kernel_rfl)⟩
theorem rd16 (k : Nat) (_ : k < 8) : ∃ c ∈ CQl, Ans pr 19 [.s pa16, .i .i64 k] (.ag (cqF c)) := ⟨cq22, mg 22 rfl, rq (aU P2767<|aZ) (by kernel_rfl)⟩
theorem rd17 (k : Nat) (_ : k < 8) : ∃ c ∈ CQl, Ans pr 19 [.s pa17, .i .i64 k] (.ag (cqF c)) := ⟨cq23, mg 23 rfl, rq (aU P2769<|aZ) (by kernel_rfl)⟩
theorem rd18 (k : Nat) (_ : k < 8) : ∃ c ∈ CQl, Ans pr 19 [.s pa18, .i .i64 k] (.ag (cqF c)) := ⟨cq24, mg 24 rfl, rq (aU P2771<|aZ) (by kernel_rfl)⟩
theorem rd19 (k : Nat) (_ : k < 8) : ∃ c ∈ CQl, Ans pr 19 [.s pa19, .i .i64 k] (.ag (cqF c)) := ⟨cq25, mg 25 rfl, rq (aU P2773<|aZ) (by kernel_rfl)⟩
theorem rd20 : ∀ k : Nat, k < 8 → ∃ c ∈ CQl, Ans pr 19 [.s pa20, .i .i64 k] (.ag (cqF c))
 | 0, _ => ⟨cq26, mg 26 rfl, rq (aU P2779<|aZ) (by kernel_rfl)⟩
 | 1, _ => ⟨cq27, mg 27 rfl, rq (aU P2783<|aZ) (by kernel_rfl)⟩
 | 2, _ => ⟨cq28, mg 28 rfl, rq (aU P2787<|aZ) (by kernel_rfl)⟩
 | 3, _ => ⟨cq26, mg 26 rfl, rq (aU P2779<|aZ) (by kernel_rfl)⟩
 | 4, _ => ⟨cq27, mg 27 rfl, rq (aU P2783<|aZ) (by kernel_rfl)⟩
 | 5, _ => ⟨cq28, mg 28 rfl, rq (aU P2787<|aZ) (by kernel_rfl)⟩
 | 6, _ => ⟨cq26, mg 26 rfl, rq (aU P2779<|aZ) (by kernel_rfl)⟩
 | 7, _ => ⟨cq27, mg 27 rfl, rq (aU P2783<|aZ) (by kernel_rfl)⟩
 | _ + 8, h => absurd h (by omega)
theorem rd21 (k : Nat) (_ : k < 8) : ∃ c ∈ CQl, Ans pr 19 [.s pa21, .i .i64 k] (.ag (cqF c)) := ⟨cq29, mg 29 rfl, rq (aU P2789<|aZ) (by kernel_rfl)⟩
theorem rd22 (k : Nat) (_ : k < 8) : ∃ c ∈ CQl, Ans pr 19 [.s pa22, .i .i64 k] (.ag (cqF c)) := ⟨cq30, mg 30 rfl, rq (aU P2791<|aZ) (by kernel_rfl)⟩
theorem rd23 : ∀ k : Nat, k < 8 → ∃ c ∈ CQl, Ans pr 19 [.s pa23, .i .i64 k] (.ag (cqF c))
 | 0, _ => ⟨cq31, mg 31 rfl, rq (aU P2795<|aZ) (by kernel_rfl)⟩
 | 1, _ => ⟨cq32, mg 32 rfl, rq (aU P2799<|aZ) (by kernel_rfl)⟩
 | 2, _ => ⟨cq33, mg 33 rfl, rq (aU P2803<|aZ) (by kernel_rfl)⟩
 | 3, _ => ⟨cq31, mg 31 rfl, rq (aU P2795<|aZ) (by kernel_rfl)⟩
 | 4, _ => ⟨cq32, mg 32 rfl, rq (aU P2799<|aZ) (by kernel_rfl)⟩
 | 5, _ => ⟨cq33, mg 33 rfl, rq (aU P2803<|aZ) (by kernel_rfl)⟩
 | 6, _ => ⟨cq31, mg 31 rfl, rq (aU P2795<|aZ) (by kernel_rfl)⟩
 | 7, _ => ⟨cq32, mg 32 rfl, rq (aU P2799<|aZ) (by kernel_rfl)⟩
 | _ + 8, h => absurd h (by omega)
theorem rdAll (j : Nat) (hj : j < 24) (k : Nat) (hk : k < 8) : ∃ c ∈ CQl, ∃ p, paL[j]? = some [.s p] ∧ Ans pr 19 [.s p, .i .i64 k] (.ag (cqF c)) := by
 match j, hj with
 | 0, _ => obtain ⟨c, h1, h2⟩ := rd0 k hk; exact ⟨c, h1, pa0, rfl, h2⟩
 | 1, _ => obtain ⟨c, h1, h2⟩ := rd1 k hk; exact ⟨c, h1, pa1, rfl, h2⟩
 | 2, _ => obtain ⟨c, h1, h2⟩ := rd2 k hk; exact ⟨c, h1, pa2, rfl, h2⟩
 | 3, _ => obtain ⟨c, h1, h2⟩ := rd3 k hk; exact ⟨c, h1, pa3, rfl, h2⟩
 | 4, _ => obtain ⟨c, h1, h2⟩ := rd4 k hk; exact ⟨c, h1, pa4, rfl, h2⟩
 | 5, _ => obtain ⟨c, h1, h2⟩ := rd5 k hk; exact ⟨c, h1, pa5, rfl, h2⟩
 | 6, _ => obtain ⟨c, h1, h2⟩ := rd6 k hk; exact ⟨c, h1, pa6, rfl, h2⟩
 | 7, _ => obtain ⟨c, h1, h2⟩ := rd7 k hk; exact ⟨c, h1, pa7, rfl, h2⟩
 | 8, _ => obtain ⟨c, h1, h2⟩ := rd8 k hk; exact ⟨c, h1, pa8, rfl, h2⟩
 | 9, _ => obtain ⟨c, h1, h2⟩ := rd9 k hk; exact ⟨c, h1, pa9, rfl, h2⟩
 | 10, _ => obtain ⟨c, h1, h2⟩ := rd10 k hk; exact ⟨c, h1, pa10, rfl, h2⟩
 | 11, _ => obtain ⟨c, h1, h2⟩ := rd11 k hk; exact ⟨c, h1, pa11, rfl, h2⟩
 | 12, _ => obtain ⟨c, h1, h2⟩ := rd12 k hk; exact ⟨c, h1, pa12, rfl, h2⟩
 | 13, _ => obtain ⟨c, h1, h2⟩ := rd13 k hk; exact ⟨c, h1, pa13, rfl, h2⟩
 | 14, _ => obtain ⟨c, h1, h2⟩ := rd14 k hk; exact ⟨c, h1, pa14, rfl, h2⟩
 | 15, _ => obtain ⟨c, h1, h2⟩ := rd15 k hk; exact ⟨c, h1, pa15, rfl, h2⟩
 | 16, _ => obtain ⟨c, h1, h2⟩ := rd16 k hk; exact ⟨c, h1, pa16, rfl, h2⟩
 | 17, _ => obtain ⟨c, h1, h2⟩ := rd17 k hk; exact ⟨c, h1, pa17, rfl, h2⟩
 | 18, _ => obtain ⟨c, h1, h2⟩ := rd18 k hk; exact ⟨c, h1, pa18, rfl, h2⟩
 | 19, _ => obtain ⟨c, h1, h2⟩ := rd19 k hk; exact ⟨c, h1, pa19, rfl, h2⟩
 | 20, _ => obtain ⟨c, h1, h2⟩ := rd20 k hk; exact ⟨c, h1, pa20, rfl, h2⟩
 | 21, _ => obtain ⟨c, h1, h2⟩ := rd21 k hk; exact ⟨c, h1, pa21, rfl, h2⟩
 | 22, _ => obtain ⟨c, h1, h2⟩ := rd22 k hk; exact ⟨c, h1, pa22, rfl, h2⟩
 | 23, _ => obtain ⟨c, h1, h2⟩ := rd23 k hk; exact ⟨c, h1, pa23, rfl, h2⟩
 | _ + 24, h => omega
def CqGood (c : CQ) : Prop := CqOk c ∧ (∃ a ∈ c.as, a.neg = false ∧ Trm.var [120] ∈ a.ts) ∧ ∀ v : Nat, v ≤ 3 → Ans pr 7 [.ag (cqF c), .s [120], .ag (vF (v : Int))] (.sl 2 [cqF (sub c [120] v), cqF (more c [120] v)])
theorem sp0 : ∀ v : Nat, v ≤ 3 → Ans pr 7 [.ag (cqF cq0), .s [120], .ag (vF (v : Int))] (.sl 2 [cqF (sub cq0 [120] v), cqF (more cq0 [120] v)])
 | 0, _ => runP_ans (n := 1000) (orc0_ok pr) (by kernel_rfl)
 | 1, _ => runP_ans (n := 1000) (orc0_ok pr) (by kernel_rfl)
 | 2, _ => runP_ans (n := 1000) (orc0_ok pr) (by kernel_rfl)
 | 3, _ => runP_ans (n := 1000) (orc0_ok pr) (by kernel_rfl)
 | _ + 4, h => absurd h (by omega)
theorem cg0 : CqGood cq0 := ⟨⟨by decide, by decide, by simp [cq0, TmOk], by simp [cq0, TmOk]⟩, by simp [cq0], sp0⟩
theorem sp1 : ∀ v : Nat, v ≤ 3 → Ans pr 7 [.ag (cqF cq1), .s [120], .ag (vF (v : Int))] (.sl 2 [cqF (sub cq1 [120] v), cqF (more cq1 [120] v)])
 | 0, _ => runP_ans (n := 1000) (orc0_ok pr) (by kernel_rfl)
 | 1, _ => runP_ans (n := 1000) (orc0_ok pr) (by kernel_rfl)
 | 2, _ => runP_ans (n := 1000) (orc0_ok pr) (by kernel_rfl)
 | 3, _ => runP_ans (n := 1000) (orc0_ok pr) (by kernel_rfl)
 | _ + 4, h => absurd h (by omega)
theorem cg1 : CqGood cq1 := ⟨⟨by decide, by decide, by simp [cq1, TmOk], by simp [cq1, TmOk]⟩, by simp [cq1], sp1⟩
theorem sp2 : ∀ v : Nat, v ≤ 3 → Ans pr 7 [.ag (cqF cq2), .s [120], .ag (vF (v : Int))] (.sl 2 [cqF (sub cq2 [120] v), cqF (more cq2 [120] v)])
 | 0, _ => runP_ans (n := 1000) (orc0_ok pr) (by kernel_rfl)
 | 1, _ => runP_ans (n := 1000) (orc0_ok pr) (by kernel_rfl)
 | 2, _ => runP_ans (n := 1000) (orc0_ok pr) (by kernel_rfl)
 | 3, _ => runP_ans (n := 1000) (orc0_ok pr) (by kernel_rfl)
 | _ + 4, h => absurd h (by omega)
theorem cg2 : CqGood cq2 := ⟨⟨by decide, by decide, by simp [cq2, TmOk], by simp [cq2, TmOk]⟩, by simp [cq2], sp2⟩
theorem sp3 : ∀ v : Nat, v ≤ 3 → Ans pr 7 [.ag (cqF cq3), .s [120], .ag (vF (v : Int))] (.sl 2 [cqF (sub cq3 [120] v), cqF (more cq3 [120] v)])
 | 0, _ => runP_ans (n := 1000) (orc0_ok pr) (by kernel_rfl)
 | 1, _ => runP_ans (n := 1000) (orc0_ok pr) (by kernel_rfl)
 | 2, _ => runP_ans (n := 1000) (orc0_ok pr) (by kernel_rfl)
 | 3, _ => runP_ans (n := 1000) (orc0_ok pr) (by kernel_rfl)
 | _ + 4, h => absurd h (by omega)
theorem cg3 : CqGood cq3 := ⟨⟨by decide, by decide, by simp [cq3, TmOk], by simp [cq3, TmOk]⟩, by simp [cq3], sp3⟩
theorem sp4 : ∀ v : Nat, v ≤ 3 → Ans pr 7 [.ag (cqF cq4), .s [120], .ag (vF (v : Int))] (.sl 2 [cqF (sub cq4 [120] v), cqF (more cq4 [120] v)])
 | 0, _ => runP_ans (n := 1000) (orc0_ok pr) (by kernel_rfl)
 | 1, _ => runP_ans (n := 1000) (orc0_ok pr) (by kernel_rfl)
 | 2, _ => runP_ans (n := 1000) (orc0_ok pr) (by kernel_rfl)
 | 3, _ => runP_ans (n := 1000) (orc0_ok pr) (by kernel_rfl)
 | _ + 4, h => absurd h (by omega)
theorem cg4 : CqGood cq4 := ⟨⟨by decide, by decide, by simp [cq4, TmOk], by simp [cq4, TmOk]⟩, by simp [cq4], sp4⟩
theorem sp5 : ∀ v : Nat, v ≤ 3 → Ans pr 7 [.ag (cqF cq5), .s [120], .ag (vF (v : Int))] (.sl 2 [cqF (sub cq5 [120] v), cqF (more cq5 [120] v)])
 | 0, _ => runP_ans (n := 1000) (orc0_ok pr) (by kernel_rfl)
 | 1, _ => runP_ans (n := 1000) (orc0_ok pr) (by kernel_rfl)
 | 2, _ => runP_ans (n := 1000) (orc0_ok pr) (by kernel_rfl)
 | 3, _ => runP_ans (n := 1000) (orc0_ok pr) (by kernel_rfl)
 | _ + 4, h => absurd h (by omega)
theorem cg5 : CqGood cq5 := ⟨⟨by decide, by decide, by simp [cq5, TmOk], by simp [cq5, TmOk]⟩, by simp [cq5], sp5⟩
theorem sp6 : ∀ v : Nat, v ≤ 3 → Ans pr 7 [.ag (cqF cq6), .s [120], .ag (vF (v : Int))] (.sl 2 [cqF (sub cq6 [120] v), cqF (more cq6 [120] v)])
 | 0, _ => runP_ans (n := 1000) (orc0_ok pr) (by kernel_rfl)
 | 1, _ => runP_ans (n := 1000) (orc0_ok pr) (by kernel_rfl)
 | 2, _ => runP_ans (n := 1000) (orc0_ok pr) (by kernel_rfl)
 | 3, _ => runP_ans (n := 1000) (orc0_ok pr) (by kernel_rfl)
 | _ + 4, h => absurd h (by omega)
theorem cg6 : CqGood cq6 := ⟨⟨by decide, by decide, by simp [cq6, TmOk], by simp [cq6, TmOk]⟩, by simp [cq6], sp6⟩
theorem sp7 : ∀ v : Nat, v ≤ 3 → Ans pr 7 [.ag (cqF cq7), .s [120], .ag (vF (v : Int))] (.sl 2 [cqF (sub cq7 [120] v), cqF (more cq7 [120] v)])
 | 0, _ => runP_ans (n := 1000) (orc0_ok pr) (by kernel_rfl)
 | 1, _ => runP_ans (n := 1000) (orc0_ok pr) (by kernel_rfl)
 | 2, _ => runP_ans (n := 1000) (orc0_ok pr) (by kernel_rfl)
 | 3, _ => runP_ans (n := 1000) (orc0_ok pr) (by kernel_rfl)
 | _ + 4, h => absurd h (by omega)
theorem cg7 : CqGood cq7 := ⟨⟨by decide, by decide, by simp [cq7, TmOk], by simp [cq7, TmOk]⟩, by simp [cq7], sp7⟩
theorem sp8 : ∀ v : Nat, v ≤ 3 → Ans pr 7 [.ag (cqF cq8), .s [120], .ag (vF (v : Int))] (.sl 2 [cqF (sub cq8 [120] v), cqF (more cq8 [120] v)])
 | 0, _ => runP_ans (n := 1000) (orc0_ok pr) (by kernel_rfl)
 | 1, _ => runP_ans (n := 1000) (orc0_ok pr) (by kernel_rfl)
 | 2, _ => runP_ans (n := 1000) (orc0_ok pr) (by kernel_rfl)
 | 3, _ => runP_ans (n := 1000) (orc0_ok pr) (by kernel_rfl)
 | _ + 4, h => absurd h (by omega)
theorem cg8 : CqGood cq8 := ⟨⟨by decide, by decide, by simp [cq8, TmOk], by simp [cq8, TmOk]⟩, by simp [cq8], sp8⟩
theorem sp9 : ∀ v : Nat, v ≤ 3 → Ans pr 7 [.ag (cqF cq9), .s [120], .ag (vF (v : Int))] (.sl 2 [cqF (sub cq9 [120] v), cqF (more cq9 [120] v)])
 | 0, _ => runP_ans (n := 1000) (orc0_ok pr) (by kernel_rfl)
 | 1, _ => runP_ans (n := 1000) (orc0_ok pr) (by kernel_rfl)
 | 2, _ => runP_ans (n := 1000) (orc0_ok pr) (by kernel_rfl)
 | 3, _ => runP_ans (n := 1000) (orc0_ok pr) (by kernel_rfl)
 | _ + 4, h => absurd h (by omega)
theorem cg9 : CqGood cq9 := ⟨⟨by decide, by decide, by simp [cq9, TmOk], by simp [cq9, TmOk]⟩, by simp [cq9], sp9⟩
theorem sp10 : ∀ v : Nat, v ≤ 3 → Ans pr 7 [.ag (cqF cq10), .s [120], .ag (vF (v : Int))] (.sl 2 [cqF (sub cq10 [120] v), cqF (more cq10 [120] v)])
 | 0, _ => runP_ans (n := 1000) (orc0_ok pr) (by kernel_rfl)
 | 1, _ => runP_ans (n := 1000) (orc0_ok pr) (by kernel_rfl)
 | 2, _ => runP_ans (n := 1000) (orc0_ok pr) (by kernel_rfl)
 | 3, _ => runP_ans (n := 1000) (orc0_ok pr) (by kernel_rfl)
 | _ + 4, h => absurd h (by omega)
theorem cg10 : CqGood cq10 := ⟨⟨by decide, by decide, by simp [cq10, TmOk], by simp [cq10, TmOk]⟩, by simp [cq10], sp10⟩
theorem sp11 : ∀ v : Nat, v ≤ 3 → Ans pr 7 [.ag (cqF cq11), .s [120], .ag (vF (v : Int))] (.sl 2 [cqF (sub cq11 [120] v), cqF (more cq11 [120] v)])
 | 0, _ => runP_ans (n := 1000) (orc0_ok pr) (by kernel_rfl)
 | 1, _ => runP_ans (n := 1000) (orc0_ok pr) (by kernel_rfl)
 | 2, _ => runP_ans (n := 1000) (orc0_ok pr) (by kernel_rfl)
 | 3, _ => runP_ans (n := 1000) (orc0_ok pr) (by kernel_rfl)
 | _ + 4, h => absurd h (by omega)
theorem cg11 : CqGood cq11 := ⟨⟨by decide, by decide, by simp [cq11, TmOk], by simp [cq11, TmOk]⟩, by simp [cq11], sp11⟩
theorem sp12 : ∀ v : Nat, v ≤ 3 → Ans pr 7 [.ag (cqF cq12), .s [120], .ag (vF (v : Int))] (.sl 2 [cqF (sub cq12 [120] v), cqF (more cq12 [120] v)])
 | 0, _ => runP_ans (n := 1000) (orc0_ok pr) (by kernel_rfl)
 | 1, _ => runP_ans (n := 1000) (orc0_ok pr) (by kernel_rfl)
 | 2, _ => runP_ans (n := 1000) (orc0_ok pr) (by kernel_rfl)
 | 3, _ => runP_ans (n := 1000) (orc0_ok pr) (by kernel_rfl)
 | _ + 4, h => absurd h (by omega)
theorem cg12 : CqGood cq12 := ⟨⟨by decide, by decide, by simp [cq12, TmOk], by simp [cq12, TmOk]⟩, by simp [cq12], sp12⟩
theorem sp13 : ∀ v : Nat, v ≤ 3 → Ans pr 7 [.ag (cqF cq13), .s [120], .ag (vF (v : Int))] (.sl 2 [cqF (sub cq13 [120] v), cqF (more cq13 [120] v)])
 | 0, _ => runP_ans (n := 1000) (orc0_ok pr) (by kernel_rfl)
 | 1, _ => runP_ans (n := 1000) (orc0_ok pr) (by kernel_rfl)
 | 2, _ => runP_ans (n := 1000) (orc0_ok pr) (by kernel_rfl)
 | 3, _ => runP_ans (n := 1000) (orc0_ok pr) (by kernel_rfl)
 | _ + 4, h => absurd h (by omega)
theorem cg13 : CqGood cq13 := ⟨⟨by decide, by decide, by simp [cq13, TmOk], by simp [cq13, TmOk]⟩, by simp [cq13], sp13⟩
theorem sp14 : ∀ v : Nat, v ≤ 3 → Ans pr 7 [.ag (cqF cq14), .s [120], .ag (vF (v : Int))] (.sl 2 [cqF (sub cq14 [120] v), cqF (more cq14 [120] v)])
 | 0, _ => runP_ans (n := 1000) (orc0_ok pr) (by kernel_rfl)
 | 1, _ => runP_ans (n := 1000) (orc0_ok pr) (by kernel_rfl)
 | 2, _ => runP_ans (n := 1000) (orc0_ok pr) (by kernel_rfl)
 | 3, _ => runP_ans (n := 1000) (orc0_ok pr) (by kernel_rfl)
 | _ + 4, h => absurd h (by omega)
theorem cg14 : CqGood cq14 := ⟨⟨by decide, by decide, by simp [cq14, TmOk], by simp [cq14, TmOk]⟩, by simp [cq14], sp14⟩
theorem sp15 : ∀ v : Nat, v ≤ 3 → Ans pr 7 [.ag (cqF cq15), .s [120], .ag (vF (v : Int))] (.sl 2 [cqF (sub cq15 [120] v), cqF (more cq15 [120] v)])
 | 0, _ => runP_ans (n := 1000) (orc0_ok pr) (by kernel_rfl)
 | 1, _ => runP_ans (n := 1000) (orc0_ok pr) (by kernel_rfl)
 | 2, _ => runP_ans (n := 1000) (orc0_ok pr) (by kernel_rfl)
 | 3, _ => runP_ans (n := 1000) (orc0_ok pr) (by kernel_rfl)
 | _ + 4, h => absurd h (by omega)
theorem cg15 : CqGood cq15 := ⟨⟨by decide, by decide, by simp [cq15, TmOk], by simp [cq15, TmOk]⟩, by simp [cq15], sp15⟩
theorem sp16 : ∀ v : Nat, v ≤ 3 → Ans pr 7 [.ag (cqF cq16), .s [120], .ag (vF (v : Int))] (.sl 2 [cqF (sub cq16 [120] v), cqF (more cq16 [120] v)])
 | 0, _ => runP_ans (n := 1000) (orc0_ok pr) (by kernel_rfl)
 | 1, _ => runP_ans (n := 1000) (orc0_ok pr) (by kernel_rfl)
 | 2, _ => runP_ans (n := 1000) (orc0_ok pr) (by kernel_rfl)
 | 3, _ => runP_ans (n := 1000) (orc0_ok pr) (by kernel_rfl)
 | _ + 4, h => absurd h (by omega)
theorem cg16 : CqGood cq16 := ⟨⟨by decide, by decide, by simp [cq16, TmOk], by simp [cq16, TmOk]⟩, by simp [cq16], sp16⟩
theorem sp17 : ∀ v : Nat, v ≤ 3 → Ans pr 7 [.ag (cqF cq17), .s [120], .ag (vF (v : Int))] (.sl 2 [cqF (sub cq17 [120] v), cqF (more cq17 [120] v)])
 | 0, _ => runP_ans (n := 1000) (orc0_ok pr) (by kernel_rfl)
 | 1, _ => runP_ans (n := 1000) (orc0_ok pr) (by kernel_rfl)
 | 2, _ => runP_ans (n := 1000) (orc0_ok pr) (by kernel_rfl)
 | 3, _ => runP_ans (n := 1000) (orc0_ok pr) (by kernel_rfl)
 | _ + 4, h => absurd h (by omega)
theorem cg17 : CqGood cq17 := ⟨⟨by decide, by decide, by simp [cq17, TmOk], by simp [cq17, TmOk]⟩, by simp [cq17], sp17⟩
theorem sp18 : ∀ v : Nat, v ≤ 3 → Ans pr 7 [.ag (cqF cq18), .s [120], .ag (vF (v : Int))] (.sl 2 [cqF (sub cq18 [120] v), cqF (more cq18 [120] v)])
 | 0, _ => runP_ans (n := 1000) (orc0_ok pr) (by kernel_rfl)
 | 1, _ => runP_ans (n := 1000) (orc0_ok pr) (by kernel_rfl)
 | 2, _ => runP_ans (n := 1000) (orc0_ok pr) (by kernel_rfl)
 | 3, _ => runP_ans (n := 1000) (orc0_ok pr) (by kernel_rfl)
 | _ + 4, h => absurd h (by omega)
theorem cg18 : CqGood cq18 := ⟨⟨by decide, by decide, by simp [cq18, TmOk], by simp [cq18, TmOk]⟩, by simp [cq18], sp18⟩
theorem sp19 : ∀ v : Nat, v ≤ 3 → Ans pr 7 [.ag (cqF cq19), .s [120], .ag (vF (v : Int))] (.sl 2 [cqF (sub cq19 [120] v), cqF (more cq19 [120] v)])
 | 0, _ => runP_ans (n := 1000) (orc0_ok pr) (by kernel_rfl)
 | 1, _ => runP_ans (n := 1000) (orc0_ok pr) (by kernel_rfl)
 | 2, _ => runP_ans (n := 1000) (orc0_ok pr) (by kernel_rfl)
 | 3, _ => runP_ans (n := 1000) (orc0_ok pr) (by kernel_rfl)
 | _ + 4, h => absurd h (by omega)
theorem cg19 : CqGood cq19 := ⟨⟨by decide, by decide, by simp [cq19, TmOk], by simp [cq19, TmOk]⟩, by simp [cq19], sp19⟩
theorem sp20 : ∀ v : Nat, v ≤ 3 → Ans pr 7 [.ag (cqF cq20), .s [120], .ag (vF (v : Int))] (.sl 2 [cqF (sub cq20 [120] v), cqF (more cq20 [120] v)])
 | 0, _ => runP_ans (n := 1000) (orc0_ok pr) (by kernel_rfl)
 | 1, _ => runP_ans (n := 1000) (orc0_ok pr) (by kernel_rfl)
 | 2, _ => runP_ans (n := 1000) (orc0_ok pr) (by kernel_rfl)
 | 3, _ => runP_ans (n := 1000) (orc0_ok pr) (by kernel_rfl)
 | _ + 4, h => absurd h (by omega)
theorem cg20 : CqGood cq20 := ⟨⟨by decide, by decide, by simp [cq20, TmOk], by simp [cq20, TmOk]⟩, by simp [cq20], sp20⟩
theorem sp21 : ∀ v : Nat, v ≤ 3 → Ans pr 7 [.ag (cqF cq21), .s [120], .ag (vF (v : Int))] (.sl 2 [cqF (sub cq21 [120] v), cqF (more cq21 [120] v)])
 | 0, _ => runP_ans (n := 1000) (orc0_ok pr) (by kernel_rfl)
 | 1, _ => runP_ans (n := 1000) (orc0_ok pr) (by kernel_rfl)
 | 2, _ => runP_ans (n := 1000) (orc0_ok pr) (by kernel_rfl)
 | 3, _ => runP_ans (n := 1000) (orc0_ok pr) (by kernel_rfl)
 | _ + 4, h => absurd h (by omega)
theorem cg21 : CqGood cq21 := ⟨⟨by decide, by decide, by simp [cq21, TmOk], by simp [cq21, TmOk]⟩, by simp [cq21], sp21⟩
theorem sp22 : ∀ v : Nat, v ≤ 3 → Ans pr 7 [.ag (cqF cq22), .s [120], .ag (vF (v : Int))] (.sl 2 [cqF (sub cq22 [120] v), cqF (more cq22 [120] v)])
 | 0, _ => runP_ans (n := 1000) (orc0_ok pr) (by kernel_rfl)
 | 1, _ => runP_ans (n := 1000) (orc0_ok pr) (by kernel_rfl)
 | 2, _ => runP_ans (n := 1000) (orc0_ok pr) (by kernel_rfl)
 | 3, _ => runP_ans (n := 1000) (orc0_ok pr) (by kernel_rfl)
 | _ + 4, h => absurd h (by omega)
theorem cg22 : CqGood cq22 := ⟨⟨by decide, by decide, by simp [cq22, TmOk], by simp [cq22, TmOk]⟩, by simp [cq22], sp22⟩
theorem sp23 : ∀ v : Nat, v ≤ 3 → Ans pr 7 [.ag (cqF cq23), .s [120], .ag (vF (v : Int))] (.sl 2 [cqF (sub cq23 [120] v), cqF (more cq23 [120] v)])
 | 0, _ => runP_ans (n := 1000) (orc0_ok pr) (by kernel_rfl)
 | 1, _ => runP_ans (n := 1000) (orc0_ok pr) (by kernel_rfl)
 | 2, _ => runP_ans (n := 1000) (orc0_ok pr) (by kernel_rfl)
 | 3, _ => runP_ans (n := 1000) (orc0_ok pr) (by kernel_rfl)
 | _ + 4, h => absurd h (by omega)
theorem cg23 : CqGood cq23 := ⟨⟨by decide, by decide, by simp [cq23, TmOk], by simp [cq23, TmOk]⟩, by simp [cq23], sp23⟩
theorem sp24 : ∀ v : Nat, v ≤ 3 → Ans pr 7 [.ag (cqF cq24), .s [120], .ag (vF (v : Int))] (.sl 2 [cqF (sub cq24 [120] v), cqF (more cq24 [120] v)])
 | 0, _ => runP_ans (n := 1000) (orc0_ok pr) (by kernel_rfl)
 | 1, _ => runP_ans (n := 1000) (orc0_ok pr) (by kernel_rfl)
 | 2, _ => runP_ans (n := 1000) (orc0_ok pr) (by kernel_rfl)
 | 3, _ => runP_ans (n := 1000) (orc0_ok pr) (by kernel_rfl)
 | _ + 4, h => absurd h (by omega)
theorem cg24 : CqGood cq24 := ⟨⟨by decide, by decide, by simp [cq24, TmOk], by simp [cq24, TmOk]⟩, by simp [cq24], sp24⟩
theorem sp25 : ∀ v : Nat, v ≤ 3 → Ans pr 7 [.ag (cqF cq25), .s [120], .ag (vF (v : Int))] (.sl 2 [cqF (sub cq25 [120] v), cqF (more cq25 [120] v)])
 | 0, _ => runP_ans (n := 1000) (orc0_ok pr) (by kernel_rfl)
 | 1, _ => runP_ans (n := 1000) (orc0_ok pr) (by kernel_rfl)
 | 2, _ => runP_ans (n := 1000) (orc0_ok pr) (by kernel_rfl)
 | 3, _ => runP_ans (n := 1000) (orc0_ok pr) (by kernel_rfl)
 | _ + 4, h => absurd h (by omega)
theorem cg25 : CqGood cq25 := ⟨⟨by decide, by decide, by simp [cq25, TmOk], by simp [cq25, TmOk]⟩, by simp [cq25], sp25⟩
theorem sp26 : ∀ v : Nat, v ≤ 3 → Ans pr 7 [.ag (cqF cq26), .s [120], .ag (vF (v : Int))] (.sl 2 [cqF (sub cq26 [120] v), cqF (more cq26 [120] v)])
 | 0, _ => runP_ans (n := 1000) (orc0_ok pr) (by kernel_rfl)
 | 1, _ => runP_ans (n := 1000) (orc0_ok pr) (by kernel_rfl)
 | 2, _ => runP_ans (n := 1000) (orc0_ok pr) (by kernel_rfl)
 | 3, _ => runP_ans (n := 1000) (orc0_ok pr) (by kernel_rfl)
 | _ + 4, h => absurd h (by omega)
theorem cg26 : CqGood cq26 := ⟨⟨by decide, by decide, by simp [cq26, TmOk], by simp [cq26, TmOk]⟩, by simp [cq26], sp26⟩
theorem sp27 : ∀ v : Nat, v ≤ 3 → Ans pr 7 [.ag (cqF cq27), .s [120], .ag (vF (v : Int))] (.sl 2 [cqF (sub cq27 [120] v), cqF (more cq27 [120] v)])
 | 0, _ => runP_ans (n := 1000) (orc0_ok pr) (by kernel_rfl)
 | 1, _ => runP_ans (n := 1000) (orc0_ok pr) (by kernel_rfl)
 | 2, _ => runP_ans (n := 1000) (orc0_ok pr) (by kernel_rfl)
 | 3, _ => runP_ans (n := 1000) (orc0_ok pr) (by kernel_rfl)
 | _ + 4, h => absurd h (by omega)
theorem cg27 : CqGood cq27 := ⟨⟨by decide, by decide, by simp [cq27, TmOk], by simp [cq27, TmOk]⟩, by simp [cq27], sp27⟩
theorem sp28 : ∀ v : Nat, v ≤ 3 → Ans pr 7 [.ag (cqF cq28), .s [120], .ag (vF (v : Int))] (.sl 2 [cqF (sub cq28 [120] v), cqF (more cq28 [120] v)])
 | 0, _ => runP_ans (n := 1000) (orc0_ok pr) (by kernel_rfl)
 | 1, _ => runP_ans (n := 1000) (orc0_ok pr) (by kernel_rfl)
 | 2, _ => runP_ans (n := 1000) (orc0_ok pr) (by kernel_rfl)
 | 3, _ => runP_ans (n := 1000) (orc0_ok pr) (by kernel_rfl)
 | _ + 4, h => absurd h (by omega)
theorem cg28 : CqGood cq28 := ⟨⟨by decide, by decide, by simp [cq28, TmOk], by simp [cq28, TmOk]⟩, by simp [cq28], sp28⟩
theorem sp29 : ∀ v : Nat, v ≤ 3 → Ans pr 7 [.ag (cqF cq29), .s [120], .ag (vF (v : Int))] (.sl 2 [cqF (sub cq29 [120] v), cqF (more cq29 [120] v)])
 | 0, _ => runP_ans (n := 1000) (orc0_ok pr) (by kernel_rfl)
 | 1, _ => runP_ans (n := 1000) (orc0_ok pr) (by kernel_rfl)
 | 2, _ => runP_ans (n := 1000) (orc0_ok pr) (by kernel_rfl)
 | 3, _ => runP_ans (n := 1000) (orc0_ok pr) (by kernel_rfl)
 | _ + 4, h => absurd h (by omega)
theorem cg29 : CqGood cq29 := ⟨⟨by decide, by decide, by simp [cq29, TmOk], by simp [cq29, TmOk]⟩, by simp [cq29], sp29⟩
theorem sp30 : ∀ v : Nat, v ≤ 3 → Ans pr 7 [.ag (cqF cq30), .s [120], .ag (vF (v : Int))] (.sl 2 [cqF (sub cq30 [120] v), cqF (more cq30 [120] v)])
 | 0, _ => runP_ans (n := 1000) (orc0_ok pr) (by kernel_rfl)
 | 1, _ => runP_ans (n := 1000) (orc0_ok pr) (by kernel_rfl)
 | 2, _ => runP_ans (n := 1000) (orc0_ok pr) (by kernel_rfl)
 | 3, _ => runP_ans (n := 1000) (orc0_ok pr) (by kernel_rfl)
 | _ + 4, h => absurd h (by omega)
theorem cg30 : CqGood cq30 := ⟨⟨by decide, by decide, by simp [cq30, TmOk], by simp [cq30, TmOk]⟩, by simp [cq30], sp30⟩
theorem sp31 : ∀ v : Nat, v ≤ 3 → Ans pr 7 [.ag (cqF cq31), .s [120], .ag (vF (v : Int))] (.sl 2 [cqF (sub cq31 [120] v), cqF (more cq31 [120] v)])
 | 0, _ => runP_ans (n := 1000) (orc0_ok pr) (by kernel_rfl)
 | 1, _ => runP_ans (n := 1000) (orc0_ok pr) (by kernel_rfl)
 | 2, _ => runP_ans (n := 1000) (orc0_ok pr) (by kernel_rfl)
 | 3, _ => runP_ans (n := 1000) (orc0_ok pr) (by kernel_rfl)
 | _ + 4, h => absurd h (by omega)
theorem cg31 : CqGood cq31 := ⟨⟨by decide, by decide, by simp [cq31, TmOk], by simp [cq31, TmOk]⟩, by simp [cq31], sp31⟩
theorem sp32 : ∀ v : Nat, v ≤ 3 → Ans pr 7 [.ag (cqF cq32), .s [120], .ag (vF (v : Int))] (.sl 2 [cqF (sub cq32 [120] v), cqF (more cq32 [120] v)])
 | 0, _ => runP_ans (n := 1000) (orc0_ok pr) (by kernel_rfl)
 | 1, _ => runP_ans (n := 1000) (orc0_ok pr) (by kernel_rfl)
 | 2, _ => runP_ans (n := 1000) (orc0_ok pr) (by kernel_rfl)
 | 3, _ => runP_ans (n := 1000) (orc0_ok pr) (by kernel_rfl)
 | _ + 4, h => absurd h (by omega)
theorem cg32 : CqGood cq32 := ⟨⟨by decide, by decide, by simp [cq32, TmOk], by simp [cq32, TmOk]⟩, by simp [cq32], sp32⟩
theorem sp33 : ∀ v : Nat, v ≤ 3 → Ans pr 7 [.ag (cqF cq33), .s [120], .ag (vF (v : Int))] (.sl 2 [cqF (sub cq33 [120] v), cqF (more cq33 [120] v)])
 | 0, _ => runP_ans (n := 1000) (orc0_ok pr) (by kernel_rfl)
 | 1, _ => runP_ans (n := 1000) (orc0_ok pr) (by kernel_rfl)
 | 2, _ => runP_ans (n := 1000) (orc0_ok pr) (by kernel_rfl)
 | 3, _ => runP_ans (n := 1000) (orc0_ok pr) (by kernel_rfl)
 | _ + 4, h => absurd h (by omega)
theorem cg33 : CqGood cq33 := ⟨⟨by decide, by decide, by simp [cq33, TmOk], by simp [cq33, TmOk]⟩, by simp [cq33], sp33⟩
theorem cqAll : ∀ c ∈ CQl, CqGood c := allL (P := CqGood) (l := CQl) ⟨cg0, cg1, cg2, cg3, cg4, cg5, cg6, cg7, cg8, cg9, cg10, cg11, cg12, cg13, cg14, cg15, cg16, cg17, cg18, cg19, cg20, cg21, cg22, cg23, cg24, cg25, cg26, cg27, cg28, cg29, cg30, cg31, cg32, cg33, trivial⟩
theorem ans12 : Ans pr 12 [] (.b true) := P2884
end Go.Proofs.YtffjpakgkecheaaGreat
