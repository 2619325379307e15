/- Which of the conjunctive queries maps into which: the whole table, and that it is an order. Written by program. -/
import Derived.Test.YtoalfeglgioabaaGreatEx0
import Derived.Test.YtoalfeglgioabaaGreatEx1
import Derived.Test.YtoalfeglgioabaaGreatEx2
import Derived.Test.YtoalfeglgioabaaGreatEx3
import Derived.Test.YtoalfeglgioabaaGreatEx4
import Derived.Test.YtoalfeglgioabaaGreatEx5
import Derived.Test.YtoalfeglgioabaaGreatEx6
import Derived.Test.YtoalfeglgioabaaGreatEx7
set_option linter.all false
namespace Go.Proofs.YtoalfeglgioabaaGreat
open Go Go.Vse
set_option maxRecDepth 100000

/-- the answers of a function that only reads are single -/
theorem ans_one {pr : Pr} {f : Nat} {fs : List F} {x y : F} (h1 : Ans pr f fs x) (h2 : Ans pr f fs y) : x = y := by
  obtain ⟨q, rd, ⟨N, hN⟩, e1⟩ := h1
  obtain ⟨q', rd', ⟨M, hM⟩, e2⟩ := h2
  have a : evFn pr (N + M) f (F.dL fs) .e 0 = some q := hN (N + M) (by omega)
  have b : evFn pr (N + M) f (F.dL fs) .e 0 = some q' := hM (N + M) (by omega)
  rw [a] at b
  cases b
  rw [e1] at e2
  cases e2
  rfl

def rowsE : List Nat := [3087855, 131330, 524548, 8, 16, 2162784, 2162752, 128, 256, 188952, 1024, 2048, 4096, 8192, 16384, 32768, 2162688, 131072, 3087855, 524548, 1761558, 2162688]
def Et (i j : Nat) : Bool := (rowsE.getD i 0).testBit j
noncomputable def tabN (i : Nat) : F := tabA.getD i .nils

theorem et_refl : ((List.range 22).all fun i => Et i i) = true := by decide +kernel
theorem et_trans : ((List.range 22).all fun i => (List.range 22).all fun j => (List.range 22).all fun k => !(Et i j && Et j k) || Et i k) = true := by decide +kernel

theorem ex_all (i : Nat) (hi : i < 22) (j : Nat) (hj : j < 22) : Ans pr 42 [cqF (tabN i), cqF (tabN j), .nils] (.b (Et i j)) := by
  match i, hi with
  | 0, _ =>
    match j, hj with
    | 0, _ => exact runP_ans (orc0_ok pr) ex0_0
    | 1, _ => exact runP_ans (orc0_ok pr) ex0_1
    | 2, _ => exact runP_ans (orc0_ok pr) ex0_2
    | 3, _ => exact runP_ans (orc0_ok pr) ex0_3
    | 4, _ => exact runP_ans (orc0_ok pr) ex0_4
    | 5, _ => exact runP_ans (orc0_ok pr) ex0_5
    | 6, _ => exact runP_ans (orc0_ok pr) ex0_6
    | 7, _ => exact runP_ans (orc0_ok pr) ex0_7
    | 8, _ => exact runP_ans (orc0_ok pr) ex0_8
    | 9, _ => exact runP_ans (orc0_ok pr) ex0_9
    | 10, _ => exact runP_ans (orc0_ok pr) ex0_10
    | 11, _ => exact runP_ans (orc0_ok pr) ex0_11
    | 12, _ => exact runP_ans (orc0_ok pr) ex0_12
    | 13, _ => exact runP_ans (orc0_ok pr) ex0_13
    | 14, _ => exact runP_ans (orc0_ok pr) ex0_14
    | 15, _ => exact runP_ans (orc0_ok pr) ex0_15
    | 16, _ => exact runP_ans (orc0_ok pr) ex0_16
    | 17, _ => exact runP_ans (orc0_ok pr) ex0_17
    | 18, _ => exact runP_ans (orc0_ok pr) ex0_18
    | 19, _ => exact runP_ans (orc0_ok pr) ex0_19
    | 20, _ => exact runP_ans (orc0_ok pr) ex0_20
    | 21, _ => exact runP_ans (orc0_ok pr) ex0_21
    | _ + 22, h => omega
  | 1, _ =>
    match j, hj with
    | 0, _ => exact runP_ans (orc0_ok pr) ex1_0
    | 1, _ => exact runP_ans (orc0_ok pr) ex1_1
    | 2, _ => exact runP_ans (orc0_ok pr) ex1_2
    | 3, _ => exact runP_ans (orc0_ok pr) ex1_3
    | 4, _ => exact runP_ans (orc0_ok pr) ex1_4
    | 5, _ => exact runP_ans (orc0_ok pr) ex1_5
    | 6, _ => exact runP_ans (orc0_ok pr) ex1_6
    | 7, _ => exact runP_ans (orc0_ok pr) ex1_7
    | 8, _ => exact runP_ans (orc0_ok pr) ex1_8
    | 9, _ => exact runP_ans (orc0_ok pr) ex1_9
    | 10, _ => exact runP_ans (orc0_ok pr) ex1_10
    | 11, _ => exact runP_ans (orc0_ok pr) ex1_11
    | 12, _ => exact runP_ans (orc0_ok pr) ex1_12
    | 13, _ => exact runP_ans (orc0_ok pr) ex1_13
    | 14, _ => exact runP_ans (orc0_ok pr) ex1_14
    | 15, _ => exact runP_ans (orc0_ok pr) ex1_15
    | 16, _ => exact runP_ans (orc0_ok pr) ex1_16
    | 17, _ => exact runP_ans (orc0_ok pr) ex1_17
    | 18, _ => exact runP_ans (orc0_ok pr) ex1_18
    | 19, _ => exact runP_ans (orc0_ok pr) ex1_19
    | 20, _ => exact runP_ans (orc0_ok pr) ex1_20
    | 21, _ => exact runP_ans (orc0_ok pr) ex1_21
    | _ + 22, h => omega
  | 2, _ =>
    match j, hj with
    | 0, _ => exact runP_ans (orc0_ok pr) ex2_0
    | 1, _ => exact runP_ans (orc0_ok pr) ex2_1
    | 2, _ => exact runP_ans (orc0_ok pr) ex2_2
    | 3, _ => exact runP_ans (orc0_ok pr) ex2_3
    | 4, _ => exact runP_ans (orc0_ok pr) ex2_4
    | 5, _ => exact runP_ans (orc0_ok pr) ex2_5
    | 6, _ => exact runP_ans (orc0_ok pr) ex2_6
    | 7, _ => exact runP_ans (orc0_ok pr) ex2_7
    | 8, _ => exact runP_ans (orc0_ok pr) ex2_8
    | 9, _ => exact runP_ans (orc0_ok pr) ex2_9
    | 10, _ => exact runP_ans (orc0_ok pr) ex2_10
    | 11, _ => exact runP_ans (orc0_ok pr) ex2_11
    | 12, _ => exact runP_ans (orc0_ok pr) ex2_12
    | 13, _ => exact runP_ans (orc0_ok pr) ex2_13
    | 14, _ => exact runP_ans (orc0_ok pr) ex2_14
    | 15, _ => exact runP_ans (orc0_ok pr) ex2_15
    | 16, _ => exact runP_ans (orc0_ok pr) ex2_16
    | 17, _ => exact runP_ans (orc0_ok pr) ex2_17
    | 18, _ => exact runP_ans (orc0_ok pr) ex2_18
    | 19, _ => exact runP_ans (orc0_ok pr) ex2_19
    | 20, _ => exact runP_ans (orc0_ok pr) ex2_20
    | 21, _ => exact runP_ans (orc0_ok pr) ex2_21
    | _ + 22, h => omega
  | 3, _ =>
    match j, hj with
    | 0, _ => exact runP_ans (orc0_ok pr) ex3_0
    | 1, _ => exact runP_ans (orc0_ok pr) ex3_1
    | 2, _ => exact runP_ans (orc0_ok pr) ex3_2
    | 3, _ => exact runP_ans (orc0_ok pr) ex3_3
    | 4, _ => exact runP_ans (orc0_ok pr) ex3_4
    | 5, _ => exact runP_ans (orc0_ok pr) ex3_5
    | 6, _ => exact runP_ans (orc0_ok pr) ex3_6
    | 7, _ => exact runP_ans (orc0_ok pr) ex3_7
    | 8, _ => exact runP_ans (orc0_ok pr) ex3_8
    | 9, _ => exact runP_ans (orc0_ok pr) ex3_9
    | 10, _ => exact runP_ans (orc0_ok pr) ex3_10
    | 11, _ => exact runP_ans (orc0_ok pr) ex3_11
    | 12, _ => exact runP_ans (orc0_ok pr) ex3_12
    | 13, _ => exact runP_ans (orc0_ok pr) ex3_13
    | 14, _ => exact runP_ans (orc0_ok pr) ex3_14
    | 15, _ => exact runP_ans (orc0_ok pr) ex3_15
    | 16, _ => exact runP_ans (orc0_ok pr) ex3_16
    | 17, _ => exact runP_ans (orc0_ok pr) ex3_17
    | 18, _ => exact runP_ans (orc0_ok pr) ex3_18
    | 19, _ => exact runP_ans (orc0_ok pr) ex3_19
    | 20, _ => exact runP_ans (orc0_ok pr) ex3_20
    | 21, _ => exact runP_ans (orc0_ok pr) ex3_21
    | _ + 22, h => omega
  | 4, _ =>
    match j, hj with
    | 0, _ => exact runP_ans (orc0_ok pr) ex4_0
    | 1, _ => exact runP_ans (orc0_ok pr) ex4_1
    | 2, _ => exact runP_ans (orc0_ok pr) ex4_2
    | 3, _ => exact runP_ans (orc0_ok pr) ex4_3
    | 4, _ => exact runP_ans (orc0_ok pr) ex4_4
    | 5, _ => exact runP_ans (orc0_ok pr) ex4_5
    | 6, _ => exact runP_ans (orc0_ok pr) ex4_6
    | 7, _ => exact runP_ans (orc0_ok pr) ex4_7
    | 8, _ => exact runP_ans (orc0_ok pr) ex4_8
    | 9, _ => exact runP_ans (orc0_ok pr) ex4_9
    | 10, _ => exact runP_ans (orc0_ok pr) ex4_10
    | 11, _ => exact runP_ans (orc0_ok pr) ex4_11
    | 12, _ => exact runP_ans (orc0_ok pr) ex4_12
    | 13, _ => exact runP_ans (orc0_ok pr) ex4_13
    | 14, _ => exact runP_ans (orc0_ok pr) ex4_14
    | 15, _ => exact runP_ans (orc0_ok pr) ex4_15
    | 16, _ => exact runP_ans (orc0_ok pr) ex4_16
    | 17, _ => exact runP_ans (orc0_ok pr) ex4_17
    | 18, _ => exact runP_ans (orc0_ok pr) ex4_18
    | 19, _ => exact runP_ans (orc0_ok pr) ex4_19
    | 20, _ => exact runP_ans (orc0_ok pr) ex4_20
    | 21, _ => exact runP_ans (orc0_ok pr) ex4_21
    | _ + 22, h => omega
  | 5, _ =>
    match j, hj with
    | 0, _ => exact runP_ans (orc0_ok pr) ex5_0
    | 1, _ => exact runP_ans (orc0_ok pr) ex5_1
    | 2, _ => exact runP_ans (orc0_ok pr) ex5_2
    | 3, _ => exact runP_ans (orc0_ok pr) ex5_3
    | 4, _ => exact runP_ans (orc0_ok pr) ex5_4
    | 5, _ => exact runP_ans (orc0_ok pr) ex5_5
    | 6, _ => exact runP_ans (orc0_ok pr) ex5_6
    | 7, _ => exact runP_ans (orc0_ok pr) ex5_7
    | 8, _ => exact runP_ans (orc0_ok pr) ex5_8
    | 9, _ => exact runP_ans (orc0_ok pr) ex5_9
    | 10, _ => exact runP_ans (orc0_ok pr) ex5_10
    | 11, _ => exact runP_ans (orc0_ok pr) ex5_11
    | 12, _ => exact runP_ans (orc0_ok pr) ex5_12
    | 13, _ => exact runP_ans (orc0_ok pr) ex5_13
    | 14, _ => exact runP_ans (orc0_ok pr) ex5_14
    | 15, _ => exact runP_ans (orc0_ok pr) ex5_15
    | 16, _ => exact runP_ans (orc0_ok pr) ex5_16
    | 17, _ => exact runP_ans (orc0_ok pr) ex5_17
    | 18, _ => exact runP_ans (orc0_ok pr) ex5_18
    | 19, _ => exact runP_ans (orc0_ok pr) ex5_19
    | 20, _ => exact runP_ans (orc0_ok pr) ex5_20
    | 21, _ => exact runP_ans (orc0_ok pr) ex5_21
    | _ + 22, h => omega
  | 6, _ =>
    match j, hj with
    | 0, _ => exact runP_ans (orc0_ok pr) ex6_0
    | 1, _ => exact runP_ans (orc0_ok pr) ex6_1
    | 2, _ => exact runP_ans (orc0_ok pr) ex6_2
    | 3, _ => exact runP_ans (orc0_ok pr) ex6_3
    | 4, _ => exact runP_ans (orc0_ok pr) ex6_4
    | 5, _ => exact runP_ans (orc0_ok pr) ex6_5
    | 6, _ => exact runP_ans (orc0_ok pr) ex6_6
    | 7, _ => exact runP_ans (orc0_ok pr) ex6_7
    | 8, _ => exact runP_ans (orc0_ok pr) ex6_8
    | 9, _ => exact runP_ans (orc0_ok pr) ex6_9
    | 10, _ => exact runP_ans (orc0_ok pr) ex6_10
    | 11, _ => exact runP_ans (orc0_ok pr) ex6_11
    | 12, _ => exact runP_ans (orc0_ok pr) ex6_12
    | 13, _ => exact runP_ans (orc0_ok pr) ex6_13
    | 14, _ => exact runP_ans (orc0_ok pr) ex6_14
    | 15, _ => exact runP_ans (orc0_ok pr) ex6_15
    | 16, _ => exact runP_ans (orc0_ok pr) ex6_16
    | 17, _ => exact runP_ans (orc0_ok pr) ex6_17
    | 18, _ => exact runP_ans (orc0_ok pr) ex6_18
    | 19, _ => exact runP_ans (orc0_ok pr) ex6_19
    | 20, _ => exact runP_ans (orc0_ok pr) ex6_20
    | 21, _ => exact runP_ans (orc0_ok pr) ex6_21
    | _ + 22, h => omega
  | 7, _ =>
    match j, hj with
    | 0, _ => exact runP_ans (orc0_ok pr) ex7_0
    | 1, _ => exact runP_ans (orc0_ok pr) ex7_1
    | 2, _ => exact runP_ans (orc0_ok pr) ex7_2
    | 3, _ => exact runP_ans (orc0_ok pr) ex7_3
    | 4, _ => exact runP_ans (orc0_ok pr) ex7_4
    | 5, _ => exact runP_ans (orc0_ok pr) ex7_5
    | 6, _ => exact runP_ans (orc0_ok pr) ex7_6
    | 7, _ => exact runP_ans (orc0_ok pr) ex7_7
    | 8, _ => exact runP_ans (orc0_ok pr) ex7_8
    | 9, _ => exact runP_ans (orc0_ok pr) ex7_9
    | 10, _ => exact runP_ans (orc0_ok pr) ex7_10
    | 11, _ => exact runP_ans (orc0_ok pr) ex7_11
    | 12, _ => exact runP_ans (orc0_ok pr) ex7_12
    | 13, _ => exact runP_ans (orc0_ok pr) ex7_13
    | 14, _ => exact runP_ans (orc0_ok pr) ex7_14
    | 15, _ => exact runP_ans (orc0_ok pr) ex7_15
    | 16, _ => exact runP_ans (orc0_ok pr) ex7_16
    | 17, _ => exact runP_ans (orc0_ok pr) ex7_17
    | 18, _ => exact runP_ans (orc0_ok pr) ex7_18
    | 19, _ => exact runP_ans (orc0_ok pr) ex7_19
    | 20, _ => exact runP_ans (orc0_ok pr) ex7_20
    | 21, _ => exact runP_ans (orc0_ok pr) ex7_21
    | _ + 22, h => omega
  | 8, _ =>
    match j, hj with
    | 0, _ => exact runP_ans (orc0_ok pr) ex8_0
    | 1, _ => exact runP_ans (orc0_ok pr) ex8_1
    | 2, _ => exact runP_ans (orc0_ok pr) ex8_2
    | 3, _ => exact runP_ans (orc0_ok pr) ex8_3
    | 4, _ => exact runP_ans (orc0_ok pr) ex8_4
    | 5, _ => exact runP_ans (orc0_ok pr) ex8_5
    | 6, _ => exact runP_ans (orc0_ok pr) ex8_6
    | 7, _ => exact runP_ans (orc0_ok pr) ex8_7
    | 8, _ => exact runP_ans (orc0_ok pr) ex8_8
    | 9, _ => exact runP_ans (orc0_ok pr) ex8_9
    | 10, _ => exact runP_ans (orc0_ok pr) ex8_10
    | 11, _ => exact runP_ans (orc0_ok pr) ex8_11
    | 12, _ => exact runP_ans (orc0_ok pr) ex8_12
    | 13, _ => exact runP_ans (orc0_ok pr) ex8_13
    | 14, _ => exact runP_ans (orc0_ok pr) ex8_14
    | 15, _ => exact runP_ans (orc0_ok pr) ex8_15
    | 16, _ => exact runP_ans (orc0_ok pr) ex8_16
    | 17, _ => exact runP_ans (orc0_ok pr) ex8_17
    | 18, _ => exact runP_ans (orc0_ok pr) ex8_18
    | 19, _ => exact runP_ans (orc0_ok pr) ex8_19
    | 20, _ => exact runP_ans (orc0_ok pr) ex8_20
    | 21, _ => exact runP_ans (orc0_ok pr) ex8_21
    | _ + 22, h => omega
  | 9, _ =>
    match j, hj with
    | 0, _ => exact runP_ans (orc0_ok pr) ex9_0
    | 1, _ => exact runP_ans (orc0_ok pr) ex9_1
    | 2, _ => exact runP_ans (orc0_ok pr) ex9_2
    | 3, _ => exact runP_ans (orc0_ok pr) ex9_3
    | 4, _ => exact runP_ans (orc0_ok pr) ex9_4
    | 5, _ => exact runP_ans (orc0_ok pr) ex9_5
    | 6, _ => exact runP_ans (orc0_ok pr) ex9_6
    | 7, _ => exact runP_ans (orc0_ok pr) ex9_7
    | 8, _ => exact runP_ans (orc0_ok pr) ex9_8
    | 9, _ => exact runP_ans (orc0_ok pr) ex9_9
    | 10, _ => exact runP_ans (orc0_ok pr) ex9_10
    | 11, _ => exact runP_ans (orc0_ok pr) ex9_11
    | 12, _ => exact runP_ans (orc0_ok pr) ex9_12
    | 13, _ => exact runP_ans (orc0_ok pr) ex9_13
    | 14, _ => exact runP_ans (orc0_ok pr) ex9_14
    | 15, _ => exact runP_ans (orc0_ok pr) ex9_15
    | 16, _ => exact runP_ans (orc0_ok pr) ex9_16
    | 17, _ => exact runP_ans (orc0_ok pr) ex9_17
    | 18, _ => exact runP_ans (orc0_ok pr) ex9_18
    | 19, _ => exact runP_ans (orc0_ok pr) ex9_19
    | 20, _ => exact runP_ans (orc0_ok pr) ex9_20
    | 21, _ => exact runP_ans (orc0_ok pr) ex9_21
    | _ + 22, h => omega
  | 10, _ =>
    match j, hj with
    | 0, _ => exact runP_ans (orc0_ok pr) ex10_0
    | 1, _ => exact runP_ans (orc0_ok pr) ex10_1
    | 2, _ => exact runP_ans (orc0_ok pr) ex10_2
    | 3, _ => exact runP_ans (orc0_ok pr) ex10_3
    | 4, _ => exact runP_ans (orc0_ok pr) ex10_4
    | 5, _ => exact runP_ans (orc0_ok pr) ex10_5
    | 6, _ => exact runP_ans (orc0_ok pr) ex10_6
    | 7, _ => exact runP_ans (orc0_ok pr) ex10_7
    | 8, _ => exact runP_ans (orc0_ok pr) ex10_8
    | 9, _ => exact runP_ans (orc0_ok pr) ex10_9
    | 10, _ => exact runP_ans (orc0_ok pr) ex10_10
    | 11, _ => exact runP_ans (orc0_ok pr) ex10_11
    | 12, _ => exact runP_ans (orc0_ok pr) ex10_12
    | 13, _ => exact runP_ans (orc0_ok pr) ex10_13
    | 14, _ => exact runP_ans (orc0_ok pr) ex10_14
    | 15, _ => exact runP_ans (orc0_ok pr) ex10_15
    | 16, _ => exact runP_ans (orc0_ok pr) ex10_16
    | 17, _ => exact runP_ans (orc0_ok pr) ex10_17
    | 18, _ => exact runP_ans (orc0_ok pr) ex10_18
    | 19, _ => exact runP_ans (orc0_ok pr) ex10_19
    | 20, _ => exact runP_ans (orc0_ok pr) ex10_20
    | 21, _ => exact runP_ans (orc0_ok pr) ex10_21
    | _ + 22, h => omega
  | 11, _ =>
    match j, hj with
    | 0, _ => exact runP_ans (orc0_ok pr) ex11_0
    | 1, _ => exact runP_ans (orc0_ok pr) ex11_1
    | 2, _ => exact runP_ans (orc0_ok pr) ex11_2
    | 3, _ => exact runP_ans (orc0_ok pr) ex11_3
    | 4, _ => exact runP_ans (orc0_ok pr) ex11_4
    | 5, _ => exact runP_ans (orc0_ok pr) ex11_5
    | 6, _ => exact runP_ans (orc0_ok pr) ex11_6
    | 7, _ => exact runP_ans (orc0_ok pr) ex11_7
    | 8, _ => exact runP_ans (orc0_ok pr) ex11_8
    | 9, _ => exact runP_ans (orc0_ok pr) ex11_9
    | 10, _ => exact runP_ans (orc0_ok pr) ex11_10
    | 11, _ => exact runP_ans (orc0_ok pr) ex11_11
    | 12, _ => exact runP_ans (orc0_ok pr) ex11_12
    | 13, _ => exact runP_ans (orc0_ok pr) ex11_13
    | 14, _ => exact runP_ans (orc0_ok pr) ex11_14
    | 15, _ => exact runP_ans (orc0_ok pr) ex11_15
    | 16, _ => exact runP_ans (orc0_ok pr) ex11_16
    | 17, _ => exact runP_ans (orc0_ok pr) ex11_17
    | 18, _ => exact runP_ans (orc0_ok pr) ex11_18
    | 19, _ => exact runP_ans (orc0_ok pr) ex11_19
    | 20, _ => exact runP_ans (orc0_ok pr) ex11_20
    | 21, _ => exact runP_ans (orc0_ok pr) ex11_21
    | _ + 22, h => omega
  | 12, _ =>
    match j, hj with
    | 0, _ => exact runP_ans (orc0_ok pr) ex12_0
    | 1, _ => exact runP_ans (orc0_ok pr) ex12_1
    | 2, _ => exact runP_ans (orc0_ok pr) ex12_2
    | 3, _ => exact runP_ans (orc0_ok pr) ex12_3
    | 4, _ => exact runP_ans (orc0_ok pr) ex12_4
    | 5, _ => exact runP_ans (orc0_ok pr) ex12_5
    | 6, _ => exact runP_ans (orc0_ok pr) ex12_6
    | 7, _ => exact runP_ans (orc0_ok pr) ex12_7
    | 8, _ => exact runP_ans (orc0_ok pr) ex12_8
    | 9, _ => exact runP_ans (orc0_ok pr) ex12_9
    | 10, _ => exact runP_ans (orc0_ok pr) ex12_10
    | 11, _ => exact runP_ans (orc0_ok pr) ex12_11
    | 12, _ => exact runP_ans (orc0_ok pr) ex12_12
    | 13, _ => exact runP_ans (orc0_ok pr) ex12_13
    | 14, _ => exact runP_ans (orc0_ok pr) ex12_14
    | 15, _ => exact runP_ans (orc0_ok pr) ex12_15
    | 16, _ => exact runP_ans (orc0_ok pr) ex12_16
    | 17, _ => exact runP_ans (orc0_ok pr) ex12_17
    | 18, _ => exact runP_ans (orc0_ok pr) ex12_18
    | 19, _ => exact runP_ans (orc0_ok pr) ex12_19
    | 20, _ => exact runP_ans (orc0_ok pr) ex12_20
    | 21, _ => exact runP_ans (orc0_ok pr) ex12_21
    | _ + 22, h => omega
  | 13, _ =>
    match j, hj with
    | 0, _ => exact runP_ans (orc0_ok pr) ex13_0
    | 1, _ => exact runP_ans (orc0_ok pr) ex13_1
    | 2, _ => exact runP_ans (orc0_ok pr) ex13_2
    | 3, _ => exact runP_ans (orc0_ok pr) ex13_3
    | 4, _ => exact runP_ans (orc0_ok pr) ex13_4
    | 5, _ => exact runP_ans (orc0_ok pr) ex13_5
    | 6, _ => exact runP_ans (orc0_ok pr) ex13_6
    | 7, _ => exact runP_ans (orc0_ok pr) ex13_7
    | 8, _ => exact runP_ans (orc0_ok pr) ex13_8
    | 9, _ => exact runP_ans (orc0_ok pr) ex13_9
    | 10, _ => exact runP_ans (orc0_ok pr) ex13_10
    | 11, _ => exact runP_ans (orc0_ok pr) ex13_11
    | 12, _ => exact runP_ans (orc0_ok pr) ex13_12
    | 13, _ => exact runP_ans (orc0_ok pr) ex13_13
    | 14, _ => exact runP_ans (orc0_ok pr) ex13_14
    | 15, _ => exact runP_ans (orc0_ok pr) ex13_15
    | 16, _ => exact runP_ans (orc0_ok pr) ex13_16
    | 17, _ => exact runP_ans (orc0_ok pr) ex13_17
    | 18, _ => exact runP_ans (orc0_ok pr) ex13_18
    | 19, _ => exact runP_ans (orc0_ok pr) ex13_19
    | 20, _ => exact runP_ans (orc0_ok pr) ex13_20
    | 21, _ => exact runP_ans (orc0_ok pr) ex13_21
    | _ + 22, h => omega
  | 14, _ =>
    match j, hj with
    | 0, _ => exact runP_ans (orc0_ok pr) ex14_0
    | 1, _ => exact runP_ans (orc0_ok pr) ex14_1
    | 2, _ => exact runP_ans (orc0_ok pr) ex14_2
    | 3, _ => exact runP_ans (orc0_ok pr) ex14_3
    | 4, _ => exact runP_ans (orc0_ok pr) ex14_4
    | 5, _ => exact runP_ans (orc0_ok pr) ex14_5
    | 6, _ => exact runP_ans (orc0_ok pr) ex14_6
    | 7, _ => exact runP_ans (orc0_ok pr) ex14_7
    | 8, _ => exact runP_ans (orc0_ok pr) ex14_8
    | 9, _ => exact runP_ans (orc0_ok pr) ex14_9
    | 10, _ => exact runP_ans (orc0_ok pr) ex14_10
    | 11, _ => exact runP_ans (orc0_ok pr) ex14_11
    | 12, _ => exact runP_ans (orc0_ok pr) ex14_12
    | 13, _ => exact runP_ans (orc0_ok pr) ex14_13
    | 14, _ => exact runP_ans (orc0_ok pr) ex14_14
    | 15, _ => exact runP_ans (orc0_ok pr) ex14_15
    | 16, _ => exact runP_ans (orc0_ok pr) ex14_16
    | 17, _ => exact runP_ans (orc0_ok pr) ex14_17
    | 18, _ => exact runP_ans (orc0_ok pr) ex14_18
    | 19, _ => exact runP_ans (orc0_ok pr) ex14_19
    | 20, _ => exact runP_ans (orc0_ok pr) ex14_20
    | 21, _ => exact runP_ans (orc0_ok pr) ex14_21
    | _ + 22, h => omega
  | 15, _ =>
    match j, hj with
    | 0, _ => exact runP_ans (orc0_ok pr) ex15_0
    | 1, _ => exact runP_ans (orc0_ok pr) ex15_1
    | 2, _ => exact runP_ans (orc0_ok pr) ex15_2
    | 3, _ => exact runP_ans (orc0_ok pr) ex15_3
    | 4, _ => exact runP_ans (orc0_ok pr) ex15_4
    | 5, _ => exact runP_ans (orc0_ok pr) ex15_5
    | 6, _ => exact runP_ans (orc0_ok pr) ex15_6
    | 7, _ => exact runP_ans (orc0_ok pr) ex15_7
    | 8, _ => exact runP_ans (orc0_ok pr) ex15_8
    | 9, _ => exact runP_ans (orc0_ok pr) ex15_9
    | 10, _ => exact runP_ans (orc0_ok pr) ex15_10
    | 11, _ => exact runP_ans (orc0_ok pr) ex15_11
    | 12, _ => exact runP_ans (orc0_ok pr) ex15_12
    | 13, _ => exact runP_ans (orc0_ok pr) ex15_13
    | 14, _ => exact runP_ans (orc0_ok pr) ex15_14
    | 15, _ => exact runP_ans (orc0_ok pr) ex15_15
    | 16, _ => exact runP_ans (orc0_ok pr) ex15_16
    | 17, _ => exact runP_ans (orc0_ok pr) ex15_17
    | 18, _ => exact runP_ans (orc0_ok pr) ex15_18
    | 19, _ => exact runP_ans (orc0_ok pr) ex15_19
    | 20, _ => exact runP_ans (orc0_ok pr) ex15_20
    | 21, _ => exact runP_ans (orc0_ok pr) ex15_21
    | _ + 22, h => omega
  | 16, _ =>
    match j, hj with
    | 0, _ => exact runP_ans (orc0_ok pr) ex16_0
    | 1, _ => exact runP_ans (orc0_ok pr) ex16_1
    | 2, _ => exact runP_ans (orc0_ok pr) ex16_2
    | 3, _ => exact runP_ans (orc0_ok pr) ex16_3
    | 4, _ => exact runP_ans (orc0_ok pr) ex16_4
    | 5, _ => exact runP_ans (orc0_ok pr) ex16_5
    | 6, _ => exact runP_ans (orc0_ok pr) ex16_6
    | 7, _ => exact runP_ans (orc0_ok pr) ex16_7
    | 8, _ => exact runP_ans (orc0_ok pr) ex16_8
    | 9, _ => exact runP_ans (orc0_ok pr) ex16_9
    | 10, _ => exact runP_ans (orc0_ok pr) ex16_10
    | 11, _ => exact runP_ans (orc0_ok pr) ex16_11
    | 12, _ => exact runP_ans (orc0_ok pr) ex16_12
    | 13, _ => exact runP_ans (orc0_ok pr) ex16_13
    | 14, _ => exact runP_ans (orc0_ok pr) ex16_14
    | 15, _ => exact runP_ans (orc0_ok pr) ex16_15
    | 16, _ => exact runP_ans (orc0_ok pr) ex16_16
    | 17, _ => exact runP_ans (orc0_ok pr) ex16_17
    | 18, _ => exact runP_ans (orc0_ok pr) ex16_18
    | 19, _ => exact runP_ans (orc0_ok pr) ex16_19
    | 20, _ => exact runP_ans (orc0_ok pr) ex16_20
    | 21, _ => exact runP_ans (orc0_ok pr) ex16_21
    | _ + 22, h => omega
  | 17, _ =>
    match j, hj with
    | 0, _ => exact runP_ans (orc0_ok pr) ex17_0
    | 1, _ => exact runP_ans (orc0_ok pr) ex17_1
    | 2, _ => exact runP_ans (orc0_ok pr) ex17_2
    | 3, _ => exact runP_ans (orc0_ok pr) ex17_3
    | 4, _ => exact runP_ans (orc0_ok pr) ex17_4
    | 5, _ => exact runP_ans (orc0_ok pr) ex17_5
    | 6, _ => exact runP_ans (orc0_ok pr) ex17_6
    | 7, _ => exact runP_ans (orc0_ok pr) ex17_7
    | 8, _ => exact runP_ans (orc0_ok pr) ex17_8
    | 9, _ => exact runP_ans (orc0_ok pr) ex17_9
    | 10, _ => exact runP_ans (orc0_ok pr) ex17_10
    | 11, _ => exact runP_ans (orc0_ok pr) ex17_11
    | 12, _ => exact runP_ans (orc0_ok pr) ex17_12
    | 13, _ => exact runP_ans (orc0_ok pr) ex17_13
    | 14, _ => exact runP_ans (orc0_ok pr) ex17_14
    | 15, _ => exact runP_ans (orc0_ok pr) ex17_15
    | 16, _ => exact runP_ans (orc0_ok pr) ex17_16
    | 17, _ => exact runP_ans (orc0_ok pr) ex17_17
    | 18, _ => exact runP_ans (orc0_ok pr) ex17_18
    | 19, _ => exact runP_ans (orc0_ok pr) ex17_19
    | 20, _ => exact runP_ans (orc0_ok pr) ex17_20
    | 21, _ => exact runP_ans (orc0_ok pr) ex17_21
    | _ + 22, h => omega
  | 18, _ =>
    match j, hj with
    | 0, _ => exact runP_ans (orc0_ok pr) ex18_0
    | 1, _ => exact runP_ans (orc0_ok pr) ex18_1
    | 2, _ => exact runP_ans (orc0_ok pr) ex18_2
    | 3, _ => exact runP_ans (orc0_ok pr) ex18_3
    | 4, _ => exact runP_ans (orc0_ok pr) ex18_4
    | 5, _ => exact runP_ans (orc0_ok pr) ex18_5
    | 6, _ => exact runP_ans (orc0_ok pr) ex18_6
    | 7, _ => exact runP_ans (orc0_ok pr) ex18_7
    | 8, _ => exact runP_ans (orc0_ok pr) ex18_8
    | 9, _ => exact runP_ans (orc0_ok pr) ex18_9
    | 10, _ => exact runP_ans (orc0_ok pr) ex18_10
    | 11, _ => exact runP_ans (orc0_ok pr) ex18_11
    | 12, _ => exact runP_ans (orc0_ok pr) ex18_12
    | 13, _ => exact runP_ans (orc0_ok pr) ex18_13
    | 14, _ => exact runP_ans (orc0_ok pr) ex18_14
    | 15, _ => exact runP_ans (orc0_ok pr) ex18_15
    | 16, _ => exact runP_ans (orc0_ok pr) ex18_16
    | 17, _ => exact runP_ans (orc0_ok pr) ex18_17
    | 18, _ => exact runP_ans (orc0_ok pr) ex18_18
    | 19, _ => exact runP_ans (orc0_ok pr) ex18_19
    | 20, _ => exact runP_ans (orc0_ok pr) ex18_20
    | 21, _ => exact runP_ans (orc0_ok pr) ex18_21
    | _ + 22, h => omega
  | 19, _ =>
    match j, hj with
    | 0, _ => exact runP_ans (orc0_ok pr) ex19_0
    | 1, _ => exact runP_ans (orc0_ok pr) ex19_1
    | 2, _ => exact runP_ans (orc0_ok pr) ex19_2
    | 3, _ => exact runP_ans (orc0_ok pr) ex19_3
    | 4, _ => exact runP_ans (orc0_ok pr) ex19_4
    | 5, _ => exact runP_ans (orc0_ok pr) ex19_5
    | 6, _ => exact runP_ans (orc0_ok pr) ex19_6
    | 7, _ => exact runP_ans (orc0_ok pr) ex19_7
    | 8, _ => exact runP_ans (orc0_ok pr) ex19_8
    | 9, _ => exact runP_ans (orc0_ok pr) ex19_9
    | 10, _ => exact runP_ans (orc0_ok pr) ex19_10
    | 11, _ => exact runP_ans (orc0_ok pr) ex19_11
    | 12, _ => exact runP_ans (orc0_ok pr) ex19_12
    | 13, _ => exact runP_ans (orc0_ok pr) ex19_13
    | 14, _ => exact runP_ans (orc0_ok pr) ex19_14
    | 15, _ => exact runP_ans (orc0_ok pr) ex19_15
    | 16, _ => exact runP_ans (orc0_ok pr) ex19_16
    | 17, _ => exact runP_ans (orc0_ok pr) ex19_17
    | 18, _ => exact runP_ans (orc0_ok pr) ex19_18
    | 19, _ => exact runP_ans (orc0_ok pr) ex19_19
    | 20, _ => exact runP_ans (orc0_ok pr) ex19_20
    | 21, _ => exact runP_ans (orc0_ok pr) ex19_21
    | _ + 22, h => omega
  | 20, _ =>
    match j, hj with
    | 0, _ => exact runP_ans (orc0_ok pr) ex20_0
    | 1, _ => exact runP_ans (orc0_ok pr) ex20_1
    | 2, _ => exact runP_ans (orc0_ok pr) ex20_2
    | 3, _ => exact runP_ans (orc0_ok pr) ex20_3
    | 4, _ => exact runP_ans (orc0_ok pr) ex20_4
    | 5, _ => exact runP_ans (orc0_ok pr) ex20_5
    | 6, _ => exact runP_ans (orc0_ok pr) ex20_6
    | 7, _ => exact runP_ans (orc0_ok pr) ex20_7
    | 8, _ => exact runP_ans (orc0_ok pr) ex20_8
    | 9, _ => exact runP_ans (orc0_ok pr) ex20_9
    | 10, _ => exact runP_ans (orc0_ok pr) ex20_10
    | 11, _ => exact runP_ans (orc0_ok pr) ex20_11
    | 12, _ => exact runP_ans (orc0_ok pr) ex20_12
    | 13, _ => exact runP_ans (orc0_ok pr) ex20_13
    | 14, _ => exact runP_ans (orc0_ok pr) ex20_14
    | 15, _ => exact runP_ans (orc0_ok pr) ex20_15
    | 16, _ => exact runP_ans (orc0_ok pr) ex20_16
    | 17, _ => exact runP_ans (orc0_ok pr) ex20_17
    | 18, _ => exact runP_ans (orc0_ok pr) ex20_18
    | 19, _ => exact runP_ans (orc0_ok pr) ex20_19
    | 20, _ => exact runP_ans (orc0_ok pr) ex20_20
    | 21, _ => exact runP_ans (orc0_ok pr) ex20_21
    | _ + 22, h => omega
  | 21, _ =>
    match j, hj with
    | 0, _ => exact runP_ans (orc0_ok pr) ex21_0
    | 1, _ => exact runP_ans (orc0_ok pr) ex21_1
    | 2, _ => exact runP_ans (orc0_ok pr) ex21_2
    | 3, _ => exact runP_ans (orc0_ok pr) ex21_3
    | 4, _ => exact runP_ans (orc0_ok pr) ex21_4
    | 5, _ => exact runP_ans (orc0_ok pr) ex21_5
    | 6, _ => exact runP_ans (orc0_ok pr) ex21_6
    | 7, _ => exact runP_ans (orc0_ok pr) ex21_7
    | 8, _ => exact runP_ans (orc0_ok pr) ex21_8
    | 9, _ => exact runP_ans (orc0_ok pr) ex21_9
    | 10, _ => exact runP_ans (orc0_ok pr) ex21_10
    | 11, _ => exact runP_ans (orc0_ok pr) ex21_11
    | 12, _ => exact runP_ans (orc0_ok pr) ex21_12
    | 13, _ => exact runP_ans (orc0_ok pr) ex21_13
    | 14, _ => exact runP_ans (orc0_ok pr) ex21_14
    | 15, _ => exact runP_ans (orc0_ok pr) ex21_15
    | 16, _ => exact runP_ans (orc0_ok pr) ex21_16
    | 17, _ => exact runP_ans (orc0_ok pr) ex21_17
    | 18, _ => exact runP_ans (orc0_ok pr) ex21_18
    | 19, _ => exact runP_ans (orc0_ok pr) ex21_19
    | 20, _ => exact runP_ans (orc0_ok pr) ex21_20
    | 21, _ => exact runP_ans (orc0_ok pr) ex21_21
    | _ + 22, h => omega
  | _ + 22, h => omega

theorem tab_idx (a : F) (h : a ∈ tabA) : ∃ i, i < 22 ∧ a = tabN i := by
  obtain ⟨i, hi, rfl⟩ := List.mem_iff_getElem.1 h
  exact ⟨i, by simpa [tabA] using hi, by simp [tabN, hi]⟩

open Classical in
/-- one maps into the other -/
noncomputable def Eb (x y : F) : Bool := decide (Ans pr 42 [cqF x, cqF y, .nils] (.b true))

theorem eb_tab {i j : Nat} (hi : i < 22) (hj : j < 22) : Eb (tabN i) (tabN j) = Et i j := by
  have h := ex_all i hi j hj
  unfold Eb
  cases he : Et i j with
  | true => rw [he] at h; simpa using h
  | false =>
    rw [he] at h
    simp only [decide_eq_false_iff_not]
    intro h'
    cases ans_one h h'

theorem eb_ans {x y : F} (hx : x ∈ tabA) (hy : y ∈ tabA) : Ans pr 42 [cqF x, cqF y, .nils] (.b (Eb x y)) := by
  obtain ⟨i, hi, rfl⟩ := tab_idx x hx
  obtain ⟨j, hj, rfl⟩ := tab_idx y hy
  rw [eb_tab hi hj]
  exact ex_all i hi j hj

theorem eb_refl {x : F} (hx : x ∈ tabA) : Eb x x = true := by
  obtain ⟨i, hi, rfl⟩ := tab_idx x hx
  rw [eb_tab hi hi]
  exact List.all_eq_true.1 et_refl i (by simpa using hi)

theorem eb_trans {x y z : F} (hx : x ∈ tabA) (hy : y ∈ tabA) (hz : z ∈ tabA) (h1 : Eb x y = true) (h2 : Eb y z = true) : Eb x z = true := by
  obtain ⟨i, hi, rfl⟩ := tab_idx x hx
  obtain ⟨j, hj, rfl⟩ := tab_idx y hy
  obtain ⟨k, hk, rfl⟩ := tab_idx z hz
  rw [eb_tab hi hj] at h1
  rw [eb_tab hj hk] at h2
  rw [eb_tab hi hk]
  have := List.all_eq_true.1 (List.all_eq_true.1 (List.all_eq_true.1 et_trans i (by simpa using hi)) j (by simpa using hj)) k (by simpa using hk)
  simpa [h1, h2] using this

/-- containment of lists of conjunctive queries -/
noncomputable def Cb (ps qs : List F) : Bool := ps.all fun y => qs.any fun x => Eb x y

theorem cb_refl {ps : List F} (h : ∀ a ∈ ps, a ∈ tabA) : Cb ps ps = true := by
  rw [Cb, List.all_eq_true]
  intro y hy
  rw [List.any_eq_true]
  exact ⟨y, hy, eb_refl (h y hy)⟩

theorem cb_trans {ps qs rs : List F} (h1 : ∀ a ∈ ps, a ∈ tabA) (h2 : ∀ a ∈ qs, a ∈ tabA) (h3 : ∀ a ∈ rs, a ∈ tabA) (a : Cb ps qs = true) (b : Cb qs rs = true) : Cb ps rs = true := by
  rw [Cb, List.all_eq_true] at a b ⊢
  intro y hy
  obtain ⟨x, hx, hxy⟩ := List.any_eq_true.1 (a y hy)
  obtain ⟨w, hw, hwx⟩ := List.any_eq_true.1 (b x hx)
  exact List.any_eq_true.2 ⟨w, hw, eb_trans (h3 w hw) (h2 x hx) (h1 y hy) hwx hxy⟩

theorem cb_left {ps qs : List F} (h1 : ∀ a ∈ ps, a ∈ tabA) : Cb ps (ps ++ qs) = true := by
  rw [Cb, List.all_eq_true]
  intro y hy
  exact List.any_eq_true.2 ⟨y, List.mem_append.2 (.inl hy), eb_refl (h1 y hy)⟩

theorem cb_right {ps qs : List F} (h1 : ∀ a ∈ qs, a ∈ tabA) : Cb qs (ps ++ qs) = true := by
  rw [Cb, List.all_eq_true]
  intro y hy
  exact List.any_eq_true.2 ⟨y, List.mem_append.2 (.inr hy), eb_refl (h1 y hy)⟩

theorem cb_both {ps qs : List F} (h1 : ∀ a ∈ qs, a ∈ tabA) : Cb (ps ++ qs) qs = Cb ps qs := by
  have := cb_refl h1
  unfold Cb at this ⊢
  rw [List.all_append, this, Bool.and_true]
end Go.Proofs.YtoalfeglgioabaaGreat
