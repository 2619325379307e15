/- Which of the conjunctive queries maps into which, run by the kernel. Written by program. -/
import Derived.Test.YtoalfeglgioabaaGreatTab
set_option linter.all false
namespace Go.Proofs.YtoalfeglgioabaaGreat
open Go Go.Vse
set_option maxRecDepth 1000000
theorem ex0_3 : runP orc0 pr 1000 42 [cqF a0, cqF a3, .nils] = some (.b true) := by kernel_rfl
theorem ex0_11 : runP orc0 pr 1000 42 [cqF a0, cqF a11, .nils] = some (.b true) := by kernel_rfl
theorem ex0_19 : runP orc0 pr 1000 42 [cqF a0, cqF a19, .nils] = some (.b true) := by kernel_rfl
theorem ex1_5 : runP orc0 pr 1000 42 [cqF a1, cqF a5, .nils] = some (.b false) := by kernel_rfl
theorem ex1_13 : runP orc0 pr 1000 42 [cqF a1, cqF a13, .nils] = some (.b false) := by kernel_rfl
theorem ex1_21 : runP orc0 pr 1000 42 [cqF a1, cqF a21, .nils] = some (.b false) := by kernel_rfl
theorem ex2_7 : runP orc0 pr 1000 42 [cqF a2, cqF a7, .nils] = some (.b false) := by kernel_rfl
theorem ex2_15 : runP orc0 pr 1000 42 [cqF a2, cqF a15, .nils] = some (.b false) := by kernel_rfl
theorem ex3_1 : runP orc0 pr 1000 42 [cqF a3, cqF a1, .nils] = some (.b false) := by kernel_rfl
theorem ex3_9 : runP orc0 pr 1000 42 [cqF a3, cqF a9, .nils] = some (.b false) := by kernel_rfl
theorem ex3_17 : runP orc0 pr 1000 42 [cqF a3, cqF a17, .nils] = some (.b false) := by kernel_rfl
theorem ex4_3 : runP orc0 pr 1000 42 [cqF a4, cqF a3, .nils] = some (.b false) := by kernel_rfl
theorem ex4_11 : runP orc0 pr 1000 42 [cqF a4, cqF a11, .nils] = some (.b false) := by kernel_rfl
theorem ex4_19 : runP orc0 pr 1000 42 [cqF a4, cqF a19, .nils] = some (.b false) := by kernel_rfl
theorem ex5_5 : runP orc0 pr 1000 42 [cqF a5, cqF a5, .nils] = some (.b true) := by kernel_rfl
theorem ex5_13 : runP orc0 pr 1000 42 [cqF a5, cqF a13, .nils] = some (.b false) := by kernel_rfl
theorem ex5_21 : runP orc0 pr 1000 42 [cqF a5, cqF a21, .nils] = some (.b true) := by kernel_rfl
theorem ex6_7 : runP orc0 pr 1000 42 [cqF a6, cqF a7, .nils] = some (.b false) := by kernel_rfl
theorem ex6_15 : runP orc0 pr 1000 42 [cqF a6, cqF a15, .nils] = some (.b false) := by kernel_rfl
theorem ex7_1 : runP orc0 pr 1000 42 [cqF a7, cqF a1, .nils] = some (.b false) := by kernel_rfl
theorem ex7_9 : runP orc0 pr 1000 42 [cqF a7, cqF a9, .nils] = some (.b false) := by kernel_rfl
theorem ex7_17 : runP orc0 pr 1000 42 [cqF a7, cqF a17, .nils] = some (.b false) := by kernel_rfl
theorem ex8_3 : runP orc0 pr 1000 42 [cqF a8, cqF a3, .nils] = some (.b false) := by kernel_rfl
theorem ex8_11 : runP orc0 pr 1000 42 [cqF a8, cqF a11, .nils] = some (.b false) := by kernel_rfl
theorem ex8_19 : runP orc0 pr 1000 42 [cqF a8, cqF a19, .nils] = some (.b false) := by kernel_rfl
theorem ex9_5 : runP orc0 pr 1000 42 [cqF a9, cqF a5, .nils] = some (.b false) := by kernel_rfl
theorem ex9_13 : runP orc0 pr 1000 42 [cqF a9, cqF a13, .nils] = some (.b true) := by kernel_rfl
theorem ex9_21 : runP orc0 pr 1000 42 [cqF a9, cqF a21, .nils] = some (.b false) := by kernel_rfl
theorem ex10_7 : runP orc0 pr 1000 42 [cqF a10, cqF a7, .nils] = some (.b false) := by kernel_rfl
theorem ex10_15 : runP orc0 pr 1000 42 [cqF a10, cqF a15, .nils] = some (.b false) := by kernel_rfl
theorem ex11_1 : runP orc0 pr 1000 42 [cqF a11, cqF a1, .nils] = some (.b false) := by kernel_rfl
theorem ex11_9 : runP orc0 pr 1000 42 [cqF a11, cqF a9, .nils] = some (.b false) := by kernel_rfl
theorem ex11_17 : runP orc0 pr 1000 42 [cqF a11, cqF a17, .nils] = some (.b false) := by kernel_rfl
theorem ex12_3 : runP orc0 pr 1000 42 [cqF a12, cqF a3, .nils] = some (.b false) := by kernel_rfl
theorem ex12_11 : runP orc0 pr 1000 42 [cqF a12, cqF a11, .nils] = some (.b false) := by kernel_rfl
theorem ex12_19 : runP orc0 pr 1000 42 [cqF a12, cqF a19, .nils] = some (.b false) := by kernel_rfl
theorem ex13_5 : runP orc0 pr 1000 42 [cqF a13, cqF a5, .nils] = some (.b false) := by kernel_rfl
theorem ex13_13 : runP orc0 pr 1000 42 [cqF a13, cqF a13, .nils] = some (.b true) := by kernel_rfl
theorem ex13_21 : runP orc0 pr 1000 42 [cqF a13, cqF a21, .nils] = some (.b false) := by kernel_rfl
theorem ex14_7 : runP orc0 pr 1000 42 [cqF a14, cqF a7, .nils] = some (.b false) := by kernel_rfl
theorem ex14_15 : runP orc0 pr 1000 42 [cqF a14, cqF a15, .nils] = some (.b false) := by kernel_rfl
theorem ex15_1 : runP orc0 pr 1000 42 [cqF a15, cqF a1, .nils] = some (.b false) := by kernel_rfl
theorem ex15_9 : runP orc0 pr 1000 42 [cqF a15, cqF a9, .nils] = some (.b false) := by kernel_rfl
theorem ex15_17 : runP orc0 pr 1000 42 [cqF a15, cqF a17, .nils] = some (.b false) := by kernel_rfl
theorem ex16_3 : runP orc0 pr 1000 42 [cqF a16, cqF a3, .nils] = some (.b false) := by kernel_rfl
theorem ex16_11 : runP orc0 pr 1000 42 [cqF a16, cqF a11, .nils] = some (.b false) := by kernel_rfl
theorem ex16_19 : runP orc0 pr 1000 42 [cqF a16, cqF a19, .nils] = some (.b false) := by kernel_rfl
theorem ex17_5 : runP orc0 pr 1000 42 [cqF a17, cqF a5, .nils] = some (.b false) := by kernel_rfl
theorem ex17_13 : runP orc0 pr 1000 42 [cqF a17, cqF a13, .nils] = some (.b false) := by kernel_rfl
theorem ex17_21 : runP orc0 pr 1000 42 [cqF a17, cqF a21, .nils] = some (.b false) := by kernel_rfl
theorem ex18_7 : runP orc0 pr 1000 42 [cqF a18, cqF a7, .nils] = some (.b true) := by kernel_rfl
theorem ex18_15 : runP orc0 pr 1000 42 [cqF a18, cqF a15, .nils] = some (.b false) := by kernel_rfl
theorem ex19_1 : runP orc0 pr 1000 42 [cqF a19, cqF a1, .nils] = some (.b false) := by kernel_rfl
theorem ex19_9 : runP orc0 pr 1000 42 [cqF a19, cqF a9, .nils] = some (.b false) := by kernel_rfl
theorem ex19_17 : runP orc0 pr 1000 42 [cqF a19, cqF a17, .nils] = some (.b false) := by kernel_rfl
theorem ex20_3 : runP orc0 pr 1000 42 [cqF a20, cqF a3, .nils] = some (.b false) := by kernel_rfl
theorem ex20_11 : runP orc0 pr 1000 42 [cqF a20, cqF a11, .nils] = some (.b false) := by kernel_rfl
theorem ex20_19 : runP orc0 pr 1000 42 [cqF a20, cqF a19, .nils] = some (.b true) := by kernel_rfl
theorem ex21_5 : runP orc0 pr 1000 42 [cqF a21, cqF a5, .nils] = some (.b false) := by kernel_rfl
theorem ex21_13 : runP orc0 pr 1000 42 [cqF a21, cqF a13, .nils] = some (.b false) := by kernel_rfl
theorem ex21_21 : runP orc0 pr 1000 42 [cqF a21, cqF a21, .nils] = some (.b true) := by kernel_rfl
end Go.Proofs.YtoalfeglgioabaaGreat
