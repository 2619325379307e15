/- Which of the conjunctive queries maps into which, run by the kernel. Written by program. -/
import Derived.Test.YtoalfeglgioabaaGreatTab
set_option linter.all false
namespace Go.Proofs.YtoalfeglgioabaaGreat
open Go Go.Vse
set_option maxRecDepth 1000000
theorem ex0_7 : runP orc0 pr 1000 42 [cqF a0, cqF a7, .nils] = some (.b true) := by kernel_rfl
theorem ex0_15 : runP orc0 pr 1000 42 [cqF a0, cqF a15, .nils] = some (.b false) := by kernel_rfl
theorem ex1_1 : runP orc0 pr 1000 42 [cqF a1, cqF a1, .nils] = some (.b true) := by kernel_rfl
theorem ex1_9 : runP orc0 pr 1000 42 [cqF a1, cqF a9, .nils] = some (.b false) := by kernel_rfl
theorem ex1_17 : runP orc0 pr 1000 42 [cqF a1, cqF a17, .nils] = some (.b true) := by kernel_rfl
theorem ex2_3 : runP orc0 pr 1000 42 [cqF a2, cqF a3, .nils] = some (.b false) := by kernel_rfl
theorem ex2_11 : runP orc0 pr 1000 42 [cqF a2, cqF a11, .nils] = some (.b false) := by kernel_rfl
theorem ex2_19 : runP orc0 pr 1000 42 [cqF a2, cqF a19, .nils] = some (.b true) := by kernel_rfl
theorem ex3_5 : runP orc0 pr 1000 42 [cqF a3, cqF a5, .nils] = some (.b false) := by kernel_rfl
theorem ex3_13 : runP orc0 pr 1000 42 [cqF a3, cqF a13, .nils] = some (.b false) := by kernel_rfl
theorem ex3_21 : runP orc0 pr 1000 42 [cqF a3, cqF a21, .nils] = some (.b false) := by kernel_rfl
theorem ex4_7 : runP orc0 pr 1000 42 [cqF a4, cqF a7, .nils] = some (.b false) := by kernel_rfl
theorem ex4_15 : runP orc0 pr 1000 42 [cqF a4, cqF a15, .nils] = some (.b false) := by kernel_rfl
theorem ex5_1 : runP orc0 pr 1000 42 [cqF a5, cqF a1, .nils] = some (.b false) := by kernel_rfl
theorem ex5_9 : runP orc0 pr 1000 42 [cqF a5, cqF a9, .nils] = some (.b false) := by kernel_rfl
theorem ex5_17 : runP orc0 pr 1000 42 [cqF a5, cqF a17, .nils] = some (.b false) := by kernel_rfl
theorem ex6_3 : runP orc0 pr 1000 42 [cqF a6, cqF a3, .nils] = some (.b false) := by kernel_rfl
theorem ex6_11 : runP orc0 pr 1000 42 [cqF a6, cqF a11, .nils] = some (.b false) := by kernel_rfl
theorem ex6_19 : runP orc0 pr 1000 42 [cqF a6, cqF a19, .nils] = some (.b false) := by kernel_rfl
theorem ex7_5 : runP orc0 pr 1000 42 [cqF a7, cqF a5, .nils] = some (.b false) := by kernel_rfl
theorem ex7_13 : runP orc0 pr 1000 42 [cqF a7, cqF a13, .nils] = some (.b false) := by kernel_rfl
theorem ex7_21 : runP orc0 pr 1000 42 [cqF a7, cqF a21, .nils] = some (.b false) := by kernel_rfl
theorem ex8_7 : runP orc0 pr 1000 42 [cqF a8, cqF a7, .nils] = some (.b false) := by kernel_rfl
theorem ex8_15 : runP orc0 pr 1000 42 [cqF a8, cqF a15, .nils] = some (.b false) := by kernel_rfl
theorem ex9_1 : runP orc0 pr 1000 42 [cqF a9, cqF a1, .nils] = some (.b false) := by kernel_rfl
theorem ex9_9 : runP orc0 pr 1000 42 [cqF a9, cqF a9, .nils] = some (.b true) := by kernel_rfl
theorem ex9_17 : runP orc0 pr 1000 42 [cqF a9, cqF a17, .nils] = some (.b true) := by kernel_rfl
theorem ex10_3 : runP orc0 pr 1000 42 [cqF a10, cqF a3, .nils] = some (.b false) := by kernel_rfl
theorem ex10_11 : runP orc0 pr 1000 42 [cqF a10, cqF a11, .nils] = some (.b false) := by kernel_rfl
theorem ex10_19 : runP orc0 pr 1000 42 [cqF a10, cqF a19, .nils] = some (.b false) := by kernel_rfl
theorem ex11_5 : runP orc0 pr 1000 42 [cqF a11, cqF a5, .nils] = some (.b false) := by kernel_rfl
theorem ex11_13 : runP orc0 pr 1000 42 [cqF a11, cqF a13, .nils] = some (.b false) := by kernel_rfl
theorem ex11_21 : runP orc0 pr 1000 42 [cqF a11, cqF a21, .nils] = some (.b false) := by kernel_rfl
theorem ex12_7 : runP orc0 pr 1000 42 [cqF a12, cqF a7, .nils] = some (.b false) := by kernel_rfl
theorem ex12_15 : runP orc0 pr 1000 42 [cqF a12, cqF a15, .nils] = some (.b false) := by kernel_rfl
theorem ex13_1 : runP orc0 pr 1000 42 [cqF a13, cqF a1, .nils] = some (.b false) := by kernel_rfl
theorem ex13_9 : runP orc0 pr 1000 42 [cqF a13, cqF a9, .nils] = some (.b false) := by kernel_rfl
theorem ex13_17 : runP orc0 pr 1000 42 [cqF a13, cqF a17, .nils] = some (.b false) := by kernel_rfl
theorem ex14_3 : runP orc0 pr 1000 42 [cqF a14, cqF a3, .nils] = some (.b false) := by kernel_rfl
theorem ex14_11 : runP orc0 pr 1000 42 [cqF a14, cqF a11, .nils] = some (.b false) := by kernel_rfl
theorem ex14_19 : runP orc0 pr 1000 42 [cqF a14, cqF a19, .nils] = some (.b false) := by kernel_rfl
theorem ex15_5 : runP orc0 pr 1000 42 [cqF a15, cqF a5, .nils] = some (.b false) := by kernel_rfl
theorem ex15_13 : runP orc0 pr 1000 42 [cqF a15, cqF a13, .nils] = some (.b false) := by kernel_rfl
theorem ex15_21 : runP orc0 pr 1000 42 [cqF a15, cqF a21, .nils] = some (.b false) := by kernel_rfl
theorem ex16_7 : runP orc0 pr 1000 42 [cqF a16, cqF a7, .nils] = some (.b false) := by kernel_rfl
theorem ex16_15 : runP orc0 pr 1000 42 [cqF a16, cqF a15, .nils] = some (.b false) := by kernel_rfl
theorem ex17_1 : runP orc0 pr 1000 42 [cqF a17, cqF a1, .nils] = some (.b false) := by kernel_rfl
theorem ex17_9 : runP orc0 pr 1000 42 [cqF a17, cqF a9, .nils] = some (.b false) := by kernel_rfl
theorem ex17_17 : runP orc0 pr 1000 42 [cqF a17, cqF a17, .nils] = some (.b true) := by kernel_rfl
theorem ex18_3 : runP orc0 pr 1000 42 [cqF a18, cqF a3, .nils] = some (.b true) := by kernel_rfl
theorem ex18_11 : runP orc0 pr 1000 42 [cqF a18, cqF a11, .nils] = some (.b true) := by kernel_rfl
theorem ex18_19 : runP orc0 pr 1000 42 [cqF a18, cqF a19, .nils] = some (.b true) := by kernel_rfl
theorem ex19_5 : runP orc0 pr 1000 42 [cqF a19, cqF a5, .nils] = some (.b false) := by kernel_rfl
theorem ex19_13 : runP orc0 pr 1000 42 [cqF a19, cqF a13, .nils] = some (.b false) := by kernel_rfl
theorem ex19_21 : runP orc0 pr 1000 42 [cqF a19, cqF a21, .nils] = some (.b false) := by kernel_rfl
theorem ex20_7 : runP orc0 pr 1000 42 [cqF a20, cqF a7, .nils] = some (.b false) := by kernel_rfl
theorem ex20_15 : runP orc0 pr 1000 42 [cqF a20, cqF a15, .nils] = some (.b true) := by kernel_rfl
theorem ex21_1 : runP orc0 pr 1000 42 [cqF a21, cqF a1, .nils] = some (.b false) := by kernel_rfl
theorem ex21_9 : runP orc0 pr 1000 42 [cqF a21, cqF a9, .nils] = some (.b false) := by kernel_rfl
theorem ex21_17 : runP orc0 pr 1000 42 [cqF a21, cqF a17, .nils] = some (.b false) := by kernel_rfl
end Go.Proofs.YtoalfeglgioabaaGreat
