/- Which of the conjunctive queries maps into which, run by the kernel. Written by program. -/
import Derived.Test.YtoalfeglgioabaaGreatTab
set_option linter.all false
namespace Go.Proofs.YtoalfeglgioabaaGreat
open Go Go.Vse
set_option maxRecDepth 1000000
theorem ex0_1 : runP orc0 pr 1000 42 [cqF a0, cqF a1, .nils] = some (.b true) := by kernel_rfl
theorem ex0_9 : runP orc0 pr 1000 42 [cqF a0, cqF a9, .nils] = some (.b false) := by kernel_rfl
theorem ex0_17 : runP orc0 pr 1000 42 [cqF a0, cqF a17, .nils] = some (.b true) := by kernel_rfl
theorem ex1_3 : runP orc0 pr 1000 42 [cqF a1, cqF a3, .nils] = some (.b false) := by kernel_rfl
theorem ex1_11 : runP orc0 pr 1000 42 [cqF a1, cqF a11, .nils] = some (.b false) := by kernel_rfl
theorem ex1_19 : runP orc0 pr 1000 42 [cqF a1, cqF a19, .nils] = some (.b false) := by kernel_rfl
theorem ex2_5 : runP orc0 pr 1000 42 [cqF a2, cqF a5, .nils] = some (.b false) := by kernel_rfl
theorem ex2_13 : runP orc0 pr 1000 42 [cqF a2, cqF a13, .nils] = some (.b false) := by kernel_rfl
theorem ex2_21 : runP orc0 pr 1000 42 [cqF a2, cqF a21, .nils] = some (.b false) := by kernel_rfl
theorem ex3_7 : runP orc0 pr 1000 42 [cqF a3, cqF a7, .nils] = some (.b false) := by kernel_rfl
theorem ex3_15 : runP orc0 pr 1000 42 [cqF a3, cqF a15, .nils] = some (.b false) := by kernel_rfl
theorem ex4_1 : runP orc0 pr 1000 42 [cqF a4, cqF a1, .nils] = some (.b false) := by kernel_rfl
theorem ex4_9 : runP orc0 pr 1000 42 [cqF a4, cqF a9, .nils] = some (.b false) := by kernel_rfl
theorem ex4_17 : runP orc0 pr 1000 42 [cqF a4, cqF a17, .nils] = some (.b false) := by kernel_rfl
theorem ex5_3 : runP orc0 pr 1000 42 [cqF a5, cqF a3, .nils] = some (.b false) := by kernel_rfl
theorem ex5_11 : runP orc0 pr 1000 42 [cqF a5, cqF a11, .nils] = some (.b false) := by kernel_rfl
theorem ex5_19 : runP orc0 pr 1000 42 [cqF a5, cqF a19, .nils] = some (.b false) := by kernel_rfl
theorem ex6_5 : runP orc0 pr 1000 42 [cqF a6, cqF a5, .nils] = some (.b false) := by kernel_rfl
theorem ex6_13 : runP orc0 pr 1000 42 [cqF a6, cqF a13, .nils] = some (.b false) := by kernel_rfl
theorem ex6_21 : runP orc0 pr 1000 42 [cqF a6, cqF a21, .nils] = some (.b true) := by kernel_rfl
theorem ex7_7 : runP orc0 pr 1000 42 [cqF a7, cqF a7, .nils] = some (.b true) := by kernel_rfl
theorem ex7_15 : runP orc0 pr 1000 42 [cqF a7, cqF a15, .nils] = some (.b false) := by kernel_rfl
theorem ex8_1 : runP orc0 pr 1000 42 [cqF a8, cqF a1, .nils] = some (.b false) := by kernel_rfl
theorem ex8_9 : runP orc0 pr 1000 42 [cqF a8, cqF a9, .nils] = some (.b false) := by kernel_rfl
theorem ex8_17 : runP orc0 pr 1000 42 [cqF a8, cqF a17, .nils] = some (.b false) := by kernel_rfl
theorem ex9_3 : runP orc0 pr 1000 42 [cqF a9, cqF a3, .nils] = some (.b true) := by kernel_rfl
theorem ex9_11 : runP orc0 pr 1000 42 [cqF a9, cqF a11, .nils] = some (.b false) := by kernel_rfl
theorem ex9_19 : runP orc0 pr 1000 42 [cqF a9, cqF a19, .nils] = some (.b false) := by kernel_rfl
theorem ex10_5 : runP orc0 pr 1000 42 [cqF a10, cqF a5, .nils] = some (.b false) := by kernel_rfl
theorem ex10_13 : runP orc0 pr 1000 42 [cqF a10, cqF a13, .nils] = some (.b false) := by kernel_rfl
theorem ex10_21 : runP orc0 pr 1000 42 [cqF a10, cqF a21, .nils] = some (.b false) := by kernel_rfl
theorem ex11_7 : runP orc0 pr 1000 42 [cqF a11, cqF a7, .nils] = some (.b false) := by kernel_rfl
theorem ex11_15 : runP orc0 pr 1000 42 [cqF a11, cqF a15, .nils] = some (.b false) := by kernel_rfl
theorem ex12_1 : runP orc0 pr 1000 42 [cqF a12, cqF a1, .nils] = some (.b false) := by kernel_rfl
theorem ex12_9 : runP orc0 pr 1000 42 [cqF a12, cqF a9, .nils] = some (.b false) := by kernel_rfl
theorem ex12_17 : runP orc0 pr 1000 42 [cqF a12, cqF a17, .nils] = some (.b false) := by kernel_rfl
theorem ex13_3 : runP orc0 pr 1000 42 [cqF a13, cqF a3, .nils] = some (.b false) := by kernel_rfl
theorem ex13_11 : runP orc0 pr 1000 42 [cqF a13, cqF a11, .nils] = some (.b false) := by kernel_rfl
theorem ex13_19 : runP orc0 pr 1000 42 [cqF a13, cqF a19, .nils] = some (.b false) := by kernel_rfl
theorem ex14_5 : runP orc0 pr 1000 42 [cqF a14, cqF a5, .nils] = some (.b false) := by kernel_rfl
theorem ex14_13 : runP orc0 pr 1000 42 [cqF a14, cqF a13, .nils] = some (.b false) := by kernel_rfl
theorem ex14_21 : runP orc0 pr 1000 42 [cqF a14, cqF a21, .nils] = some (.b false) := by kernel_rfl
theorem ex15_7 : runP orc0 pr 1000 42 [cqF a15, cqF a7, .nils] = some (.b false) := by kernel_rfl
theorem ex15_15 : runP orc0 pr 1000 42 [cqF a15, cqF a15, .nils] = some (.b true) := by kernel_rfl
theorem ex16_1 : runP orc0 pr 1000 42 [cqF a16, cqF a1, .nils] = some (.b false) := by kernel_rfl
theorem ex16_9 : runP orc0 pr 1000 42 [cqF a16, cqF a9, .nils] = some (.b false) := by kernel_rfl
theorem ex16_17 : runP orc0 pr 1000 42 [cqF a16, cqF a17, .nils] = some (.b false) := by kernel_rfl
theorem ex17_3 : runP orc0 pr 1000 42 [cqF a17, cqF a3, .nils] = some (.b false) := by kernel_rfl
theorem ex17_11 : runP orc0 pr 1000 42 [cqF a17, cqF a11, .nils] = some (.b false) := by kernel_rfl
theorem ex17_19 : runP orc0 pr 1000 42 [cqF a17, cqF a19, .nils] = some (.b false) := by kernel_rfl
theorem ex18_5 : runP orc0 pr 1000 42 [cqF a18, cqF a5, .nils] = some (.b true) := by kernel_rfl
theorem ex18_13 : runP orc0 pr 1000 42 [cqF a18, cqF a13, .nils] = some (.b false) := by kernel_rfl
theorem ex18_21 : runP orc0 pr 1000 42 [cqF a18, cqF a21, .nils] = some (.b true) := by kernel_rfl
theorem ex19_7 : runP orc0 pr 1000 42 [cqF a19, cqF a7, .nils] = some (.b false) := by kernel_rfl
theorem ex19_15 : runP orc0 pr 1000 42 [cqF a19, cqF a15, .nils] = some (.b false) := by kernel_rfl
theorem ex20_1 : runP orc0 pr 1000 42 [cqF a20, cqF a1, .nils] = some (.b true) := by kernel_rfl
theorem ex20_9 : runP orc0 pr 1000 42 [cqF a20, cqF a9, .nils] = some (.b false) := by kernel_rfl
theorem ex20_17 : runP orc0 pr 1000 42 [cqF a20, cqF a17, .nils] = some (.b true) := by kernel_rfl
theorem ex21_3 : runP orc0 pr 1000 42 [cqF a21, cqF a3, .nils] = some (.b false) := by kernel_rfl
theorem ex21_11 : runP orc0 pr 1000 42 [cqF a21, cqF a11, .nils] = some (.b false) := by kernel_rfl
theorem ex21_19 : runP orc0 pr 1000 42 [cqF a21, cqF a19, .nils] = some (.b false) := by kernel_rfl
end Go.Proofs.YtoalfeglgioabaaGreat
