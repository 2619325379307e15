/- Which of the conjunctive queries maps into which, run by the kernel. Written by program. -/
import Derived.Test.YtoalfeglgioabaaGreatTab
set_option linter.all false
namespace Go.Proofs.YtoalfeglgioabaaGreat
open Go Go.Vse
set_option maxRecDepth 1000000
theorem ex0_5 : runP orc0 pr 1000 42 [cqF a0, cqF a5, .nils] = some (.b true) := by kernel_rfl
theorem ex0_13 : runP orc0 pr 1000 42 [cqF a0, cqF a13, .nils] = some (.b false) := by kernel_rfl
theorem ex0_21 : runP orc0 pr 1000 42 [cqF a0, cqF a21, .nils] = some (.b true) := by kernel_rfl
theorem ex1_7 : runP orc0 pr 1000 42 [cqF a1, cqF a7, .nils] = some (.b false) := by kernel_rfl
theorem ex1_15 : runP orc0 pr 1000 42 [cqF a1, cqF a15, .nils] = some (.b false) := by kernel_rfl
theorem ex2_1 : runP orc0 pr 1000 42 [cqF a2, cqF a1, .nils] = some (.b false) := by kernel_rfl
theorem ex2_9 : runP orc0 pr 1000 42 [cqF a2, cqF a9, .nils] = some (.b false) := by kernel_rfl
theorem ex2_17 : runP orc0 pr 1000 42 [cqF a2, cqF a17, .nils] = some (.b false) := by kernel_rfl
theorem ex3_3 : runP orc0 pr 1000 42 [cqF a3, cqF a3, .nils] = some (.b true) := by kernel_rfl
theorem ex3_11 : runP orc0 pr 1000 42 [cqF a3, cqF a11, .nils] = some (.b false) := by kernel_rfl
theorem ex3_19 : runP orc0 pr 1000 42 [cqF a3, cqF a19, .nils] = some (.b false) := by kernel_rfl
theorem ex4_5 : runP orc0 pr 1000 42 [cqF a4, cqF a5, .nils] = some (.b false) := by kernel_rfl
theorem ex4_13 : runP orc0 pr 1000 42 [cqF a4, cqF a13, .nils] = some (.b false) := by kernel_rfl
theorem ex4_21 : runP orc0 pr 1000 42 [cqF a4, cqF a21, .nils] = some (.b false) := by kernel_rfl
theorem ex5_7 : runP orc0 pr 1000 42 [cqF a5, cqF a7, .nils] = some (.b false) := by kernel_rfl
theorem ex5_15 : runP orc0 pr 1000 42 [cqF a5, cqF a15, .nils] = some (.b false) := by kernel_rfl
theorem ex6_1 : runP orc0 pr 1000 42 [cqF a6, cqF a1, .nils] = some (.b false) := by kernel_rfl
theorem ex6_9 : runP orc0 pr 1000 42 [cqF a6, cqF a9, .nils] = some (.b false) := by kernel_rfl
theorem ex6_17 : runP orc0 pr 1000 42 [cqF a6, cqF a17, .nils] = some (.b false) := by kernel_rfl
theorem ex7_3 : runP orc0 pr 1000 42 [cqF a7, cqF a3, .nils] = some (.b false) := by kernel_rfl
theorem ex7_11 : runP orc0 pr 1000 42 [cqF a7, cqF a11, .nils] = some (.b false) := by kernel_rfl
theorem ex7_19 : runP orc0 pr 1000 42 [cqF a7, cqF a19, .nils] = some (.b false) := by kernel_rfl
theorem ex8_5 : runP orc0 pr 1000 42 [cqF a8, cqF a5, .nils] = some (.b false) := by kernel_rfl
theorem ex8_13 : runP orc0 pr 1000 42 [cqF a8, cqF a13, .nils] = some (.b false) := by kernel_rfl
theorem ex8_21 : runP orc0 pr 1000 42 [cqF a8, cqF a21, .nils] = some (.b false) := by kernel_rfl
theorem ex9_7 : runP orc0 pr 1000 42 [cqF a9, cqF a7, .nils] = some (.b false) := by kernel_rfl
theorem ex9_15 : runP orc0 pr 1000 42 [cqF a9, cqF a15, .nils] = some (.b true) := by kernel_rfl
theorem ex10_1 : runP orc0 pr 1000 42 [cqF a10, cqF a1, .nils] = some (.b false) := by kernel_rfl
theorem ex10_9 : runP orc0 pr 1000 42 [cqF a10, cqF a9, .nils] = some (.b false) := by kernel_rfl
theorem ex10_17 : runP orc0 pr 1000 42 [cqF a10, cqF a17, .nils] = some (.b false) := by kernel_rfl
theorem ex11_3 : runP orc0 pr 1000 42 [cqF a11, cqF a3, .nils] = some (.b false) := by kernel_rfl
theorem ex11_11 : runP orc0 pr 1000 42 [cqF a11, cqF a11, .nils] = some (.b true) := by kernel_rfl
theorem ex11_19 : runP orc0 pr 1000 42 [cqF a11, cqF a19, .nils] = some (.b false) := by kernel_rfl
theorem ex12_5 : runP orc0 pr 1000 42 [cqF a12, cqF a5, .nils] = some (.b false) := by kernel_rfl
theorem ex12_13 : runP orc0 pr 1000 42 [cqF a12, cqF a13, .nils] = some (.b false) := by kernel_rfl
theorem ex12_21 : runP orc0 pr 1000 42 [cqF a12, cqF a21, .nils] = some (.b false) := by kernel_rfl
theorem ex13_7 : runP orc0 pr 1000 42 [cqF a13, cqF a7, .nils] = some (.b false) := by kernel_rfl
theorem ex13_15 : runP orc0 pr 1000 42 [cqF a13, cqF a15, .nils] = some (.b false) := by kernel_rfl
theorem ex14_1 : runP orc0 pr 1000 42 [cqF a14, cqF a1, .nils] = some (.b false) := by kernel_rfl
theorem ex14_9 : runP orc0 pr 1000 42 [cqF a14, cqF a9, .nils] = some (.b false) := by kernel_rfl
theorem ex14_17 : runP orc0 pr 1000 42 [cqF a14, cqF a17, .nils] = some (.b false) := by kernel_rfl
theorem ex15_3 : runP orc0 pr 1000 42 [cqF a15, cqF a3, .nils] = some (.b false) := by kernel_rfl
theorem ex15_11 : runP orc0 pr 1000 42 [cqF a15, cqF a11, .nils] = some (.b false) := by kernel_rfl
theorem ex15_19 : runP orc0 pr 1000 42 [cqF a15, cqF a19, .nils] = some (.b false) := by kernel_rfl
theorem ex16_5 : runP orc0 pr 1000 42 [cqF a16, cqF a5, .nils] = some (.b false) := by kernel_rfl
theorem ex16_13 : runP orc0 pr 1000 42 [cqF a16, cqF a13, .nils] = some (.b false) := by kernel_rfl
theorem ex16_21 : runP orc0 pr 1000 42 [cqF a16, cqF a21, .nils] = some (.b true) := by kernel_rfl
theorem ex17_7 : runP orc0 pr 1000 42 [cqF a17, cqF a7, .nils] = some (.b false) := by kernel_rfl
theorem ex17_15 : runP orc0 pr 1000 42 [cqF a17, cqF a15, .nils] = some (.b false) := by kernel_rfl
theorem ex18_1 : runP orc0 pr 1000 42 [cqF a18, cqF a1, .nils] = some (.b true) := by kernel_rfl
theorem ex18_9 : runP orc0 pr 1000 42 [cqF a18, cqF a9, .nils] = some (.b false) := by kernel_rfl
theorem ex18_17 : runP orc0 pr 1000 42 [cqF a18, cqF a17, .nils] = some (.b true) := by kernel_rfl
theorem ex19_3 : runP orc0 pr 1000 42 [cqF a19, cqF a3, .nils] = some (.b false) := by kernel_rfl
theorem ex19_11 : runP orc0 pr 1000 42 [cqF a19, cqF a11, .nils] = some (.b false) := by kernel_rfl
theorem ex19_19 : runP orc0 pr 1000 42 [cqF a19, cqF a19, .nils] = some (.b true) := by kernel_rfl
theorem ex20_5 : runP orc0 pr 1000 42 [cqF a20, cqF a5, .nils] = some (.b false) := by kernel_rfl
theorem ex20_13 : runP orc0 pr 1000 42 [cqF a20, cqF a13, .nils] = some (.b true) := by kernel_rfl
theorem ex20_21 : runP orc0 pr 1000 42 [cqF a20, cqF a21, .nils] = some (.b false) := by kernel_rfl
theorem ex21_7 : runP orc0 pr 1000 42 [cqF a21, cqF a7, .nils] = some (.b false) := by kernel_rfl
theorem ex21_15 : runP orc0 pr 1000 42 [cqF a21, cqF a15, .nils] = some (.b false) := by kernel_rfl
end Go.Proofs.YtoalfeglgioabaaGreat
