/- Which of the conjunctive queries maps into which, run by the kernel. Written by program. -/
import Derived.Test.YtoalfeglgioabaaGreatTab
set_option linter.all false
namespace Go.Proofs.YtoalfeglgioabaaGreat
open Go Go.Vse
set_option maxRecDepth 1000000
theorem ex0_6 : runP orc0 pr 1000 42 [cqF a0, cqF a6, .nils] = some (.b true) := by kernel_rfl
theorem ex0_14 : runP orc0 pr 1000 42 [cqF a0, cqF a14, .nils] = some (.b false) := by kernel_rfl
theorem ex1_0 : runP orc0 pr 1000 42 [cqF a1, cqF a0, .nils] = some (.b false) := by kernel_rfl
theorem ex1_8 : runP orc0 pr 1000 42 [cqF a1, cqF a8, .nils] = some (.b true) := by kernel_rfl
theorem ex1_16 : runP orc0 pr 1000 42 [cqF a1, cqF a16, .nils] = some (.b false) := by kernel_rfl
theorem ex2_2 : runP orc0 pr 1000 42 [cqF a2, cqF a2, .nils] = some (.b true) := by kernel_rfl
theorem ex2_10 : runP orc0 pr 1000 42 [cqF a2, cqF a10, .nils] = some (.b false) := by kernel_rfl
theorem ex2_18 : runP orc0 pr 1000 42 [cqF a2, cqF a18, .nils] = some (.b false) := by kernel_rfl
theorem ex3_4 : runP orc0 pr 1000 42 [cqF a3, cqF a4, .nils] = some (.b false) := by kernel_rfl
theorem ex3_12 : runP orc0 pr 1000 42 [cqF a3, cqF a12, .nils] = some (.b false) := by kernel_rfl
theorem ex3_20 : runP orc0 pr 1000 42 [cqF a3, cqF a20, .nils] = some (.b false) := by kernel_rfl
theorem ex4_6 : runP orc0 pr 1000 42 [cqF a4, cqF a6, .nils] = some (.b false) := by kernel_rfl
theorem ex4_14 : runP orc0 pr 1000 42 [cqF a4, cqF a14, .nils] = some (.b false) := by kernel_rfl
theorem ex5_0 : runP orc0 pr 1000 42 [cqF a5, cqF a0, .nils] = some (.b false) := by kernel_rfl
theorem ex5_8 : runP orc0 pr 1000 42 [cqF a5, cqF a8, .nils] = some (.b false) := by kernel_rfl
theorem ex5_16 : runP orc0 pr 1000 42 [cqF a5, cqF a16, .nils] = some (.b true) := by kernel_rfl
theorem ex6_2 : runP orc0 pr 1000 42 [cqF a6, cqF a2, .nils] = some (.b false) := by kernel_rfl
theorem ex6_10 : runP orc0 pr 1000 42 [cqF a6, cqF a10, .nils] = some (.b false) := by kernel_rfl
theorem ex6_18 : runP orc0 pr 1000 42 [cqF a6, cqF a18, .nils] = some (.b false) := by kernel_rfl
theorem ex7_4 : runP orc0 pr 1000 42 [cqF a7, cqF a4, .nils] = some (.b false) := by kernel_rfl
theorem ex7_12 : runP orc0 pr 1000 42 [cqF a7, cqF a12, .nils] = some (.b false) := by kernel_rfl
theorem ex7_20 : runP orc0 pr 1000 42 [cqF a7, cqF a20, .nils] = some (.b false) := by kernel_rfl
theorem ex8_6 : runP orc0 pr 1000 42 [cqF a8, cqF a6, .nils] = some (.b false) := by kernel_rfl
theorem ex8_14 : runP orc0 pr 1000 42 [cqF a8, cqF a14, .nils] = some (.b false) := by kernel_rfl
theorem ex9_0 : runP orc0 pr 1000 42 [cqF a9, cqF a0, .nils] = some (.b false) := by kernel_rfl
theorem ex9_8 : runP orc0 pr 1000 42 [cqF a9, cqF a8, .nils] = some (.b false) := by kernel_rfl
theorem ex9_16 : runP orc0 pr 1000 42 [cqF a9, cqF a16, .nils] = some (.b false) := by kernel_rfl
theorem ex10_2 : runP orc0 pr 1000 42 [cqF a10, cqF a2, .nils] = some (.b false) := by kernel_rfl
theorem ex10_10 : runP orc0 pr 1000 42 [cqF a10, cqF a10, .nils] = some (.b true) := by kernel_rfl
theorem ex10_18 : runP orc0 pr 1000 42 [cqF a10, cqF a18, .nils] = some (.b false) := by kernel_rfl
theorem ex11_4 : runP orc0 pr 1000 42 [cqF a11, cqF a4, .nils] = some (.b false) := by kernel_rfl
theorem ex11_12 : runP orc0 pr 1000 42 [cqF a11, cqF a12, .nils] = some (.b false) := by kernel_rfl
theorem ex11_20 : runP orc0 pr 1000 42 [cqF a11, cqF a20, .nils] = some (.b false) := by kernel_rfl
theorem ex12_6 : runP orc0 pr 1000 42 [cqF a12, cqF a6, .nils] = some (.b false) := by kernel_rfl
theorem ex12_14 : runP orc0 pr 1000 42 [cqF a12, cqF a14, .nils] = some (.b false) := by kernel_rfl
theorem ex13_0 : runP orc0 pr 1000 42 [cqF a13, cqF a0, .nils] = some (.b false) := by kernel_rfl
theorem ex13_8 : runP orc0 pr 1000 42 [cqF a13, cqF a8, .nils] = some (.b false) := by kernel_rfl
theorem ex13_16 : runP orc0 pr 1000 42 [cqF a13, cqF a16, .nils] = some (.b false) := by kernel_rfl
theorem ex14_2 : runP orc0 pr 1000 42 [cqF a14, cqF a2, .nils] = some (.b false) := by kernel_rfl
theorem ex14_10 : runP orc0 pr 1000 42 [cqF a14, cqF a10, .nils] = some (.b false) := by kernel_rfl
theorem ex14_18 : runP orc0 pr 1000 42 [cqF a14, cqF a18, .nils] = some (.b false) := by kernel_rfl
theorem ex15_4 : runP orc0 pr 1000 42 [cqF a15, cqF a4, .nils] = some (.b false) := by kernel_rfl
theorem ex15_12 : runP orc0 pr 1000 42 [cqF a15, cqF a12, .nils] = some (.b false) := by kernel_rfl
theorem ex15_20 : runP orc0 pr 1000 42 [cqF a15, cqF a20, .nils] = some (.b false) := by kernel_rfl
theorem ex16_6 : runP orc0 pr 1000 42 [cqF a16, cqF a6, .nils] = some (.b false) := by kernel_rfl
theorem ex16_14 : runP orc0 pr 1000 42 [cqF a16, cqF a14, .nils] = some (.b false) := by kernel_rfl
theorem ex17_0 : runP orc0 pr 1000 42 [cqF a17, cqF a0, .nils] = some (.b false) := by kernel_rfl
theorem ex17_8 : runP orc0 pr 1000 42 [cqF a17, cqF a8, .nils] = some (.b false) := by kernel_rfl
theorem ex17_16 : runP orc0 pr 1000 42 [cqF a17, cqF a16, .nils] = some (.b false) := by kernel_rfl
theorem ex18_2 : runP orc0 pr 1000 42 [cqF a18, cqF a2, .nils] = some (.b true) := by kernel_rfl
theorem ex18_10 : runP orc0 pr 1000 42 [cqF a18, cqF a10, .nils] = some (.b true) := by kernel_rfl
theorem ex18_18 : runP orc0 pr 1000 42 [cqF a18, cqF a18, .nils] = some (.b true) := by kernel_rfl
theorem ex19_4 : runP orc0 pr 1000 42 [cqF a19, cqF a4, .nils] = some (.b false) := by kernel_rfl
theorem ex19_12 : runP orc0 pr 1000 42 [cqF a19, cqF a12, .nils] = some (.b false) := by kernel_rfl
theorem ex19_20 : runP orc0 pr 1000 42 [cqF a19, cqF a20, .nils] = some (.b false) := by kernel_rfl
theorem ex20_6 : runP orc0 pr 1000 42 [cqF a20, cqF a6, .nils] = some (.b false) := by kernel_rfl
theorem ex20_14 : runP orc0 pr 1000 42 [cqF a20, cqF a14, .nils] = some (.b true) := by kernel_rfl
theorem ex21_0 : runP orc0 pr 1000 42 [cqF a21, cqF a0, .nils] = some (.b false) := by kernel_rfl
theorem ex21_8 : runP orc0 pr 1000 42 [cqF a21, cqF a8, .nils] = some (.b false) := by kernel_rfl
theorem ex21_16 : runP orc0 pr 1000 42 [cqF a21, cqF a16, .nils] = some (.b true) := by kernel_rfl
end Go.Proofs.YtoalfeglgioabaaGreat
