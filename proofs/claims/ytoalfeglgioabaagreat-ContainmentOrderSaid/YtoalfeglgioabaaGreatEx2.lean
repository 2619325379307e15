/- Which of the conjunctive queries maps into which, run by the kernel. Written by program. -/
import Derived.Test.YtoalfeglgioabaaGreatTab
set_option linter.all false
namespace Go.Proofs.YtoalfeglgioabaaGreat
open Go Go.Vse
set_option maxRecDepth 1000000
theorem ex0_2 : runP orc0 pr 1000 42 [cqF a0, cqF a2, .nils] = some (.b true) := by kernel_rfl
theorem ex0_10 : runP orc0 pr 1000 42 [cqF a0, cqF a10, .nils] = some (.b true) := by kernel_rfl
theorem ex0_18 : runP orc0 pr 1000 42 [cqF a0, cqF a18, .nils] = some (.b true) := by kernel_rfl
theorem ex1_4 : runP orc0 pr 1000 42 [cqF a1, cqF a4, .nils] = some (.b false) := by kernel_rfl
theorem ex1_12 : runP orc0 pr 1000 42 [cqF a1, cqF a12, .nils] = some (.b false) := by kernel_rfl
theorem ex1_20 : runP orc0 pr 1000 42 [cqF a1, cqF a20, .nils] = some (.b false) := by kernel_rfl
theorem ex2_6 : runP orc0 pr 1000 42 [cqF a2, cqF a6, .nils] = some (.b false) := by kernel_rfl
theorem ex2_14 : runP orc0 pr 1000 42 [cqF a2, cqF a14, .nils] = some (.b false) := by kernel_rfl
theorem ex3_0 : runP orc0 pr 1000 42 [cqF a3, cqF a0, .nils] = some (.b false) := by kernel_rfl
theorem ex3_8 : runP orc0 pr 1000 42 [cqF a3, cqF a8, .nils] = some (.b false) := by kernel_rfl
theorem ex3_16 : runP orc0 pr 1000 42 [cqF a3, cqF a16, .nils] = some (.b false) := by kernel_rfl
theorem ex4_2 : runP orc0 pr 1000 42 [cqF a4, cqF a2, .nils] = some (.b false) := by kernel_rfl
theorem ex4_10 : runP orc0 pr 1000 42 [cqF a4, cqF a10, .nils] = some (.b false) := by kernel_rfl
theorem ex4_18 : runP orc0 pr 1000 42 [cqF a4, cqF a18, .nils] = some (.b false) := by kernel_rfl
theorem ex5_4 : runP orc0 pr 1000 42 [cqF a5, cqF a4, .nils] = some (.b false) := by kernel_rfl
theorem ex5_12 : runP orc0 pr 1000 42 [cqF a5, cqF a12, .nils] = some (.b false) := by kernel_rfl
theorem ex5_20 : runP orc0 pr 1000 42 [cqF a5, cqF a20, .nils] = some (.b false) := by kernel_rfl
theorem ex6_6 : runP orc0 pr 1000 42 [cqF a6, cqF a6, .nils] = some (.b true) := by kernel_rfl
theorem ex6_14 : runP orc0 pr 1000 42 [cqF a6, cqF a14, .nils] = some (.b false) := by kernel_rfl
theorem ex7_0 : runP orc0 pr 1000 42 [cqF a7, cqF a0, .nils] = some (.b false) := by kernel_rfl
theorem ex7_8 : runP orc0 pr 1000 42 [cqF a7, cqF a8, .nils] = some (.b false) := by kernel_rfl
theorem ex7_16 : runP orc0 pr 1000 42 [cqF a7, cqF a16, .nils] = some (.b false) := by kernel_rfl
theorem ex8_2 : runP orc0 pr 1000 42 [cqF a8, cqF a2, .nils] = some (.b false) := by kernel_rfl
theorem ex8_10 : runP orc0 pr 1000 42 [cqF a8, cqF a10, .nils] = some (.b false) := by kernel_rfl
theorem ex8_18 : runP orc0 pr 1000 42 [cqF a8, cqF a18, .nils] = some (.b false) := by kernel_rfl
theorem ex9_4 : runP orc0 pr 1000 42 [cqF a9, cqF a4, .nils] = some (.b true) := by kernel_rfl
theorem ex9_12 : runP orc0 pr 1000 42 [cqF a9, cqF a12, .nils] = some (.b false) := by kernel_rfl
theorem ex9_20 : runP orc0 pr 1000 42 [cqF a9, cqF a20, .nils] = some (.b false) := by kernel_rfl
theorem ex10_6 : runP orc0 pr 1000 42 [cqF a10, cqF a6, .nils] = some (.b false) := by kernel_rfl
theorem ex10_14 : runP orc0 pr 1000 42 [cqF a10, cqF a14, .nils] = some (.b false) := by kernel_rfl
theorem ex11_0 : runP orc0 pr 1000 42 [cqF a11, cqF a0, .nils] = some (.b false) := by kernel_rfl
theorem ex11_8 : runP orc0 pr 1000 42 [cqF a11, cqF a8, .nils] = some (.b false) := by kernel_rfl
theorem ex11_16 : runP orc0 pr 1000 42 [cqF a11, cqF a16, .nils] = some (.b false) := by kernel_rfl
theorem ex12_2 : runP orc0 pr 1000 42 [cqF a12, cqF a2, .nils] = some (.b false) := by kernel_rfl
theorem ex12_10 : runP orc0 pr 1000 42 [cqF a12, cqF a10, .nils] = some (.b false) := by kernel_rfl
theorem ex12_18 : runP orc0 pr 1000 42 [cqF a12, cqF a18, .nils] = some (.b false) := by kernel_rfl
theorem ex13_4 : runP orc0 pr 1000 42 [cqF a13, cqF a4, .nils] = some (.b false) := by kernel_rfl
theorem ex13_12 : runP orc0 pr 1000 42 [cqF a13, cqF a12, .nils] = some (.b false) := by kernel_rfl
theorem ex13_20 : runP orc0 pr 1000 42 [cqF a13, cqF a20, .nils] = some (.b false) := by kernel_rfl
theorem ex14_6 : runP orc0 pr 1000 42 [cqF a14, cqF a6, .nils] = some (.b false) := by kernel_rfl
theorem ex14_14 : runP orc0 pr 1000 42 [cqF a14, cqF a14, .nils] = some (.b true) := by kernel_rfl
theorem ex15_0 : runP orc0 pr 1000 42 [cqF a15, cqF a0, .nils] = some (.b false) := by kernel_rfl
theorem ex15_8 : runP orc0 pr 1000 42 [cqF a15, cqF a8, .nils] = some (.b false) := by kernel_rfl
theorem ex15_16 : runP orc0 pr 1000 42 [cqF a15, cqF a16, .nils] = some (.b false) := by kernel_rfl
theorem ex16_2 : runP orc0 pr 1000 42 [cqF a16, cqF a2, .nils] = some (.b false) := by kernel_rfl
theorem ex16_10 : runP orc0 pr 1000 42 [cqF a16, cqF a10, .nils] = some (.b false) := by kernel_rfl
theorem ex16_18 : runP orc0 pr 1000 42 [cqF a16, cqF a18, .nils] = some (.b false) := by kernel_rfl
theorem ex17_4 : runP orc0 pr 1000 42 [cqF a17, cqF a4, .nils] = some (.b false) := by kernel_rfl
theorem ex17_12 : runP orc0 pr 1000 42 [cqF a17, cqF a12, .nils] = some (.b false) := by kernel_rfl
theorem ex17_20 : runP orc0 pr 1000 42 [cqF a17, cqF a20, .nils] = some (.b false) := by kernel_rfl
theorem ex18_6 : runP orc0 pr 1000 42 [cqF a18, cqF a6, .nils] = some (.b true) := by kernel_rfl
theorem ex18_14 : runP orc0 pr 1000 42 [cqF a18, cqF a14, .nils] = some (.b false) := by kernel_rfl
theorem ex19_0 : runP orc0 pr 1000 42 [cqF a19, cqF a0, .nils] = some (.b false) := by kernel_rfl
theorem ex19_8 : runP orc0 pr 1000 42 [cqF a19, cqF a8, .nils] = some (.b true) := by kernel_rfl
theorem ex19_16 : runP orc0 pr 1000 42 [cqF a19, cqF a16, .nils] = some (.b false) := by kernel_rfl
theorem ex20_2 : runP orc0 pr 1000 42 [cqF a20, cqF a2, .nils] = some (.b true) := by kernel_rfl
theorem ex20_10 : runP orc0 pr 1000 42 [cqF a20, cqF a10, .nils] = some (.b false) := by kernel_rfl
theorem ex20_18 : runP orc0 pr 1000 42 [cqF a20, cqF a18, .nils] = some (.b false) := by kernel_rfl
theorem ex21_4 : runP orc0 pr 1000 42 [cqF a21, cqF a4, .nils] = some (.b false) := by kernel_rfl
theorem ex21_12 : runP orc0 pr 1000 42 [cqF a21, cqF a12, .nils] = some (.b false) := by kernel_rfl
theorem ex21_20 : runP orc0 pr 1000 42 [cqF a21, cqF a20, .nils] = some (.b false) := by kernel_rfl
end Go.Proofs.YtoalfeglgioabaaGreat
