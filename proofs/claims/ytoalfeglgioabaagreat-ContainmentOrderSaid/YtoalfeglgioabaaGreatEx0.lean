/- Which of the conjunctive queries maps into which, run by the kernel. Written by program. -/
import Derived.Test.YtoalfeglgioabaaGreatTab
set_option linter.all false
namespace Go.Proofs.YtoalfeglgioabaaGreat
open Go Go.Vse
set_option maxRecDepth 1000000
theorem ex0_0 : runP orc0 pr 1000 42 [cqF a0, cqF a0, .nils] = some (.b true) := by kernel_rfl
theorem ex0_8 : runP orc0 pr 1000 42 [cqF a0, cqF a8, .nils] = some (.b true) := by kernel_rfl
theorem ex0_16 : runP orc0 pr 1000 42 [cqF a0, cqF a16, .nils] = some (.b true) := by kernel_rfl
theorem ex1_2 : runP orc0 pr 1000 42 [cqF a1, cqF a2, .nils] = some (.b false) := by kernel_rfl
theorem ex1_10 : runP orc0 pr 1000 42 [cqF a1, cqF a10, .nils] = some (.b false) := by kernel_rfl
theorem ex1_18 : runP orc0 pr 1000 42 [cqF a1, cqF a18, .nils] = some (.b false) := by kernel_rfl
theorem ex2_4 : runP orc0 pr 1000 42 [cqF a2, cqF a4, .nils] = some (.b false) := by kernel_rfl
theorem ex2_12 : runP orc0 pr 1000 42 [cqF a2, cqF a12, .nils] = some (.b false) := by kernel_rfl
theorem ex2_20 : runP orc0 pr 1000 42 [cqF a2, cqF a20, .nils] = some (.b false) := by kernel_rfl
theorem ex3_6 : runP orc0 pr 1000 42 [cqF a3, cqF a6, .nils] = some (.b false) := by kernel_rfl
theorem ex3_14 : runP orc0 pr 1000 42 [cqF a3, cqF a14, .nils] = some (.b false) := by kernel_rfl
theorem ex4_0 : runP orc0 pr 1000 42 [cqF a4, cqF a0, .nils] = some (.b false) := by kernel_rfl
theorem ex4_8 : runP orc0 pr 1000 42 [cqF a4, cqF a8, .nils] = some (.b false) := by kernel_rfl
theorem ex4_16 : runP orc0 pr 1000 42 [cqF a4, cqF a16, .nils] = some (.b false) := by kernel_rfl
theorem ex5_2 : runP orc0 pr 1000 42 [cqF a5, cqF a2, .nils] = some (.b false) := by kernel_rfl
theorem ex5_10 : runP orc0 pr 1000 42 [cqF a5, cqF a10, .nils] = some (.b false) := by kernel_rfl
theorem ex5_18 : runP orc0 pr 1000 42 [cqF a5, cqF a18, .nils] = some (.b false) := by kernel_rfl
theorem ex6_4 : runP orc0 pr 1000 42 [cqF a6, cqF a4, .nils] = some (.b false) := by kernel_rfl
theorem ex6_12 : runP orc0 pr 1000 42 [cqF a6, cqF a12, .nils] = some (.b false) := by kernel_rfl
theorem ex6_20 : runP orc0 pr 1000 42 [cqF a6, cqF a20, .nils] = some (.b false) := by kernel_rfl
theorem ex7_6 : runP orc0 pr 1000 42 [cqF a7, cqF a6, .nils] = some (.b false) := by kernel_rfl
theorem ex7_14 : runP orc0 pr 1000 42 [cqF a7, cqF a14, .nils] = some (.b false) := by kernel_rfl
theorem ex8_0 : runP orc0 pr 1000 42 [cqF a8, cqF a0, .nils] = some (.b false) := by kernel_rfl
theorem ex8_8 : runP orc0 pr 1000 42 [cqF a8, cqF a8, .nils] = some (.b true) := by kernel_rfl
theorem ex8_16 : runP orc0 pr 1000 42 [cqF a8, cqF a16, .nils] = some (.b false) := by kernel_rfl
theorem ex9_2 : runP orc0 pr 1000 42 [cqF a9, cqF a2, .nils] = some (.b false) := by kernel_rfl
theorem ex9_10 : runP orc0 pr 1000 42 [cqF a9, cqF a10, .nils] = some (.b false) := by kernel_rfl
theorem ex9_18 : runP orc0 pr 1000 42 [cqF a9, cqF a18, .nils] = some (.b false) := by kernel_rfl
theorem ex10_4 : runP orc0 pr 1000 42 [cqF a10, cqF a4, .nils] = some (.b false) := by kernel_rfl
theorem ex10_12 : runP orc0 pr 1000 42 [cqF a10, cqF a12, .nils] = some (.b false) := by kernel_rfl
theorem ex10_20 : runP orc0 pr 1000 42 [cqF a10, cqF a20, .nils] = some (.b false) := by kernel_rfl
theorem ex11_6 : runP orc0 pr 1000 42 [cqF a11, cqF a6, .nils] = some (.b false) := by kernel_rfl
theorem ex11_14 : runP orc0 pr 1000 42 [cqF a11, cqF a14, .nils] = some (.b false) := by kernel_rfl
theorem ex12_0 : runP orc0 pr 1000 42 [cqF a12, cqF a0, .nils] = some (.b false) := by kernel_rfl
theorem ex12_8 : runP orc0 pr 1000 42 [cqF a12, cqF a8, .nils] = some (.b false) := by kernel_rfl
theorem ex12_16 : runP orc0 pr 1000 42 [cqF a12, cqF a16, .nils] = some (.b false) := by kernel_rfl
theorem ex13_2 : runP orc0 pr 1000 42 [cqF a13, cqF a2, .nils] = some (.b false) := by kernel_rfl
theorem ex13_10 : runP orc0 pr 1000 42 [cqF a13, cqF a10, .nils] = some (.b false) := by kernel_rfl
theorem ex13_18 : runP orc0 pr 1000 42 [cqF a13, cqF a18, .nils] = some (.b false) := by kernel_rfl
theorem ex14_4 : runP orc0 pr 1000 42 [cqF a14, cqF a4, .nils] = some (.b false) := by kernel_rfl
theorem ex14_12 : runP orc0 pr 1000 42 [cqF a14, cqF a12, .nils] = some (.b false) := by kernel_rfl
theorem ex14_20 : runP orc0 pr 1000 42 [cqF a14, cqF a20, .nils] = some (.b false) := by kernel_rfl
theorem ex15_6 : runP orc0 pr 1000 42 [cqF a15, cqF a6, .nils] = some (.b false) := by kernel_rfl
theorem ex15_14 : runP orc0 pr 1000 42 [cqF a15, cqF a14, .nils] = some (.b false) := by kernel_rfl
theorem ex16_0 : runP orc0 pr 1000 42 [cqF a16, cqF a0, .nils] = some (.b false) := by kernel_rfl
theorem ex16_8 : runP orc0 pr 1000 42 [cqF a16, cqF a8, .nils] = some (.b false) := by kernel_rfl
theorem ex16_16 : runP orc0 pr 1000 42 [cqF a16, cqF a16, .nils] = some (.b true) := by kernel_rfl
theorem ex17_2 : runP orc0 pr 1000 42 [cqF a17, cqF a2, .nils] = some (.b false) := by kernel_rfl
theorem ex17_10 : runP orc0 pr 1000 42 [cqF a17, cqF a10, .nils] = some (.b false) := by kernel_rfl
theorem ex17_18 : runP orc0 pr 1000 42 [cqF a17, cqF a18, .nils] = some (.b false) := by kernel_rfl
theorem ex18_4 : runP orc0 pr 1000 42 [cqF a18, cqF a4, .nils] = some (.b false) := by kernel_rfl
theorem ex18_12 : runP orc0 pr 1000 42 [cqF a18, cqF a12, .nils] = some (.b true) := by kernel_rfl
theorem ex18_20 : runP orc0 pr 1000 42 [cqF a18, cqF a20, .nils] = some (.b false) := by kernel_rfl
theorem ex19_6 : runP orc0 pr 1000 42 [cqF a19, cqF a6, .nils] = some (.b false) := by kernel_rfl
theorem ex19_14 : runP orc0 pr 1000 42 [cqF a19, cqF a14, .nils] = some (.b false) := by kernel_rfl
theorem ex20_0 : runP orc0 pr 1000 42 [cqF a20, cqF a0, .nils] = some (.b false) := by kernel_rfl
theorem ex20_8 : runP orc0 pr 1000 42 [cqF a20, cqF a8, .nils] = some (.b true) := by kernel_rfl
theorem ex20_16 : runP orc0 pr 1000 42 [cqF a20, cqF a16, .nils] = some (.b false) := by kernel_rfl
theorem ex21_2 : runP orc0 pr 1000 42 [cqF a21, cqF a2, .nils] = some (.b false) := by kernel_rfl
theorem ex21_10 : runP orc0 pr 1000 42 [cqF a21, cqF a10, .nils] = some (.b false) := by kernel_rfl
theorem ex21_18 : runP orc0 pr 1000 42 [cqF a21, cqF a18, .nils] = some (.b false) := by kernel_rfl
end Go.Proofs.YtoalfeglgioabaaGreat
