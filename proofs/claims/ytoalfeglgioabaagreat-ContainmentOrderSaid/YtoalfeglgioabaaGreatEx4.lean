/- Which of the conjunctive queries maps into which, run by the kernel. Written by program. -/
import Derived.Test.YtoalfeglgioabaaGreatTab
set_option linter.all false
namespace Go.Proofs.YtoalfeglgioabaaGreat
open Go Go.Vse
set_option maxRecDepth 1000000
theorem ex0_4 : runP orc0 pr 1000 42 [cqF a0, cqF a4, .nils] = some (.b false) := by kernel_rfl
theorem ex0_12 : runP orc0 pr 1000 42 [cqF a0, cqF a12, .nils] = some (.b true) := by kernel_rfl
theorem ex0_20 : runP orc0 pr 1000 42 [cqF a0, cqF a20, .nils] = some (.b false) := by kernel_rfl
theorem ex1_6 : runP orc0 pr 1000 42 [cqF a1, cqF a6, .nils] = some (.b false) := by kernel_rfl
theorem ex1_14 : runP orc0 pr 1000 42 [cqF a1, cqF a14, .nils] = some (.b false) := by kernel_rfl
theorem ex2_0 : runP orc0 pr 1000 42 [cqF a2, cqF a0, .nils] = some (.b false) := by kernel_rfl
theorem ex2_8 : runP orc0 pr 1000 42 [cqF a2, cqF a8, .nils] = some (.b true) := by kernel_rfl
theorem ex2_16 : runP orc0 pr 1000 42 [cqF a2, cqF a16, .nils] = some (.b false) := by kernel_rfl
theorem ex3_2 : runP orc0 pr 1000 42 [cqF a3, cqF a2, .nils] = some (.b false) := by kernel_rfl
theorem ex3_10 : runP orc0 pr 1000 42 [cqF a3, cqF a10, .nils] = some (.b false) := by kernel_rfl
theorem ex3_18 : runP orc0 pr 1000 42 [cqF a3, cqF a18, .nils] = some (.b false) := by kernel_rfl
theorem ex4_4 : runP orc0 pr 1000 42 [cqF a4, cqF a4, .nils] = some (.b true) := by kernel_rfl
theorem ex4_12 : runP orc0 pr 1000 42 [cqF a4, cqF a12, .nils] = some (.b false) := by kernel_rfl
theorem ex4_20 : runP orc0 pr 1000 42 [cqF a4, cqF a20, .nils] = some (.b false) := by kernel_rfl
theorem ex5_6 : runP orc0 pr 1000 42 [cqF a5, cqF a6, .nils] = some (.b true) := by kernel_rfl
theorem ex5_14 : runP orc0 pr 1000 42 [cqF a5, cqF a14, .nils] = some (.b false) := by kernel_rfl
theorem ex6_0 : runP orc0 pr 1000 42 [cqF a6, cqF a0, .nils] = some (.b false) := by kernel_rfl
theorem ex6_8 : runP orc0 pr 1000 42 [cqF a6, cqF a8, .nils] = some (.b false) := by kernel_rfl
theorem ex6_16 : runP orc0 pr 1000 42 [cqF a6, cqF a16, .nils] = some (.b true) := by kernel_rfl
theorem ex7_2 : runP orc0 pr 1000 42 [cqF a7, cqF a2, .nils] = some (.b false) := by kernel_rfl
theorem ex7_10 : runP orc0 pr 1000 42 [cqF a7, cqF a10, .nils] = some (.b false) := by kernel_rfl
theorem ex7_18 : runP orc0 pr 1000 42 [cqF a7, cqF a18, .nils] = some (.b false) := by kernel_rfl
theorem ex8_4 : runP orc0 pr 1000 42 [cqF a8, cqF a4, .nils] = some (.b false) := by kernel_rfl
theorem ex8_12 : runP orc0 pr 1000 42 [cqF a8, cqF a12, .nils] = some (.b false) := by kernel_rfl
theorem ex8_20 : runP orc0 pr 1000 42 [cqF a8, cqF a20, .nils] = some (.b false) := by kernel_rfl
theorem ex9_6 : runP orc0 pr 1000 42 [cqF a9, cqF a6, .nils] = some (.b false) := by kernel_rfl
theorem ex9_14 : runP orc0 pr 1000 42 [cqF a9, cqF a14, .nils] = some (.b true) := by kernel_rfl
theorem ex10_0 : runP orc0 pr 1000 42 [cqF a10, cqF a0, .nils] = some (.b false) := by kernel_rfl
theorem ex10_8 : runP orc0 pr 1000 42 [cqF a10, cqF a8, .nils] = some (.b false) := by kernel_rfl
theorem ex10_16 : runP orc0 pr 1000 42 [cqF a10, cqF a16, .nils] = some (.b false) := by kernel_rfl
theorem ex11_2 : runP orc0 pr 1000 42 [cqF a11, cqF a2, .nils] = some (.b false) := by kernel_rfl
theorem ex11_10 : runP orc0 pr 1000 42 [cqF a11, cqF a10, .nils] = some (.b false) := by kernel_rfl
theorem ex11_18 : runP orc0 pr 1000 42 [cqF a11, cqF a18, .nils] = some (.b false) := by kernel_rfl
theorem ex12_4 : runP orc0 pr 1000 42 [cqF a12, cqF a4, .nils] = some (.b false) := by kernel_rfl
theorem ex12_12 : runP orc0 pr 1000 42 [cqF a12, cqF a12, .nils] = some (.b true) := by kernel_rfl
theorem ex12_20 : runP orc0 pr 1000 42 [cqF a12, cqF a20, .nils] = some (.b false) := by kernel_rfl
theorem ex13_6 : runP orc0 pr 1000 42 [cqF a13, cqF a6, .nils] = some (.b false) := by kernel_rfl
theorem ex13_14 : runP orc0 pr 1000 42 [cqF a13, cqF a14, .nils] = some (.b false) := by kernel_rfl
theorem ex14_0 : runP orc0 pr 1000 42 [cqF a14, cqF a0, .nils] = some (.b false) := by kernel_rfl
theorem ex14_8 : runP orc0 pr 1000 42 [cqF a14, cqF a8, .nils] = some (.b false) := by kernel_rfl
theorem ex14_16 : runP orc0 pr 1000 42 [cqF a14, cqF a16, .nils] = some (.b false) := by kernel_rfl
theorem ex15_2 : runP orc0 pr 1000 42 [cqF a15, cqF a2, .nils] = some (.b false) := by kernel_rfl
theorem ex15_10 : runP orc0 pr 1000 42 [cqF a15, cqF a10, .nils] = some (.b false) := by kernel_rfl
theorem ex15_18 : runP orc0 pr 1000 42 [cqF a15, cqF a18, .nils] = some (.b false) := by kernel_rfl
theorem ex16_4 : runP orc0 pr 1000 42 [cqF a16, cqF a4, .nils] = some (.b false) := by kernel_rfl
theorem ex16_12 : runP orc0 pr 1000 42 [cqF a16, cqF a12, .nils] = some (.b false) := by kernel_rfl
theorem ex16_20 : runP orc0 pr 1000 42 [cqF a16, cqF a20, .nils] = some (.b false) := by kernel_rfl
theorem ex17_6 : runP orc0 pr 1000 42 [cqF a17, cqF a6, .nils] = some (.b false) := by kernel_rfl
theorem ex17_14 : runP orc0 pr 1000 42 [cqF a17, cqF a14, .nils] = some (.b false) := by kernel_rfl
theorem ex18_0 : runP orc0 pr 1000 42 [cqF a18, cqF a0, .nils] = some (.b true) := by kernel_rfl
theorem ex18_8 : runP orc0 pr 1000 42 [cqF a18, cqF a8, .nils] = some (.b true) := by kernel_rfl
theorem ex18_16 : runP orc0 pr 1000 42 [cqF a18, cqF a16, .nils] = some (.b true) := by kernel_rfl
theorem ex19_2 : runP orc0 pr 1000 42 [cqF a19, cqF a2, .nils] = some (.b true) := by kernel_rfl
theorem ex19_10 : runP orc0 pr 1000 42 [cqF a19, cqF a10, .nils] = some (.b false) := by kernel_rfl
theorem ex19_18 : runP orc0 pr 1000 42 [cqF a19, cqF a18, .nils] = some (.b false) := by kernel_rfl
theorem ex20_4 : runP orc0 pr 1000 42 [cqF a20, cqF a4, .nils] = some (.b true) := by kernel_rfl
theorem ex20_12 : runP orc0 pr 1000 42 [cqF a20, cqF a12, .nils] = some (.b false) := by kernel_rfl
theorem ex20_20 : runP orc0 pr 1000 42 [cqF a20, cqF a20, .nils] = some (.b true) := by kernel_rfl
theorem ex21_6 : runP orc0 pr 1000 42 [cqF a21, cqF a6, .nils] = some (.b false) := by kernel_rfl
theorem ex21_14 : runP orc0 pr 1000 42 [cqF a21, cqF a14, .nils] = some (.b false) := by kernel_rfl
end Go.Proofs.YtoalfeglgioabaaGreat
