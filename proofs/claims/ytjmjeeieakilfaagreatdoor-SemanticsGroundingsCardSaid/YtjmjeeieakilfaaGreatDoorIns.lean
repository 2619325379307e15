/- slices.Insert of one value at the head of a slice of one element that has room: the two copies, in place. Conditions: none. -/
import Derived.Test.YtjmjeeieakilfaaGreatDoorProg
import Derived.Test.YtjmjeeieakilfaaGreatDoorVf
import Derived.WalkKit
import Derived.ProofKit
import Derived.Deep.RegionLaw
import Derived.Lib.Overlaps
import Derived.KernelRfl
set_option linter.all false
namespace Go.Proofs.YtjmjeeieakilfaaGreatDoor
open Go Go.RowKit
set_option maxRecDepth 100000
set_option maxHeartbeats 4000000

theorem step_cp {P : Program} {ops : Array Oper} {o : Oper} {a : Act} {w w' : World} {v : Value} {K : Act → World → Prop} {Q : Exit → Act → World → Prop} {E : Prop}
    (hg : o.guard = none) (d s : Operand) (dT sT : TypeId) (hop : o.op = Op.call { callee := Callee.builtin Builtin.copy, args := #[d, s], argTypes := #[dT, sT] })
    (dv sv : Value) (hd : a.eval d = dv) (hs : a.eval s = sv) (hrun : (Builtin.copy_ #[dT, sT] o.type #[dv, sv]).run P w = .ok v w') (hK : K (a.put o.dst v) w') :
    if Region.wanted o (yielded ops a.tmps) = true then Oper.wp P o a w K Q else E := by
  have hw : Region.wanted o (yielded ops a.tmps) = true := by simp [Region.wanted, hg]
  rw [if_pos hw]
  unfold Oper.wp
  simp [execOp, hop, resolve, invoke, builtin, hd, hs, hrun, Result.andThen]
  exact hK

theorem insB66 (w : World) (b bv ov C Cv : Nat) (hC : 2 ≤ C)
    (hov : (callFunc 134 #[.slice (some ⟨bv, ov, none⟩) 1 Cv, .slice (some ⟨b, 1, none⟩) 1 (C - 1)]).run Tryz.prog w = .ok (.value (.bool false)) w)
    (w1 w2 : World) (hcp1 : (Builtin.copy_ #[98, 98] 3 #[.slice (some ⟨b, 1, none⟩) 1 (C - 1), .slice (some ⟨b, 0, none⟩) 2 C]).run Tryz.prog w.drew = .ok (.int .i64 1) w1)
    (hcp2 : (Builtin.copy_ #[98, 98] 3 #[.slice (some ⟨b, 0, none⟩) 2 C, .slice (some ⟨bv, ov, none⟩) 1 Cv]).run Tryz.prog w1 = .ok (.int .i64 1) w2) :
    Calls Tryz.prog 66 #[.slice (some ⟨b, 0, none⟩) 1 C, .int .i64 0, .slice (some ⟨bv, ov, none⟩) 1 Cv] w fun e w' => e = .returned (.slice (some ⟨b, 0, none⟩) 2 C) ∧ w' = w2 := by
  have hgt : ¬ (C < 2) := by omega
  have hw1 : IntKind.i64.wrap 1 = 1 := rfl
  have hw2 : IntKind.i64.wrap 2 = 2 := rfl
  have hC1 : ¬ (C = 1) := by omega
  go_enter Tryz.func66, Tryz.ntmps66
  go_wp2
  go_region_law (refine step_cp rfl (.tmp 73) (.tmp 76) 98 98 rfl _ _ (by simp [Act.eval, Act.put]) (by simp [Act.eval, Act.put]) hcp1 ?_)
  go_wp2
  go_ret
  exact ⟨rfl, rfl⟩

theorem und98 : Tryz.prog.underlying 98 = some (.slice 102) := by kernel_rfl
theorem szo102 : ((Tryz.prog.info? 102).map (·.size)).isSome = true := by kernel_rfl
theorem place66 : Go.Vse.InPlace Tryz.prog 66 1 98 := by
  intro w w1 w2 b bv ov C Cv hC hap h1 h2
  obtain ⟨hne, tA, kA, tB, kB, hsa, hsb, hkB, hfa, hfe⟩ := hap
  refine insB66 w b bv ov C Cv hC ?_ w1 w2 h1 h2
  rw [run_callFunc_extern Tryz.func134 (by kernel_rfl) (by kernel_rfl) (by kernel_rfl) (e := Extern.SlicesOverlaps.overlaps Tryz.f134.params Tryz.f134.resultTypes) rfl]
  obtain ⟨i, hi⟩ := Option.isSome_iff_exists.1 szo102
  obtain ⟨inf, hinf, _⟩ := Option.map_eq_some_iff.1 hi
  have := Go.Lib.run_overlaps_apart (P := Tryz.prog) w 98 4 102 und98 inf.size (by intro w; simp [sizeOf, typeInfo, hinf]) ⟨bv, ov, none⟩ ⟨b, 1, none⟩ 1 Cv 1 (C - 1) hne tA tB kA kB hsa hsb hkB hfa hfe
  exact (congrArg (Result.andThen · _) this).trans rfl

theorem insB68 (w : World) (b bv ov C Cv : Nat) (hC : 2 ≤ C)
    (hov : (callFunc 136 #[.slice (some ⟨bv, ov, none⟩) 1 Cv, .slice (some ⟨b, 3, none⟩) 1 (C - 1)]).run Tryz.prog w = .ok (.value (.bool false)) w)
    (w1 w2 : World) (hcp1 : (Builtin.copy_ #[108, 108] 3 #[.slice (some ⟨b, 3, none⟩) 1 (C - 1), .slice (some ⟨b, 0, none⟩) 2 C]).run Tryz.prog w.drew = .ok (.int .i64 1) w1)
    (hcp2 : (Builtin.copy_ #[108, 108] 3 #[.slice (some ⟨b, 0, none⟩) 2 C, .slice (some ⟨bv, ov, none⟩) 1 Cv]).run Tryz.prog w1 = .ok (.int .i64 1) w2) :
    Calls Tryz.prog 68 #[.slice (some ⟨b, 0, none⟩) 1 C, .int .i64 0, .slice (some ⟨bv, ov, none⟩) 1 Cv] w fun e w' => e = .returned (.slice (some ⟨b, 0, none⟩) 2 C) ∧ w' = w2 := by
  have hgt : ¬ (C < 2) := by omega
  have hw1 : IntKind.i64.wrap 1 = 1 := rfl
  have hw2 : IntKind.i64.wrap 2 = 2 := rfl
  have hC1 : ¬ (C = 1) := by omega
  go_enter Tryz.func68, Tryz.ntmps68
  go_wp2
  go_region_law (refine step_cp rfl (.tmp 73) (.tmp 76) 108 108 rfl _ _ (by simp [Act.eval, Act.put]) (by simp [Act.eval, Act.put]) hcp1 ?_)
  go_wp2
  go_ret
  exact ⟨rfl, rfl⟩

theorem und108 : Tryz.prog.underlying 108 = some (.slice 37) := by kernel_rfl
theorem szo37 : ((Tryz.prog.info? 37).map (·.size)).isSome = true := by kernel_rfl
theorem place68 : Go.Vse.InPlace Tryz.prog 68 3 108 := by
  intro w w1 w2 b bv ov C Cv hC hap h1 h2
  obtain ⟨hne, tA, kA, tB, kB, hsa, hsb, hkB, hfa, hfe⟩ := hap
  refine insB68 w b bv ov C Cv hC ?_ w1 w2 h1 h2
  rw [run_callFunc_extern Tryz.func136 (by kernel_rfl) (by kernel_rfl) (by kernel_rfl) (e := Extern.SlicesOverlaps.overlaps Tryz.f136.params Tryz.f136.resultTypes) rfl]
  obtain ⟨i, hi⟩ := Option.isSome_iff_exists.1 szo37
  obtain ⟨inf, hinf, _⟩ := Option.map_eq_some_iff.1 hi
  have := Go.Lib.run_overlaps_apart (P := Tryz.prog) w 108 4 37 und108 inf.size (by intro w; simp [sizeOf, typeInfo, hinf]) ⟨bv, ov, none⟩ ⟨b, 3, none⟩ 1 Cv 1 (C - 1) hne tA tB kA kB hsa hsb hkB hfa hfe
  exact (congrArg (Result.andThen · _) this).trans rfl
end Go.Proofs.YtjmjeeieakilfaaGreatDoor
