/- Closed runs. Written by program. -/
import Derived.Test.YtffjpakgkecheaaGreatPE
import Derived.Test.YtffjpakgkecheaaGreatPM0
import Derived.Test.YtffjpakgkecheaaGreatPM1
import Derived.Test.YtffjpakgkecheaaGreatPM4
import Derived.KernelRfl
set_option linter.all false
namespace Go.Proofs.YtffjpakgkecheaaGreat
open Go.Vse
open Go (BinOp IntKind UnOp)
set_option maxRecDepth 100000
theorem P2668 : AnsE pr PE2668 := Pr PK0 (aZ) (by kernel_rfl)
theorem P2670 : AnsE pr PE2670 := Pr PK0 (aZ) (by kernel_rfl)
theorem P2672 : AnsE pr PE2672 := Pr PK0 (aZ) (by kernel_rfl)
theorem P2674 : AnsE pr PE2674 := Pr PK0 (aZ) (by kernel_rfl)
theorem P2678 : AnsE pr PE2678 := Pr PK0 (aZ) (by kernel_rfl)
theorem P2685 : AnsE pr PE2685 := Pr PK0 (aZ) (by kernel_rfl)
theorem P2697 : AnsE pr PE2697 := Pr PK24 (aU P5<|aU P41<|aU P97<|aZ) (by kernel_rfl)
theorem P2699 : AnsE pr PE2699 := Pr PK25 (aU P2697<|aZ) (by kernel_rfl)
theorem P2712 : AnsE pr PE2712 := Pr PK26 (aU P5<|aU P12<|aU P13<|aU P333<|aZ) (by kernel_rfl)
theorem P2714 : AnsE pr PE2714 := Pr PK25 (aU P2712<|aZ) (by kernel_rfl)
theorem P2727 : AnsE pr PE2727 := Pr PK26 (aU P5<|aU P12<|aU P23<|aU P1274<|aZ) (by kernel_rfl)
theorem P2729 : AnsE pr PE2729 := Pr PK25 (aU P2727<|aZ) (by kernel_rfl)
theorem P2731 : AnsE pr PE2731 := Pr PK0 (aZ) (by kernel_rfl)
theorem P2733 : AnsE pr PE2733 := Pr PK0 (aZ) (by kernel_rfl)
theorem P2735 : AnsE pr PE2735 := Pr PK0 (aZ) (by kernel_rfl)
theorem P2739 : AnsE pr PE2739 := Pr PK25 (aU P2697<|aZ) (by kernel_rfl)
theorem P2743 : AnsE pr PE2743 := Pr PK25 (aU P2712<|aZ) (by kernel_rfl)
theorem P2747 : AnsE pr PE2747 := Pr PK25 (aU P2727<|aZ) (by kernel_rfl)
theorem P2751 : AnsE pr PE2751 := Pr PK25 (aU P2697<|aZ) (by kernel_rfl)
theorem P2755 : AnsE pr PE2755 := Pr PK25 (aU P2712<|aZ) (by kernel_rfl)
theorem P2759 : AnsE pr PE2759 := Pr PK25 (aU P2727<|aZ) (by kernel_rfl)
theorem P2763 : AnsE pr PE2763 := Pr PK0 (aZ) (by kernel_rfl)
theorem P2767 : AnsE pr PE2767 := Pr PK0 (aZ) (by kernel_rfl)
theorem P2769 : AnsE pr PE2769 := Pr PK0 (aZ) (by kernel_rfl)
theorem P2771 : AnsE pr PE2771 := Pr PK0 (aZ) (by kernel_rfl)
theorem P2773 : AnsE pr PE2773 := Pr PK0 (aZ) (by kernel_rfl)
theorem P2779 : AnsE pr PE2779 := Pr PK25 (aU P2697<|aZ) (by kernel_rfl)
theorem P2783 : AnsE pr PE2783 := Pr PK25 (aU P2712<|aZ) (by kernel_rfl)
theorem P2787 : AnsE pr PE2787 := Pr PK25 (aU P2727<|aZ) (by kernel_rfl)
theorem P2789 : AnsE pr PE2789 := Pr PK0 (aZ) (by kernel_rfl)
theorem P2791 : AnsE pr PE2791 := Pr PK0 (aZ) (by kernel_rfl)
theorem P2795 : AnsE pr PE2795 := Pr PK25 (aU P2697<|aZ) (by kernel_rfl)
theorem P2799 : AnsE pr PE2799 := Pr PK25 (aU P2712<|aZ) (by kernel_rfl)
theorem P2803 : AnsE pr PE2803 := Pr PK25 (aU P2727<|aZ) (by kernel_rfl)
theorem P2847 : AnsE pr PE2847 := Pr PK0 (aZ) (by kernel_rfl)
theorem P2884 : AnsE pr PE2884 := Pr PK27 (aU P2674<|aU P2697<|aU P2847<|aZ) (by kernel_rfl)
end Go.Proofs.YtffjpakgkecheaaGreat
