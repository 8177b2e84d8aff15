/- Contracts of functions of the program, and what proves them (texts: GSG1). -/
import Derived.KernelRfl
import Derived.Test.YtlbckpljefadpaaGreatZBA
set_option linter.all false
namespace Go.Proofs.YtlbckpljefadpaaGreat
open Go Go.Lg Go.Num
set_option maxRecDepth 100000
theorem gsG_21_0_1 : chkR 4 21 [0,1] = true := by kernel_rfl
theorem gsG_21_1_5 : chkR 4 21 [1,5] = true := by kernel_rfl
theorem gsG_42_1_1 : chkR 4 42 [1,1] = true := by kernel_rfl
theorem gsG_36_1_0 : chkR 4 36 [1,0] = true := by kernel_rfl
theorem gsG_28_1_0 : chkR 4 28 [1,0] = true := by kernel_rfl
theorem gsG_22_0 : chkR 4 22 [0] = true := by kernel_rfl
theorem gsG_15_1_2 : chkR 4 15 [1,2] = true := by kernel_rfl
theorem gsG_24_0_1_1 : chkR 4 24 [0,1,1] = true := by kernel_rfl
theorem gsG_20_0_3 : chkR 4 20 [0,3] = true := by kernel_rfl
theorem gsG_14_2 : chkR 4 14 [2] = true := by kernel_rfl
theorem gsG_16_1_1 : chkR 4 16 [1,1] = true := by kernel_rfl
theorem gsG_9_5 : chkR 4 9 [5] = true := by kernel_rfl
theorem gsG_14_0 : chkR 4 14 [0] = true := by kernel_rfl
theorem gsG_12_0_0 : chkR 4 12 [0,0] = true := by kernel_rfl
theorem gsG_5_2 : chkR 4 5 [2] = true := by kernel_rfl
theorem gsG_3_1 : chkR 4 3 [1] = true := by kernel_rfl
end Go.Proofs.YtlbckpljefadpaaGreat