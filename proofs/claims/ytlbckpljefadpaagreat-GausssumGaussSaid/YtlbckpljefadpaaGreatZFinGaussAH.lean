/- Contracts of functions of the program, and what proves them (texts: GSG8). -/
import Derived.KernelRfl
import Derived.Test.YtlbckpljefadpaaGreatZBA
set_option linter.all false
namespace Go.Proofs.YtlbckpljefadpaaGreat
open Go Go.Lg Go.Num
set_option maxRecDepth 100000
theorem gsG_21_1_4 : chkR 4 21 [1,4] = true := by kernel_rfl
theorem gsG_42_1_0 : chkR 4 42 [1,0] = true := by kernel_rfl
theorem gsG_36_0_2 : chkR 4 36 [0,2] = true := by kernel_rfl
theorem gsG_36_0_5 : chkR 4 36 [0,5] = true := by kernel_rfl
theorem gsG_28_0_3 : chkR 4 28 [0,3] = true := by kernel_rfl
theorem gsG_21_0_2 : chkR 4 21 [0,2] = true := by kernel_rfl
theorem gsG_30_1_2 : chkR 4 30 [1,2] = true := by kernel_rfl
theorem gsG_20_0_0 : chkR 4 20 [0,0] = true := by kernel_rfl
theorem gsG_20_1_1 : chkR 4 20 [1,1] = true := by kernel_rfl
theorem gsG_14_5 : chkR 4 14 [5] = true := by kernel_rfl
theorem gsG_7_4 : chkR 4 7 [4] = true := by kernel_rfl
theorem gsG_18_2 : chkR 4 18 [2] = true := by kernel_rfl
theorem gsG_9_2 : chkR 4 9 [2] = true := by kernel_rfl
theorem gsG_10_3 : chkR 4 10 [3] = true := by kernel_rfl
theorem gsG_8_1_0 : chkR 4 8 [1,0] = true := by kernel_rfl
theorem gsG_3_0 : chkR 4 3 [0] = true := by kernel_rfl
end Go.Proofs.YtlbckpljefadpaaGreat