/- Contracts of functions of the program, and what proves them (texts: GSG7). -/
import Derived.KernelRfl
import Derived.Test.YtlbckpljefadpaaGreatZBA
set_option linter.all false
namespace Go.Proofs.YtlbckpljefadpaaGreat
open Go Go.Lg Go.Num
set_option maxRecDepth 100000
theorem gsG_21_1_3 : chkR 4 21 [1,3] = true := by kernel_rfl
theorem gsG_42_0_5 : chkR 4 42 [0,5] = true := by kernel_rfl
theorem gsG_36_0_1 : chkR 4 36 [0,1] = true := by kernel_rfl
theorem gsG_36_0_4 : chkR 4 36 [0,4] = true := by kernel_rfl
theorem gsG_28_0_0 : chkR 4 28 [0,0] = true := by kernel_rfl
theorem gsG_21_0_0 : chkR 4 21 [0,0] = true := by kernel_rfl
theorem gsG_30_1_0 : chkR 4 30 [1,0] = true := by kernel_rfl
theorem gsG_24_1_1_1 : chkR 4 24 [1,1,1] = true := by kernel_rfl
theorem gsG_7_1 : chkR 4 7 [1] = true := by kernel_rfl
theorem gsG_16_0_2 : chkR 4 16 [0,2] = true := by kernel_rfl
theorem gsG_7_2 : chkR 4 7 [2] = true := by kernel_rfl
theorem gsG_18_1 : chkR 4 18 [1] = true := by kernel_rfl
theorem gsG_9_0 : chkR 4 9 [0] = true := by kernel_rfl
theorem gsG_10_1 : chkR 4 10 [1] = true := by kernel_rfl
theorem gsG_8_0_1 : chkR 4 8 [0,1] = true := by kernel_rfl
theorem gsG_4_1 : chkR 4 4 [1] = true := by kernel_rfl
end Go.Proofs.YtlbckpljefadpaaGreat