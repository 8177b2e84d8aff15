/- Contracts of functions of the program, and what proves them (texts: GSG2). -/
import Derived.KernelRfl
import Derived.Test.YtlbckpljefadpaaGreatZBA
set_option linter.all false
namespace Go.Proofs.YtlbckpljefadpaaGreat
open Go Go.Lg Go.Num
set_option maxRecDepth 100000
theorem gsG_21_0_3 : chkR 4 21 [0,3] = true := by kernel_rfl
theorem gsG_42_0_0 : chkR 4 42 [0,0] = true := by kernel_rfl
theorem gsG_42_1_2 : chkR 4 42 [1,2] = true := by kernel_rfl
theorem gsG_36_1_1 : chkR 4 36 [1,1] = true := by kernel_rfl
theorem gsG_28_1_3 : chkR 4 28 [1,3] = true := by kernel_rfl
theorem gsG_22_5 : chkR 4 22 [5] = true := by kernel_rfl
theorem gsG_30_0_0 : chkR 4 30 [0,0] = true := by kernel_rfl
theorem gsG_24_1_0_0 : chkR 4 24 [1,0,0] = true := by kernel_rfl
theorem gsG_20_1_0 : chkR 4 20 [1,0] = true := by kernel_rfl
theorem gsG_14_4 : chkR 4 14 [4] = true := by kernel_rfl
theorem gsG_16_1_2 : chkR 4 16 [1,2] = true := by kernel_rfl
theorem gsG_18_0 : chkR 4 18 [0] = true := by kernel_rfl
theorem gsG_14_3 : chkR 4 14 [3] = true := by kernel_rfl
theorem gsG_12_0_1 : chkR 4 12 [0,1] = true := by kernel_rfl
theorem gsG_10_0 : chkR 4 10 [0] = true := by kernel_rfl
theorem gsG_6_0 : chkR 4 6 [0] = true := by kernel_rfl
end Go.Proofs.YtlbckpljefadpaaGreat