/- Contracts of functions of the program, and what proves them (texts: GSG6). -/
import Derived.KernelRfl
import Derived.Test.YtlbckpljefadpaaGreatZBA
set_option linter.all false
namespace Go.Proofs.YtlbckpljefadpaaGreat
open Go Go.Lg Go.Num
set_option maxRecDepth 100000
theorem gsG_21_1_2 : chkR 4 21 [1,2] = true := by kernel_rfl
theorem gsG_42_0_4 : chkR 4 42 [0,4] = true := by kernel_rfl
theorem gsG_36_0_0 : chkR 4 36 [0,0] = true := by kernel_rfl
theorem gsG_36_0_3 : chkR 4 36 [0,3] = true := by kernel_rfl
theorem gsG_36_1_5 : chkR 4 36 [1,5] = true := by kernel_rfl
theorem gsG_11_0 : chkR 4 11 [0] = true := by kernel_rfl
theorem gsG_15_0_2 : chkR 4 15 [0,2] = true := by kernel_rfl
theorem gsG_24_0_0_1 : chkR 4 24 [0,0,1] = true := by kernel_rfl
theorem gsG_20_0_1 : chkR 4 20 [0,1] = true := by kernel_rfl
theorem gsG_7_5 : chkR 4 7 [5] = true := by kernel_rfl
theorem gsG_16_0_3 : chkR 4 16 [0,3] = true := by kernel_rfl
theorem gsG_9_1 : chkR 4 9 [1] = true := by kernel_rfl
theorem gsG_18_5 : chkR 4 18 [5] = true := by kernel_rfl
theorem gsG_5_1 : chkR 4 5 [1] = true := by kernel_rfl
theorem gsG_10_2 : chkR 4 10 [2] = true := by kernel_rfl
theorem gsG_6_1 : chkR 4 6 [1] = true := by kernel_rfl
end Go.Proofs.YtlbckpljefadpaaGreat