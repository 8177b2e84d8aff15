/- Contracts of functions of the program, and what proves them (texts: GSG5). -/
import Derived.KernelRfl
import Derived.Test.YtlbckpljefadpaaGreatZBA
set_option linter.all false
namespace Go.Proofs.YtlbckpljefadpaaGreat
open Go Go.Lg Go.Num
set_option maxRecDepth 100000
theorem gsG_21_1_1 : chkR 4 21 [1,1] = true := by kernel_rfl
theorem gsG_42_0_3 : chkR 4 42 [0,3] = true := by kernel_rfl
theorem gsG_42_1_5 : chkR 4 42 [1,5] = true := by kernel_rfl
theorem gsG_36_1_4 : chkR 4 36 [1,4] = true := by kernel_rfl
theorem gsG_26_6 : chkR 4 26 [6] = true := by kernel_rfl
theorem gsG_11_5 : chkR 4 11 [5] = true := by kernel_rfl
theorem gsG_15_1_0 : chkR 4 15 [1,0] = true := by kernel_rfl
theorem gsG_24_0_1_0 : chkR 4 24 [0,1,0] = true := by kernel_rfl
theorem gsG_20_0_2 : chkR 4 20 [0,2] = true := by kernel_rfl
theorem gsG_14_1 : chkR 4 14 [1] = true := by kernel_rfl
theorem gsG_16_1_0 : chkR 4 16 [1,0] = true := by kernel_rfl
theorem gsG_9_3 : chkR 4 9 [3] = true := by kernel_rfl
theorem gsG_7_3 : chkR 4 7 [3] = true := by kernel_rfl
theorem gsG_5_3 : chkR 4 5 [3] = true := by kernel_rfl
theorem gsG_8_0_0 : chkR 4 8 [0,0] = true := by kernel_rfl
theorem gsG_4_0 : chkR 4 4 [0] = true := by kernel_rfl
end Go.Proofs.YtlbckpljefadpaaGreat