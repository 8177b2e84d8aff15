/- Contracts of functions of the program, and what proves them (texts: GSG3). -/
import Derived.KernelRfl
import Derived.Test.YtlbckpljefadpaaGreatZBA
set_option linter.all false
namespace Go.Proofs.YtlbckpljefadpaaGreat
open Go Go.Lg Go.Num
set_option maxRecDepth 100000
theorem gsG_21_0_5 : chkR 4 21 [0,5] = true := by kernel_rfl
theorem gsG_42_0_1 : chkR 4 42 [0,1] = true := by kernel_rfl
theorem gsG_42_1_3 : chkR 4 42 [1,3] = true := by kernel_rfl
theorem gsG_36_1_2 : chkR 4 36 [1,2] = true := by kernel_rfl
theorem gsG_13_6 : chkR 4 13 [6] = true := by kernel_rfl
theorem gsG_21_0_4 : chkR 4 21 [0,4] = true := by kernel_rfl
theorem gsG_24_0_0_0 : chkR 4 24 [0,0,0] = true := by kernel_rfl
theorem gsG_24_1_1_0 : chkR 4 24 [1,1,0] = true := by kernel_rfl
theorem gsG_20_1_3 : chkR 4 20 [1,3] = true := by kernel_rfl
theorem gsG_16_0_1 : chkR 4 16 [0,1] = true := by kernel_rfl
theorem gsG_15_0_0 : chkR 4 15 [0,0] = true := by kernel_rfl
theorem gsG_18_4 : chkR 4 18 [4] = true := by kernel_rfl
theorem gsG_7_0 : chkR 4 7 [0] = true := by kernel_rfl
theorem gsG_12_1_0 : chkR 4 12 [1,0] = true := by kernel_rfl
theorem gsG_8_1_1 : chkR 4 8 [1,1] = true := by kernel_rfl
theorem gsG_1 : chkR 4 1 [] = true := by kernel_rfl
end Go.Proofs.YtlbckpljefadpaaGreat