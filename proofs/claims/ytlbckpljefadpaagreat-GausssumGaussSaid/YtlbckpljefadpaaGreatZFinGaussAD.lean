/- Contracts of functions of the program, and what proves them (texts: GSG4). -/
import Derived.KernelRfl
import Derived.Test.YtlbckpljefadpaaGreatZBA
set_option linter.all false
namespace Go.Proofs.YtlbckpljefadpaaGreat
open Go Go.Lg Go.Num
set_option maxRecDepth 100000
theorem gsG_21_1_0 : chkR 4 21 [1,0] = true := by kernel_rfl
theorem gsG_42_0_2 : chkR 4 42 [0,2] = true := by kernel_rfl
theorem gsG_42_1_4 : chkR 4 42 [1,4] = true := by kernel_rfl
theorem gsG_36_1_3 : chkR 4 36 [1,3] = true := by kernel_rfl
theorem gsG_26_0 : chkR 4 26 [0] = true := by kernel_rfl
theorem gsG_13_0 : chkR 4 13 [0] = true := by kernel_rfl
theorem gsG_30_0_2 : chkR 4 30 [0,2] = true := by kernel_rfl
theorem gsG_24_1_0_1 : chkR 4 24 [1,0,1] = true := by kernel_rfl
theorem gsG_20_1_2 : chkR 4 20 [1,2] = true := by kernel_rfl
theorem gsG_16_0_0 : chkR 4 16 [0,0] = true := by kernel_rfl
theorem gsG_16_1_3 : chkR 4 16 [1,3] = true := by kernel_rfl
theorem gsG_18_3 : chkR 4 18 [3] = true := by kernel_rfl
theorem gsG_9_4 : chkR 4 9 [4] = true := by kernel_rfl
theorem gsG_12_1_1 : chkR 4 12 [1,1] = true := by kernel_rfl
theorem gsG_5_0 : chkR 4 5 [0] = true := by kernel_rfl
theorem gsG_2 : chkR 4 2 [] = true := by kernel_rfl
end Go.Proofs.YtlbckpljefadpaaGreat