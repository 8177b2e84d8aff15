/- Contracts of functions of the program, and what proves them (texts: GSN4). -/
import Derived.KernelRfl
import Derived.Test.YtlbckpljefadpaaGreatZBG
set_option linter.all false
namespace Go.Proofs.YtlbckpljefadpaaGreat
open Go Go.Lg Go.Num
set_option maxRecDepth 100000
theorem gsN_21_1_0 : chkU 8 21 [1,0] = true := by kernel_rfl
theorem gsN_42_0_0 : chkU 8 42 [0,0] = true := by kernel_rfl
theorem gsN_42_1_0 : chkU 8 42 [1,0] = true := by kernel_rfl
theorem gsN_36_0_0 : chkU 8 36 [0,0] = true := by kernel_rfl
theorem gsN_36_0_3 : chkU 8 36 [0,3] = true := by kernel_rfl
theorem gsN_36_1_3 : chkU 8 36 [1,3] = true := by kernel_rfl
theorem gsN_26_6 : chkU 8 26 [6] = true := by kernel_rfl
theorem gsN_22_5 : chkU 8 22 [5] = true := by kernel_rfl
theorem gsN_30_0_0 : chkU 8 30 [0,0] = true := by kernel_rfl
theorem gsN_24_0_1_0 : chkU 8 24 [0,1,0] = true := by kernel_rfl
theorem gsN_20_0_0 : chkU 8 20 [0,0] = true := by kernel_rfl
theorem gsN_20_1_0 : chkU 8 20 [1,0] = true := by kernel_rfl
theorem gsN_14_1 : chkU 8 14 [1] = true := by kernel_rfl
theorem gsN_16_0_2 : chkU 8 16 [0,2] = true := by kernel_rfl
theorem gsN_15_0_0 : chkU 8 15 [0,0] = true := by kernel_rfl
theorem gsN_18_3 : chkU 8 18 [3] = true := by kernel_rfl
theorem gsN_9_0 : chkU 8 9 [0] = true := by kernel_rfl
theorem gsN_5_1 : chkU 8 5 [1] = true := by kernel_rfl
theorem gsN_12_1_0 : chkU 8 12 [1,0] = true := by kernel_rfl
theorem gsN_8_0_1 : chkU 8 8 [0,1] = true := by kernel_rfl
theorem gsN_6_1 : chkU 8 6 [1] = true := by kernel_rfl
end Go.Proofs.YtlbckpljefadpaaGreat