/- Contracts of functions of the program, and what proves them (texts: GSN3). -/
import Derived.KernelRfl
import Derived.Test.YtlbckpljefadpaaGreatZBG
set_option linter.all false
namespace Go.Proofs.YtlbckpljefadpaaGreat
open Go Go.Lg Go.Num
set_option maxRecDepth 100000
theorem gsN_21_0_5 : chkU 8 21 [0,5] = true := by kernel_rfl
theorem gsN_21_1_5 : chkU 8 21 [1,5] = true := by kernel_rfl
theorem gsN_42_0_5 : chkU 8 42 [0,5] = true := by kernel_rfl
theorem gsN_42_1_5 : chkU 8 42 [1,5] = true := by kernel_rfl
theorem gsN_36_1_2 : chkU 8 36 [1,2] = true := by kernel_rfl
theorem gsN_28_1_0 : chkU 8 28 [1,0] = true := by kernel_rfl
theorem gsN_26_0 : chkU 8 26 [0] = true := by kernel_rfl
theorem gsN_22_0 : chkU 8 22 [0] = true := by kernel_rfl
theorem gsN_15_1_2 : chkU 8 15 [1,2] = true := by kernel_rfl
theorem gsN_24_0_0_1 : chkU 8 24 [0,0,1] = true := by kernel_rfl
theorem gsN_24_1_1_1 : chkU 8 24 [1,1,1] = true := by kernel_rfl
theorem gsN_20_1_2 : chkU 8 20 [1,2] = true := by kernel_rfl
theorem gsN_14_4 : chkU 8 14 [4] = true := by kernel_rfl
theorem gsN_16_1_0 : chkU 8 16 [1,0] = true := by kernel_rfl
theorem gsN_7_4 : chkU 8 7 [4] = true := by kernel_rfl
theorem gsN_18_0 : chkU 8 18 [0] = true := by kernel_rfl
theorem gsN_7_3 : chkU 8 7 [3] = true := by kernel_rfl
theorem gsN_9_4 : chkU 8 9 [4] = true := by kernel_rfl
theorem gsN_12_0_0 : chkU 8 12 [0,0] = true := by kernel_rfl
theorem gsN_10_2 : chkU 8 10 [2] = true := by kernel_rfl
theorem gsN_6_0 : chkU 8 6 [0] = true := by kernel_rfl
end Go.Proofs.YtlbckpljefadpaaGreat