/- Contracts of functions of the program, and what proves them (texts: GSN1). -/
import Derived.KernelRfl
import Derived.Test.YtlbckpljefadpaaGreatZBG
set_option linter.all false
namespace Go.Proofs.YtlbckpljefadpaaGreat
open Go Go.Lg Go.Num
set_option maxRecDepth 100000
theorem gsN_21_0_1 : chkU 8 21 [0,1] = true := by kernel_rfl
theorem gsN_21_1_3 : chkU 8 21 [1,3] = true := by kernel_rfl
theorem gsN_42_0_3 : chkU 8 42 [0,3] = true := by kernel_rfl
theorem gsN_42_1_3 : chkU 8 42 [1,3] = true := by kernel_rfl
theorem gsN_36_1_0 : chkU 8 36 [1,0] = true := by kernel_rfl
theorem gsN_28_0_0 : chkU 8 28 [0,0] = true := by kernel_rfl
theorem gsN_28_1_3 : chkU 8 28 [1,3] = true := by kernel_rfl
theorem gsN_11_0 : chkU 8 11 [0] = true := by kernel_rfl
theorem gsN_15_0_2 : chkU 8 15 [0,2] = true := by kernel_rfl
theorem gsN_30_1_2 : chkU 8 30 [1,2] = true := by kernel_rfl
theorem gsN_24_1_0_1 : chkU 8 24 [1,0,1] = true := by kernel_rfl
theorem gsN_20_0_3 : chkU 8 20 [0,3] = true := by kernel_rfl
theorem gsN_7_5 : chkU 8 7 [5] = true := by kernel_rfl
theorem gsN_16_0_1 : chkU 8 16 [0,1] = true := by kernel_rfl
theorem gsN_16_1_3 : chkU 8 16 [1,3] = true := by kernel_rfl
theorem gsN_18_2 : chkU 8 18 [2] = true := by kernel_rfl
theorem gsN_14_3 : chkU 8 14 [3] = true := by kernel_rfl
theorem gsN_10_3 : chkU 8 10 [3] = true := by kernel_rfl
theorem gsN_10_0 : chkU 8 10 [0] = true := by kernel_rfl
theorem gsN_8_1_1 : chkU 8 8 [1,1] = true := by kernel_rfl
theorem gsN_3_0 : chkU 8 3 [0] = true := by kernel_rfl
end Go.Proofs.YtlbckpljefadpaaGreat