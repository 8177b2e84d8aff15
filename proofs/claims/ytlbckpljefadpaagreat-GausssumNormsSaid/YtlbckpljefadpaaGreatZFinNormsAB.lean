/- Contracts of functions of the program, and what proves them (texts: GSN2). -/
import Derived.KernelRfl
import Derived.Test.YtlbckpljefadpaaGreatZBG
set_option linter.all false
namespace Go.Proofs.YtlbckpljefadpaaGreat
open Go Go.Lg Go.Num
set_option maxRecDepth 100000
theorem gsN_21_0_3 : chkU 8 21 [0,3] = true := by kernel_rfl
theorem gsN_21_1_4 : chkU 8 21 [1,4] = true := by kernel_rfl
theorem gsN_42_0_4 : chkU 8 42 [0,4] = true := by kernel_rfl
theorem gsN_42_1_4 : chkU 8 42 [1,4] = true := by kernel_rfl
theorem gsN_36_1_1 : chkU 8 36 [1,1] = true := by kernel_rfl
theorem gsN_28_0_3 : chkU 8 28 [0,3] = true := by kernel_rfl
theorem gsN_13_6 : chkU 8 13 [6] = true := by kernel_rfl
theorem gsN_11_5 : chkU 8 11 [5] = true := by kernel_rfl
theorem gsN_15_1_0 : chkU 8 15 [1,0] = true := by kernel_rfl
theorem gsN_24_0_0_0 : chkU 8 24 [0,0,0] = true := by kernel_rfl
theorem gsN_24_1_1_0 : chkU 8 24 [1,1,0] = true := by kernel_rfl
theorem gsN_20_1_1 : chkU 8 20 [1,1] = true := by kernel_rfl
theorem gsN_14_2 : chkU 8 14 [2] = true := by kernel_rfl
theorem gsN_16_0_3 : chkU 8 16 [0,3] = true := by kernel_rfl
theorem gsN_7_2 : chkU 8 7 [2] = true := by kernel_rfl
theorem gsN_9_5 : chkU 8 9 [5] = true := by kernel_rfl
theorem gsN_18_5 : chkU 8 18 [5] = true := by kernel_rfl
theorem gsN_7_0 : chkU 8 7 [0] = true := by kernel_rfl
theorem gsN_12_0_1 : chkU 8 12 [0,1] = true := by kernel_rfl
theorem gsN_8_0_0 : chkU 8 8 [0,0] = true := by kernel_rfl
theorem gsN_3_1 : chkU 8 3 [1] = true := by kernel_rfl
theorem gsN_2 : chkU 8 2 [] = true := by kernel_rfl
end Go.Proofs.YtlbckpljefadpaaGreat