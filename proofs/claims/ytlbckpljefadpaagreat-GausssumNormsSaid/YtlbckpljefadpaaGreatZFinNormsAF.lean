/- Contracts of functions of the program, and what proves them (texts: GSN6). -/
import Derived.KernelRfl
import Derived.Test.YtlbckpljefadpaaGreatZBG
set_option linter.all false
namespace Go.Proofs.YtlbckpljefadpaaGreat
open Go Go.Lg Go.Num
set_option maxRecDepth 100000
theorem gsN_21_1_2 : chkU 8 21 [1,2] = true := by kernel_rfl
theorem gsN_42_0_2 : chkU 8 42 [0,2] = true := by kernel_rfl
theorem gsN_42_1_2 : chkU 8 42 [1,2] = true := by kernel_rfl
theorem gsN_36_0_2 : chkU 8 36 [0,2] = true := by kernel_rfl
theorem gsN_36_0_5 : chkU 8 36 [0,5] = true := by kernel_rfl
theorem gsN_36_1_5 : chkU 8 36 [1,5] = true := by kernel_rfl
theorem gsN_21_0_2 : chkU 8 21 [0,2] = true := by kernel_rfl
theorem gsN_13_0 : chkU 8 13 [0] = true := by kernel_rfl
theorem gsN_30_0_2 : chkU 8 30 [0,2] = true := by kernel_rfl
theorem gsN_24_0_1_1 : chkU 8 24 [0,1,1] = true := by kernel_rfl
theorem gsN_20_0_1 : chkU 8 20 [0,1] = true := by kernel_rfl
theorem gsN_20_1_3 : chkU 8 20 [1,3] = true := by kernel_rfl
theorem gsN_14_5 : chkU 8 14 [5] = true := by kernel_rfl
theorem gsN_16_1_1 : chkU 8 16 [1,1] = true := by kernel_rfl
theorem gsN_9_1 : chkU 8 9 [1] = true := by kernel_rfl
theorem gsN_18_1 : chkU 8 18 [1] = true := by kernel_rfl
theorem gsN_14_0 : chkU 8 14 [0] = true := by kernel_rfl
theorem gsN_10_1 : chkU 8 10 [1] = true := by kernel_rfl
theorem gsN_5_2 : chkU 8 5 [2] = true := by kernel_rfl
theorem gsN_8_1_0 : chkU 8 8 [1,0] = true := by kernel_rfl
theorem gsN_4_1 : chkU 8 4 [1] = true := by kernel_rfl
end Go.Proofs.YtlbckpljefadpaaGreat