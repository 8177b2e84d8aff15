/- Contracts of functions of the program, and what proves them (texts: GSN5). -/
import Derived.KernelRfl
import Derived.Test.YtlbckpljefadpaaGreatZBG
set_option linter.all false
namespace Go.Proofs.YtlbckpljefadpaaGreat
open Go Go.Lg Go.Num
set_option maxRecDepth 100000
theorem gsN_21_1_1 : chkU 8 21 [1,1] = true := by kernel_rfl
theorem gsN_42_0_1 : chkU 8 42 [0,1] = true := by kernel_rfl
theorem gsN_42_1_1 : chkU 8 42 [1,1] = true := by kernel_rfl
theorem gsN_36_0_1 : chkU 8 36 [0,1] = true := by kernel_rfl
theorem gsN_36_0_4 : chkU 8 36 [0,4] = true := by kernel_rfl
theorem gsN_36_1_4 : chkU 8 36 [1,4] = true := by kernel_rfl
theorem gsN_21_0_0 : chkU 8 21 [0,0] = true := by kernel_rfl
theorem gsN_21_0_4 : chkU 8 21 [0,4] = true := by kernel_rfl
theorem gsN_30_1_0 : chkU 8 30 [1,0] = true := by kernel_rfl
theorem gsN_24_1_0_0 : chkU 8 24 [1,0,0] = true := by kernel_rfl
theorem gsN_20_0_2 : chkU 8 20 [0,2] = true := by kernel_rfl
theorem gsN_7_1 : chkU 8 7 [1] = true := by kernel_rfl
theorem gsN_16_0_0 : chkU 8 16 [0,0] = true := by kernel_rfl
theorem gsN_16_1_2 : chkU 8 16 [1,2] = true := by kernel_rfl
theorem gsN_9_3 : chkU 8 9 [3] = true := by kernel_rfl
theorem gsN_18_4 : chkU 8 18 [4] = true := by kernel_rfl
theorem gsN_9_2 : chkU 8 9 [2] = true := by kernel_rfl
theorem gsN_5_3 : chkU 8 5 [3] = true := by kernel_rfl
theorem gsN_12_1_1 : chkU 8 12 [1,1] = true := by kernel_rfl
theorem gsN_5_0 : chkU 8 5 [0] = true := by kernel_rfl
theorem gsN_4_0 : chkU 8 4 [0] = true := by kernel_rfl
theorem gsN_1 : chkU 8 1 [] = true := by kernel_rfl
end Go.Proofs.YtlbckpljefadpaaGreat