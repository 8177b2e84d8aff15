/- Contracts of functions of the program, and what proves them (texts: GSP1). -/
import Derived.KernelRfl
import Derived.Test.YtlbckpljefadpaaGreatZBG
set_option linter.all false
namespace Go.Proofs.YtlbckpljefadpaaGreat
open Go Go.Lg Go.Num
set_option maxRecDepth 100000
theorem gsP_21_0_1 : chkU 7 21 [0,1] = true := by kernel_rfl
theorem gsP_21_1_3 : chkU 7 21 [1,3] = true := by kernel_rfl
theorem gsP_42_0_3 : chkU 7 42 [0,3] = true := by kernel_rfl
theorem gsP_42_1_3 : chkU 7 42 [1,3] = true := by kernel_rfl
theorem gsP_36_1_0 : chkU 7 36 [1,0] = true := by kernel_rfl
theorem gsP_28_0_0 : chkU 7 28 [0,0] = true := by kernel_rfl
theorem gsP_28_1_3 : chkU 7 28 [1,3] = true := by kernel_rfl
theorem gsP_11_0 : chkU 7 11 [0] = true := by kernel_rfl
theorem gsP_15_0_2 : chkU 7 15 [0,2] = true := by kernel_rfl
theorem gsP_30_1_2 : chkU 7 30 [1,2] = true := by kernel_rfl
theorem gsP_24_1_0_1 : chkU 7 24 [1,0,1] = true := by kernel_rfl
theorem gsP_20_0_3 : chkU 7 20 [0,3] = true := by kernel_rfl
theorem gsP_7_5 : chkU 7 7 [5] = true := by kernel_rfl
theorem gsP_16_0_1 : chkU 7 16 [0,1] = true := by kernel_rfl
theorem gsP_16_1_3 : chkU 7 16 [1,3] = true := by kernel_rfl
theorem gsP_18_2 : chkU 7 18 [2] = true := by kernel_rfl
theorem gsP_14_3 : chkU 7 14 [3] = true := by kernel_rfl
theorem gsP_10_3 : chkU 7 10 [3] = true := by kernel_rfl
theorem gsP_10_0 : chkU 7 10 [0] = true := by kernel_rfl
theorem gsP_8_1_1 : chkU 7 8 [1,1] = true := by kernel_rfl
theorem gsP_3_0 : chkU 7 3 [0] = true := by kernel_rfl
end Go.Proofs.YtlbckpljefadpaaGreat