/- Contracts of functions of the program, and what proves them (texts: GSP3). -/
import Derived.KernelRfl
import Derived.Test.YtlbckpljefadpaaGreatZBG
set_option linter.all false
namespace Go.Proofs.YtlbckpljefadpaaGreat
open Go Go.Lg Go.Num
set_option maxRecDepth 100000
theorem gsP_21_0_5 : chkU 7 21 [0,5] = true := by kernel_rfl
theorem gsP_21_1_5 : chkU 7 21 [1,5] = true := by kernel_rfl
theorem gsP_42_0_5 : chkU 7 42 [0,5] = true := by kernel_rfl
theorem gsP_42_1_5 : chkU 7 42 [1,5] = true := by kernel_rfl
theorem gsP_36_1_2 : chkU 7 36 [1,2] = true := by kernel_rfl
theorem gsP_28_1_0 : chkU 7 28 [1,0] = true := by kernel_rfl
theorem gsP_26_0 : chkU 7 26 [0] = true := by kernel_rfl
theorem gsP_22_0 : chkU 7 22 [0] = true := by kernel_rfl
theorem gsP_15_1_2 : chkU 7 15 [1,2] = true := by kernel_rfl
theorem gsP_24_0_0_1 : chkU 7 24 [0,0,1] = true := by kernel_rfl
theorem gsP_24_1_1_1 : chkU 7 24 [1,1,1] = true := by kernel_rfl
theorem gsP_20_1_2 : chkU 7 20 [1,2] = true := by kernel_rfl
theorem gsP_14_4 : chkU 7 14 [4] = true := by kernel_rfl
theorem gsP_16_1_0 : chkU 7 16 [1,0] = true := by kernel_rfl
theorem gsP_7_4 : chkU 7 7 [4] = true := by kernel_rfl
theorem gsP_18_0 : chkU 7 18 [0] = true := by kernel_rfl
theorem gsP_7_3 : chkU 7 7 [3] = true := by kernel_rfl
theorem gsP_9_4 : chkU 7 9 [4] = true := by kernel_rfl
theorem gsP_12_0_0 : chkU 7 12 [0,0] = true := by kernel_rfl
theorem gsP_10_2 : chkU 7 10 [2] = true := by kernel_rfl
theorem gsP_6_0 : chkU 7 6 [0] = true := by kernel_rfl
end Go.Proofs.YtlbckpljefadpaaGreat