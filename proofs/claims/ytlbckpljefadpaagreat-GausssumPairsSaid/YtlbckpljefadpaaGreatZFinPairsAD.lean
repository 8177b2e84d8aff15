/- Contracts of functions of the program, and what proves them (texts: GSP4). -/
import Derived.KernelRfl
import Derived.Test.YtlbckpljefadpaaGreatZBG
set_option linter.all false
namespace Go.Proofs.YtlbckpljefadpaaGreat
open Go Go.Lg Go.Num
set_option maxRecDepth 100000
theorem gsP_21_1_0 : chkU 7 21 [1,0] = true := by kernel_rfl
theorem gsP_42_0_0 : chkU 7 42 [0,0] = true := by kernel_rfl
theorem gsP_42_1_0 : chkU 7 42 [1,0] = true := by kernel_rfl
theorem gsP_36_0_0 : chkU 7 36 [0,0] = true := by kernel_rfl
theorem gsP_36_0_3 : chkU 7 36 [0,3] = true := by kernel_rfl
theorem gsP_36_1_3 : chkU 7 36 [1,3] = true := by kernel_rfl
theorem gsP_26_6 : chkU 7 26 [6] = true := by kernel_rfl
theorem gsP_22_5 : chkU 7 22 [5] = true := by kernel_rfl
theorem gsP_30_0_0 : chkU 7 30 [0,0] = true := by kernel_rfl
theorem gsP_24_0_1_0 : chkU 7 24 [0,1,0] = true := by kernel_rfl
theorem gsP_20_0_0 : chkU 7 20 [0,0] = true := by kernel_rfl
theorem gsP_20_1_0 : chkU 7 20 [1,0] = true := by kernel_rfl
theorem gsP_14_1 : chkU 7 14 [1] = true := by kernel_rfl
theorem gsP_16_0_2 : chkU 7 16 [0,2] = true := by kernel_rfl
theorem gsP_15_0_0 : chkU 7 15 [0,0] = true := by kernel_rfl
theorem gsP_18_3 : chkU 7 18 [3] = true := by kernel_rfl
theorem gsP_9_0 : chkU 7 9 [0] = true := by kernel_rfl
theorem gsP_5_1 : chkU 7 5 [1] = true := by kernel_rfl
theorem gsP_12_1_0 : chkU 7 12 [1,0] = true := by kernel_rfl
theorem gsP_8_0_1 : chkU 7 8 [0,1] = true := by kernel_rfl
theorem gsP_6_1 : chkU 7 6 [1] = true := by kernel_rfl
end Go.Proofs.YtlbckpljefadpaaGreat