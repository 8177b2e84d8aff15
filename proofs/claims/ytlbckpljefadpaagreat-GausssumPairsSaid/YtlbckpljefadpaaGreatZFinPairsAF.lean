/- Contracts of functions of the program, and what proves them (texts: GSP6). -/
import Derived.KernelRfl
import Derived.Test.YtlbckpljefadpaaGreatZBG
set_option linter.all false
namespace Go.Proofs.YtlbckpljefadpaaGreat
open Go Go.Lg Go.Num
set_option maxRecDepth 100000
theorem gsP_21_1_2 : chkU 7 21 [1,2] = true := by kernel_rfl
theorem gsP_42_0_2 : chkU 7 42 [0,2] = true := by kernel_rfl
theorem gsP_42_1_2 : chkU 7 42 [1,2] = true := by kernel_rfl
theorem gsP_36_0_2 : chkU 7 36 [0,2] = true := by kernel_rfl
theorem gsP_36_0_5 : chkU 7 36 [0,5] = true := by kernel_rfl
theorem gsP_36_1_5 : chkU 7 36 [1,5] = true := by kernel_rfl
theorem gsP_21_0_2 : chkU 7 21 [0,2] = true := by kernel_rfl
theorem gsP_13_0 : chkU 7 13 [0] = true := by kernel_rfl
theorem gsP_30_0_2 : chkU 7 30 [0,2] = true := by kernel_rfl
theorem gsP_24_0_1_1 : chkU 7 24 [0,1,1] = true := by kernel_rfl
theorem gsP_20_0_1 : chkU 7 20 [0,1] = true := by kernel_rfl
theorem gsP_20_1_3 : chkU 7 20 [1,3] = true := by kernel_rfl
theorem gsP_14_5 : chkU 7 14 [5] = true := by kernel_rfl
theorem gsP_16_1_1 : chkU 7 16 [1,1] = true := by kernel_rfl
theorem gsP_9_1 : chkU 7 9 [1] = true := by kernel_rfl
theorem gsP_18_1 : chkU 7 18 [1] = true := by kernel_rfl
theorem gsP_14_0 : chkU 7 14 [0] = true := by kernel_rfl
theorem gsP_10_1 : chkU 7 10 [1] = true := by kernel_rfl
theorem gsP_5_2 : chkU 7 5 [2] = true := by kernel_rfl
theorem gsP_8_1_0 : chkU 7 8 [1,0] = true := by kernel_rfl
theorem gsP_4_1 : chkU 7 4 [1] = true := by kernel_rfl
end Go.Proofs.YtlbckpljefadpaaGreat