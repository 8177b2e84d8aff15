/- Contracts of functions of the program, and what proves them (texts: GSP2). -/
import Derived.KernelRfl
import Derived.Test.YtlbckpljefadpaaGreatZBG
set_option linter.all false
namespace Go.Proofs.YtlbckpljefadpaaGreat
open Go Go.Lg Go.Num
set_option maxRecDepth 100000
theorem gsP_21_0_3 : chkU 7 21 [0,3] = true := by kernel_rfl
theorem gsP_21_1_4 : chkU 7 21 [1,4] = true := by kernel_rfl
theorem gsP_42_0_4 : chkU 7 42 [0,4] = true := by kernel_rfl
theorem gsP_42_1_4 : chkU 7 42 [1,4] = true := by kernel_rfl
theorem gsP_36_1_1 : chkU 7 36 [1,1] = true := by kernel_rfl
theorem gsP_28_0_3 : chkU 7 28 [0,3] = true := by kernel_rfl
theorem gsP_13_6 : chkU 7 13 [6] = true := by kernel_rfl
theorem gsP_11_5 : chkU 7 11 [5] = true := by kernel_rfl
theorem gsP_15_1_0 : chkU 7 15 [1,0] = true := by kernel_rfl
theorem gsP_24_0_0_0 : chkU 7 24 [0,0,0] = true := by kernel_rfl
theorem gsP_24_1_1_0 : chkU 7 24 [1,1,0] = true := by kernel_rfl
theorem gsP_20_1_1 : chkU 7 20 [1,1] = true := by kernel_rfl
theorem gsP_14_2 : chkU 7 14 [2] = true := by kernel_rfl
theorem gsP_16_0_3 : chkU 7 16 [0,3] = true := by kernel_rfl
theorem gsP_7_2 : chkU 7 7 [2] = true := by kernel_rfl
theorem gsP_9_5 : chkU 7 9 [5] = true := by kernel_rfl
theorem gsP_18_5 : chkU 7 18 [5] = true := by kernel_rfl
theorem gsP_7_0 : chkU 7 7 [0] = true := by kernel_rfl
theorem gsP_12_0_1 : chkU 7 12 [0,1] = true := by kernel_rfl
theorem gsP_8_0_0 : chkU 7 8 [0,0] = true := by kernel_rfl
theorem gsP_3_1 : chkU 7 3 [1] = true := by kernel_rfl
theorem gsP_2 : chkU 7 2 [] = true := by kernel_rfl
end Go.Proofs.YtlbckpljefadpaaGreat