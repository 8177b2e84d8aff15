/- Contracts of functions of the program, and what proves them (texts: GSP5). -/
import Derived.KernelRfl
import Derived.Test.YtlbckpljefadpaaGreatZBG
set_option linter.all false
namespace Go.Proofs.YtlbckpljefadpaaGreat
open Go Go.Lg Go.Num
set_option maxRecDepth 100000
theorem gsP_21_1_1 : chkU 7 21 [1,1] = true := by kernel_rfl
theorem gsP_42_0_1 : chkU 7 42 [0,1] = true := by kernel_rfl
theorem gsP_42_1_1 : chkU 7 42 [1,1] = true := by kernel_rfl
theorem gsP_36_0_1 : chkU 7 36 [0,1] = true := by kernel_rfl
theorem gsP_36_0_4 : chkU 7 36 [0,4] = true := by kernel_rfl
theorem gsP_36_1_4 : chkU 7 36 [1,4] = true := by kernel_rfl
theorem gsP_21_0_0 : chkU 7 21 [0,0] = true := by kernel_rfl
theorem gsP_21_0_4 : chkU 7 21 [0,4] = true := by kernel_rfl
theorem gsP_30_1_0 : chkU 7 30 [1,0] = true := by kernel_rfl
theorem gsP_24_1_0_0 : chkU 7 24 [1,0,0] = true := by kernel_rfl
theorem gsP_20_0_2 : chkU 7 20 [0,2] = true := by kernel_rfl
theorem gsP_7_1 : chkU 7 7 [1] = true := by kernel_rfl
theorem gsP_16_0_0 : chkU 7 16 [0,0] = true := by kernel_rfl
theorem gsP_16_1_2 : chkU 7 16 [1,2] = true := by kernel_rfl
theorem gsP_9_3 : chkU 7 9 [3] = true := by kernel_rfl
theorem gsP_18_4 : chkU 7 18 [4] = true := by kernel_rfl
theorem gsP_9_2 : chkU 7 9 [2] = true := by kernel_rfl
theorem gsP_5_3 : chkU 7 5 [3] = true := by kernel_rfl
theorem gsP_12_1_1 : chkU 7 12 [1,1] = true := by kernel_rfl
theorem gsP_5_0 : chkU 7 5 [0] = true := by kernel_rfl
theorem gsP_4_0 : chkU 7 4 [0] = true := by kernel_rfl
theorem gsP_1 : chkU 7 1 [] = true := by kernel_rfl
end Go.Proofs.YtlbckpljefadpaaGreat