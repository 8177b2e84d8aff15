/- Contracts of functions of the program, and what proves them (texts: JP9). -/
import Derived.KernelRfl
import Derived.Test.YtlbckpljefadpaaGreatZBT
set_option linter.all false
namespace Go.Proofs.YtlbckpljefadpaaGreat
open Go Go.Lg Go.Num
set_option maxRecDepth 100000
theorem jp_42_0_0_1_2 : chkJ 42 [0,0] [1,2] = true := by kernel_rfl
theorem jp_42_0_1_1_4 : chkJ 42 [0,1] [1,4] = true := by kernel_rfl
theorem jp_42_0_3_0_0 : chkJ 42 [0,3] [0,0] = true := by kernel_rfl
theorem jp_42_0_4_0_2 : chkJ 42 [0,4] [0,2] = true := by kernel_rfl
theorem jp_42_0_5_0_4 : chkJ 42 [0,5] [0,4] = true := by kernel_rfl
theorem jp_42_1_0_1_0 : chkJ 42 [1,0] [1,0] = true := by kernel_rfl
theorem jp_42_1_1_1_2 : chkJ 42 [1,1] [1,2] = true := by kernel_rfl
theorem jp_42_1_2_1_4 : chkJ 42 [1,2] [1,4] = true := by kernel_rfl
theorem jp_42_1_4_0_0 : chkJ 42 [1,4] [0,0] = true := by kernel_rfl
theorem jp_42_1_5_0_2 : chkJ 42 [1,5] [0,2] = true := by kernel_rfl
theorem jp_36_0_0_0_4 : chkJ 36 [0,0] [0,4] = true := by kernel_rfl
theorem jp_36_0_1_0_2 : chkJ 36 [0,1] [0,2] = true := by kernel_rfl
theorem jp_36_0_2_0_4 : chkJ 36 [0,2] [0,4] = true := by kernel_rfl
theorem jp_36_0_3_1_0 : chkJ 36 [0,3] [1,0] = true := by kernel_rfl
theorem jp_36_0_4_1_2 : chkJ 36 [0,4] [1,2] = true := by kernel_rfl
theorem jp_36_0_5_1_4 : chkJ 36 [0,5] [1,4] = true := by kernel_rfl
theorem jp_36_1_1_0_0 : chkJ 36 [1,1] [0,0] = true := by kernel_rfl
theorem jp_36_1_2_0_2 : chkJ 36 [1,2] [0,2] = true := by kernel_rfl
theorem jp_36_1_3_0_4 : chkJ 36 [1,3] [0,4] = true := by kernel_rfl
theorem jp_36_1_4_1_0 : chkJ 36 [1,4] [1,0] = true := by kernel_rfl
theorem jp_36_1_5_1_2 : chkJ 36 [1,5] [1,2] = true := by kernel_rfl
theorem jp_28_0_0_0_0 : chkJ 28 [0,0] [0,0] = true := by kernel_rfl
theorem jp_28_0_3_1_0 : chkJ 28 [0,3] [1,0] = true := by kernel_rfl
theorem jp_21_0_0_1_1 : chkJ 21 [0,0] [1,1] = true := by kernel_rfl
theorem jp_21_0_1_1_3 : chkJ 21 [0,1] [1,3] = true := by kernel_rfl
theorem jp_21_0_3_0_2 : chkJ 21 [0,3] [0,2] = true := by kernel_rfl
theorem jp_21_0_4_1_1 : chkJ 21 [0,4] [1,1] = true := by kernel_rfl
theorem jp_21_0_5_1_3 : chkJ 21 [0,5] [1,3] = true := by kernel_rfl
theorem jp_21_1_0_1_5 : chkJ 21 [1,0] [1,5] = true := by kernel_rfl
theorem jp_21_1_2_0_1 : chkJ 21 [1,2] [0,1] = true := by kernel_rfl
theorem jp_21_1_3_0_3 : chkJ 21 [1,3] [0,3] = true := by kernel_rfl
theorem jp_21_1_4_0_5 : chkJ 21 [1,4] [0,5] = true := by kernel_rfl
theorem jp_21_1_5_1_1 : chkJ 21 [1,5] [1,1] = true := by kernel_rfl
theorem jp_24_0_0_1_0_0_1 : chkJ 24 [0,0,1] [0,0,1] = true := by kernel_rfl
theorem jp_24_0_1_0_1_1_1 : chkJ 24 [0,1,0] [1,1,1] = true := by kernel_rfl
theorem jp_24_1_0_0_1_0_1 : chkJ 24 [1,0,0] [1,0,1] = true := by kernel_rfl
theorem jp_24_1_1_0_0_1_1 : chkJ 24 [1,1,0] [0,1,1] = true := by kernel_rfl
theorem jp_14_0_2 : chkJ 14 [0] [2] = true := by kernel_rfl
theorem jp_14_2_2 : chkJ 14 [2] [2] = true := by kernel_rfl
theorem jp_14_5_0 : chkJ 14 [5] [0] = true := by kernel_rfl
theorem jp_21_0_2_0_2 : chkJ 21 [0,2] [0,2] = true := by kernel_rfl
theorem jp_20_0_1_1_3 : chkJ 20 [0,1] [1,3] = true := by kernel_rfl
theorem jp_20_0_3_1_1 : chkJ 20 [0,3] [1,1] = true := by kernel_rfl
theorem jp_20_1_1_0_3 : chkJ 20 [1,1] [0,3] = true := by kernel_rfl
theorem jp_20_1_3_0_1 : chkJ 20 [1,3] [0,1] = true := by kernel_rfl
theorem jp_15_1_0_0_0 : chkJ 15 [1,0] [0,0] = true := by kernel_rfl
theorem jp_18_1_0 : chkJ 18 [1] [0] = true := by kernel_rfl
theorem jp_18_2_5 : chkJ 18 [2] [5] = true := by kernel_rfl
theorem jp_18_5_1 : chkJ 18 [5] [1] = true := by kernel_rfl
theorem jp_7_3_1 : chkJ 7 [3] [1] = true := by kernel_rfl
theorem jp_13_6_0 : chkJ 13 [6] [0] = true := by kernel_rfl
theorem jp_16_0_1_0_3 : chkJ 16 [0,1] [0,3] = true := by kernel_rfl
theorem jp_16_0_3_0_1 : chkJ 16 [0,3] [0,1] = true := by kernel_rfl
theorem jp_16_1_0_1_3 : chkJ 16 [1,0] [1,3] = true := by kernel_rfl
theorem jp_16_1_2_1_1 : chkJ 16 [1,2] [1,1] = true := by kernel_rfl
theorem jp_11_5_5 : chkJ 11 [5] [5] = true := by kernel_rfl
theorem jp_10_2_1 : chkJ 10 [2] [1] = true := by kernel_rfl
theorem jp_12_1_0_0_0 : chkJ 12 [1,0] [0,0] = true := by kernel_rfl
theorem jp_9_1_3 : chkJ 9 [1] [3] = true := by kernel_rfl
theorem jp_9_4_5 : chkJ 9 [4] [5] = true := by kernel_rfl
theorem jp_11_0_0 : chkJ 11 [0] [0] = true := by kernel_rfl
theorem jp_9_0_2 : chkJ 9 [0] [2] = true := by kernel_rfl
theorem jp_8_0_1_1_0 : chkJ 8 [0,1] [1,0] = true := by kernel_rfl
theorem jp_7_0_0 : chkJ 7 [0] [0] = true := by kernel_rfl
theorem jp_4_0_0 : chkJ 4 [0] [0] = true := by kernel_rfl
end Go.Proofs.YtlbckpljefadpaaGreat