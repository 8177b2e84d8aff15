/- Contracts of functions of the program, and what proves them (texts: JP2). -/
import Derived.KernelRfl
import Derived.Test.YtlbckpljefadpaaGreatZBT
set_option linter.all false
namespace Go.Proofs.YtlbckpljefadpaaGreat
open Go Go.Lg Go.Num
set_option maxRecDepth 100000
theorem jp_42_0_0_0_1 : chkJ 42 [0,0] [0,1] = true := by kernel_rfl
theorem jp_42_0_1_0_3 : chkJ 42 [0,1] [0,3] = true := by kernel_rfl
theorem jp_42_0_2_0_5 : chkJ 42 [0,2] [0,5] = true := by kernel_rfl
theorem jp_42_0_3_1_1 : chkJ 42 [0,3] [1,1] = true := by kernel_rfl
theorem jp_42_0_4_1_3 : chkJ 42 [0,4] [1,3] = true := by kernel_rfl
theorem jp_42_0_5_1_5 : chkJ 42 [0,5] [1,5] = true := by kernel_rfl
theorem jp_42_1_1_0_1 : chkJ 42 [1,1] [0,1] = true := by kernel_rfl
theorem jp_42_1_2_0_3 : chkJ 42 [1,2] [0,3] = true := by kernel_rfl
theorem jp_42_1_3_0_5 : chkJ 42 [1,3] [0,5] = true := by kernel_rfl
theorem jp_42_1_4_1_1 : chkJ 42 [1,4] [1,1] = true := by kernel_rfl
theorem jp_42_1_5_1_3 : chkJ 42 [1,5] [1,3] = true := by kernel_rfl
theorem jp_36_0_1_1_3 : chkJ 36 [0,1] [1,3] = true := by kernel_rfl
theorem jp_36_0_2_1_5 : chkJ 36 [0,2] [1,5] = true := by kernel_rfl
theorem jp_36_0_4_0_1 : chkJ 36 [0,4] [0,1] = true := by kernel_rfl
theorem jp_36_0_5_0_3 : chkJ 36 [0,5] [0,3] = true := by kernel_rfl
theorem jp_36_1_0_0_5 : chkJ 36 [1,0] [0,5] = true := by kernel_rfl
theorem jp_36_1_1_1_1 : chkJ 36 [1,1] [1,1] = true := by kernel_rfl
theorem jp_36_1_2_1_3 : chkJ 36 [1,2] [1,3] = true := by kernel_rfl
theorem jp_36_1_3_1_5 : chkJ 36 [1,3] [1,5] = true := by kernel_rfl
theorem jp_36_1_5_0_1 : chkJ 36 [1,5] [0,1] = true := by kernel_rfl
theorem jp_30_0_0_1_2 : chkJ 30 [0,0] [1,2] = true := by kernel_rfl
theorem jp_30_1_0_0_2 : chkJ 30 [1,0] [0,2] = true := by kernel_rfl
theorem jp_28_1_0_1_3 : chkJ 28 [1,0] [1,3] = true := by kernel_rfl
theorem jp_21_0_1_0_2 : chkJ 21 [0,1] [0,2] = true := by kernel_rfl
theorem jp_21_0_2_1_1 : chkJ 21 [0,2] [1,1] = true := by kernel_rfl
theorem jp_21_0_3_1_3 : chkJ 21 [0,3] [1,3] = true := by kernel_rfl
theorem jp_21_0_5_0_2 : chkJ 21 [0,5] [0,2] = true := by kernel_rfl
theorem jp_21_1_0_0_4 : chkJ 21 [1,0] [0,4] = true := by kernel_rfl
theorem jp_21_1_1_1_0 : chkJ 21 [1,1] [1,0] = true := by kernel_rfl
theorem jp_21_1_2_1_2 : chkJ 21 [1,2] [1,2] = true := by kernel_rfl
theorem jp_21_1_3_1_4 : chkJ 21 [1,3] [1,4] = true := by kernel_rfl
theorem jp_21_1_5_0_0 : chkJ 21 [1,5] [0,0] = true := by kernel_rfl
theorem jp_26_6_0 : chkJ 26 [6] [0] = true := by kernel_rfl
theorem jp_24_0_0_1_1_1_1 : chkJ 24 [0,0,1] [1,1,1] = true := by kernel_rfl
theorem jp_24_0_1_1_1_0_1 : chkJ 24 [0,1,1] [1,0,1] = true := by kernel_rfl
theorem jp_24_1_0_1_0_1_1 : chkJ 24 [1,0,1] [0,1,1] = true := by kernel_rfl
theorem jp_24_1_1_1_0_0_1 : chkJ 24 [1,1,1] [0,0,1] = true := by kernel_rfl
theorem jp_14_1_3 : chkJ 14 [1] [3] = true := by kernel_rfl
theorem jp_14_4_1 : chkJ 14 [4] [1] = true := by kernel_rfl
theorem jp_22_5_5 : chkJ 22 [5] [5] = true := by kernel_rfl
theorem jp_20_0_0_1_1 : chkJ 20 [0,0] [1,1] = true := by kernel_rfl
theorem jp_20_0_1_1_1 : chkJ 20 [0,1] [1,1] = true := by kernel_rfl
theorem jp_20_0_2_1_3 : chkJ 20 [0,2] [1,3] = true := by kernel_rfl
theorem jp_20_1_0_1_1 : chkJ 20 [1,0] [1,1] = true := by kernel_rfl
theorem jp_20_1_2_0_3 : chkJ 20 [1,2] [0,3] = true := by kernel_rfl
theorem jp_15_0_0_1_0 : chkJ 15 [0,0] [1,0] = true := by kernel_rfl
theorem jp_18_0_0 : chkJ 18 [0] [0] = true := by kernel_rfl
theorem jp_18_1_5 : chkJ 18 [1] [5] = true := by kernel_rfl
theorem jp_18_4_1 : chkJ 18 [4] [1] = true := by kernel_rfl
theorem jp_7_1_3 : chkJ 7 [1] [3] = true := by kernel_rfl
theorem jp_7_5_1 : chkJ 7 [5] [1] = true := by kernel_rfl
theorem jp_16_0_1_1_1 : chkJ 16 [0,1] [1,1] = true := by kernel_rfl
theorem jp_16_0_3_0_3 : chkJ 16 [0,3] [0,3] = true := by kernel_rfl
theorem jp_16_1_1_0_1 : chkJ 16 [1,1] [0,1] = true := by kernel_rfl
theorem jp_16_1_2_1_3 : chkJ 16 [1,2] [1,3] = true := by kernel_rfl
theorem jp_14_0_3 : chkJ 14 [0] [3] = true := by kernel_rfl
theorem jp_10_2_3 : chkJ 10 [2] [3] = true := by kernel_rfl
theorem jp_12_1_0_0_1 : chkJ 12 [1,0] [0,1] = true := by kernel_rfl
theorem jp_9_1_4 : chkJ 9 [1] [4] = true := by kernel_rfl
theorem jp_9_5_0 : chkJ 9 [5] [0] = true := by kernel_rfl
theorem jp_10_0_0 : chkJ 10 [0] [0] = true := by kernel_rfl
theorem jp_5_2_3 : chkJ 5 [2] [3] = true := by kernel_rfl
theorem jp_9_4_0 : chkJ 9 [4] [0] = true := by kernel_rfl
theorem jp_5_2_0 : chkJ 5 [2] [0] = true := by kernel_rfl
theorem jp_6_1_1 : chkJ 6 [1] [1] = true := by kernel_rfl
end Go.Proofs.YtlbckpljefadpaaGreat