/- Contracts of functions of the program, and what proves them (texts: JP5). -/
import Derived.KernelRfl
import Derived.Test.YtlbckpljefadpaaGreatZBT
set_option linter.all false
namespace Go.Proofs.YtlbckpljefadpaaGreat
open Go Go.Lg Go.Num
set_option maxRecDepth 100000
theorem jp_42_0_0_0_4 : chkJ 42 [0,0] [0,4] = true := by kernel_rfl
theorem jp_42_0_1_1_0 : chkJ 42 [0,1] [1,0] = true := by kernel_rfl
theorem jp_42_0_2_1_2 : chkJ 42 [0,2] [1,2] = true := by kernel_rfl
theorem jp_42_0_3_1_4 : chkJ 42 [0,3] [1,4] = true := by kernel_rfl
theorem jp_42_0_5_0_0 : chkJ 42 [0,5] [0,0] = true := by kernel_rfl
theorem jp_42_1_0_0_2 : chkJ 42 [1,0] [0,2] = true := by kernel_rfl
theorem jp_42_1_1_0_4 : chkJ 42 [1,1] [0,4] = true := by kernel_rfl
theorem jp_42_1_2_1_0 : chkJ 42 [1,2] [1,0] = true := by kernel_rfl
theorem jp_42_1_3_1_2 : chkJ 42 [1,3] [1,2] = true := by kernel_rfl
theorem jp_42_1_4_1_4 : chkJ 42 [1,4] [1,4] = true := by kernel_rfl
theorem jp_36_0_0_0_0 : chkJ 36 [0,0] [0,0] = true := by kernel_rfl
theorem jp_36_0_0_1_4 : chkJ 36 [0,0] [1,4] = true := by kernel_rfl
theorem jp_36_0_2_0_0 : chkJ 36 [0,2] [0,0] = true := by kernel_rfl
theorem jp_36_0_3_0_2 : chkJ 36 [0,3] [0,2] = true := by kernel_rfl
theorem jp_36_0_4_0_4 : chkJ 36 [0,4] [0,4] = true := by kernel_rfl
theorem jp_36_0_5_1_0 : chkJ 36 [0,5] [1,0] = true := by kernel_rfl
theorem jp_36_1_0_1_2 : chkJ 36 [1,0] [1,2] = true := by kernel_rfl
theorem jp_36_1_1_1_4 : chkJ 36 [1,1] [1,4] = true := by kernel_rfl
theorem jp_36_1_3_0_0 : chkJ 36 [1,3] [0,0] = true := by kernel_rfl
theorem jp_36_1_4_0_2 : chkJ 36 [1,4] [0,2] = true := by kernel_rfl
theorem jp_36_1_5_0_4 : chkJ 36 [1,5] [0,4] = true := by kernel_rfl
theorem jp_30_1_2_0_0 : chkJ 30 [1,2] [0,0] = true := by kernel_rfl
theorem jp_28_1_3_1_0 : chkJ 28 [1,3] [1,0] = true := by kernel_rfl
theorem jp_21_0_1_0_5 : chkJ 21 [0,1] [0,5] = true := by kernel_rfl
theorem jp_21_0_2_1_4 : chkJ 21 [0,2] [1,4] = true := by kernel_rfl
theorem jp_21_0_4_0_1 : chkJ 21 [0,4] [0,1] = true := by kernel_rfl
theorem jp_21_0_5_0_5 : chkJ 21 [0,5] [0,5] = true := by kernel_rfl
theorem jp_21_1_0_1_1 : chkJ 21 [1,0] [1,1] = true := by kernel_rfl
theorem jp_21_1_1_1_3 : chkJ 21 [1,1] [1,3] = true := by kernel_rfl
theorem jp_21_1_2_1_5 : chkJ 21 [1,2] [1,5] = true := by kernel_rfl
theorem jp_21_1_4_0_1 : chkJ 21 [1,4] [0,1] = true := by kernel_rfl
theorem jp_21_1_5_0_3 : chkJ 21 [1,5] [0,3] = true := by kernel_rfl
theorem jp_24_0_0_0_0_0_1 : chkJ 24 [0,0,0] [0,0,1] = true := by kernel_rfl
theorem jp_24_0_0_0_1_1_0 : chkJ 24 [0,0,0] [1,1,0] = true := by kernel_rfl
theorem jp_24_0_1_0_1_0_0 : chkJ 24 [0,1,0] [1,0,0] = true := by kernel_rfl
theorem jp_24_1_0_0_0_1_0 : chkJ 24 [1,0,0] [0,1,0] = true := by kernel_rfl
theorem jp_24_1_1_0_0_0_0 : chkJ 24 [1,1,0] [0,0,0] = true := by kernel_rfl
theorem jp_24_1_1_1_1_1_0 : chkJ 24 [1,1,1] [1,1,0] = true := by kernel_rfl
theorem jp_14_3_2 : chkJ 14 [3] [2] = true := by kernel_rfl
theorem jp_14_5_5 : chkJ 14 [5] [5] = true := by kernel_rfl
theorem jp_20_0_0_0_1 : chkJ 20 [0,0] [0,1] = true := by kernel_rfl
theorem jp_20_0_1_0_1 : chkJ 20 [0,1] [0,1] = true := by kernel_rfl
theorem jp_20_0_3_0_1 : chkJ 20 [0,3] [0,1] = true := by kernel_rfl
theorem jp_20_1_0_1_3 : chkJ 20 [1,0] [1,3] = true := by kernel_rfl
theorem jp_20_1_2_1_1 : chkJ 20 [1,2] [1,1] = true := by kernel_rfl
theorem jp_15_0_2_0_0 : chkJ 15 [0,2] [0,0] = true := by kernel_rfl
theorem jp_18_0_2 : chkJ 18 [0] [2] = true := by kernel_rfl
theorem jp_18_2_1 : chkJ 18 [2] [1] = true := by kernel_rfl
theorem jp_18_4_3 : chkJ 18 [4] [3] = true := by kernel_rfl
theorem jp_7_1_5 : chkJ 7 [1] [5] = true := by kernel_rfl
theorem jp_7_5_3 : chkJ 7 [5] [3] = true := by kernel_rfl
theorem jp_16_0_1_1_3 : chkJ 16 [0,1] [1,3] = true := by kernel_rfl
theorem jp_16_0_3_1_1 : chkJ 16 [0,3] [1,1] = true := by kernel_rfl
theorem jp_16_1_1_0_3 : chkJ 16 [1,1] [0,3] = true := by kernel_rfl
theorem jp_16_1_3_0_1 : chkJ 16 [1,3] [0,1] = true := by kernel_rfl
theorem jp_14_3_3 : chkJ 14 [3] [3] = true := by kernel_rfl
theorem jp_10_3_1 : chkJ 10 [3] [1] = true := by kernel_rfl
theorem jp_12_1_0_1_1 : chkJ 12 [1,0] [1,1] = true := by kernel_rfl
theorem jp_9_2_1 : chkJ 9 [2] [1] = true := by kernel_rfl
theorem jp_9_5_2 : chkJ 9 [5] [2] = true := by kernel_rfl
theorem jp_10_2_0 : chkJ 10 [2] [0] = true := by kernel_rfl
theorem jp_5_3_1 : chkJ 5 [3] [1] = true := by kernel_rfl
theorem jp_9_4_4 : chkJ 9 [4] [4] = true := by kernel_rfl
theorem jp_6_0_0 : chkJ 6 [0] [0] = true := by kernel_rfl
theorem jp_6_0_1 : chkJ 6 [0] [1] = true := by kernel_rfl
end Go.Proofs.YtlbckpljefadpaaGreat