/- Contracts of functions of the program, and what proves them (texts: JP1). -/
import Derived.KernelRfl
import Derived.Test.YtlbckpljefadpaaGreatZBT
set_option linter.all false
namespace Go.Proofs.YtlbckpljefadpaaGreat
open Go Go.Lg Go.Num
set_option maxRecDepth 100000
theorem jp_42_0_0_0_0 : chkJ 42 [0,0] [0,0] = true := by kernel_rfl
theorem jp_42_0_1_0_2 : chkJ 42 [0,1] [0,2] = true := by kernel_rfl
theorem jp_42_0_2_0_4 : chkJ 42 [0,2] [0,4] = true := by kernel_rfl
theorem jp_42_0_3_1_0 : chkJ 42 [0,3] [1,0] = true := by kernel_rfl
theorem jp_42_0_4_1_2 : chkJ 42 [0,4] [1,2] = true := by kernel_rfl
theorem jp_42_0_5_1_4 : chkJ 42 [0,5] [1,4] = true := by kernel_rfl
theorem jp_42_1_1_0_0 : chkJ 42 [1,1] [0,0] = true := by kernel_rfl
theorem jp_42_1_2_0_2 : chkJ 42 [1,2] [0,2] = true := by kernel_rfl
theorem jp_42_1_3_0_4 : chkJ 42 [1,3] [0,4] = true := by kernel_rfl
theorem jp_42_1_4_1_0 : chkJ 42 [1,4] [1,0] = true := by kernel_rfl
theorem jp_42_1_5_1_2 : chkJ 42 [1,5] [1,2] = true := by kernel_rfl
theorem jp_36_0_1_1_2 : chkJ 36 [0,1] [1,2] = true := by kernel_rfl
theorem jp_36_0_2_1_4 : chkJ 36 [0,2] [1,4] = true := by kernel_rfl
theorem jp_36_0_4_0_0 : chkJ 36 [0,4] [0,0] = true := by kernel_rfl
theorem jp_36_0_5_0_2 : chkJ 36 [0,5] [0,2] = true := by kernel_rfl
theorem jp_36_1_0_0_4 : chkJ 36 [1,0] [0,4] = true := by kernel_rfl
theorem jp_36_1_1_1_0 : chkJ 36 [1,1] [1,0] = true := by kernel_rfl
theorem jp_36_1_2_1_2 : chkJ 36 [1,2] [1,2] = true := by kernel_rfl
theorem jp_36_1_3_1_4 : chkJ 36 [1,3] [1,4] = true := by kernel_rfl
theorem jp_36_1_5_0_0 : chkJ 36 [1,5] [0,0] = true := by kernel_rfl
theorem jp_30_0_0_1_0 : chkJ 30 [0,0] [1,0] = true := by kernel_rfl
theorem jp_30_1_0_0_0 : chkJ 30 [1,0] [0,0] = true := by kernel_rfl
theorem jp_28_1_0_1_0 : chkJ 28 [1,0] [1,0] = true := by kernel_rfl
theorem jp_21_0_1_0_1 : chkJ 21 [0,1] [0,1] = true := by kernel_rfl
theorem jp_21_0_2_1_0 : chkJ 21 [0,2] [1,0] = true := by kernel_rfl
theorem jp_21_0_3_1_2 : chkJ 21 [0,3] [1,2] = true := by kernel_rfl
theorem jp_21_0_5_0_1 : chkJ 21 [0,5] [0,1] = true := by kernel_rfl
theorem jp_21_1_0_0_3 : chkJ 21 [1,0] [0,3] = true := by kernel_rfl
theorem jp_21_1_1_0_5 : chkJ 21 [1,1] [0,5] = true := by kernel_rfl
theorem jp_21_1_2_1_1 : chkJ 21 [1,2] [1,1] = true := by kernel_rfl
theorem jp_21_1_3_1_3 : chkJ 21 [1,3] [1,3] = true := by kernel_rfl
theorem jp_21_1_4_1_5 : chkJ 21 [1,4] [1,5] = true := by kernel_rfl
theorem jp_26_0_6 : chkJ 26 [0] [6] = true := by kernel_rfl
theorem jp_24_0_0_1_1_1_0 : chkJ 24 [0,0,1] [1,1,0] = true := by kernel_rfl
theorem jp_24_0_1_1_1_0_0 : chkJ 24 [0,1,1] [1,0,0] = true := by kernel_rfl
theorem jp_24_1_0_1_0_1_0 : chkJ 24 [1,0,1] [0,1,0] = true := by kernel_rfl
theorem jp_24_1_1_1_0_0_0 : chkJ 24 [1,1,1] [0,0,0] = true := by kernel_rfl
theorem jp_14_1_2 : chkJ 14 [1] [2] = true := by kernel_rfl
theorem jp_14_4_0 : chkJ 14 [4] [0] = true := by kernel_rfl
theorem jp_22_5_0 : chkJ 22 [5] [0] = true := by kernel_rfl
theorem jp_20_0_0_1_0 : chkJ 20 [0,0] [1,0] = true := by kernel_rfl
theorem jp_20_0_1_1_0 : chkJ 20 [0,1] [1,0] = true := by kernel_rfl
theorem jp_20_0_2_1_2 : chkJ 20 [0,2] [1,2] = true := by kernel_rfl
theorem jp_20_1_0_1_0 : chkJ 20 [1,0] [1,0] = true := by kernel_rfl
theorem jp_20_1_2_0_2 : chkJ 20 [1,2] [0,2] = true := by kernel_rfl
theorem jp_15_0_0_0_2 : chkJ 15 [0,0] [0,2] = true := by kernel_rfl
theorem jp_15_1_2_1_2 : chkJ 15 [1,2] [1,2] = true := by kernel_rfl
theorem jp_18_4_0 : chkJ 18 [4] [0] = true := by kernel_rfl
theorem jp_7_1_0 : chkJ 7 [1] [0] = true := by kernel_rfl
theorem jp_7_4_3 : chkJ 7 [4] [3] = true := by kernel_rfl
theorem jp_16_0_0_0_3 : chkJ 16 [0,0] [0,3] = true := by kernel_rfl
theorem jp_16_0_1_0_1 : chkJ 16 [0,1] [0,1] = true := by kernel_rfl
theorem jp_16_0_2_1_3 : chkJ 16 [0,2] [1,3] = true := by kernel_rfl
theorem jp_16_1_0_1_1 : chkJ 16 [1,0] [1,1] = true := by kernel_rfl
theorem jp_16_1_2_0_3 : chkJ 16 [1,2] [0,3] = true := by kernel_rfl
theorem jp_11_0_5 : chkJ 11 [0] [5] = true := by kernel_rfl
theorem jp_10_1_1 : chkJ 10 [1] [1] = true := by kernel_rfl
theorem jp_12_0_1_0_1 : chkJ 12 [0,1] [0,1] = true := by kernel_rfl
theorem jp_9_1_0 : chkJ 9 [1] [0] = true := by kernel_rfl
theorem jp_9_3_5 : chkJ 9 [3] [5] = true := by kernel_rfl
theorem jp_7_2_4 : chkJ 7 [2] [4] = true := by kernel_rfl
theorem jp_7_0_3 : chkJ 7 [0] [3] = true := by kernel_rfl
theorem jp_8_0_0_1_0 : chkJ 8 [0,0] [1,0] = true := by kernel_rfl
theorem jp_8_1_0_0_1 : chkJ 8 [1,0] [0,1] = true := by kernel_rfl
theorem jp_4_1_1 : chkJ 4 [1] [1] = true := by kernel_rfl
end Go.Proofs.YtlbckpljefadpaaGreat