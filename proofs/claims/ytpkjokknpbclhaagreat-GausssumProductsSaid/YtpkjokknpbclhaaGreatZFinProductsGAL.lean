/- Contracts of functions of the program, and what proves them (texts: PD11). -/
import Derived.KernelRfl
import Derived.Test.YtpkjokknpbclhaaGreatZFinProductsGAA
set_option linter.all false
namespace Go.Proofs.YtpkjokknpbclhaaGreat
open Go Go.Lg Go.Num
set_option maxRecDepth 100000
theorem pd_36_0_2_1_3 : chkPd 36 [0,2] [1,3] = true := by kernel_rfl
theorem pd_36_1_0_0_1 : chkPd 36 [1,0] [0,1] = true := by kernel_rfl
theorem pd_36_1_3_0_4 : chkPd 36 [1,3] [0,4] = true := by kernel_rfl
theorem pd_21_0_0_1_5 : chkPd 21 [0,0] [1,5] = true := by kernel_rfl
theorem pd_21_0_2_1_2 : chkPd 21 [0,2] [1,2] = true := by kernel_rfl
theorem pd_21_0_5_1_2 : chkPd 21 [0,5] [1,2] = true := by kernel_rfl
theorem pd_21_1_2_0_0 : chkPd 21 [1,2] [0,0] = true := by kernel_rfl
theorem pd_21_1_4_0_5 : chkPd 21 [1,4] [0,5] = true := by kernel_rfl
theorem pd_7_3_4 : chkPd 7 [3] [4] = true := by kernel_rfl
theorem pd_15_0_0_1_2 : chkPd 15 [0,0] [1,2] = true := by kernel_rfl
theorem pd_24_0_0_1_0_1_0 : chkPd 24 [0,0,1] [0,1,0] = true := by kernel_rfl
theorem pd_13_0_6 : chkPd 13 [0] [6] = true := by kernel_rfl
theorem pd_20_1_1_0_1 : chkPd 20 [1,1] [0,1] = true := by kernel_rfl
theorem pd_16_0_0_0_1 : chkPd 16 [0,0] [0,1] = true := by kernel_rfl
theorem pd_16_0_3_1_0 : chkPd 16 [0,3] [1,0] = true := by kernel_rfl
theorem pd_16_1_3_0_0 : chkPd 16 [1,3] [0,0] = true := by kernel_rfl
theorem pd_9_1_0 : chkPd 9 [1] [0] = true := by kernel_rfl
theorem pd_9_5_3 : chkPd 9 [5] [3] = true := by kernel_rfl
theorem pd_42_0_0_1_4 : chkPd 42 [0,0] [1,4] = true := by kernel_rfl
theorem pd_42_0_2_0_0 : chkPd 42 [0,2] [0,0] = true := by kernel_rfl
theorem pd_42_0_3_0_2 : chkPd 42 [0,3] [0,2] = true := by kernel_rfl
theorem pd_42_0_4_0_4 : chkPd 42 [0,4] [0,4] = true := by kernel_rfl
theorem pd_42_0_5_1_0 : chkPd 42 [0,5] [1,0] = true := by kernel_rfl
theorem pd_42_1_0_1_2 : chkPd 42 [1,0] [1,2] = true := by kernel_rfl
theorem pd_42_1_1_1_4 : chkPd 42 [1,1] [1,4] = true := by kernel_rfl
theorem pd_42_1_3_0_0 : chkPd 42 [1,3] [0,0] = true := by kernel_rfl
theorem pd_42_1_4_0_2 : chkPd 42 [1,4] [0,2] = true := by kernel_rfl
theorem pd_42_1_5_0_4 : chkPd 42 [1,5] [0,4] = true := by kernel_rfl
theorem pd_5_0_2 : chkPd 5 [0] [2] = true := by kernel_rfl
theorem pd_8_1_1_0_0 : chkPd 8 [1,1] [0,0] = true := by kernel_rfl
theorem pd_36_0_2_0_2 : chkPd 36 [0,2] [0,2] = true := by kernel_rfl
theorem pd_36_0_4_0_0 : chkPd 36 [0,4] [0,0] = true := by kernel_rfl
theorem pd_36_0_5_1_1 : chkPd 36 [0,5] [1,1] = true := by kernel_rfl
theorem pd_36_1_1_1_2 : chkPd 36 [1,1] [1,2] = true := by kernel_rfl
theorem pd_36_1_3_1_0 : chkPd 36 [1,3] [1,0] = true := by kernel_rfl
theorem pd_36_1_5_0_1 : chkPd 36 [1,5] [0,1] = true := by kernel_rfl
theorem pd_30_0_2_0_0 : chkPd 30 [0,2] [0,0] = true := by kernel_rfl
theorem pd_30_1_0_1_0 : chkPd 30 [1,0] [1,0] = true := by kernel_rfl
theorem pd_28_1_0_0_0 : chkPd 28 [1,0] [0,0] = true := by kernel_rfl
theorem pd_21_0_1_0_4 : chkPd 21 [0,1] [0,4] = true := by kernel_rfl
theorem pd_21_0_4_0_1 : chkPd 21 [0,4] [0,1] = true := by kernel_rfl
theorem pd_21_1_0_1_2 : chkPd 21 [1,0] [1,2] = true := by kernel_rfl
theorem pd_21_1_2_1_2 : chkPd 21 [1,2] [1,2] = true := by kernel_rfl
theorem pd_21_1_4_1_2 : chkPd 21 [1,4] [1,2] = true := by kernel_rfl
theorem pd_26_6_6 : chkPd 26 [6] [6] = true := by kernel_rfl
theorem pd_24_0_1_1_0_1_1 : chkPd 24 [0,1,1] [0,1,1] = true := by kernel_rfl
theorem pd_24_1_0_1_1_0_1 : chkPd 24 [1,0,1] [1,0,1] = true := by kernel_rfl
theorem pd_1__ : chkPd 1 [] [] = true := by kernel_rfl
theorem pd_14_0_5 : chkPd 14 [0] [5] = true := by kernel_rfl
theorem pd_14_2_5 : chkPd 14 [2] [5] = true := by kernel_rfl
theorem pd_14_5_3 : chkPd 14 [5] [3] = true := by kernel_rfl
theorem pd_20_0_0_0_2 : chkPd 20 [0,0] [0,2] = true := by kernel_rfl
theorem pd_20_0_3_0_0 : chkPd 20 [0,3] [0,0] = true := by kernel_rfl
theorem pd_20_1_1_1_3 : chkPd 20 [1,1] [1,3] = true := by kernel_rfl
theorem pd_15_0_2_1_2 : chkPd 15 [0,2] [1,2] = true := by kernel_rfl
theorem pd_18_1_1 : chkPd 18 [1] [1] = true := by kernel_rfl
theorem pd_18_3_3 : chkPd 18 [3] [3] = true := by kernel_rfl
theorem pd_18_5_5 : chkPd 18 [5] [5] = true := by kernel_rfl
theorem pd_16_1_1_1_1 : chkPd 16 [1,1] [1,1] = true := by kernel_rfl
theorem pd_14_0_3 : chkPd 14 [0] [3] = true := by kernel_rfl
theorem pd_14_3_3 : chkPd 14 [3] [3] = true := by kernel_rfl
theorem pd_12_1_1_0_1 : chkPd 12 [1,1] [0,1] = true := by kernel_rfl
theorem pd_7_4_2 : chkPd 7 [4] [2] = true := by kernel_rfl
theorem pd_9_4_2 : chkPd 9 [4] [2] = true := by kernel_rfl
theorem pd_3_1_1 : chkPd 3 [1] [1] = true := by kernel_rfl
end Go.Proofs.YtpkjokknpbclhaaGreat