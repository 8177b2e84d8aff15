/- Contracts of functions of the program, and what proves them (texts: PD12). -/
import Derived.KernelRfl
import Derived.Test.YtpkjokknpbclhaaGreatZFinProductsGAA
set_option linter.all false
namespace Go.Proofs.YtpkjokknpbclhaaGreat
open Go Go.Lg Go.Num
set_option maxRecDepth 100000
theorem pd_36_0_2_1_5 : chkPd 36 [0,2] [1,5] = true := by kernel_rfl
theorem pd_36_1_0_0_2 : chkPd 36 [1,0] [0,2] = true := by kernel_rfl
theorem pd_36_1_3_0_5 : chkPd 36 [1,3] [0,5] = true := by kernel_rfl
theorem pd_21_0_1_1_0 : chkPd 21 [0,1] [1,0] = true := by kernel_rfl
theorem pd_21_0_2_1_3 : chkPd 21 [0,2] [1,3] = true := by kernel_rfl
theorem pd_21_0_5_1_3 : chkPd 21 [0,5] [1,3] = true := by kernel_rfl
theorem pd_21_1_2_0_1 : chkPd 21 [1,2] [0,1] = true := by kernel_rfl
theorem pd_21_1_5_0_0 : chkPd 21 [1,5] [0,0] = true := by kernel_rfl
theorem pd_7_3_5 : chkPd 7 [3] [5] = true := by kernel_rfl
theorem pd_15_0_2_1_0 : chkPd 15 [0,2] [1,0] = true := by kernel_rfl
theorem pd_24_0_0_1_1_1_0 : chkPd 24 [0,0,1] [1,1,0] = true := by kernel_rfl
theorem pd_13_6_0 : chkPd 13 [6] [0] = true := by kernel_rfl
theorem pd_20_1_1_0_2 : chkPd 20 [1,1] [0,2] = true := by kernel_rfl
theorem pd_16_0_0_0_3 : chkPd 16 [0,0] [0,3] = true := by kernel_rfl
theorem pd_16_0_3_1_2 : chkPd 16 [0,3] [1,2] = true := by kernel_rfl
theorem pd_16_1_3_0_2 : chkPd 16 [1,3] [0,2] = true := by kernel_rfl
theorem pd_9_1_1 : chkPd 9 [1] [1] = true := by kernel_rfl
theorem pd_9_5_5 : chkPd 9 [5] [5] = true := by kernel_rfl
theorem pd_42_0_0_1_5 : chkPd 42 [0,0] [1,5] = true := by kernel_rfl
theorem pd_42_0_2_0_1 : chkPd 42 [0,2] [0,1] = true := by kernel_rfl
theorem pd_42_0_3_0_3 : chkPd 42 [0,3] [0,3] = true := by kernel_rfl
theorem pd_42_0_4_0_5 : chkPd 42 [0,4] [0,5] = true := by kernel_rfl
theorem pd_42_0_5_1_1 : chkPd 42 [0,5] [1,1] = true := by kernel_rfl
theorem pd_42_1_0_1_3 : chkPd 42 [1,0] [1,3] = true := by kernel_rfl
theorem pd_42_1_1_1_5 : chkPd 42 [1,1] [1,5] = true := by kernel_rfl
theorem pd_42_1_3_0_1 : chkPd 42 [1,3] [0,1] = true := by kernel_rfl
theorem pd_42_1_4_0_3 : chkPd 42 [1,4] [0,3] = true := by kernel_rfl
theorem pd_42_1_5_0_5 : chkPd 42 [1,5] [0,5] = true := by kernel_rfl
theorem pd_5_2_0 : chkPd 5 [2] [0] = true := by kernel_rfl
theorem pd_8_1_1_1_0 : chkPd 8 [1,1] [1,0] = true := by kernel_rfl
theorem pd_36_0_2_0_3 : chkPd 36 [0,2] [0,3] = true := by kernel_rfl
theorem pd_36_0_4_0_1 : chkPd 36 [0,4] [0,1] = true := by kernel_rfl
theorem pd_36_0_5_1_4 : chkPd 36 [0,5] [1,4] = true := by kernel_rfl
theorem pd_36_1_1_1_3 : chkPd 36 [1,1] [1,3] = true := by kernel_rfl
theorem pd_36_1_3_1_1 : chkPd 36 [1,3] [1,1] = true := by kernel_rfl
theorem pd_36_1_5_0_4 : chkPd 36 [1,5] [0,4] = true := by kernel_rfl
theorem pd_30_0_2_0_2 : chkPd 30 [0,2] [0,2] = true := by kernel_rfl
theorem pd_30_1_0_1_2 : chkPd 30 [1,0] [1,2] = true := by kernel_rfl
theorem pd_28_1_0_1_0 : chkPd 28 [1,0] [1,0] = true := by kernel_rfl
theorem pd_21_0_1_0_5 : chkPd 21 [0,1] [0,5] = true := by kernel_rfl
theorem pd_21_0_4_0_3 : chkPd 21 [0,4] [0,3] = true := by kernel_rfl
theorem pd_21_1_0_1_3 : chkPd 21 [1,0] [1,3] = true := by kernel_rfl
theorem pd_21_1_2_1_3 : chkPd 21 [1,2] [1,3] = true := by kernel_rfl
theorem pd_21_1_4_1_3 : chkPd 21 [1,4] [1,3] = true := by kernel_rfl
theorem pd_24_0_0_0_0_0_0 : chkPd 24 [0,0,0] [0,0,0] = true := by kernel_rfl
theorem pd_24_0_0_1_1_0_0 : chkPd 24 [0,0,1] [1,0,0] = true := by kernel_rfl
theorem pd_24_0_1_1_1_1_1 : chkPd 24 [0,1,1] [1,1,1] = true := by kernel_rfl
theorem pd_24_1_1_0_0_1_0 : chkPd 24 [1,1,0] [0,1,0] = true := by kernel_rfl
theorem pd_22_5_0 : chkPd 22 [5] [0] = true := by kernel_rfl
theorem pd_14_3_1 : chkPd 14 [3] [1] = true := by kernel_rfl
theorem pd_14_5_4 : chkPd 14 [5] [4] = true := by kernel_rfl
theorem pd_20_0_0_0_3 : chkPd 20 [0,0] [0,3] = true := by kernel_rfl
theorem pd_20_0_3_0_1 : chkPd 20 [0,3] [0,1] = true := by kernel_rfl
theorem pd_20_1_2_0_2 : chkPd 20 [1,2] [0,2] = true := by kernel_rfl
theorem pd_15_1_0_0_0 : chkPd 15 [1,0] [0,0] = true := by kernel_rfl
theorem pd_18_2_0 : chkPd 18 [2] [0] = true := by kernel_rfl
theorem pd_18_4_2 : chkPd 18 [4] [2] = true := by kernel_rfl
theorem pd_16_0_0_1_2 : chkPd 16 [0,0] [1,2] = true := by kernel_rfl
theorem pd_16_0_3_0_3 : chkPd 16 [0,3] [0,3] = true := by kernel_rfl
theorem pd_16_1_2_1_2 : chkPd 16 [1,2] [1,2] = true := by kernel_rfl
theorem pd_10_1_0 : chkPd 10 [1] [0] = true := by kernel_rfl
theorem pd_12_0_0_0_0 : chkPd 12 [0,0] [0,0] = true := by kernel_rfl
theorem pd_9_0_3 : chkPd 9 [0] [3] = true := by kernel_rfl
theorem pd_9_0_0 : chkPd 9 [0] [0] = true := by kernel_rfl
theorem pd_6_1_1 : chkPd 6 [1] [1] = true := by kernel_rfl
end Go.Proofs.YtpkjokknpbclhaaGreat