/- Contracts of functions of the program, and what proves them (texts: PD5). -/
import Derived.KernelRfl
import Derived.Test.YtpkjokknpbclhaaGreatZFinProductsGAA
set_option linter.all false
namespace Go.Proofs.YtpkjokknpbclhaaGreat
open Go Go.Lg Go.Num
set_option maxRecDepth 100000
theorem pd_36_0_1_1_0 : chkPd 36 [0,1] [1,0] = true := by kernel_rfl
theorem pd_36_0_4_1_3 : chkPd 36 [0,4] [1,3] = true := by kernel_rfl
theorem pd_36_1_2_0_0 : chkPd 36 [1,2] [0,0] = true := by kernel_rfl
theorem pd_36_1_5_0_3 : chkPd 36 [1,5] [0,3] = true := by kernel_rfl
theorem pd_21_0_4_1_0 : chkPd 21 [0,4] [1,0] = true := by kernel_rfl
theorem pd_21_1_0_0_5 : chkPd 21 [1,0] [0,5] = true := by kernel_rfl
theorem pd_21_1_3_0_4 : chkPd 21 [1,3] [0,4] = true := by kernel_rfl
theorem pd_7_1_0 : chkPd 7 [1] [0] = true := by kernel_rfl
theorem pd_7_1_4 : chkPd 7 [1] [4] = true := by kernel_rfl
theorem pd_7_5_4 : chkPd 7 [5] [4] = true := by kernel_rfl
theorem pd_24_1_0_1_0_1_0 : chkPd 24 [1,0,1] [0,1,0] = true := by kernel_rfl
theorem pd_20_0_2_1_0 : chkPd 20 [0,2] [1,0] = true := by kernel_rfl
theorem pd_20_1_2_0_3 : chkPd 20 [1,2] [0,3] = true := by kernel_rfl
theorem pd_16_0_1_0_0 : chkPd 16 [0,1] [0,0] = true := by kernel_rfl
theorem pd_16_1_0_1_1 : chkPd 16 [1,0] [1,1] = true := by kernel_rfl
theorem pd_5_0_1 : chkPd 5 [0] [1] = true := by kernel_rfl
theorem pd_5_3_2 : chkPd 5 [3] [2] = true := by kernel_rfl
theorem pd_9_4_1 : chkPd 9 [4] [1] = true := by kernel_rfl
theorem pd_42_0_0_1_0 : chkPd 42 [0,0] [1,0] = true := by kernel_rfl
theorem pd_42_0_1_1_2 : chkPd 42 [0,1] [1,2] = true := by kernel_rfl
theorem pd_42_0_2_1_4 : chkPd 42 [0,2] [1,4] = true := by kernel_rfl
theorem pd_42_0_4_0_0 : chkPd 42 [0,4] [0,0] = true := by kernel_rfl
theorem pd_42_0_5_0_2 : chkPd 42 [0,5] [0,2] = true := by kernel_rfl
theorem pd_42_1_0_0_4 : chkPd 42 [1,0] [0,4] = true := by kernel_rfl
theorem pd_42_1_1_1_0 : chkPd 42 [1,1] [1,0] = true := by kernel_rfl
theorem pd_42_1_2_1_2 : chkPd 42 [1,2] [1,2] = true := by kernel_rfl
theorem pd_42_1_3_1_4 : chkPd 42 [1,3] [1,4] = true := by kernel_rfl
theorem pd_42_1_5_0_0 : chkPd 42 [1,5] [0,0] = true := by kernel_rfl
theorem pd_9_2_0 : chkPd 9 [2] [0] = true := by kernel_rfl
theorem pd_8_1_0_0_1 : chkPd 8 [1,0] [0,1] = true := by kernel_rfl
theorem pd_36_0_1_1_2 : chkPd 36 [0,1] [1,2] = true := by kernel_rfl
theorem pd_36_0_3_0_4 : chkPd 36 [0,3] [0,4] = true := by kernel_rfl
theorem pd_36_0_5_0_2 : chkPd 36 [0,5] [0,2] = true := by kernel_rfl
theorem pd_36_1_1_0_2 : chkPd 36 [1,1] [0,2] = true := by kernel_rfl
theorem pd_36_1_2_1_4 : chkPd 36 [1,2] [1,4] = true := by kernel_rfl
theorem pd_36_1_4_1_2 : chkPd 36 [1,4] [1,2] = true := by kernel_rfl
theorem pd_30_0_0_0_0 : chkPd 30 [0,0] [0,0] = true := by kernel_rfl
theorem pd_30_0_2_1_0 : chkPd 30 [0,2] [1,0] = true := by kernel_rfl
theorem pd_28_0_0_1_0 : chkPd 28 [0,0] [1,0] = true := by kernel_rfl
theorem pd_21_0_1_0_0 : chkPd 21 [0,1] [0,0] = true := by kernel_rfl
theorem pd_21_0_3_0_3 : chkPd 21 [0,3] [0,3] = true := by kernel_rfl
theorem pd_21_0_5_1_1 : chkPd 21 [0,5] [1,1] = true := by kernel_rfl
theorem pd_21_1_1_1_5 : chkPd 21 [1,1] [1,5] = true := by kernel_rfl
theorem pd_21_1_3_1_5 : chkPd 21 [1,3] [1,5] = true := by kernel_rfl
theorem pd_21_1_5_1_5 : chkPd 21 [1,5] [1,5] = true := by kernel_rfl
theorem pd_24_0_1_1_0_1_0 : chkPd 24 [0,1,1] [0,1,0] = true := by kernel_rfl
theorem pd_24_1_0_1_1_0_0 : chkPd 24 [1,0,1] [1,0,0] = true := by kernel_rfl
theorem pd_24_1_1_1_1_1_1 : chkPd 24 [1,1,1] [1,1,1] = true := by kernel_rfl
theorem pd_14_2_1 : chkPd 14 [2] [1] = true := by kernel_rfl
theorem pd_14_4_5 : chkPd 14 [4] [5] = true := by kernel_rfl
theorem pd_21_0_4_0_2 : chkPd 21 [0,4] [0,2] = true := by kernel_rfl
theorem pd_20_0_2_0_2 : chkPd 20 [0,2] [0,2] = true := by kernel_rfl
theorem pd_20_1_1_1_0 : chkPd 20 [1,1] [1,0] = true := by kernel_rfl
theorem pd_15_0_0_0_2 : chkPd 15 [0,0] [0,2] = true := by kernel_rfl
theorem pd_15_0_2_0_2 : chkPd 15 [0,2] [0,2] = true := by kernel_rfl
theorem pd_18_1_0 : chkPd 18 [1] [0] = true := by kernel_rfl
theorem pd_18_3_2 : chkPd 18 [3] [2] = true := by kernel_rfl
theorem pd_18_5_4 : chkPd 18 [5] [4] = true := by kernel_rfl
theorem pd_16_1_1_0_3 : chkPd 16 [1,1] [0,3] = true := by kernel_rfl
theorem pd_14_0_0 : chkPd 14 [0] [0] = true := by kernel_rfl
theorem pd_14_3_0 : chkPd 14 [3] [0] = true := by kernel_rfl
theorem pd_12_1_0_1_1 : chkPd 12 [1,0] [1,1] = true := by kernel_rfl
theorem pd_7_2_4 : chkPd 7 [2] [4] = true := by kernel_rfl
theorem pd_9_2_4 : chkPd 9 [2] [4] = true := by kernel_rfl
theorem pd_4_0_0 : chkPd 4 [0] [0] = true := by kernel_rfl
end Go.Proofs.YtpkjokknpbclhaaGreat