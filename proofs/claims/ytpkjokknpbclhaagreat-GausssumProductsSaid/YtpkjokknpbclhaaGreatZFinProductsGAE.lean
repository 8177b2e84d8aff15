/- Contracts of functions of the program, and what proves them (texts: PD4). -/
import Derived.KernelRfl
import Derived.Test.YtpkjokknpbclhaaGreatZFinProductsGAA
set_option linter.all false
namespace Go.Proofs.YtpkjokknpbclhaaGreat
open Go Go.Lg Go.Num
set_option maxRecDepth 100000
theorem pd_36_0_0_1_5 : chkPd 36 [0,0] [1,5] = true := by kernel_rfl
theorem pd_36_0_4_1_1 : chkPd 36 [0,4] [1,1] = true := by kernel_rfl
theorem pd_36_1_1_0_4 : chkPd 36 [1,1] [0,4] = true := by kernel_rfl
theorem pd_36_1_5_0_2 : chkPd 36 [1,5] [0,2] = true := by kernel_rfl
theorem pd_21_0_3_1_5 : chkPd 21 [0,3] [1,5] = true := by kernel_rfl
theorem pd_21_1_0_0_4 : chkPd 21 [1,0] [0,4] = true := by kernel_rfl
theorem pd_21_1_3_0_2 : chkPd 21 [1,3] [0,2] = true := by kernel_rfl
theorem pd_7_0_5 : chkPd 7 [0] [5] = true := by kernel_rfl
theorem pd_7_1_3 : chkPd 7 [1] [3] = true := by kernel_rfl
theorem pd_7_5_3 : chkPd 7 [5] [3] = true := by kernel_rfl
theorem pd_24_1_0_0_1_1_1 : chkPd 24 [1,0,0] [1,1,1] = true := by kernel_rfl
theorem pd_20_0_1_1_2 : chkPd 20 [0,1] [1,2] = true := by kernel_rfl
theorem pd_20_1_2_0_1 : chkPd 20 [1,2] [0,1] = true := by kernel_rfl
theorem pd_16_0_0_1_3 : chkPd 16 [0,0] [1,3] = true := by kernel_rfl
theorem pd_16_1_0_0_3 : chkPd 16 [1,0] [0,3] = true := by kernel_rfl
theorem pd_16_1_3_1_2 : chkPd 16 [1,3] [1,2] = true := by kernel_rfl
theorem pd_9_1_4 : chkPd 9 [1] [4] = true := by kernel_rfl
theorem pd_12_0_1_1_0 : chkPd 12 [0,1] [1,0] = true := by kernel_rfl
theorem pd_7_3_0 : chkPd 7 [3] [0] = true := by kernel_rfl
theorem pd_42_0_1_1_1 : chkPd 42 [0,1] [1,1] = true := by kernel_rfl
theorem pd_42_0_2_1_3 : chkPd 42 [0,2] [1,3] = true := by kernel_rfl
theorem pd_42_0_3_1_5 : chkPd 42 [0,3] [1,5] = true := by kernel_rfl
theorem pd_42_0_5_0_1 : chkPd 42 [0,5] [0,1] = true := by kernel_rfl
theorem pd_42_1_0_0_3 : chkPd 42 [1,0] [0,3] = true := by kernel_rfl
theorem pd_42_1_1_0_5 : chkPd 42 [1,1] [0,5] = true := by kernel_rfl
theorem pd_42_1_2_1_1 : chkPd 42 [1,2] [1,1] = true := by kernel_rfl
theorem pd_42_1_3_1_3 : chkPd 42 [1,3] [1,3] = true := by kernel_rfl
theorem pd_42_1_4_1_5 : chkPd 42 [1,4] [1,5] = true := by kernel_rfl
theorem pd_9_0_4 : chkPd 9 [0] [4] = true := by kernel_rfl
theorem pd_8_0_1_1_0 : chkPd 8 [0,1] [1,0] = true := by kernel_rfl
theorem pd_36_0_1_0_5 : chkPd 36 [0,1] [0,5] = true := by kernel_rfl
theorem pd_36_0_3_0_3 : chkPd 36 [0,3] [0,3] = true := by kernel_rfl
theorem pd_36_0_5_0_1 : chkPd 36 [0,5] [0,1] = true := by kernel_rfl
theorem pd_36_1_0_1_5 : chkPd 36 [1,0] [1,5] = true := by kernel_rfl
theorem pd_36_1_2_1_3 : chkPd 36 [1,2] [1,3] = true := by kernel_rfl
theorem pd_36_1_4_1_1 : chkPd 36 [1,4] [1,1] = true := by kernel_rfl
theorem pd_3_1_0 : chkPd 3 [1] [0] = true := by kernel_rfl
theorem pd_30_1_2_0_2 : chkPd 30 [1,2] [0,2] = true := by kernel_rfl
theorem pd_28_1_3_0_3 : chkPd 28 [1,3] [0,3] = true := by kernel_rfl
theorem pd_21_0_2_0_1 : chkPd 21 [0,2] [0,1] = true := by kernel_rfl
theorem pd_21_0_4_1_2 : chkPd 21 [0,4] [1,2] = true := by kernel_rfl
theorem pd_21_1_0_1_5 : chkPd 21 [1,0] [1,5] = true := by kernel_rfl
theorem pd_21_1_2_1_5 : chkPd 21 [1,2] [1,5] = true := by kernel_rfl
theorem pd_21_1_4_1_5 : chkPd 21 [1,4] [1,5] = true := by kernel_rfl
theorem pd_24_0_0_0_0_1_0 : chkPd 24 [0,0,0] [0,1,0] = true := by kernel_rfl
theorem pd_24_0_0_1_1_1_1 : chkPd 24 [0,0,1] [1,1,1] = true := by kernel_rfl
theorem pd_24_1_0_0_0_0_1 : chkPd 24 [1,0,0] [0,0,1] = true := by kernel_rfl
theorem pd_24_1_1_0_1_0_0 : chkPd 24 [1,1,0] [1,0,0] = true := by kernel_rfl
theorem pd_14_0_1 : chkPd 14 [0] [1] = true := by kernel_rfl
theorem pd_14_2_2 : chkPd 14 [2] [2] = true := by kernel_rfl
theorem pd_14_5_0 : chkPd 14 [5] [0] = true := by kernel_rfl
theorem pd_21_0_4_0_4 : chkPd 21 [0,4] [0,4] = true := by kernel_rfl
theorem pd_20_0_3_0_3 : chkPd 20 [0,3] [0,3] = true := by kernel_rfl
theorem pd_20_1_2_1_1 : chkPd 20 [1,2] [1,1] = true := by kernel_rfl
theorem pd_15_1_0_1_2 : chkPd 15 [1,0] [1,2] = true := by kernel_rfl
theorem pd_18_2_2 : chkPd 18 [2] [2] = true := by kernel_rfl
theorem pd_18_4_4 : chkPd 18 [4] [4] = true := by kernel_rfl
theorem pd_16_0_1_0_3 : chkPd 16 [0,1] [0,3] = true := by kernel_rfl
theorem pd_16_0_3_1_3 : chkPd 16 [0,3] [1,3] = true := by kernel_rfl
theorem pd_16_1_3_0_3 : chkPd 16 [1,3] [0,3] = true := by kernel_rfl
theorem pd_10_2_1 : chkPd 10 [2] [1] = true := by kernel_rfl
theorem pd_12_0_1_0_1 : chkPd 12 [0,1] [0,1] = true := by kernel_rfl
theorem pd_9_3_0 : chkPd 9 [3] [0] = true := by kernel_rfl
theorem pd_8_0_0_1_0 : chkPd 8 [0,0] [1,0] = true := by kernel_rfl
theorem pd_8_1_1_1_1 : chkPd 8 [1,1] [1,1] = true := by kernel_rfl
end Go.Proofs.YtpkjokknpbclhaaGreat