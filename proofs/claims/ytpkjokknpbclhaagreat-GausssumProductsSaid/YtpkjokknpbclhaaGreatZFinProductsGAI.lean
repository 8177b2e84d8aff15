/- Contracts of functions of the program, and what proves them (texts: PD8). -/
import Derived.KernelRfl
import Derived.Test.YtpkjokknpbclhaaGreatZFinProductsGAA
set_option linter.all false
namespace Go.Proofs.YtpkjokknpbclhaaGreat
open Go Go.Lg Go.Num
set_option maxRecDepth 100000
theorem pd_36_0_1_1_4 : chkPd 36 [0,1] [1,4] = true := by kernel_rfl
theorem pd_36_0_5_1_2 : chkPd 36 [0,5] [1,2] = true := by kernel_rfl
theorem pd_36_1_2_0_5 : chkPd 36 [1,2] [0,5] = true := by kernel_rfl
theorem pd_21_0_0_1_2 : chkPd 21 [0,0] [1,2] = true := by kernel_rfl
theorem pd_21_0_1_1_4 : chkPd 21 [0,1] [1,4] = true := by kernel_rfl
theorem pd_21_0_4_1_4 : chkPd 21 [0,4] [1,4] = true := by kernel_rfl
theorem pd_21_1_1_0_2 : chkPd 21 [1,1] [0,2] = true := by kernel_rfl
theorem pd_21_1_4_0_1 : chkPd 21 [1,4] [0,1] = true := by kernel_rfl
theorem pd_7_2_5 : chkPd 7 [2] [5] = true := by kernel_rfl
theorem pd_28_0_3_1_0 : chkPd 28 [0,3] [1,0] = true := by kernel_rfl
theorem pd_24_1_1_0_1_0_1 : chkPd 24 [1,1,0] [1,0,1] = true := by kernel_rfl
theorem pd_20_0_3_1_0 : chkPd 20 [0,3] [1,0] = true := by kernel_rfl
theorem pd_20_1_3_0_3 : chkPd 20 [1,3] [0,3] = true := by kernel_rfl
theorem pd_16_0_1_1_2 : chkPd 16 [0,1] [1,2] = true := by kernel_rfl
theorem pd_16_1_1_0_2 : chkPd 16 [1,1] [0,2] = true := by kernel_rfl
theorem pd_5_1_1 : chkPd 5 [1] [1] = true := by kernel_rfl
theorem pd_9_2_5 : chkPd 9 [2] [5] = true := by kernel_rfl
theorem pd_12_1_1_0_0 : chkPd 12 [1,1] [0,0] = true := by kernel_rfl
theorem pd_42_0_0_0_1 : chkPd 42 [0,0] [0,1] = true := by kernel_rfl
theorem pd_42_0_1_0_1 : chkPd 42 [0,1] [0,1] = true := by kernel_rfl
theorem pd_42_0_2_0_3 : chkPd 42 [0,2] [0,3] = true := by kernel_rfl
theorem pd_42_0_3_0_5 : chkPd 42 [0,3] [0,5] = true := by kernel_rfl
theorem pd_42_0_4_1_1 : chkPd 42 [0,4] [1,1] = true := by kernel_rfl
theorem pd_42_0_5_1_3 : chkPd 42 [0,5] [1,3] = true := by kernel_rfl
theorem pd_42_1_0_1_5 : chkPd 42 [1,0] [1,5] = true := by kernel_rfl
theorem pd_42_1_2_0_1 : chkPd 42 [1,2] [0,1] = true := by kernel_rfl
theorem pd_42_1_3_0_3 : chkPd 42 [1,3] [0,3] = true := by kernel_rfl
theorem pd_42_1_4_0_5 : chkPd 42 [1,4] [0,5] = true := by kernel_rfl
theorem pd_42_1_5_1_1 : chkPd 42 [1,5] [1,1] = true := by kernel_rfl
theorem pd_8_0_0_1_1 : chkPd 8 [0,0] [1,1] = true := by kernel_rfl
theorem pd_36_0_0_1_3 : chkPd 36 [0,0] [1,3] = true := by kernel_rfl
theorem pd_36_0_2_0_5 : chkPd 36 [0,2] [0,5] = true := by kernel_rfl
theorem pd_36_0_4_0_3 : chkPd 36 [0,4] [0,3] = true := by kernel_rfl
theorem pd_36_1_0_0_3 : chkPd 36 [1,0] [0,3] = true := by kernel_rfl
theorem pd_36_1_1_1_5 : chkPd 36 [1,1] [1,5] = true := by kernel_rfl
theorem pd_36_1_3_1_3 : chkPd 36 [1,3] [1,3] = true := by kernel_rfl
theorem pd_36_1_5_1_1 : chkPd 36 [1,5] [1,1] = true := by kernel_rfl
theorem pd_30_1_2_1_2 : chkPd 30 [1,2] [1,2] = true := by kernel_rfl
theorem pd_21_0_0_1_0 : chkPd 21 [0,0] [1,0] = true := by kernel_rfl
theorem pd_21_0_3_0_0 : chkPd 21 [0,3] [0,0] = true := by kernel_rfl
theorem pd_21_0_5_0_3 : chkPd 21 [0,5] [0,3] = true := by kernel_rfl
theorem pd_21_1_1_1_2 : chkPd 21 [1,1] [1,2] = true := by kernel_rfl
theorem pd_21_1_3_1_2 : chkPd 21 [1,3] [1,2] = true := by kernel_rfl
theorem pd_21_1_5_1_2 : chkPd 21 [1,5] [1,2] = true := by kernel_rfl
theorem pd_24_0_0_1_0_0_0 : chkPd 24 [0,0,1] [0,0,0] = true := by kernel_rfl
theorem pd_24_0_1_0_1_1_0 : chkPd 24 [0,1,0] [1,1,0] = true := by kernel_rfl
theorem pd_24_1_0_1_0_0_0 : chkPd 24 [1,0,1] [0,0,0] = true := by kernel_rfl
theorem pd_24_1_1_1_0_1_1 : chkPd 24 [1,1,1] [0,1,1] = true := by kernel_rfl
theorem pd_14_1_4 : chkPd 14 [1] [4] = true := by kernel_rfl
theorem pd_14_4_2 : chkPd 14 [4] [2] = true := by kernel_rfl
theorem pd_21_0_2_0_2 : chkPd 21 [0,2] [0,2] = true := by kernel_rfl
theorem pd_20_0_1_1_3 : chkPd 20 [0,1] [1,3] = true := by kernel_rfl
theorem pd_20_1_0_1_2 : chkPd 20 [1,0] [1,2] = true := by kernel_rfl
theorem pd_20_1_3_1_1 : chkPd 20 [1,3] [1,1] = true := by kernel_rfl
theorem pd_18_0_1 : chkPd 18 [0] [1] = true := by kernel_rfl
theorem pd_18_1_3 : chkPd 18 [1] [3] = true := by kernel_rfl
theorem pd_18_3_5 : chkPd 18 [3] [5] = true := by kernel_rfl
theorem pd_16_0_0_0_0 : chkPd 16 [0,0] [0,0] = true := by kernel_rfl
theorem pd_16_0_2_0_2 : chkPd 16 [0,2] [0,2] = true := by kernel_rfl
theorem pd_16_1_1_1_3 : chkPd 16 [1,1] [1,3] = true := by kernel_rfl
theorem pd_11_5_5 : chkPd 11 [5] [5] = true := by kernel_rfl
theorem pd_12_1_1_1_0 : chkPd 12 [1,1] [1,0] = true := by kernel_rfl
theorem pd_10_0_0 : chkPd 10 [0] [0] = true := by kernel_rfl
theorem pd_10_2_0 : chkPd 10 [2] [0] = true := by kernel_rfl
theorem pd_3_0_0 : chkPd 3 [0] [0] = true := by kernel_rfl
end Go.Proofs.YtpkjokknpbclhaaGreat