/- Contracts of functions of the program, and what proves them (texts: G6b). -/
import Derived.KernelRfl
import Derived.Test.YtpkjokknpbclhaaGreatZAU
set_option linter.all false
namespace Go.Proofs.YtpkjokknpbclhaaGreat
open Go Go.Lg Go.Num
set_option maxRecDepth 100000
theorem fc_36 : chkFC 36 = true := by kernel_rfl
theorem fc_26 : chkFC 26 = true := by kernel_rfl
theorem fc_22 : chkFC 22 = true := by kernel_rfl
theorem fc_20 : chkFC 20 = true := by kernel_rfl
theorem fc_16 : chkFC 16 = true := by kernel_rfl
theorem fc_14 : chkFC 14 = true := by kernel_rfl
theorem fc_13 : chkFC 13 = true := by kernel_rfl
theorem fc_11 : chkFC 11 = true := by kernel_rfl
theorem fc_9 : chkFC 9 = true := by kernel_rfl
theorem fc_7 : chkFC 7 = true := by kernel_rfl
theorem fc_5 : chkFC 5 = true := by kernel_rfl
theorem fc_3 : chkFC 3 = true := by kernel_rfl
theorem fc_1 : chkFC 1 = true := by kernel_rfl
end Go.Proofs.YtpkjokknpbclhaaGreat