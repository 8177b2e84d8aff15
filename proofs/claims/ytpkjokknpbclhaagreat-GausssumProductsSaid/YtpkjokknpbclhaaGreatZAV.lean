/- Contracts of functions of the program, and what proves them (texts: G6a). -/
import Derived.KernelRfl
import Derived.Test.YtpkjokknpbclhaaGreatZAU
set_option linter.all false
namespace Go.Proofs.YtpkjokknpbclhaaGreat
open Go Go.Lg Go.Num
set_option maxRecDepth 100000
theorem fc_42 : chkFC 42 = true := by kernel_rfl
theorem fc_30 : chkFC 30 = true := by kernel_rfl
theorem fc_28 : chkFC 28 = true := by kernel_rfl
theorem fc_24 : chkFC 24 = true := by kernel_rfl
theorem fc_21 : chkFC 21 = true := by kernel_rfl
theorem fc_18 : chkFC 18 = true := by kernel_rfl
theorem fc_15 : chkFC 15 = true := by kernel_rfl
theorem fc_12 : chkFC 12 = true := by kernel_rfl
theorem fc_10 : chkFC 10 = true := by kernel_rfl
theorem fc_8 : chkFC 8 = true := by kernel_rfl
theorem fc_6 : chkFC 6 = true := by kernel_rfl
theorem fc_4 : chkFC 4 = true := by kernel_rfl
theorem fc_2 : chkFC 2 = true := by kernel_rfl
end Go.Proofs.YtpkjokknpbclhaaGreat