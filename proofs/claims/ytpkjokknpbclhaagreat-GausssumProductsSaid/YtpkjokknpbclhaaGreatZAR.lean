/- Contracts of functions of the program, and what proves them (texts: G1xb). -/
import Derived.KernelRfl
import Derived.Test.YtpkjokknpbclhaaGreatZAP
set_option linter.all false
namespace Go.Proofs.YtpkjokknpbclhaaGreat
open Go Go.Lg Go.Num
set_option maxRecDepth 100000
theorem pg_21 : chkPG 21 = true := by kernel_rfl
theorem pg_22 : chkPG 22 = true := by kernel_rfl
theorem pg_23 : chkPG 23 = true := by kernel_rfl
theorem pg_24 : chkPG 24 = true := by kernel_rfl
theorem pg_25 : chkPG 25 = true := by kernel_rfl
theorem pg_26 : chkPG 26 = true := by kernel_rfl
theorem pg_27 : chkPG 27 = true := by kernel_rfl
theorem pg_28 : chkPG 28 = true := by kernel_rfl
theorem pg_29 : chkPG 29 = true := by kernel_rfl
theorem pg_30 : chkPG 30 = true := by kernel_rfl
theorem pg_31 : chkPG 31 = true := by kernel_rfl
theorem pg_32 : chkPG 32 = true := by kernel_rfl
theorem pg_33 : chkPG 33 = true := by kernel_rfl
theorem pg_34 : chkPG 34 = true := by kernel_rfl
theorem pg_35 : chkPG 35 = true := by kernel_rfl
theorem pg_36 : chkPG 36 = true := by kernel_rfl
theorem pg_37 : chkPG 37 = true := by kernel_rfl
theorem pg_38 : chkPG 38 = true := by kernel_rfl
theorem pg_39 : chkPG 39 = true := by kernel_rfl
theorem pg_40 : chkPG 40 = true := by kernel_rfl
end Go.Proofs.YtpkjokknpbclhaaGreat