/- Contracts of functions of the program, and what proves them (texts: G1xc). -/
import Derived.KernelRfl
import Derived.Test.YtpkjokknpbclhaaGreatZAP
set_option linter.all false
namespace Go.Proofs.YtpkjokknpbclhaaGreat
open Go Go.Lg Go.Num
set_option maxRecDepth 100000
theorem pg_41 : chkPG 41 = true := by kernel_rfl
theorem pg_42 : chkPG 42 = true := by kernel_rfl
theorem pg_43 : chkPG 43 = true := by kernel_rfl
theorem pg_44 : chkPG 44 = true := by kernel_rfl
theorem pg_45 : chkPG 45 = true := by kernel_rfl
theorem pg_46 : chkPG 46 = true := by kernel_rfl
theorem pg_47 : chkPG 47 = true := by kernel_rfl
theorem pg_48 : chkPG 48 = true := by kernel_rfl
theorem pg_49 : chkPG 49 = true := by kernel_rfl
theorem pg_50 : chkPG 50 = true := by kernel_rfl
theorem pg_51 : chkPG 51 = true := by kernel_rfl
theorem pg_52 : chkPG 52 = true := by kernel_rfl
theorem pg_53 : chkPG 53 = true := by kernel_rfl
theorem pg_54 : chkPG 54 = true := by kernel_rfl
theorem pg_55 : chkPG 55 = true := by kernel_rfl
theorem pg_56 : chkPG 56 = true := by kernel_rfl
theorem pg_57 : chkPG 57 = true := by kernel_rfl
theorem pg_58 : chkPG 58 = true := by kernel_rfl
theorem pg_59 : chkPG 59 = true := by kernel_rfl
theorem pg_60 : chkPG 60 = true := by kernel_rfl
end Go.Proofs.YtpkjokknpbclhaaGreat