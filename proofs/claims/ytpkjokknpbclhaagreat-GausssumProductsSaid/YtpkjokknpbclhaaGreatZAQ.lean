/- Contracts of functions of the program, and what proves them (texts: G1xa). -/
import Derived.KernelRfl
import Derived.Test.YtpkjokknpbclhaaGreatZAP
set_option linter.all false
namespace Go.Proofs.YtpkjokknpbclhaaGreat
open Go Go.Lg Go.Num
set_option maxRecDepth 100000
theorem pg_1 : chkPG 1 = true := by kernel_rfl
theorem pg_2 : chkPG 2 = true := by kernel_rfl
theorem pg_3 : chkPG 3 = true := by kernel_rfl
theorem pg_4 : chkPG 4 = true := by kernel_rfl
theorem pg_5 : chkPG 5 = true := by kernel_rfl
theorem pg_6 : chkPG 6 = true := by kernel_rfl
theorem pg_7 : chkPG 7 = true := by kernel_rfl
theorem pg_8 : chkPG 8 = true := by kernel_rfl
theorem pg_9 : chkPG 9 = true := by kernel_rfl
theorem pg_10 : chkPG 10 = true := by kernel_rfl
theorem pg_11 : chkPG 11 = true := by kernel_rfl
theorem pg_12 : chkPG 12 = true := by kernel_rfl
theorem pg_13 : chkPG 13 = true := by kernel_rfl
theorem pg_14 : chkPG 14 = true := by kernel_rfl
theorem pg_15 : chkPG 15 = true := by kernel_rfl
theorem pg_16 : chkPG 16 = true := by kernel_rfl
theorem pg_17 : chkPG 17 = true := by kernel_rfl
theorem pg_18 : chkPG 18 = true := by kernel_rfl
theorem pg_19 : chkPG 19 = true := by kernel_rfl
theorem pg_20 : chkPG 20 = true := by kernel_rfl
end Go.Proofs.YtpkjokknpbclhaaGreat