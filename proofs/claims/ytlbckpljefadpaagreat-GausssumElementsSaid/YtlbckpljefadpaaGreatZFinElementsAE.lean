/- Contracts of functions of the program, and what proves them (texts: G7d). -/
import Derived.KernelRfl
import Derived.Test.YtlbckpljefadpaaGreatZFinElementsAA
set_option linter.all false
namespace Go.Proofs.YtlbckpljefadpaaGreat
open Go Go.Lg Go.Num
set_option maxRecDepth 100000
theorem ph_385 : (List.range 16).all (chkPhs 385) = true := by kernel_rfl
theorem ph_401 : (List.range 16).all (chkPhs 401) = true := by kernel_rfl
theorem ph_417 : (List.range 16).all (chkPhs 417) = true := by kernel_rfl
theorem ph_433 : (List.range 16).all (chkPhs 433) = true := by kernel_rfl
theorem ph_449 : (List.range 16).all (chkPhs 449) = true := by kernel_rfl
theorem ph_465 : (List.range 16).all (chkPhs 465) = true := by kernel_rfl
theorem ph_481 : (List.range 16).all (chkPhs 481) = true := by kernel_rfl
theorem ph_497 : (List.range 16).all (chkPhs 497) = true := by kernel_rfl
end Go.Proofs.YtlbckpljefadpaaGreat