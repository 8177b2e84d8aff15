/- Contracts of functions of the program, and what proves them (texts: G7a). -/
import Derived.KernelRfl
import Derived.Test.YtlbckpljefadpaaGreatZFinElementsAA
set_option linter.all false
namespace Go.Proofs.YtlbckpljefadpaaGreat
open Go Go.Lg Go.Num
set_option maxRecDepth 100000
theorem ph_1 : (List.range 16).all (chkPhs 1) = true := by kernel_rfl
theorem ph_17 : (List.range 16).all (chkPhs 17) = true := by kernel_rfl
theorem ph_33 : (List.range 16).all (chkPhs 33) = true := by kernel_rfl
theorem ph_49 : (List.range 16).all (chkPhs 49) = true := by kernel_rfl
theorem ph_65 : (List.range 16).all (chkPhs 65) = true := by kernel_rfl
theorem ph_81 : (List.range 16).all (chkPhs 81) = true := by kernel_rfl
theorem ph_97 : (List.range 16).all (chkPhs 97) = true := by kernel_rfl
theorem ph_113 : (List.range 16).all (chkPhs 113) = true := by kernel_rfl
end Go.Proofs.YtlbckpljefadpaaGreat