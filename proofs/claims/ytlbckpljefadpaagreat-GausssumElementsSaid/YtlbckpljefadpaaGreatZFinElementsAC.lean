/- Contracts of functions of the program, and what proves them (texts: G7b). -/
import Derived.KernelRfl
import Derived.Test.YtlbckpljefadpaaGreatZFinElementsAA
set_option linter.all false
namespace Go.Proofs.YtlbckpljefadpaaGreat
open Go Go.Lg Go.Num
set_option maxRecDepth 100000
theorem ph_129 : (List.range 16).all (chkPhs 129) = true := by kernel_rfl
theorem ph_145 : (List.range 16).all (chkPhs 145) = true := by kernel_rfl
theorem ph_161 : (List.range 16).all (chkPhs 161) = true := by kernel_rfl
theorem ph_177 : (List.range 16).all (chkPhs 177) = true := by kernel_rfl
theorem ph_193 : (List.range 16).all (chkPhs 193) = true := by kernel_rfl
theorem ph_209 : (List.range 16).all (chkPhs 209) = true := by kernel_rfl
theorem ph_225 : (List.range 16).all (chkPhs 225) = true := by kernel_rfl
theorem ph_241 : (List.range 16).all (chkPhs 241) = true := by kernel_rfl
end Go.Proofs.YtlbckpljefadpaaGreat