/- Contracts of functions of the program, and what proves them (texts: G7c). -/
import Derived.KernelRfl
import Derived.Test.YtlbckpljefadpaaGreatZFinElementsAA
set_option linter.all false
namespace Go.Proofs.YtlbckpljefadpaaGreat
open Go Go.Lg Go.Num
set_option maxRecDepth 100000
theorem ph_257 : (List.range 16).all (chkPhs 257) = true := by kernel_rfl
theorem ph_273 : (List.range 16).all (chkPhs 273) = true := by kernel_rfl
theorem ph_289 : (List.range 16).all (chkPhs 289) = true := by kernel_rfl
theorem ph_305 : (List.range 16).all (chkPhs 305) = true := by kernel_rfl
theorem ph_321 : (List.range 16).all (chkPhs 321) = true := by kernel_rfl
theorem ph_337 : (List.range 16).all (chkPhs 337) = true := by kernel_rfl
theorem ph_353 : (List.range 16).all (chkPhs 353) = true := by kernel_rfl
theorem ph_369 : (List.range 16).all (chkPhs 369) = true := by kernel_rfl
end Go.Proofs.YtlbckpljefadpaaGreat