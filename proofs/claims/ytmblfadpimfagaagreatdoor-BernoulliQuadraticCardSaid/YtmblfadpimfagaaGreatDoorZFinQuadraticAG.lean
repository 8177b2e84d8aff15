/- Contracts of functions of the program, and what proves them (texts: KQ5). -/
import Derived.KernelRfl
import Derived.Test.YtmblfadpimfagaaGreatDoorZFinQuadraticAB
set_option linter.all false
namespace Go.Proofs.YtmblfadpimfagaaGreatDoor
open Go Go.Lg Go.Num
set_option maxRecDepth 100000
theorem kkp56 : chkKs (56) = true := by kernel_rfl
theorem qqp56 : chkQ (56) = true := by kernel_rfl
theorem kkp53 : chkKs (53) = true := by kernel_rfl
theorem qqp53 : chkQ (53) = true := by kernel_rfl
theorem kkp41 : chkKs (41) = true := by kernel_rfl
theorem qqp41 : chkQ (41) = true := by kernel_rfl
theorem kkp37 : chkKs (37) = true := by kernel_rfl
theorem qqp37 : chkQ (37) = true := by kernel_rfl
theorem kkp24 : chkKs (24) = true := by kernel_rfl
theorem qqp24 : chkQ (24) = true := by kernel_rfl
theorem kkm20 : chkKs (-20) = true := by kernel_rfl
theorem qqm20 : chkQ (-20) = true := by kernel_rfl
theorem kkp8 : chkKs (8) = true := by kernel_rfl
theorem qqp8 : chkQ (8) = true := by kernel_rfl
theorem kkp5 : chkKs (5) = true := by kernel_rfl
theorem qqp5 : chkQ (5) = true := by kernel_rfl
end Go.Proofs.YtmblfadpimfagaaGreatDoor
