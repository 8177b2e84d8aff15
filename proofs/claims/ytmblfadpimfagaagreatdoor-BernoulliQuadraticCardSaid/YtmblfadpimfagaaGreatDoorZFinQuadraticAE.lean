/- Contracts of functions of the program, and what proves them (texts: KQ3). -/
import Derived.KernelRfl
import Derived.Test.YtmblfadpimfagaaGreatDoorZFinQuadraticAB
set_option linter.all false
namespace Go.Proofs.YtmblfadpimfagaaGreatDoor
open Go Go.Lg Go.Num
set_option maxRecDepth 100000
theorem kkp57 : chkKs (57) = true := by kernel_rfl
theorem qqp57 : chkQ (57) = true := by kernel_rfl
theorem kkm52 : chkKs (-52) = true := by kernel_rfl
theorem qqm52 : chkQ (-52) = true := by kernel_rfl
theorem kkm43 : chkKs (-43) = true := by kernel_rfl
theorem qqm43 : chkQ (-43) = true := by kernel_rfl
theorem kkm31 : chkKs (-31) = true := by kernel_rfl
theorem qqm31 : chkQ (-31) = true := by kernel_rfl
theorem kkp29 : chkKs (29) = true := by kernel_rfl
theorem qqp29 : chkQ (29) = true := by kernel_rfl
theorem kkp17 : chkKs (17) = true := by kernel_rfl
theorem qqp17 : chkQ (17) = true := by kernel_rfl
theorem kkp12 : chkKs (12) = true := by kernel_rfl
theorem qqp12 : chkQ (12) = true := by kernel_rfl
theorem kkm3 : chkKs (-3) = true := by kernel_rfl
theorem qqm3 : chkQ (-3) = true := by kernel_rfl
end Go.Proofs.YtmblfadpimfagaaGreatDoor
