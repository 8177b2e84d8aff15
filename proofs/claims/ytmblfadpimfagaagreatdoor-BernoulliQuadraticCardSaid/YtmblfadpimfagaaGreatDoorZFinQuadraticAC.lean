/- Contracts of functions of the program, and what proves them (texts: KQ1). -/
import Derived.KernelRfl
import Derived.Test.YtmblfadpimfagaaGreatDoorZFinQuadraticAB
set_option linter.all false
namespace Go.Proofs.YtmblfadpimfagaaGreatDoor
open Go Go.Lg Go.Num
set_option maxRecDepth 100000
theorem kkp60 : chkKs (60) = true := by kernel_rfl
theorem qqp60 : chkQ (60) = true := by kernel_rfl
theorem kkm47 : chkKs (-47) = true := by kernel_rfl
theorem qqm47 : chkQ (-47) = true := by kernel_rfl
theorem kkp44 : chkKs (44) = true := by kernel_rfl
theorem qqp44 : chkQ (44) = true := by kernel_rfl
theorem kkm35 : chkKs (-35) = true := by kernel_rfl
theorem qqm35 : chkQ (-35) = true := by kernel_rfl
theorem kkm24 : chkKs (-24) = true := by kernel_rfl
theorem qqm24 : chkQ (-24) = true := by kernel_rfl
theorem kkp21 : chkKs (21) = true := by kernel_rfl
theorem qqp21 : chkQ (21) = true := by kernel_rfl
theorem kkm11 : chkKs (-11) = true := by kernel_rfl
theorem qqm11 : chkQ (-11) = true := by kernel_rfl
theorem kkp1 : chkKs (1) = true := by kernel_rfl
theorem qqp1 : chkQ (1) = true := by kernel_rfl
end Go.Proofs.YtmblfadpimfagaaGreatDoor
