/- Contracts of functions of the program, and what proves them (texts: KQ4). -/
import Derived.KernelRfl
import Derived.Test.YtmblfadpimfagaaGreatDoorZFinQuadraticAB
set_option linter.all false
namespace Go.Proofs.YtmblfadpimfagaaGreatDoor
open Go Go.Lg Go.Num
set_option maxRecDepth 100000
theorem kkm56 : chkKs (-56) = true := by kernel_rfl
theorem qqm56 : chkQ (-56) = true := by kernel_rfl
theorem kkm55 : chkKs (-55) = true := by kernel_rfl
theorem qqm55 : chkQ (-55) = true := by kernel_rfl
theorem kkp40 : chkKs (40) = true := by kernel_rfl
theorem qqp40 : chkQ (40) = true := by kernel_rfl
theorem kkp33 : chkKs (33) = true := by kernel_rfl
theorem qqp33 : chkQ (33) = true := by kernel_rfl
theorem kkp28 : chkKs (28) = true := by kernel_rfl
theorem qqp28 : chkQ (28) = true := by kernel_rfl
theorem kkm15 : chkKs (-15) = true := by kernel_rfl
theorem qqm15 : chkQ (-15) = true := by kernel_rfl
theorem kkp13 : chkKs (13) = true := by kernel_rfl
theorem qqp13 : chkQ (13) = true := by kernel_rfl
theorem kkm4 : chkKs (-4) = true := by kernel_rfl
theorem qqm4 : chkQ (-4) = true := by kernel_rfl
end Go.Proofs.YtmblfadpimfagaaGreatDoor
