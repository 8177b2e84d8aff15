/- Contracts of functions of the program, and what proves them (texts: KQ2). -/
import Derived.KernelRfl
import Derived.Test.YtmblfadpimfagaaGreatDoorZFinQuadraticAB
set_option linter.all false
namespace Go.Proofs.YtmblfadpimfagaaGreatDoor
open Go Go.Lg Go.Num
set_option maxRecDepth 100000
theorem kkm59 : chkKs (-59) = true := by kernel_rfl
theorem qqm59 : chkQ (-59) = true := by kernel_rfl
theorem kkm51 : chkKs (-51) = true := by kernel_rfl
theorem qqm51 : chkQ (-51) = true := by kernel_rfl
theorem kkm40 : chkKs (-40) = true := by kernel_rfl
theorem qqm40 : chkQ (-40) = true := by kernel_rfl
theorem kkm39 : chkKs (-39) = true := by kernel_rfl
theorem qqm39 : chkQ (-39) = true := by kernel_rfl
theorem kkm23 : chkKs (-23) = true := by kernel_rfl
theorem qqm23 : chkQ (-23) = true := by kernel_rfl
theorem kkm19 : chkKs (-19) = true := by kernel_rfl
theorem qqm19 : chkQ (-19) = true := by kernel_rfl
theorem kkm8 : chkKs (-8) = true := by kernel_rfl
theorem qqm8 : chkQ (-8) = true := by kernel_rfl
theorem kkm7 : chkKs (-7) = true := by kernel_rfl
theorem qqm7 : chkQ (-7) = true := by kernel_rfl
end Go.Proofs.YtmblfadpimfagaaGreatDoor
