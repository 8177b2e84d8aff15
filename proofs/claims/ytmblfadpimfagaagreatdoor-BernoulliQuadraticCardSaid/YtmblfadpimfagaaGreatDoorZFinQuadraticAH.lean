/- Contracts of functions of the program, and what proves them (texts: KQn). -/
import Derived.KernelRfl
import Derived.Test.YtmblfadpimfagaaGreatDoorZFinQuadraticAB
set_option linter.all false
namespace Go.Proofs.YtmblfadpimfagaaGreatDoor
open Go Go.Lg Go.Num
set_option maxRecDepth 100000
theorem qn0 : ([-60, -58, -57, -54, -53, -50, -49, -48, -46, -45, -44, -42, -41, -38, -37, -36, -34, -33, -32, -30] : List Int).all chkN = true := by kernel_rfl
theorem qn1 : ([-29, -28, -27, -26, -25, -22, -21, -18, -17, -16, -14, -13, -12, -10, -9, -6, -5, -2, -1, 2] : List Int).all chkN = true := by kernel_rfl
theorem qn2 : ([3, 4, 6, 7, 9, 10, 11, 14, 15, 16, 18, 19, 20, 22, 23, 25, 26, 27, 30, 31] : List Int).all chkN = true := by kernel_rfl
theorem qn3 : ([32, 34, 35, 36, 38, 39, 42, 43, 45, 46, 47, 48, 49, 50, 51, 52, 54, 55, 58, 59] : List Int).all chkN = true := by kernel_rfl
end Go.Proofs.YtmblfadpimfagaaGreatDoor
