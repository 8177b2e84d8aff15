/- Contracts of functions of the program, and what proves them (texts: GB1). -/
import Derived.KernelRfl
import Derived.Test.YtlbckpljefadpaaGreatZBA
set_option linter.all false
namespace Go.Proofs.YtlbckpljefadpaaGreat
open Go Go.Lg Go.Num
set_option maxRecDepth 100000
theorem gb_59_0 : (((prodN (od 59)).drop 0).take 30).all (chkB 59) = true := by kernel_rfl
theorem gb_59_1 : (((prodN (od 59)).drop 30).take 30).all (chkB 59) = true := by kernel_rfl
theorem gb_59 : (prodN (od 59)).all (chkB 59) = true := all_parts 30 2 (by decide +kernel) (by intro j hj;match j,hj with
 | 0,_ => exact gb_59_0
 | 1,_ => exact gb_59_1)
theorem gb_37_0 : (((prodN (od 37)).drop 0).take 30).all (chkB 37) = true := by kernel_rfl
theorem gb_37_1 : (((prodN (od 37)).drop 30).take 30).all (chkB 37) = true := by kernel_rfl
theorem gb_37 : (prodN (od 37)).all (chkB 37) = true := all_parts 30 2 (by decide +kernel) (by intro j hj;match j,hj with
 | 0,_ => exact gb_37_0
 | 1,_ => exact gb_37_1)
theorem gb_29_0 : (((prodN (od 29)).drop 0).take 30).all (chkB 29) = true := by kernel_rfl
theorem gb_29 : (prodN (od 29)).all (chkB 29) = true := all_parts 30 1 (by decide +kernel) (by intro j hj;match j,hj with
 | 0,_ => exact gb_29_0)
theorem gb_39_0 : (((prodN (od 39)).drop 0).take 30).all (chkB 39) = true := by kernel_rfl
theorem gb_39 : (prodN (od 39)).all (chkB 39) = true := all_parts 30 1 (by decide +kernel) (by intro j hj;match j,hj with
 | 0,_ => exact gb_39_0)
theorem gb_56_0 : (((prodN (od 56)).drop 0).take 30).all (chkB 56) = true := by kernel_rfl
theorem gb_56 : (prodN (od 56)).all (chkB 56) = true := all_parts 30 1 (by decide +kernel) (by intro j hj;match j,hj with
 | 0,_ => exact gb_56_0)
theorem gb_50_0 : (((prodN (od 50)).drop 0).take 30).all (chkB 50) = true := by kernel_rfl
theorem gb_50 : (prodN (od 50)).all (chkB 50) = true := all_parts 30 1 (by decide +kernel) (by intro j hj;match j,hj with
 | 0,_ => exact gb_50_0)
theorem gb_54_0 : (((prodN (od 54)).drop 0).take 30).all (chkB 54) = true := by kernel_rfl
theorem gb_54 : (prodN (od 54)).all (chkB 54) = true := all_parts 30 1 (by decide +kernel) (by intro j hj;match j,hj with
 | 0,_ => exact gb_54_0)
theorem gb_40_0 : (((prodN (od 40)).drop 0).take 30).all (chkB 40) = true := by kernel_rfl
theorem gb_40 : (prodN (od 40)).all (chkB 40) = true := all_parts 30 1 (by decide +kernel) (by intro j hj;match j,hj with
 | 0,_ => exact gb_40_0)
theorem gb_21_0 : (((prodN (od 21)).drop 0).take 30).all (chkB 21) = true := by kernel_rfl
theorem gb_21 : (prodN (od 21)).all (chkB 21) = true := all_parts 30 1 (by decide +kernel) (by intro j hj;match j,hj with
 | 0,_ => exact gb_21_0)
theorem gb_28_0 : (((prodN (od 28)).drop 0).take 30).all (chkB 28) = true := by kernel_rfl
theorem gb_28 : (prodN (od 28)).all (chkB 28) = true := all_parts 30 1 (by decide +kernel) (by intro j hj;match j,hj with
 | 0,_ => exact gb_28_0)
theorem gb_22_0 : (((prodN (od 22)).drop 0).take 30).all (chkB 22) = true := by kernel_rfl
theorem gb_22 : (prodN (od 22)).all (chkB 22) = true := all_parts 30 1 (by decide +kernel) (by intro j hj;match j,hj with
 | 0,_ => exact gb_22_0)
theorem gb_24_0 : (((prodN (od 24)).drop 0).take 30).all (chkB 24) = true := by kernel_rfl
theorem gb_24 : (prodN (od 24)).all (chkB 24) = true := all_parts 30 1 (by decide +kernel) (by intro j hj;match j,hj with
 | 0,_ => exact gb_24_0)
theorem gb_18_0 : (((prodN (od 18)).drop 0).take 30).all (chkB 18) = true := by kernel_rfl
theorem gb_18 : (prodN (od 18)).all (chkB 18) = true := all_parts 30 1 (by decide +kernel) (by intro j hj;match j,hj with
 | 0,_ => exact gb_18_0)
theorem gb_3_0 : (((prodN (od 3)).drop 0).take 30).all (chkB 3) = true := by kernel_rfl
theorem gb_3 : (prodN (od 3)).all (chkB 3) = true := all_parts 30 1 (by decide +kernel) (by intro j hj;match j,hj with
 | 0,_ => exact gb_3_0)
theorem gb_4_0 : (((prodN (od 4)).drop 0).take 30).all (chkB 4) = true := by kernel_rfl
theorem gb_4 : (prodN (od 4)).all (chkB 4) = true := all_parts 30 1 (by decide +kernel) (by intro j hj;match j,hj with
 | 0,_ => exact gb_4_0)
end Go.Proofs.YtlbckpljefadpaaGreat