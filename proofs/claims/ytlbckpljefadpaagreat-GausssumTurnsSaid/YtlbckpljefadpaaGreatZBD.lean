/- Contracts of functions of the program, and what proves them (texts: GB3). -/
import Derived.KernelRfl
import Derived.Test.YtlbckpljefadpaaGreatZBA
set_option linter.all false
namespace Go.Proofs.YtlbckpljefadpaaGreat
open Go Go.Lg Go.Num
set_option maxRecDepth 100000
theorem gb_47_0 : (((prodN (od 47)).drop 0).take 30).all (chkB 47) = true := by kernel_rfl
theorem gb_47_1 : (((prodN (od 47)).drop 30).take 30).all (chkB 47) = true := by kernel_rfl
theorem gb_47 : (prodN (od 47)).all (chkB 47) = true := all_parts 30 2 (by decide +kernel) (by intro j hj;match j,hj with
 | 0,_ => exact gb_47_0
 | 1,_ => exact gb_47_1)
theorem gb_41_0 : (((prodN (od 41)).drop 0).take 30).all (chkB 41) = true := by kernel_rfl
theorem gb_41_1 : (((prodN (od 41)).drop 30).take 30).all (chkB 41) = true := by kernel_rfl
theorem gb_41 : (prodN (od 41)).all (chkB 41) = true := all_parts 30 2 (by decide +kernel) (by intro j hj;match j,hj with
 | 0,_ => exact gb_41_0
 | 1,_ => exact gb_41_1)
theorem gb_51_0 : (((prodN (od 51)).drop 0).take 30).all (chkB 51) = true := by kernel_rfl
theorem gb_51_1 : (((prodN (od 51)).drop 30).take 30).all (chkB 51) = true := by kernel_rfl
theorem gb_51 : (prodN (od 51)).all (chkB 51) = true := all_parts 30 2 (by decide +kernel) (by intro j hj;match j,hj with
 | 0,_ => exact gb_51_0
 | 1,_ => exact gb_51_1)
theorem gb_58_0 : (((prodN (od 58)).drop 0).take 30).all (chkB 58) = true := by kernel_rfl
theorem gb_58 : (prodN (od 58)).all (chkB 58) = true := all_parts 30 1 (by decide +kernel) (by intro j hj;match j,hj with
 | 0,_ => exact gb_58_0)
theorem gb_46_0 : (((prodN (od 46)).drop 0).take 30).all (chkB 46) = true := by kernel_rfl
theorem gb_46 : (prodN (od 46)).all (chkB 46) = true := all_parts 30 1 (by decide +kernel) (by intro j hj;match j,hj with
 | 0,_ => exact gb_46_0)
theorem gb_33_0 : (((prodN (od 33)).drop 0).take 30).all (chkB 33) = true := by kernel_rfl
theorem gb_33 : (prodN (od 33)).all (chkB 33) = true := all_parts 30 1 (by decide +kernel) (by intro j hj;match j,hj with
 | 0,_ => exact gb_33_0)
theorem gb_27_0 : (((prodN (od 27)).drop 0).take 30).all (chkB 27) = true := by kernel_rfl
theorem gb_27 : (prodN (od 27)).all (chkB 27) = true := all_parts 30 1 (by decide +kernel) (by intro j hj;match j,hj with
 | 0,_ => exact gb_27_0)
theorem gb_32_0 : (((prodN (od 32)).drop 0).take 30).all (chkB 32) = true := by kernel_rfl
theorem gb_32 : (prodN (od 32)).all (chkB 32) = true := all_parts 30 1 (by decide +kernel) (by intro j hj;match j,hj with
 | 0,_ => exact gb_32_0)
theorem gb_60_0 : (((prodN (od 60)).drop 0).take 30).all (chkB 60) = true := by kernel_rfl
theorem gb_60 : (prodN (od 60)).all (chkB 60) = true := all_parts 30 1 (by decide +kernel) (by intro j hj;match j,hj with
 | 0,_ => exact gb_60_0)
theorem gb_42_0 : (((prodN (od 42)).drop 0).take 30).all (chkB 42) = true := by kernel_rfl
theorem gb_42 : (prodN (od 42)).all (chkB 42) = true := all_parts 30 1 (by decide +kernel) (by intro j hj;match j,hj with
 | 0,_ => exact gb_42_0)
theorem gb_16_0 : (((prodN (od 16)).drop 0).take 30).all (chkB 16) = true := by kernel_rfl
theorem gb_16 : (prodN (od 16)).all (chkB 16) = true := all_parts 30 1 (by decide +kernel) (by intro j hj;match j,hj with
 | 0,_ => exact gb_16_0)
theorem gb_7_0 : (((prodN (od 7)).drop 0).take 30).all (chkB 7) = true := by kernel_rfl
theorem gb_7 : (prodN (od 7)).all (chkB 7) = true := all_parts 30 1 (by decide +kernel) (by intro j hj;match j,hj with
 | 0,_ => exact gb_7_0)
theorem gb_9_0 : (((prodN (od 9)).drop 0).take 30).all (chkB 9) = true := by kernel_rfl
theorem gb_9 : (prodN (od 9)).all (chkB 9) = true := all_parts 30 1 (by decide +kernel) (by intro j hj;match j,hj with
 | 0,_ => exact gb_9_0)
theorem gb_10_0 : (((prodN (od 10)).drop 0).take 30).all (chkB 10) = true := by kernel_rfl
theorem gb_10 : (prodN (od 10)).all (chkB 10) = true := all_parts 30 1 (by decide +kernel) (by intro j hj;match j,hj with
 | 0,_ => exact gb_10_0)
theorem gb_1_0 : (((prodN (od 1)).drop 0).take 30).all (chkB 1) = true := by kernel_rfl
theorem gb_1 : (prodN (od 1)).all (chkB 1) = true := all_parts 30 1 (by decide +kernel) (by intro j hj;match j,hj with
 | 0,_ => exact gb_1_0)
end Go.Proofs.YtlbckpljefadpaaGreat