/- Contracts of functions of the program, and what proves them (texts: GB4). -/
import Derived.KernelRfl
import Derived.Test.YtlbckpljefadpaaGreatZBA
set_option linter.all false
namespace Go.Proofs.YtlbckpljefadpaaGreat
open Go Go.Lg Go.Num
set_option maxRecDepth 100000
theorem gb_43_0 : (((prodN (od 43)).drop 0).take 30).all (chkB 43) = true := by kernel_rfl
theorem gb_43_1 : (((prodN (od 43)).drop 30).take 30).all (chkB 43) = true := by kernel_rfl
theorem gb_43 : (prodN (od 43)).all (chkB 43) = true := all_parts 30 2 (by decide +kernel) (by intro j hj;match j,hj with
 | 0,_ => exact gb_43_0
 | 1,_ => exact gb_43_1)
theorem gb_49_0 : (((prodN (od 49)).drop 0).take 30).all (chkB 49) = true := by kernel_rfl
theorem gb_49_1 : (((prodN (od 49)).drop 30).take 30).all (chkB 49) = true := by kernel_rfl
theorem gb_49 : (prodN (od 49)).all (chkB 49) = true := all_parts 30 2 (by decide +kernel) (by intro j hj;match j,hj with
 | 0,_ => exact gb_49_0
 | 1,_ => exact gb_49_1)
theorem gb_57_0 : (((prodN (od 57)).drop 0).take 30).all (chkB 57) = true := by kernel_rfl
theorem gb_57_1 : (((prodN (od 57)).drop 30).take 30).all (chkB 57) = true := by kernel_rfl
theorem gb_57 : (prodN (od 57)).all (chkB 57) = true := all_parts 30 2 (by decide +kernel) (by intro j hj;match j,hj with
 | 0,_ => exact gb_57_0
 | 1,_ => exact gb_57_1)
theorem gb_35_0 : (((prodN (od 35)).drop 0).take 30).all (chkB 35) = true := by kernel_rfl
theorem gb_35 : (prodN (od 35)).all (chkB 35) = true := all_parts 30 1 (by decide +kernel) (by intro j hj;match j,hj with
 | 0,_ => exact gb_35_0)
theorem gb_52_0 : (((prodN (od 52)).drop 0).take 30).all (chkB 52) = true := by kernel_rfl
theorem gb_52 : (prodN (od 52)).all (chkB 52) = true := all_parts 30 1 (by decide +kernel) (by intro j hj;match j,hj with
 | 0,_ => exact gb_52_0)
theorem gb_44_0 : (((prodN (od 44)).drop 0).take 30).all (chkB 44) = true := by kernel_rfl
theorem gb_44 : (prodN (od 44)).all (chkB 44) = true := all_parts 30 1 (by decide +kernel) (by intro j hj;match j,hj with
 | 0,_ => exact gb_44_0)
theorem gb_38_0 : (((prodN (od 38)).drop 0).take 30).all (chkB 38) = true := by kernel_rfl
theorem gb_38 : (prodN (od 38)).all (chkB 38) = true := all_parts 30 1 (by decide +kernel) (by intro j hj;match j,hj with
 | 0,_ => exact gb_38_0)
theorem gb_34_0 : (((prodN (od 34)).drop 0).take 30).all (chkB 34) = true := by kernel_rfl
theorem gb_34 : (prodN (od 34)).all (chkB 34) = true := all_parts 30 1 (by decide +kernel) (by intro j hj;match j,hj with
 | 0,_ => exact gb_34_0)
theorem gb_13_0 : (((prodN (od 13)).drop 0).take 30).all (chkB 13) = true := by kernel_rfl
theorem gb_13 : (prodN (od 13)).all (chkB 13) = true := all_parts 30 1 (by decide +kernel) (by intro j hj;match j,hj with
 | 0,_ => exact gb_13_0)
theorem gb_26_0 : (((prodN (od 26)).drop 0).take 30).all (chkB 26) = true := by kernel_rfl
theorem gb_26 : (prodN (od 26)).all (chkB 26) = true := all_parts 30 1 (by decide +kernel) (by intro j hj;match j,hj with
 | 0,_ => exact gb_26_0)
theorem gb_11_0 : (((prodN (od 11)).drop 0).take 30).all (chkB 11) = true := by kernel_rfl
theorem gb_11 : (prodN (od 11)).all (chkB 11) = true := all_parts 30 1 (by decide +kernel) (by intro j hj;match j,hj with
 | 0,_ => exact gb_11_0)
theorem gb_20_0 : (((prodN (od 20)).drop 0).take 30).all (chkB 20) = true := by kernel_rfl
theorem gb_20 : (prodN (od 20)).all (chkB 20) = true := all_parts 30 1 (by decide +kernel) (by intro j hj;match j,hj with
 | 0,_ => exact gb_20_0)
theorem gb_14_0 : (((prodN (od 14)).drop 0).take 30).all (chkB 14) = true := by kernel_rfl
theorem gb_14 : (prodN (od 14)).all (chkB 14) = true := all_parts 30 1 (by decide +kernel) (by intro j hj;match j,hj with
 | 0,_ => exact gb_14_0)
theorem gb_12_0 : (((prodN (od 12)).drop 0).take 30).all (chkB 12) = true := by kernel_rfl
theorem gb_12 : (prodN (od 12)).all (chkB 12) = true := all_parts 30 1 (by decide +kernel) (by intro j hj;match j,hj with
 | 0,_ => exact gb_12_0)
theorem gb_2_0 : (((prodN (od 2)).drop 0).take 30).all (chkB 2) = true := by kernel_rfl
theorem gb_2 : (prodN (od 2)).all (chkB 2) = true := all_parts 30 1 (by decide +kernel) (by intro j hj;match j,hj with
 | 0,_ => exact gb_2_0)
end Go.Proofs.YtlbckpljefadpaaGreat