/- Contracts of functions of the program, and what proves them (texts: JO1). -/
import Derived.KernelRfl
import Derived.Test.YtpkjokknpbclhaaGreatZBN
set_option linter.all false
namespace Go.Proofs.YtpkjokknpbclhaaGreat
open Go Go.Lg Go.Num
set_option maxRecDepth 100000
theorem jo_59_0 : (((prodN (od 59)).drop 0).take 30).all (chkOr 59) = true := by kernel_rfl
theorem jo_59_1 : (((prodN (od 59)).drop 30).take 30).all (chkOr 59) = true := by kernel_rfl
theorem jo_59 : (prodN (od 59)).all (chkOr 59) = true := all_parts 30 2 (by decide +kernel) (by intro j hj;match j,hj with
 | 0,_ => exact jo_59_0
 | 1,_ => exact jo_59_1)
theorem jo_43_0 : (((prodN (od 43)).drop 0).take 30).all (chkOr 43) = true := by kernel_rfl
theorem jo_43_1 : (((prodN (od 43)).drop 30).take 30).all (chkOr 43) = true := by kernel_rfl
theorem jo_43 : (prodN (od 43)).all (chkOr 43) = true := all_parts 30 2 (by decide +kernel) (by intro j hj;match j,hj with
 | 0,_ => exact jo_43_0
 | 1,_ => exact jo_43_1)
theorem jo_41_0 : (((prodN (od 41)).drop 0).take 30).all (chkOr 41) = true := by kernel_rfl
theorem jo_41_1 : (((prodN (od 41)).drop 30).take 30).all (chkOr 41) = true := by kernel_rfl
theorem jo_41 : (prodN (od 41)).all (chkOr 41) = true := all_parts 30 2 (by decide +kernel) (by intro j hj;match j,hj with
 | 0,_ => exact jo_41_0
 | 1,_ => exact jo_41_1)
theorem jo_55_0 : (((prodN (od 55)).drop 0).take 30).all (chkOr 55) = true := by kernel_rfl
theorem jo_55_1 : (((prodN (od 55)).drop 30).take 30).all (chkOr 55) = true := by kernel_rfl
theorem jo_55 : (prodN (od 55)).all (chkOr 55) = true := all_parts 30 2 (by decide +kernel) (by intro j hj;match j,hj with
 | 0,_ => exact jo_55_0
 | 1,_ => exact jo_55_1)
theorem jo_51_0 : (((prodN (od 51)).drop 0).take 30).all (chkOr 51) = true := by kernel_rfl
theorem jo_51_1 : (((prodN (od 51)).drop 30).take 30).all (chkOr 51) = true := by kernel_rfl
theorem jo_51 : (prodN (od 51)).all (chkOr 51) = true := all_parts 30 2 (by decide +kernel) (by intro j hj;match j,hj with
 | 0,_ => exact jo_51_0
 | 1,_ => exact jo_51_1)
theorem jo_31_0 : (((prodN (od 31)).drop 0).take 30).all (chkOr 31) = true := by kernel_rfl
theorem jo_31 : (prodN (od 31)).all (chkOr 31) = true := all_parts 30 1 (by decide +kernel) (by intro j hj;match j,hj with
 | 0,_ => exact jo_31_0)
theorem jo_35_0 : (((prodN (od 35)).drop 0).take 30).all (chkOr 35) = true := by kernel_rfl
theorem jo_35 : (prodN (od 35)).all (chkOr 35) = true := all_parts 30 1 (by decide +kernel) (by intro j hj;match j,hj with
 | 0,_ => exact jo_35_0)
theorem jo_39_0 : (((prodN (od 39)).drop 0).take 30).all (chkOr 39) = true := by kernel_rfl
theorem jo_39 : (prodN (od 39)).all (chkOr 39) = true := all_parts 30 1 (by decide +kernel) (by intro j hj;match j,hj with
 | 0,_ => exact jo_39_0)
theorem jo_52_0 : (((prodN (od 52)).drop 0).take 30).all (chkOr 52) = true := by kernel_rfl
theorem jo_52 : (prodN (od 52)).all (chkOr 52) = true := all_parts 30 1 (by decide +kernel) (by intro j hj;match j,hj with
 | 0,_ => exact jo_52_0)
theorem jo_23_0 : (((prodN (od 23)).drop 0).take 30).all (chkOr 23) = true := by kernel_rfl
theorem jo_23 : (prodN (od 23)).all (chkOr 23) = true := all_parts 30 1 (by decide +kernel) (by intro j hj;match j,hj with
 | 0,_ => exact jo_23_0)
theorem jo_25_0 : (((prodN (od 25)).drop 0).take 30).all (chkOr 25) = true := by kernel_rfl
theorem jo_25 : (prodN (od 25)).all (chkOr 25) = true := all_parts 30 1 (by decide +kernel) (by intro j hj;match j,hj with
 | 0,_ => exact jo_25_0)
theorem jo_44_0 : (((prodN (od 44)).drop 0).take 30).all (chkOr 44) = true := by kernel_rfl
theorem jo_44 : (prodN (od 44)).all (chkOr 44) = true := all_parts 30 1 (by decide +kernel) (by intro j hj;match j,hj with
 | 0,_ => exact jo_44_0)
theorem jo_19_0 : (((prodN (od 19)).drop 0).take 30).all (chkOr 19) = true := by kernel_rfl
theorem jo_19 : (prodN (od 19)).all (chkOr 19) = true := all_parts 30 1 (by decide +kernel) (by intro j hj;match j,hj with
 | 0,_ => exact jo_19_0)
theorem jo_38_0 : (((prodN (od 38)).drop 0).take 30).all (chkOr 38) = true := by kernel_rfl
theorem jo_38 : (prodN (od 38)).all (chkOr 38) = true := all_parts 30 1 (by decide +kernel) (by intro j hj;match j,hj with
 | 0,_ => exact jo_38_0)
theorem jo_17_0 : (((prodN (od 17)).drop 0).take 30).all (chkOr 17) = true := by kernel_rfl
theorem jo_17 : (prodN (od 17)).all (chkOr 17) = true := all_parts 30 1 (by decide +kernel) (by intro j hj;match j,hj with
 | 0,_ => exact jo_17_0)
theorem jo_34_0 : (((prodN (od 34)).drop 0).take 30).all (chkOr 34) = true := by kernel_rfl
theorem jo_34 : (prodN (od 34)).all (chkOr 34) = true := all_parts 30 1 (by decide +kernel) (by intro j hj;match j,hj with
 | 0,_ => exact jo_34_0)
theorem jo_48_0 : (((prodN (od 48)).drop 0).take 30).all (chkOr 48) = true := by kernel_rfl
theorem jo_48 : (prodN (od 48)).all (chkOr 48) = true := all_parts 30 1 (by decide +kernel) (by intro j hj;match j,hj with
 | 0,_ => exact jo_48_0)
theorem jo_13_0 : (((prodN (od 13)).drop 0).take 30).all (chkOr 13) = true := by kernel_rfl
theorem jo_13 : (prodN (od 13)).all (chkOr 13) = true := all_parts 30 1 (by decide +kernel) (by intro j hj;match j,hj with
 | 0,_ => exact jo_13_0)
theorem jo_26_0 : (((prodN (od 26)).drop 0).take 30).all (chkOr 26) = true := by kernel_rfl
theorem jo_26 : (prodN (od 26)).all (chkOr 26) = true := all_parts 30 1 (by decide +kernel) (by intro j hj;match j,hj with
 | 0,_ => exact jo_26_0)
theorem jo_36_0 : (((prodN (od 36)).drop 0).take 30).all (chkOr 36) = true := by kernel_rfl
theorem jo_36 : (prodN (od 36)).all (chkOr 36) = true := all_parts 30 1 (by decide +kernel) (by intro j hj;match j,hj with
 | 0,_ => exact jo_36_0)
theorem jo_11_0 : (((prodN (od 11)).drop 0).take 30).all (chkOr 11) = true := by kernel_rfl
theorem jo_11 : (prodN (od 11)).all (chkOr 11) = true := all_parts 30 1 (by decide +kernel) (by intro j hj;match j,hj with
 | 0,_ => exact jo_11_0)
theorem jo_15_0 : (((prodN (od 15)).drop 0).take 30).all (chkOr 15) = true := by kernel_rfl
theorem jo_15 : (prodN (od 15)).all (chkOr 15) = true := all_parts 30 1 (by decide +kernel) (by intro j hj;match j,hj with
 | 0,_ => exact jo_15_0)
theorem jo_20_0 : (((prodN (od 20)).drop 0).take 30).all (chkOr 20) = true := by kernel_rfl
theorem jo_20 : (prodN (od 20)).all (chkOr 20) = true := all_parts 30 1 (by decide +kernel) (by intro j hj;match j,hj with
 | 0,_ => exact jo_20_0)
theorem jo_30_0 : (((prodN (od 30)).drop 0).take 30).all (chkOr 30) = true := by kernel_rfl
theorem jo_30 : (prodN (od 30)).all (chkOr 30) = true := all_parts 30 1 (by decide +kernel) (by intro j hj;match j,hj with
 | 0,_ => exact jo_30_0)
theorem jo_9_0 : (((prodN (od 9)).drop 0).take 30).all (chkOr 9) = true := by kernel_rfl
theorem jo_9 : (prodN (od 9)).all (chkOr 9) = true := all_parts 30 1 (by decide +kernel) (by intro j hj;match j,hj with
 | 0,_ => exact jo_9_0)
theorem jo_18_0 : (((prodN (od 18)).drop 0).take 30).all (chkOr 18) = true := by kernel_rfl
theorem jo_18 : (prodN (od 18)).all (chkOr 18) = true := all_parts 30 1 (by decide +kernel) (by intro j hj;match j,hj with
 | 0,_ => exact jo_18_0)
theorem jo_10_0 : (((prodN (od 10)).drop 0).take 30).all (chkOr 10) = true := by kernel_rfl
theorem jo_10 : (prodN (od 10)).all (chkOr 10) = true := all_parts 30 1 (by decide +kernel) (by intro j hj;match j,hj with
 | 0,_ => exact jo_10_0)
theorem jo_3_0 : (((prodN (od 3)).drop 0).take 30).all (chkOr 3) = true := by kernel_rfl
theorem jo_3 : (prodN (od 3)).all (chkOr 3) = true := all_parts 30 1 (by decide +kernel) (by intro j hj;match j,hj with
 | 0,_ => exact jo_3_0)
theorem jo_4_0 : (((prodN (od 4)).drop 0).take 30).all (chkOr 4) = true := by kernel_rfl
theorem jo_4 : (prodN (od 4)).all (chkOr 4) = true := all_parts 30 1 (by decide +kernel) (by intro j hj;match j,hj with
 | 0,_ => exact jo_4_0)
theorem jo_1_0 : (((prodN (od 1)).drop 0).take 30).all (chkOr 1) = true := by kernel_rfl
theorem jo_1 : (prodN (od 1)).all (chkOr 1) = true := all_parts 30 1 (by decide +kernel) (by intro j hj;match j,hj with
 | 0,_ => exact jo_1_0)
end Go.Proofs.YtpkjokknpbclhaaGreat