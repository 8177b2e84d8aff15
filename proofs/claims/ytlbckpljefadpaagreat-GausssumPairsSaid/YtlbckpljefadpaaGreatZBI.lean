/- Contracts of functions of the program, and what proves them (texts: GC2). -/
import Derived.KernelRfl
import Derived.Test.YtlbckpljefadpaaGreatZBG
set_option linter.all false
namespace Go.Proofs.YtlbckpljefadpaaGreat
open Go Go.Lg Go.Num
set_option maxRecDepth 100000
theorem gc_60_0 : (((prodN (od 60)).drop 0).take 30).all (chkCd 60) = true := by kernel_rfl
theorem gc_60 : (prodN (od 60)).all (chkCd 60) = true := all_parts 30 1 (by decide +kernel) (by intro j hj;match j,hj with
 | 0,_ => exact gc_60_0)
theorem gc_45_0 : (((prodN (od 45)).drop 0).take 30).all (chkCd 45) = true := by kernel_rfl
theorem gc_45 : (prodN (od 45)).all (chkCd 45) = true := all_parts 30 1 (by decide +kernel) (by intro j hj;match j,hj with
 | 0,_ => exact gc_45_0)
theorem gc_51_0 : (((prodN (od 51)).drop 0).take 30).all (chkCd 51) = true := by kernel_rfl
theorem gc_51_1 : (((prodN (od 51)).drop 30).take 30).all (chkCd 51) = true := by kernel_rfl
theorem gc_51 : (prodN (od 51)).all (chkCd 51) = true := all_parts 30 2 (by decide +kernel) (by intro j hj;match j,hj with
 | 0,_ => exact gc_51_0
 | 1,_ => exact gc_51_1)
theorem gc_44_0 : (((prodN (od 44)).drop 0).take 30).all (chkCd 44) = true := by kernel_rfl
theorem gc_44 : (prodN (od 44)).all (chkCd 44) = true := all_parts 30 1 (by decide +kernel) (by intro j hj;match j,hj with
 | 0,_ => exact gc_44_0)
theorem gc_43_0 : (((prodN (od 43)).drop 0).take 30).all (chkCd 43) = true := by kernel_rfl
theorem gc_43_1 : (((prodN (od 43)).drop 30).take 30).all (chkCd 43) = true := by kernel_rfl
theorem gc_43 : (prodN (od 43)).all (chkCd 43) = true := all_parts 30 2 (by decide +kernel) (by intro j hj;match j,hj with
 | 0,_ => exact gc_43_0
 | 1,_ => exact gc_43_1)
theorem gc_32_0 : (((prodN (od 32)).drop 0).take 30).all (chkCd 32) = true := by kernel_rfl
theorem gc_32 : (prodN (od 32)).all (chkCd 32) = true := all_parts 30 1 (by decide +kernel) (by intro j hj;match j,hj with
 | 0,_ => exact gc_32_0)
theorem gc_37_0 : (((prodN (od 37)).drop 0).take 30).all (chkCd 37) = true := by kernel_rfl
theorem gc_37_1 : (((prodN (od 37)).drop 30).take 30).all (chkCd 37) = true := by kernel_rfl
theorem gc_37 : (prodN (od 37)).all (chkCd 37) = true := all_parts 30 2 (by decide +kernel) (by intro j hj;match j,hj with
 | 0,_ => exact gc_37_0
 | 1,_ => exact gc_37_1)
theorem gc_28_0 : (((prodN (od 28)).drop 0).take 30).all (chkCd 28) = true := by kernel_rfl
theorem gc_28 : (prodN (od 28)).all (chkCd 28) = true := all_parts 30 1 (by decide +kernel) (by intro j hj;match j,hj with
 | 0,_ => exact gc_28_0)
theorem gc_34_0 : (((prodN (od 34)).drop 0).take 30).all (chkCd 34) = true := by kernel_rfl
theorem gc_34 : (prodN (od 34)).all (chkCd 34) = true := all_parts 30 1 (by decide +kernel) (by intro j hj;match j,hj with
 | 0,_ => exact gc_34_0)
theorem gc_20_0 : (((prodN (od 20)).drop 0).take 30).all (chkCd 20) = true := by kernel_rfl
theorem gc_20 : (prodN (od 20)).all (chkCd 20) = true := all_parts 30 1 (by decide +kernel) (by intro j hj;match j,hj with
 | 0,_ => exact gc_20_0)
theorem gc_16_0 : (((prodN (od 16)).drop 0).take 30).all (chkCd 16) = true := by kernel_rfl
theorem gc_16 : (prodN (od 16)).all (chkCd 16) = true := all_parts 30 1 (by decide +kernel) (by intro j hj;match j,hj with
 | 0,_ => exact gc_16_0)
theorem gc_18_0 : (((prodN (od 18)).drop 0).take 30).all (chkCd 18) = true := by kernel_rfl
theorem gc_18 : (prodN (od 18)).all (chkCd 18) = true := all_parts 30 1 (by decide +kernel) (by intro j hj;match j,hj with
 | 0,_ => exact gc_18_0)
theorem gc_8_0 : (((prodN (od 8)).drop 0).take 30).all (chkCd 8) = true := by kernel_rfl
theorem gc_8 : (prodN (od 8)).all (chkCd 8) = true := all_parts 30 1 (by decide +kernel) (by intro j hj;match j,hj with
 | 0,_ => exact gc_8_0)
theorem gc_10_0 : (((prodN (od 10)).drop 0).take 30).all (chkCd 10) = true := by kernel_rfl
theorem gc_10 : (prodN (od 10)).all (chkCd 10) = true := all_parts 30 1 (by decide +kernel) (by intro j hj;match j,hj with
 | 0,_ => exact gc_10_0)
theorem gc_1_0 : (((prodN (od 1)).drop 0).take 30).all (chkCd 1) = true := by kernel_rfl
theorem gc_1 : (prodN (od 1)).all (chkCd 1) = true := all_parts 30 1 (by decide +kernel) (by intro j hj;match j,hj with
 | 0,_ => exact gc_1_0)
end Go.Proofs.YtlbckpljefadpaaGreat