/- Contracts of functions of the program, and what proves them (texts: TN14). -/
import Derived.KernelRfl
import Derived.Test.YtlbckpljefadpaaGreatZFinTurnsAA
set_option linter.all false
namespace Go.Proofs.YtlbckpljefadpaaGreat
open Go Go.Lg Go.Num
set_option maxRecDepth 100000
theorem tr_14_5_0 : ((tn_14_5.rows.drop 0).take 4).all (tnR tn_14_5) = true := by kernel_rfl
theorem tr_21_1_1_0 : ((tn_21_1_1.rows.drop 0).take 4).all (tnR tn_21_1_1) = true := by kernel_rfl
theorem tr_28_0_0_1 : ((tn_28_0_0.rows.drop 4).take 4).all (tnR tn_28_0_0) = true := by kernel_rfl
theorem tr_36_0_1_0 : ((tn_36_0_1.rows.drop 0).take 4).all (tnR tn_36_0_1) = true := by kernel_rfl
theorem tr_36_1_3_2 : ((tn_36_1_3.rows.drop 8).take 4).all (tnR tn_36_1_3) = true := by kernel_rfl
theorem tr_42_1_0_1 : ((tn_42_1_0.rows.drop 4).take 4).all (tnR tn_42_1_0) = true := by kernel_rfl
theorem tr_22_0_1 : ((tn_22_0.rows.drop 4).take 4).all (tnR tn_22_0) = true := by kernel_rfl
theorem tr_10_3_0 : ((tn_10_3.rows.drop 0).take 4).all (tnR tn_10_3) = true := by kernel_rfl
theorem tr_16_0_2_0 : ((tn_16_0_2.rows.drop 0).take 4).all (tnR tn_16_0_2) = true := by kernel_rfl
theorem tr_20_0_3_0 : ((tn_20_0_3.rows.drop 0).take 4).all (tnR tn_20_0_3) = true := by kernel_rfl
theorem tr_24_0_1_1_1 : ((tn_24_0_1_1.rows.drop 4).take 4).all (tnR tn_24_0_1_1) = true := by kernel_rfl
theorem tr_30_1_0_1 : ((tn_30_1_0.rows.drop 4).take 4).all (tnR tn_30_1_0) = true := by kernel_rfl
theorem tr_21_0_5_1 : ((tn_21_0_5.rows.drop 4).take 4).all (tnR tn_21_0_5) = true := by kernel_rfl
theorem tr_42_0_2_1 : ((tn_42_0_2.rows.drop 4).take 4).all (tnR tn_42_0_2) = true := by kernel_rfl
theorem tg_21_0_3 : tnG tn_21_0_3 = true := by kernel_rfl
theorem tg_42_0_2 : tnG tn_42_0_2 = true := by kernel_rfl
theorem tg_36_0_4 : tnG tn_36_0_4 = true := by kernel_rfl
theorem tr_22_5_2 : ((tn_22_5.rows.drop 8).take 4).all (tnR tn_22_5) = true := by kernel_rfl
theorem tg_28_0_3 : tnG tn_28_0_3 = true := by kernel_rfl
theorem tr_5_0_0 : ((tn_5_0.rows.drop 0).take 4).all (tnR tn_5_0) = true := by kernel_rfl
theorem tr_10_2_0 : ((tn_10_2.rows.drop 0).take 4).all (tnR tn_10_2) = true := by kernel_rfl
theorem tg_10_3 : tnG tn_10_3 = true := by kernel_rfl
theorem tg_18_3 : tnG tn_18_3 = true := by kernel_rfl
theorem tr_14_0_1 : ((tn_14_0.rows.drop 4).take 4).all (tnR tn_14_0) = true := by kernel_rfl
theorem tg_10_0 : tnG tn_10_0 = true := by kernel_rfl
theorem tg_4_1 : tnG tn_4_1 = true := by kernel_rfl
end Go.Proofs.YtlbckpljefadpaaGreat