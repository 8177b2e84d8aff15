/- Contracts of functions of the program, and what proves them (texts: TN6). -/
import Derived.KernelRfl
import Derived.Test.YtlbckpljefadpaaGreatZFinTurnsAA
set_option linter.all false
namespace Go.Proofs.YtlbckpljefadpaaGreat
open Go Go.Lg Go.Num
set_option maxRecDepth 100000
theorem tr_13_0_1 : ((tn_13_0.rows.drop 4).take 4).all (tnR tn_13_0) = true := by kernel_rfl
theorem tr_21_0_3_0 : ((tn_21_0_3.rows.drop 0).take 4).all (tnR tn_21_0_3) = true := by kernel_rfl
theorem tr_21_1_5_0 : ((tn_21_1_5.rows.drop 0).take 4).all (tnR tn_21_1_5) = true := by kernel_rfl
theorem tr_28_1_0_1 : ((tn_28_1_0.rows.drop 4).take 4).all (tnR tn_28_1_0) = true := by kernel_rfl
theorem tr_36_0_5_0 : ((tn_36_0_5.rows.drop 0).take 4).all (tnR tn_36_0_5) = true := by kernel_rfl
theorem tr_42_0_1_0 : ((tn_42_0_1.rows.drop 0).take 4).all (tnR tn_42_0_1) = true := by kernel_rfl
theorem tr_42_1_3_2 : ((tn_42_1_3.rows.drop 8).take 4).all (tnR tn_42_1_3) = true := by kernel_rfl
theorem tr_15_1_0_1 : ((tn_15_1_0.rows.drop 4).take 4).all (tnR tn_15_1_0) = true := by kernel_rfl
theorem tr_16_1_3_0 : ((tn_16_1_3.rows.drop 0).take 4).all (tnR tn_16_1_3) = true := by kernel_rfl
theorem tr_24_0_0_0_1 : ((tn_24_0_0_0.rows.drop 4).take 4).all (tnR tn_24_0_0_0) = true := by kernel_rfl
theorem tr_24_1_1_1_1 : ((tn_24_1_1_1.rows.drop 4).take 4).all (tnR tn_24_1_1_1) = true := by kernel_rfl
theorem tr_7_5_1 : ((tn_7_5.rows.drop 4).take 4).all (tnR tn_7_5) = true := by kernel_rfl
theorem tr_14_5_1 : ((tn_14_5.rows.drop 4).take 4).all (tnR tn_14_5) = true := by kernel_rfl
theorem tr_36_0_5_1 : ((tn_36_0_5.rows.drop 4).take 4).all (tnR tn_36_0_5) = true := by kernel_rfl
theorem tg_7_5 : tnG tn_7_5 = true := by kernel_rfl
theorem tg_21_1_2 : tnG tn_21_1_2 = true := by kernel_rfl
theorem tg_42_1_4 : tnG tn_42_1_4 = true := by kernel_rfl
theorem tg_30_1_0 : tnG tn_30_1_0 = true := by kernel_rfl
theorem tg_28_1_3 : tnG tn_28_1_3 = true := by kernel_rfl
theorem tr_8_1_0_0 : ((tn_8_1_0.rows.drop 0).take 4).all (tnR tn_8_1_0) = true := by kernel_rfl
theorem tg_21_0_2 : tnG tn_21_0_2 = true := by kernel_rfl
theorem tg_9_1 : tnG tn_9_1 = true := by kernel_rfl
theorem tg_18_0 : tnG tn_18_0 = true := by kernel_rfl
theorem tr_7_3_1 : ((tn_7_3.rows.drop 4).take 4).all (tnR tn_7_3) = true := by kernel_rfl
theorem tg_12_1_0 : tnG tn_12_1_0 = true := by kernel_rfl
theorem tr_3_0_0 : ((tn_3_0.rows.drop 0).take 4).all (tnR tn_3_0) = true := by kernel_rfl
theorem tr_6_0_0 : ((tn_6_0.rows.drop 0).take 4).all (tnR tn_6_0) = true := by kernel_rfl
end Go.Proofs.YtlbckpljefadpaaGreat