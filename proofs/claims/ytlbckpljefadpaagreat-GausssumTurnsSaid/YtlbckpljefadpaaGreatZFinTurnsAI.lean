/- Contracts of functions of the program, and what proves them (texts: TN8). -/
import Derived.KernelRfl
import Derived.Test.YtlbckpljefadpaaGreatZFinTurnsAA
set_option linter.all false
namespace Go.Proofs.YtlbckpljefadpaaGreat
open Go Go.Lg Go.Num
set_option maxRecDepth 100000
theorem tr_13_6_0 : ((tn_13_6.rows.drop 0).take 4).all (tnR tn_13_6) = true := by kernel_rfl
theorem tr_21_0_3_2 : ((tn_21_0_3.rows.drop 8).take 4).all (tnR tn_21_0_3) = true := by kernel_rfl
theorem tr_26_0_1 : ((tn_26_0.rows.drop 4).take 4).all (tnR tn_26_0) = true := by kernel_rfl
theorem tr_28_1_3_0 : ((tn_28_1_3.rows.drop 0).take 4).all (tnR tn_28_1_3) = true := by kernel_rfl
theorem tr_36_1_0_1 : ((tn_36_1_0.rows.drop 4).take 4).all (tnR tn_36_1_0) = true := by kernel_rfl
theorem tr_42_0_3_0 : ((tn_42_0_3.rows.drop 0).take 4).all (tnR tn_42_0_3) = true := by kernel_rfl
theorem tr_42_1_5_0 : ((tn_42_1_5.rows.drop 0).take 4).all (tnR tn_42_1_5) = true := by kernel_rfl
theorem tr_15_1_2_1 : ((tn_15_1_2.rows.drop 4).take 4).all (tnR tn_15_1_2) = true := by kernel_rfl
theorem tr_20_0_0_1 : ((tn_20_0_0.rows.drop 4).take 4).all (tnR tn_20_0_0) = true := by kernel_rfl
theorem tr_24_0_0_1_1 : ((tn_24_0_0_1.rows.drop 4).take 4).all (tnR tn_24_0_0_1) = true := by kernel_rfl
theorem tr_30_0_0_1 : ((tn_30_0_0.rows.drop 4).take 4).all (tnR tn_30_0_0) = true := by kernel_rfl
theorem tr_9_3_0 : ((tn_9_3.rows.drop 0).take 4).all (tnR tn_9_3) = true := by kernel_rfl
theorem tr_18_3_0 : ((tn_18_3.rows.drop 0).take 4).all (tnR tn_18_3) = true := by kernel_rfl
theorem tr_36_1_2_1 : ((tn_36_1_2.rows.drop 4).take 4).all (tnR tn_36_1_2) = true := by kernel_rfl
theorem tg_14_2 : tnG tn_14_2 = true := by kernel_rfl
theorem tg_21_1_4 : tnG tn_21_1_4 = true := by kernel_rfl
theorem tg_36_0_0 : tnG tn_36_0_0 = true := by kernel_rfl
theorem tg_36_1_5 : tnG tn_36_1_5 = true := by kernel_rfl
theorem tg_26_0 : tnG tn_26_0 = true := by kernel_rfl
theorem tr_8_0_0_0 : ((tn_8_0_0.rows.drop 0).take 4).all (tnR tn_8_0_0) = true := by kernel_rfl
theorem tg_22_0 : tnG tn_22_0 = true := by kernel_rfl
theorem tg_20_1_1 : tnG tn_20_1_1 = true := by kernel_rfl
theorem tg_16_0_3 : tnG tn_16_0_3 = true := by kernel_rfl
theorem tg_14_3 : tnG tn_14_3 = true := by kernel_rfl
theorem tg_8_0_0 : tnG tn_8_0_0 = true := by kernel_rfl
theorem tg_7_0 : tnG tn_7_0 = true := by kernel_rfl
end Go.Proofs.YtlbckpljefadpaaGreat