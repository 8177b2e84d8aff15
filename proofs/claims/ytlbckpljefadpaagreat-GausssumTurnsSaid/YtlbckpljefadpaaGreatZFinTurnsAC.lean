/- Contracts of functions of the program, and what proves them (texts: TN2). -/
import Derived.KernelRfl
import Derived.Test.YtlbckpljefadpaaGreatZFinTurnsAA
set_option linter.all false
namespace Go.Proofs.YtlbckpljefadpaaGreat
open Go Go.Lg Go.Num
set_option maxRecDepth 100000
theorem tr_7_2_0 : ((tn_7_2.rows.drop 0).take 4).all (tnR tn_7_2) = true := by kernel_rfl
theorem tr_21_0_0_1 : ((tn_21_0_0.rows.drop 4).take 4).all (tnR tn_21_0_0) = true := by kernel_rfl
theorem tr_21_1_3_0 : ((tn_21_1_3.rows.drop 0).take 4).all (tnR tn_21_1_3) = true := by kernel_rfl
theorem tr_28_0_3_0 : ((tn_28_0_3.rows.drop 0).take 4).all (tnR tn_28_0_3) = true := by kernel_rfl
theorem tr_36_0_3_0 : ((tn_36_0_3.rows.drop 0).take 4).all (tnR tn_36_0_3) = true := by kernel_rfl
theorem tr_36_1_5_0 : ((tn_36_1_5.rows.drop 0).take 4).all (tnR tn_36_1_5) = true := by kernel_rfl
theorem tr_42_1_1_0 : ((tn_42_1_1.rows.drop 0).take 4).all (tnR tn_42_1_1) = true := by kernel_rfl
theorem tr_15_0_0_1 : ((tn_15_0_0.rows.drop 4).take 4).all (tnR tn_15_0_0) = true := by kernel_rfl
theorem tr_16_1_0_1 : ((tn_16_1_0.rows.drop 4).take 4).all (tnR tn_16_1_0) = true := by kernel_rfl
theorem tr_20_1_2_0 : ((tn_20_1_2.rows.drop 0).take 4).all (tnR tn_20_1_2) = true := by kernel_rfl
theorem tr_24_1_0_1_1 : ((tn_24_1_0_1.rows.drop 4).take 4).all (tnR tn_24_1_0_1) = true := by kernel_rfl
theorem tr_7_1_1 : ((tn_7_1.rows.drop 4).take 4).all (tnR tn_7_1) = true := by kernel_rfl
theorem tr_14_1_1 : ((tn_14_1.rows.drop 4).take 4).all (tnR tn_14_1) = true := by kernel_rfl
theorem tr_21_1_5_1 : ((tn_21_1_5.rows.drop 4).take 4).all (tnR tn_21_1_5) = true := by kernel_rfl
theorem tr_42_1_2_1 : ((tn_42_1_2.rows.drop 4).take 4).all (tnR tn_42_1_2) = true := by kernel_rfl
theorem tg_42_0_4 : tnG tn_42_0_4 = true := by kernel_rfl
theorem tg_36_1_0 : tnG tn_36_1_0 = true := by kernel_rfl
theorem tg_15_1_0 : tnG tn_15_1_0 = true := by kernel_rfl
theorem tr_9_5_0 : ((tn_9_5.rows.drop 0).take 4).all (tnR tn_9_5) = true := by kernel_rfl
theorem tg_24_0_1_0 : tnG tn_24_0_1_0 = true := by kernel_rfl
theorem tr_12_0_1_0 : ((tn_12_0_1.rows.drop 0).take 4).all (tnR tn_12_0_1) = true := by kernel_rfl
theorem tg_20_0_1 : tnG tn_20_0_1 = true := by kernel_rfl
theorem tg_18_5 : tnG tn_18_5 = true := by kernel_rfl
theorem tr_18_0_1 : ((tn_18_0.rows.drop 4).take 4).all (tnR tn_18_0) = true := by kernel_rfl
theorem tg_9_0 : tnG tn_9_0 = true := by kernel_rfl
theorem tg_6_0 : tnG tn_6_0 = true := by kernel_rfl
end Go.Proofs.YtlbckpljefadpaaGreat