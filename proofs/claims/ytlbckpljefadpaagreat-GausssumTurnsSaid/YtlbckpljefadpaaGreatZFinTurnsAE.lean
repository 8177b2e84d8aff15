/- Contracts of functions of the program, and what proves them (texts: TN4). -/
import Derived.KernelRfl
import Derived.Test.YtlbckpljefadpaaGreatZFinTurnsAA
set_option linter.all false
namespace Go.Proofs.YtlbckpljefadpaaGreat
open Go Go.Lg Go.Num
set_option maxRecDepth 100000
theorem tr_7_5_0 : ((tn_7_5.rows.drop 0).take 4).all (tnR tn_7_5) = true := by kernel_rfl
theorem tr_21_0_1_0 : ((tn_21_0_1.rows.drop 0).take 4).all (tnR tn_21_0_1) = true := by kernel_rfl
theorem tr_21_1_3_2 : ((tn_21_1_3.rows.drop 8).take 4).all (tnR tn_21_1_3) = true := by kernel_rfl
theorem tr_28_0_3_2 : ((tn_28_0_3.rows.drop 8).take 4).all (tnR tn_28_0_3) = true := by kernel_rfl
theorem tr_36_0_3_2 : ((tn_36_0_3.rows.drop 8).take 4).all (tnR tn_36_0_3) = true := by kernel_rfl
theorem tr_42_0_0_1 : ((tn_42_0_0.rows.drop 4).take 4).all (tnR tn_42_0_0) = true := by kernel_rfl
theorem tr_42_1_3_0 : ((tn_42_1_3.rows.drop 0).take 4).all (tnR tn_42_1_3) = true := by kernel_rfl
theorem tr_15_0_2_1 : ((tn_15_0_2.rows.drop 4).take 4).all (tnR tn_15_0_2) = true := by kernel_rfl
theorem tr_16_1_2_0 : ((tn_16_1_2.rows.drop 0).take 4).all (tnR tn_16_1_2) = true := by kernel_rfl
theorem tr_20_1_3_0 : ((tn_20_1_3.rows.drop 0).take 4).all (tnR tn_20_1_3) = true := by kernel_rfl
theorem tr_24_1_1_0_1 : ((tn_24_1_1_0.rows.drop 4).take 4).all (tnR tn_24_1_1_0) = true := by kernel_rfl
theorem tr_7_3_0 : ((tn_7_3.rows.drop 0).take 4).all (tnR tn_7_3) = true := by kernel_rfl
theorem tr_14_3_0 : ((tn_14_3.rows.drop 0).take 4).all (tnR tn_14_3) = true := by kernel_rfl
theorem tr_36_0_2_1 : ((tn_36_0_2.rows.drop 4).take 4).all (tnR tn_36_0_2) = true := by kernel_rfl
theorem tr_42_1_5_1 : ((tn_42_1_5.rows.drop 4).take 4).all (tnR tn_42_1_5) = true := by kernel_rfl
theorem tg_42_1_0 : tnG tn_42_1_0 = true := by kernel_rfl
theorem tg_36_1_2 : tnG tn_36_1_2 = true := by kernel_rfl
theorem tg_30_0_0 : tnG tn_30_0_0 = true := by kernel_rfl
theorem tr_18_2_0 : ((tn_18_2.rows.drop 0).take 4).all (tnR tn_18_2) = true := by kernel_rfl
theorem tg_24_1_0_0 : tnG tn_24_1_0_0 = true := by kernel_rfl
theorem tr_12_1_1_0 : ((tn_12_1_1.rows.drop 0).take 4).all (tnR tn_12_1_1) = true := by kernel_rfl
theorem tg_20_0_3 : tnG tn_20_0_3 = true := by kernel_rfl
theorem tg_16_0_1 : tnG tn_16_0_1 = true := by kernel_rfl
theorem tg_7_3 : tnG tn_7_3 = true := by kernel_rfl
theorem tg_9_2 : tnG tn_9_2 = true := by kernel_rfl
theorem tg_6_1 : tnG tn_6_1 = true := by kernel_rfl
end Go.Proofs.YtlbckpljefadpaaGreat