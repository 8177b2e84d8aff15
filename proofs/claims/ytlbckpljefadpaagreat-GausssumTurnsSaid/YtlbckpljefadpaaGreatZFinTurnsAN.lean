/- Contracts of functions of the program, and what proves them (texts: TN13). -/
import Derived.KernelRfl
import Derived.Test.YtlbckpljefadpaaGreatZFinTurnsAA
set_option linter.all false
namespace Go.Proofs.YtlbckpljefadpaaGreat
open Go Go.Lg Go.Num
set_option maxRecDepth 100000
theorem tr_14_4_0 : ((tn_14_4.rows.drop 0).take 4).all (tnR tn_14_4) = true := by kernel_rfl
theorem tr_21_1_0_2 : ((tn_21_1_0.rows.drop 8).take 4).all (tnR tn_21_1_0) = true := by kernel_rfl
theorem tr_28_0_0_0 : ((tn_28_0_0.rows.drop 0).take 4).all (tnR tn_28_0_0) = true := by kernel_rfl
theorem tr_36_0_0_2 : ((tn_36_0_0.rows.drop 8).take 4).all (tnR tn_36_0_0) = true := by kernel_rfl
theorem tr_36_1_3_1 : ((tn_36_1_3.rows.drop 4).take 4).all (tnR tn_36_1_3) = true := by kernel_rfl
theorem tr_42_1_0_0 : ((tn_42_1_0.rows.drop 0).take 4).all (tnR tn_42_1_0) = true := by kernel_rfl
theorem tr_22_0_0 : ((tn_22_0.rows.drop 0).take 4).all (tnR tn_22_0) = true := by kernel_rfl
theorem tr_10_1_0 : ((tn_10_1.rows.drop 0).take 4).all (tnR tn_10_1) = true := by kernel_rfl
theorem tr_16_0_1_0 : ((tn_16_0_1.rows.drop 0).take 4).all (tnR tn_16_0_1) = true := by kernel_rfl
theorem tr_20_0_2_1 : ((tn_20_0_2.rows.drop 4).take 4).all (tnR tn_20_0_2) = true := by kernel_rfl
theorem tr_24_0_1_1_0 : ((tn_24_0_1_1.rows.drop 0).take 4).all (tnR tn_24_0_1_1) = true := by kernel_rfl
theorem tr_30_1_0_0 : ((tn_30_1_0.rows.drop 0).take 4).all (tnR tn_30_1_0) = true := by kernel_rfl
theorem tr_21_0_4_1 : ((tn_21_0_4.rows.drop 4).take 4).all (tnR tn_21_0_4) = true := by kernel_rfl
theorem tr_42_0_1_1 : ((tn_42_0_1.rows.drop 4).take 4).all (tnR tn_42_0_1) = true := by kernel_rfl
theorem tg_21_0_1 : tnG tn_21_0_1 = true := by kernel_rfl
theorem tg_42_0_1 : tnG tn_42_0_1 = true := by kernel_rfl
theorem tg_36_0_3 : tnG tn_36_0_3 = true := by kernel_rfl
theorem tr_22_0_2 : ((tn_22_0.rows.drop 8).take 4).all (tnR tn_22_0) = true := by kernel_rfl
theorem tg_28_0_0 : tnG tn_28_0_0 = true := by kernel_rfl
theorem tg_24_1_1_1 : tnG tn_24_1_1_1 = true := by kernel_rfl
theorem tg_7_4 : tnG tn_7_4 = true := by kernel_rfl
theorem tg_10_1 : tnG tn_10_1 = true := by kernel_rfl
theorem tg_18_2 : tnG tn_18_2 = true := by kernel_rfl
theorem tr_9_3_1 : ((tn_9_3.rows.drop 4).take 4).all (tnR tn_9_3) = true := by kernel_rfl
theorem tg_5_2 : tnG tn_5_2 = true := by kernel_rfl
theorem tg_4_0 : tnG tn_4_0 = true := by kernel_rfl
end Go.Proofs.YtlbckpljefadpaaGreat