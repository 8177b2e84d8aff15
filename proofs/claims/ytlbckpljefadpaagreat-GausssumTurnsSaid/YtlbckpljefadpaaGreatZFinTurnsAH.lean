/- Contracts of functions of the program, and what proves them (texts: TN7). -/
import Derived.KernelRfl
import Derived.Test.YtlbckpljefadpaaGreatZFinTurnsAA
set_option linter.all false
namespace Go.Proofs.YtlbckpljefadpaaGreat
open Go Go.Lg Go.Num
set_option maxRecDepth 100000
theorem tr_13_0_2 : ((tn_13_0.rows.drop 8).take 4).all (tnR tn_13_0) = true := by kernel_rfl
theorem tr_21_0_3_1 : ((tn_21_0_3.rows.drop 4).take 4).all (tnR tn_21_0_3) = true := by kernel_rfl
theorem tr_26_0_0 : ((tn_26_0.rows.drop 0).take 4).all (tnR tn_26_0) = true := by kernel_rfl
theorem tr_28_1_0_2 : ((tn_28_1_0.rows.drop 8).take 4).all (tnR tn_28_1_0) = true := by kernel_rfl
theorem tr_36_1_0_0 : ((tn_36_1_0.rows.drop 0).take 4).all (tnR tn_36_1_0) = true := by kernel_rfl
theorem tr_42_0_2_0 : ((tn_42_0_2.rows.drop 0).take 4).all (tnR tn_42_0_2) = true := by kernel_rfl
theorem tr_42_1_4_0 : ((tn_42_1_4.rows.drop 0).take 4).all (tnR tn_42_1_4) = true := by kernel_rfl
theorem tr_15_1_2_0 : ((tn_15_1_2.rows.drop 0).take 4).all (tnR tn_15_1_2) = true := by kernel_rfl
theorem tr_20_0_0_0 : ((tn_20_0_0.rows.drop 0).take 4).all (tnR tn_20_0_0) = true := by kernel_rfl
theorem tr_24_0_0_1_0 : ((tn_24_0_0_1.rows.drop 0).take 4).all (tnR tn_24_0_0_1) = true := by kernel_rfl
theorem tr_30_0_0_0 : ((tn_30_0_0.rows.drop 0).take 4).all (tnR tn_30_0_0) = true := by kernel_rfl
theorem tr_9_0_0 : ((tn_9_0.rows.drop 0).take 4).all (tnR tn_9_0) = true := by kernel_rfl
theorem tr_18_0_0 : ((tn_18_0.rows.drop 0).take 4).all (tnR tn_18_0) = true := by kernel_rfl
theorem tr_36_1_1_1 : ((tn_36_1_1.rows.drop 4).take 4).all (tnR tn_36_1_1) = true := by kernel_rfl
theorem tg_14_1 : tnG tn_14_1 = true := by kernel_rfl
theorem tg_21_1_3 : tnG tn_21_1_3 = true := by kernel_rfl
theorem tg_42_1_5 : tnG tn_42_1_5 = true := by kernel_rfl
theorem tg_30_1_2 : tnG tn_30_1_2 = true := by kernel_rfl
theorem tg_13_6 : tnG tn_13_6 = true := by kernel_rfl
theorem tr_5_2_0 : ((tn_5_2.rows.drop 0).take 4).all (tnR tn_5_2) = true := by kernel_rfl
theorem tg_11_5 : tnG tn_11_5 = true := by kernel_rfl
theorem tg_20_1_0 : tnG tn_20_1_0 = true := by kernel_rfl
theorem tg_16_0_2 : tnG tn_16_0_2 = true := by kernel_rfl
theorem tg_14_0 : tnG tn_14_0 = true := by kernel_rfl
theorem tg_9_4 : tnG tn_9_4 = true := by kernel_rfl
theorem tg_5_0 : tnG tn_5_0 = true := by kernel_rfl
end Go.Proofs.YtlbckpljefadpaaGreat