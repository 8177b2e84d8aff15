/- Contracts of functions of the program, and what proves them (texts: TN9). -/
import Derived.KernelRfl
import Derived.Test.YtlbckpljefadpaaGreatZFinTurnsAA
set_option linter.all false
namespace Go.Proofs.YtlbckpljefadpaaGreat
open Go Go.Lg Go.Num
set_option maxRecDepth 100000
theorem tr_13_6_1 : ((tn_13_6.rows.drop 4).take 4).all (tnR tn_13_6) = true := by kernel_rfl
theorem tr_21_0_4_0 : ((tn_21_0_4.rows.drop 0).take 4).all (tnR tn_21_0_4) = true := by kernel_rfl
theorem tr_26_0_2 : ((tn_26_0.rows.drop 8).take 4).all (tnR tn_26_0) = true := by kernel_rfl
theorem tr_28_1_3_1 : ((tn_28_1_3.rows.drop 4).take 4).all (tnR tn_28_1_3) = true := by kernel_rfl
theorem tr_36_1_0_2 : ((tn_36_1_0.rows.drop 8).take 4).all (tnR tn_36_1_0) = true := by kernel_rfl
theorem tr_42_0_3_1 : ((tn_42_0_3.rows.drop 4).take 4).all (tnR tn_42_0_3) = true := by kernel_rfl
theorem tr_11_0_0 : ((tn_11_0.rows.drop 0).take 4).all (tnR tn_11_0) = true := by kernel_rfl
theorem tr_22_5_0 : ((tn_22_5.rows.drop 0).take 4).all (tnR tn_22_5) = true := by kernel_rfl
theorem tr_16_0_2_1 : ((tn_16_0_2.rows.drop 4).take 4).all (tnR tn_16_0_2) = true := by kernel_rfl
theorem tr_20_1_0_0 : ((tn_20_1_0.rows.drop 0).take 4).all (tnR tn_20_1_0) = true := by kernel_rfl
theorem tr_24_1_0_0_0 : ((tn_24_1_0_0.rows.drop 0).take 4).all (tnR tn_24_1_0_0) = true := by kernel_rfl
theorem tr_30_1_2_0 : ((tn_30_1_2.rows.drop 0).take 4).all (tnR tn_30_1_2) = true := by kernel_rfl
theorem tr_21_1_1_1 : ((tn_21_1_1.rows.drop 4).take 4).all (tnR tn_21_1_1) = true := by kernel_rfl
theorem tr_42_0_4_1 : ((tn_42_0_4.rows.drop 4).take 4).all (tnR tn_42_0_4) = true := by kernel_rfl
theorem tg_21_0_5 : tnG tn_21_0_5 = true := by kernel_rfl
theorem tg_42_1_1 : tnG tn_42_1_1 = true := by kernel_rfl
theorem tg_36_1_3 : tnG tn_36_1_3 = true := by kernel_rfl
theorem tr_9_1_0 : ((tn_9_1.rows.drop 0).take 4).all (tnR tn_9_1) = true := by kernel_rfl
theorem tg_26_6 : tnG tn_26_6 = true := by kernel_rfl
theorem tr_10_0_0 : ((tn_10_0.rows.drop 0).take 4).all (tnR tn_10_0) = true := by kernel_rfl
theorem tg_5_1 : tnG tn_5_1 = true := by kernel_rfl
theorem tg_9_5 : tnG tn_9_5 = true := by kernel_rfl
theorem tg_16_1_3 : tnG tn_16_1_3 = true := by kernel_rfl
theorem tg_12_0_0 : tnG tn_12_0_0 = true := by kernel_rfl
theorem tg_8_1_1 : tnG tn_8_1_1 = true := by kernel_rfl
theorem tr_4_1_0 : ((tn_4_1.rows.drop 0).take 4).all (tnR tn_4_1) = true := by kernel_rfl
theorem tr_2_0 : ((tn_2.rows.drop 0).take 4).all (tnR tn_2) = true := by kernel_rfl
end Go.Proofs.YtlbckpljefadpaaGreat