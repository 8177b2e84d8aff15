/- Contracts of functions of the program, and what proves them (texts: TN11). -/
import Derived.KernelRfl
import Derived.Test.YtlbckpljefadpaaGreatZFinTurnsAA
set_option linter.all false
namespace Go.Proofs.YtlbckpljefadpaaGreat
open Go Go.Lg Go.Num
set_option maxRecDepth 100000
theorem tr_14_1_0 : ((tn_14_1.rows.drop 0).take 4).all (tnR tn_14_1) = true := by kernel_rfl
theorem tr_21_1_0_0 : ((tn_21_1_0.rows.drop 0).take 4).all (tnR tn_21_1_0) = true := by kernel_rfl
theorem tr_26_6_1 : ((tn_26_6.rows.drop 4).take 4).all (tnR tn_26_6) = true := by kernel_rfl
theorem tr_36_0_0_0 : ((tn_36_0_0.rows.drop 0).take 4).all (tnR tn_36_0_0) = true := by kernel_rfl
theorem tr_36_1_2_0 : ((tn_36_1_2.rows.drop 0).take 4).all (tnR tn_36_1_2) = true := by kernel_rfl
theorem tr_42_0_4_0 : ((tn_42_0_4.rows.drop 0).take 4).all (tnR tn_42_0_4) = true := by kernel_rfl
theorem tr_11_5_0 : ((tn_11_5.rows.drop 0).take 4).all (tnR tn_11_5) = true := by kernel_rfl
theorem tr_5_1_0 : ((tn_5_1.rows.drop 0).take 4).all (tnR tn_5_1) = true := by kernel_rfl
theorem tr_16_0_0_0 : ((tn_16_0_0.rows.drop 0).take 4).all (tnR tn_16_0_0) = true := by kernel_rfl
theorem tr_20_0_1_0 : ((tn_20_0_1.rows.drop 0).take 4).all (tnR tn_20_0_1) = true := by kernel_rfl
theorem tr_24_0_1_0_0 : ((tn_24_0_1_0.rows.drop 0).take 4).all (tnR tn_24_0_1_0) = true := by kernel_rfl
theorem tr_30_0_2_0 : ((tn_30_0_2.rows.drop 0).take 4).all (tnR tn_30_0_2) = true := by kernel_rfl
theorem tr_21_0_1_1 : ((tn_21_0_1.rows.drop 4).take 4).all (tnR tn_21_0_1) = true := by kernel_rfl
theorem tr_36_1_4_1 : ((tn_36_1_4.rows.drop 4).take 4).all (tnR tn_36_1_4) = true := by kernel_rfl
theorem tg_14_4 : tnG tn_14_4 = true := by kernel_rfl
theorem tg_21_1_5 : tnG tn_21_1_5 = true := by kernel_rfl
theorem tg_36_0_1 : tnG tn_36_0_1 = true := by kernel_rfl
theorem tr_11_0_2 : ((tn_11_0.rows.drop 8).take 4).all (tnR tn_11_0) = true := by kernel_rfl
theorem tr_18_4_0 : ((tn_18_4.rows.drop 0).take 4).all (tnR tn_18_4) = true := by kernel_rfl
theorem tg_24_1_0_1 : tnG tn_24_1_0_1 = true := by kernel_rfl
theorem tg_22_5 : tnG tn_22_5 = true := by kernel_rfl
theorem tg_20_1_2 : tnG tn_20_1_2 = true := by kernel_rfl
theorem tg_16_1_0 : tnG tn_16_1_0 = true := by kernel_rfl
theorem tg_13_0 : tnG tn_13_0 = true := by kernel_rfl
theorem tg_12_1_1 : tnG tn_12_1_1 = true := by kernel_rfl
theorem tr_3_1_0 : ((tn_3_1.rows.drop 0).take 4).all (tnR tn_3_1) = true := by kernel_rfl
theorem tr_6_1_0 : ((tn_6_1.rows.drop 0).take 4).all (tnR tn_6_1) = true := by kernel_rfl
end Go.Proofs.YtlbckpljefadpaaGreat