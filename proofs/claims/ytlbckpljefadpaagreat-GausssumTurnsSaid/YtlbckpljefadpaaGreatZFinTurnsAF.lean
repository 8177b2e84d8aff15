/- Contracts of functions of the program, and what proves them (texts: TN5). -/
import Derived.KernelRfl
import Derived.Test.YtlbckpljefadpaaGreatZFinTurnsAA
set_option linter.all false
namespace Go.Proofs.YtlbckpljefadpaaGreat
open Go Go.Lg Go.Num
set_option maxRecDepth 100000
theorem tr_13_0_0 : ((tn_13_0.rows.drop 0).take 4).all (tnR tn_13_0) = true := by kernel_rfl
theorem tr_21_0_2_0 : ((tn_21_0_2.rows.drop 0).take 4).all (tnR tn_21_0_2) = true := by kernel_rfl
theorem tr_21_1_4_0 : ((tn_21_1_4.rows.drop 0).take 4).all (tnR tn_21_1_4) = true := by kernel_rfl
theorem tr_28_1_0_0 : ((tn_28_1_0.rows.drop 0).take 4).all (tnR tn_28_1_0) = true := by kernel_rfl
theorem tr_36_0_4_0 : ((tn_36_0_4.rows.drop 0).take 4).all (tnR tn_36_0_4) = true := by kernel_rfl
theorem tr_42_0_0_2 : ((tn_42_0_0.rows.drop 8).take 4).all (tnR tn_42_0_0) = true := by kernel_rfl
theorem tr_42_1_3_1 : ((tn_42_1_3.rows.drop 4).take 4).all (tnR tn_42_1_3) = true := by kernel_rfl
theorem tr_15_1_0_0 : ((tn_15_1_0.rows.drop 0).take 4).all (tnR tn_15_1_0) = true := by kernel_rfl
theorem tr_16_1_2_1 : ((tn_16_1_2.rows.drop 4).take 4).all (tnR tn_16_1_2) = true := by kernel_rfl
theorem tr_24_0_0_0_0 : ((tn_24_0_0_0.rows.drop 0).take 4).all (tnR tn_24_0_0_0) = true := by kernel_rfl
theorem tr_24_1_1_1_0 : ((tn_24_1_1_1.rows.drop 0).take 4).all (tnR tn_24_1_1_1) = true := by kernel_rfl
theorem tr_7_4_1 : ((tn_7_4.rows.drop 4).take 4).all (tnR tn_7_4) = true := by kernel_rfl
theorem tr_14_4_1 : ((tn_14_4.rows.drop 4).take 4).all (tnR tn_14_4) = true := by kernel_rfl
theorem tr_36_0_4_1 : ((tn_36_0_4.rows.drop 4).take 4).all (tnR tn_36_0_4) = true := by kernel_rfl
theorem tg_7_1 : tnG tn_7_1 = true := by kernel_rfl
theorem tg_21_1_1 : tnG tn_21_1_1 = true := by kernel_rfl
theorem tg_42_1_3 : tnG tn_42_1_3 = true := by kernel_rfl
theorem tg_30_0_2 : tnG tn_30_0_2 = true := by kernel_rfl
theorem tg_28_1_0 : tnG tn_28_1_0 = true := by kernel_rfl
theorem tr_8_0_1_0 : ((tn_8_0_1.rows.drop 0).take 4).all (tnR tn_8_0_1) = true := by kernel_rfl
theorem tg_21_0_0 : tnG tn_21_0_0 = true := by kernel_rfl
theorem tg_20_1_3 : tnG tn_20_1_3 = true := by kernel_rfl
theorem tg_16_1_1 : tnG tn_16_1_1 = true := by kernel_rfl
theorem tr_7_0_1 : ((tn_7_0.rows.drop 4).take 4).all (tnR tn_7_0) = true := by kernel_rfl
theorem tg_12_0_1 : tnG tn_12_0_1 = true := by kernel_rfl
theorem tg_1 : tnG tn_1 = true := by kernel_rfl
end Go.Proofs.YtlbckpljefadpaaGreat