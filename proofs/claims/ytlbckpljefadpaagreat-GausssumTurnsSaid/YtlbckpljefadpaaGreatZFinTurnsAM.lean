/- Contracts of functions of the program, and what proves them (texts: TN12). -/
import Derived.KernelRfl
import Derived.Test.YtlbckpljefadpaaGreatZFinTurnsAA
set_option linter.all false
namespace Go.Proofs.YtlbckpljefadpaaGreat
open Go Go.Lg Go.Num
set_option maxRecDepth 100000
theorem tr_14_2_0 : ((tn_14_2.rows.drop 0).take 4).all (tnR tn_14_2) = true := by kernel_rfl
theorem tr_21_1_0_1 : ((tn_21_1_0.rows.drop 4).take 4).all (tnR tn_21_1_0) = true := by kernel_rfl
theorem tr_26_6_2 : ((tn_26_6.rows.drop 8).take 4).all (tnR tn_26_6) = true := by kernel_rfl
theorem tr_36_0_0_1 : ((tn_36_0_0.rows.drop 4).take 4).all (tnR tn_36_0_0) = true := by kernel_rfl
theorem tr_36_1_3_0 : ((tn_36_1_3.rows.drop 0).take 4).all (tnR tn_36_1_3) = true := by kernel_rfl
theorem tr_42_0_5_0 : ((tn_42_0_5.rows.drop 0).take 4).all (tnR tn_42_0_5) = true := by kernel_rfl
theorem tr_11_5_1 : ((tn_11_5.rows.drop 4).take 4).all (tnR tn_11_5) = true := by kernel_rfl
theorem tr_5_3_0 : ((tn_5_3.rows.drop 0).take 4).all (tnR tn_5_3) = true := by kernel_rfl
theorem tr_16_0_0_1 : ((tn_16_0_0.rows.drop 4).take 4).all (tnR tn_16_0_0) = true := by kernel_rfl
theorem tr_20_0_2_0 : ((tn_20_0_2.rows.drop 0).take 4).all (tnR tn_20_0_2) = true := by kernel_rfl
theorem tr_24_0_1_0_1 : ((tn_24_0_1_0.rows.drop 4).take 4).all (tnR tn_24_0_1_0) = true := by kernel_rfl
theorem tr_30_0_2_1 : ((tn_30_0_2.rows.drop 4).take 4).all (tnR tn_30_0_2) = true := by kernel_rfl
theorem tr_21_0_2_1 : ((tn_21_0_2.rows.drop 4).take 4).all (tnR tn_21_0_2) = true := by kernel_rfl
theorem tr_36_1_5_1 : ((tn_36_1_5.rows.drop 4).take 4).all (tnR tn_36_1_5) = true := by kernel_rfl
theorem tg_14_5 : tnG tn_14_5 = true := by kernel_rfl
theorem tg_42_0_0 : tnG tn_42_0_0 = true := by kernel_rfl
theorem tg_36_0_2 : tnG tn_36_0_2 = true := by kernel_rfl
theorem tr_11_5_2 : ((tn_11_5.rows.drop 8).take 4).all (tnR tn_11_5) = true := by kernel_rfl
theorem tr_18_5_0 : ((tn_18_5.rows.drop 0).take 4).all (tnR tn_18_5) = true := by kernel_rfl
theorem tg_24_1_1_0 : tnG tn_24_1_1_0 = true := by kernel_rfl
theorem tg_7_2 : tnG tn_7_2 = true := by kernel_rfl
theorem tg_5_3 : tnG tn_5_3 = true := by kernel_rfl
theorem tg_18_1 : tnG tn_18_1 = true := by kernel_rfl
theorem tr_9_0_1 : ((tn_9_0.rows.drop 4).take 4).all (tnR tn_9_0) = true := by kernel_rfl
theorem tg_11_0 : tnG tn_11_0 = true := by kernel_rfl
theorem tg_2 : tnG tn_2 = true := by kernel_rfl
end Go.Proofs.YtlbckpljefadpaaGreat