/- Contracts of functions of the program, and what proves them (texts: TN ClsG). -/
import Derived.Test.YtlbckpljefadpaaGreatRows
import Derived.WalkKit
import Derived.ProofKit
import Derived.OpenShut
import Derived.Stop.Joined
import Derived.Test.YtlbckpljefadpaaGreatZAD
import Derived.Test.YtlbckpljefadpaaGreatZAP
import Derived.Test.YtlbckpljefadpaaGreatZFinTurnsAA
import Derived.Test.YtlbckpljefadpaaGreatZFinTurnsAB
import Derived.Test.YtlbckpljefadpaaGreatZFinTurnsAC
import Derived.Test.YtlbckpljefadpaaGreatZFinTurnsAD
import Derived.Test.YtlbckpljefadpaaGreatZFinTurnsAE
import Derived.Test.YtlbckpljefadpaaGreatZFinTurnsAF
import Derived.Test.YtlbckpljefadpaaGreatZFinTurnsAG
import Derived.Test.YtlbckpljefadpaaGreatZFinTurnsAH
import Derived.Test.YtlbckpljefadpaaGreatZFinTurnsAI
import Derived.Test.YtlbckpljefadpaaGreatZFinTurnsAJ
import Derived.Test.YtlbckpljefadpaaGreatZFinTurnsAK
import Derived.Test.YtlbckpljefadpaaGreatZFinTurnsAL
import Derived.Test.YtlbckpljefadpaaGreatZFinTurnsAM
import Derived.Test.YtlbckpljefadpaaGreatZFinTurnsAN
import Derived.Test.YtlbckpljefadpaaGreatZFinTurnsAO
set_option linter.all false
namespace Go.Proofs.YtlbckpljefadpaaGreat
open Go Go.Lg Go.Num
set_option maxRecDepth 100000
set_option maxHeartbeats 4000000
theorem ta_1 : tnOk tn_1 := ⟨tg_1,all_parts (l := tn_1.rows) 4 1 (by decide +kernel) (by intro j hj;match j,hj with
 | 0,_ => exact tr_1_0)⟩
theorem ta_2 : tnOk tn_2 := ⟨tg_2,all_parts (l := tn_2.rows) 4 1 (by decide +kernel) (by intro j hj;match j,hj with
 | 0,_ => exact tr_2_0)⟩
theorem ta_3_0 : tnOk tn_3_0 := ⟨tg_3_0,all_parts (l := tn_3_0.rows) 4 1 (by decide +kernel) (by intro j hj;match j,hj with
 | 0,_ => exact tr_3_0_0)⟩
theorem ta_3_1 : tnOk tn_3_1 := ⟨tg_3_1,all_parts (l := tn_3_1.rows) 4 1 (by decide +kernel) (by intro j hj;match j,hj with
 | 0,_ => exact tr_3_1_0)⟩
theorem ta_4_0 : tnOk tn_4_0 := ⟨tg_4_0,all_parts (l := tn_4_0.rows) 4 1 (by decide +kernel) (by intro j hj;match j,hj with
 | 0,_ => exact tr_4_0_0)⟩
theorem ta_4_1 : tnOk tn_4_1 := ⟨tg_4_1,all_parts (l := tn_4_1.rows) 4 1 (by decide +kernel) (by intro j hj;match j,hj with
 | 0,_ => exact tr_4_1_0)⟩
theorem ta_5_0 : tnOk tn_5_0 := ⟨tg_5_0,all_parts (l := tn_5_0.rows) 4 1 (by decide +kernel) (by intro j hj;match j,hj with
 | 0,_ => exact tr_5_0_0)⟩
theorem ta_5_1 : tnOk tn_5_1 := ⟨tg_5_1,all_parts (l := tn_5_1.rows) 4 1 (by decide +kernel) (by intro j hj;match j,hj with
 | 0,_ => exact tr_5_1_0)⟩
theorem ta_5_2 : tnOk tn_5_2 := ⟨tg_5_2,all_parts (l := tn_5_2.rows) 4 1 (by decide +kernel) (by intro j hj;match j,hj with
 | 0,_ => exact tr_5_2_0)⟩
theorem ta_5_3 : tnOk tn_5_3 := ⟨tg_5_3,all_parts (l := tn_5_3.rows) 4 1 (by decide +kernel) (by intro j hj;match j,hj with
 | 0,_ => exact tr_5_3_0)⟩
theorem ta_6_0 : tnOk tn_6_0 := ⟨tg_6_0,all_parts (l := tn_6_0.rows) 4 1 (by decide +kernel) (by intro j hj;match j,hj with
 | 0,_ => exact tr_6_0_0)⟩
theorem ta_6_1 : tnOk tn_6_1 := ⟨tg_6_1,all_parts (l := tn_6_1.rows) 4 1 (by decide +kernel) (by intro j hj;match j,hj with
 | 0,_ => exact tr_6_1_0)⟩
theorem ta_7_0 : tnOk tn_7_0 := ⟨tg_7_0,all_parts (l := tn_7_0.rows) 4 2 (by decide +kernel) (by intro j hj;match j,hj with
 | 0,_ => exact tr_7_0_0
 | 1,_ => exact tr_7_0_1)⟩
theorem ta_7_1 : tnOk tn_7_1 := ⟨tg_7_1,all_parts (l := tn_7_1.rows) 4 2 (by decide +kernel) (by intro j hj;match j,hj with
 | 0,_ => exact tr_7_1_0
 | 1,_ => exact tr_7_1_1)⟩
theorem ta_7_2 : tnOk tn_7_2 := ⟨tg_7_2,all_parts (l := tn_7_2.rows) 4 2 (by decide +kernel) (by intro j hj;match j,hj with
 | 0,_ => exact tr_7_2_0
 | 1,_ => exact tr_7_2_1)⟩
theorem ta_7_3 : tnOk tn_7_3 := ⟨tg_7_3,all_parts (l := tn_7_3.rows) 4 2 (by decide +kernel) (by intro j hj;match j,hj with
 | 0,_ => exact tr_7_3_0
 | 1,_ => exact tr_7_3_1)⟩
theorem ta_7_4 : tnOk tn_7_4 := ⟨tg_7_4,all_parts (l := tn_7_4.rows) 4 2 (by decide +kernel) (by intro j hj;match j,hj with
 | 0,_ => exact tr_7_4_0
 | 1,_ => exact tr_7_4_1)⟩
theorem ta_7_5 : tnOk tn_7_5 := ⟨tg_7_5,all_parts (l := tn_7_5.rows) 4 2 (by decide +kernel) (by intro j hj;match j,hj with
 | 0,_ => exact tr_7_5_0
 | 1,_ => exact tr_7_5_1)⟩
theorem ta_8_0_0 : tnOk tn_8_0_0 := ⟨tg_8_0_0,all_parts (l := tn_8_0_0.rows) 4 1 (by decide +kernel) (by intro j hj;match j,hj with
 | 0,_ => exact tr_8_0_0_0)⟩
theorem ta_8_0_1 : tnOk tn_8_0_1 := ⟨tg_8_0_1,all_parts (l := tn_8_0_1.rows) 4 1 (by decide +kernel) (by intro j hj;match j,hj with
 | 0,_ => exact tr_8_0_1_0)⟩
theorem ta_8_1_0 : tnOk tn_8_1_0 := ⟨tg_8_1_0,all_parts (l := tn_8_1_0.rows) 4 1 (by decide +kernel) (by intro j hj;match j,hj with
 | 0,_ => exact tr_8_1_0_0)⟩
theorem ta_8_1_1 : tnOk tn_8_1_1 := ⟨tg_8_1_1,all_parts (l := tn_8_1_1.rows) 4 1 (by decide +kernel) (by intro j hj;match j,hj with
 | 0,_ => exact tr_8_1_1_0)⟩
theorem ta_9_0 : tnOk tn_9_0 := ⟨tg_9_0,all_parts (l := tn_9_0.rows) 4 2 (by decide +kernel) (by intro j hj;match j,hj with
 | 0,_ => exact tr_9_0_0
 | 1,_ => exact tr_9_0_1)⟩
theorem ta_9_1 : tnOk tn_9_1 := ⟨tg_9_1,all_parts (l := tn_9_1.rows) 4 1 (by decide +kernel) (by intro j hj;match j,hj with
 | 0,_ => exact tr_9_1_0)⟩
theorem ta_9_2 : tnOk tn_9_2 := ⟨tg_9_2,all_parts (l := tn_9_2.rows) 4 1 (by decide +kernel) (by intro j hj;match j,hj with
 | 0,_ => exact tr_9_2_0)⟩
theorem ta_9_3 : tnOk tn_9_3 := ⟨tg_9_3,all_parts (l := tn_9_3.rows) 4 2 (by decide +kernel) (by intro j hj;match j,hj with
 | 0,_ => exact tr_9_3_0
 | 1,_ => exact tr_9_3_1)⟩
theorem ta_9_4 : tnOk tn_9_4 := ⟨tg_9_4,all_parts (l := tn_9_4.rows) 4 1 (by decide +kernel) (by intro j hj;match j,hj with
 | 0,_ => exact tr_9_4_0)⟩
theorem ta_9_5 : tnOk tn_9_5 := ⟨tg_9_5,all_parts (l := tn_9_5.rows) 4 1 (by decide +kernel) (by intro j hj;match j,hj with
 | 0,_ => exact tr_9_5_0)⟩
theorem ta_10_0 : tnOk tn_10_0 := ⟨tg_10_0,all_parts (l := tn_10_0.rows) 4 1 (by decide +kernel) (by intro j hj;match j,hj with
 | 0,_ => exact tr_10_0_0)⟩
theorem ta_10_1 : tnOk tn_10_1 := ⟨tg_10_1,all_parts (l := tn_10_1.rows) 4 1 (by decide +kernel) (by intro j hj;match j,hj with
 | 0,_ => exact tr_10_1_0)⟩
theorem ta_10_2 : tnOk tn_10_2 := ⟨tg_10_2,all_parts (l := tn_10_2.rows) 4 1 (by decide +kernel) (by intro j hj;match j,hj with
 | 0,_ => exact tr_10_2_0)⟩
theorem ta_10_3 : tnOk tn_10_3 := ⟨tg_10_3,all_parts (l := tn_10_3.rows) 4 1 (by decide +kernel) (by intro j hj;match j,hj with
 | 0,_ => exact tr_10_3_0)⟩
theorem ta_11_0 : tnOk tn_11_0 := ⟨tg_11_0,all_parts (l := tn_11_0.rows) 4 3 (by decide +kernel) (by intro j hj;match j,hj with
 | 0,_ => exact tr_11_0_0
 | 1,_ => exact tr_11_0_1
 | 2,_ => exact tr_11_0_2)⟩
theorem ta_11_5 : tnOk tn_11_5 := ⟨tg_11_5,all_parts (l := tn_11_5.rows) 4 3 (by decide +kernel) (by intro j hj;match j,hj with
 | 0,_ => exact tr_11_5_0
 | 1,_ => exact tr_11_5_1
 | 2,_ => exact tr_11_5_2)⟩
theorem ta_12_0_0 : tnOk tn_12_0_0 := ⟨tg_12_0_0,all_parts (l := tn_12_0_0.rows) 4 1 (by decide +kernel) (by intro j hj;match j,hj with
 | 0,_ => exact tr_12_0_0_0)⟩
theorem ta_12_0_1 : tnOk tn_12_0_1 := ⟨tg_12_0_1,all_parts (l := tn_12_0_1.rows) 4 1 (by decide +kernel) (by intro j hj;match j,hj with
 | 0,_ => exact tr_12_0_1_0)⟩
theorem ta_12_1_0 : tnOk tn_12_1_0 := ⟨tg_12_1_0,all_parts (l := tn_12_1_0.rows) 4 1 (by decide +kernel) (by intro j hj;match j,hj with
 | 0,_ => exact tr_12_1_0_0)⟩
theorem ta_12_1_1 : tnOk tn_12_1_1 := ⟨tg_12_1_1,all_parts (l := tn_12_1_1.rows) 4 1 (by decide +kernel) (by intro j hj;match j,hj with
 | 0,_ => exact tr_12_1_1_0)⟩
theorem ta_13_0 : tnOk tn_13_0 := ⟨tg_13_0,all_parts (l := tn_13_0.rows) 4 3 (by decide +kernel) (by intro j hj;match j,hj with
 | 0,_ => exact tr_13_0_0
 | 1,_ => exact tr_13_0_1
 | 2,_ => exact tr_13_0_2)⟩
theorem ta_13_6 : tnOk tn_13_6 := ⟨tg_13_6,all_parts (l := tn_13_6.rows) 4 3 (by decide +kernel) (by intro j hj;match j,hj with
 | 0,_ => exact tr_13_6_0
 | 1,_ => exact tr_13_6_1
 | 2,_ => exact tr_13_6_2)⟩
theorem ta_14_0 : tnOk tn_14_0 := ⟨tg_14_0,all_parts (l := tn_14_0.rows) 4 2 (by decide +kernel) (by intro j hj;match j,hj with
 | 0,_ => exact tr_14_0_0
 | 1,_ => exact tr_14_0_1)⟩
theorem ta_14_1 : tnOk tn_14_1 := ⟨tg_14_1,all_parts (l := tn_14_1.rows) 4 2 (by decide +kernel) (by intro j hj;match j,hj with
 | 0,_ => exact tr_14_1_0
 | 1,_ => exact tr_14_1_1)⟩
theorem ta_14_2 : tnOk tn_14_2 := ⟨tg_14_2,all_parts (l := tn_14_2.rows) 4 2 (by decide +kernel) (by intro j hj;match j,hj with
 | 0,_ => exact tr_14_2_0
 | 1,_ => exact tr_14_2_1)⟩
theorem ta_14_3 : tnOk tn_14_3 := ⟨tg_14_3,all_parts (l := tn_14_3.rows) 4 2 (by decide +kernel) (by intro j hj;match j,hj with
 | 0,_ => exact tr_14_3_0
 | 1,_ => exact tr_14_3_1)⟩
theorem ta_14_4 : tnOk tn_14_4 := ⟨tg_14_4,all_parts (l := tn_14_4.rows) 4 2 (by decide +kernel) (by intro j hj;match j,hj with
 | 0,_ => exact tr_14_4_0
 | 1,_ => exact tr_14_4_1)⟩
theorem ta_14_5 : tnOk tn_14_5 := ⟨tg_14_5,all_parts (l := tn_14_5.rows) 4 2 (by decide +kernel) (by intro j hj;match j,hj with
 | 0,_ => exact tr_14_5_0
 | 1,_ => exact tr_14_5_1)⟩
theorem ta_15_0_0 : tnOk tn_15_0_0 := ⟨tg_15_0_0,all_parts (l := tn_15_0_0.rows) 4 2 (by decide +kernel) (by intro j hj;match j,hj with
 | 0,_ => exact tr_15_0_0_0
 | 1,_ => exact tr_15_0_0_1)⟩
theorem ta_15_0_2 : tnOk tn_15_0_2 := ⟨tg_15_0_2,all_parts (l := tn_15_0_2.rows) 4 2 (by decide +kernel) (by intro j hj;match j,hj with
 | 0,_ => exact tr_15_0_2_0
 | 1,_ => exact tr_15_0_2_1)⟩
theorem ta_15_1_0 : tnOk tn_15_1_0 := ⟨tg_15_1_0,all_parts (l := tn_15_1_0.rows) 4 2 (by decide +kernel) (by intro j hj;match j,hj with
 | 0,_ => exact tr_15_1_0_0
 | 1,_ => exact tr_15_1_0_1)⟩
theorem ta_15_1_2 : tnOk tn_15_1_2 := ⟨tg_15_1_2,all_parts (l := tn_15_1_2.rows) 4 2 (by decide +kernel) (by intro j hj;match j,hj with
 | 0,_ => exact tr_15_1_2_0
 | 1,_ => exact tr_15_1_2_1)⟩
theorem ta_16_0_0 : tnOk tn_16_0_0 := ⟨tg_16_0_0,all_parts (l := tn_16_0_0.rows) 4 2 (by decide +kernel) (by intro j hj;match j,hj with
 | 0,_ => exact tr_16_0_0_0
 | 1,_ => exact tr_16_0_0_1)⟩
theorem ta_16_0_1 : tnOk tn_16_0_1 := ⟨tg_16_0_1,all_parts (l := tn_16_0_1.rows) 4 1 (by decide +kernel) (by intro j hj;match j,hj with
 | 0,_ => exact tr_16_0_1_0)⟩
theorem ta_16_0_2 : tnOk tn_16_0_2 := ⟨tg_16_0_2,all_parts (l := tn_16_0_2.rows) 4 2 (by decide +kernel) (by intro j hj;match j,hj with
 | 0,_ => exact tr_16_0_2_0
 | 1,_ => exact tr_16_0_2_1)⟩
theorem ta_16_0_3 : tnOk tn_16_0_3 := ⟨tg_16_0_3,all_parts (l := tn_16_0_3.rows) 4 1 (by decide +kernel) (by intro j hj;match j,hj with
 | 0,_ => exact tr_16_0_3_0)⟩
theorem ta_16_1_0 : tnOk tn_16_1_0 := ⟨tg_16_1_0,all_parts (l := tn_16_1_0.rows) 4 2 (by decide +kernel) (by intro j hj;match j,hj with
 | 0,_ => exact tr_16_1_0_0
 | 1,_ => exact tr_16_1_0_1)⟩
theorem ta_16_1_1 : tnOk tn_16_1_1 := ⟨tg_16_1_1,all_parts (l := tn_16_1_1.rows) 4 1 (by decide +kernel) (by intro j hj;match j,hj with
 | 0,_ => exact tr_16_1_1_0)⟩
theorem ta_16_1_2 : tnOk tn_16_1_2 := ⟨tg_16_1_2,all_parts (l := tn_16_1_2.rows) 4 2 (by decide +kernel) (by intro j hj;match j,hj with
 | 0,_ => exact tr_16_1_2_0
 | 1,_ => exact tr_16_1_2_1)⟩
theorem ta_16_1_3 : tnOk tn_16_1_3 := ⟨tg_16_1_3,all_parts (l := tn_16_1_3.rows) 4 1 (by decide +kernel) (by intro j hj;match j,hj with
 | 0,_ => exact tr_16_1_3_0)⟩
theorem ta_18_0 : tnOk tn_18_0 := ⟨tg_18_0,all_parts (l := tn_18_0.rows) 4 2 (by decide +kernel) (by intro j hj;match j,hj with
 | 0,_ => exact tr_18_0_0
 | 1,_ => exact tr_18_0_1)⟩
theorem ta_18_1 : tnOk tn_18_1 := ⟨tg_18_1,all_parts (l := tn_18_1.rows) 4 1 (by decide +kernel) (by intro j hj;match j,hj with
 | 0,_ => exact tr_18_1_0)⟩
theorem ta_18_2 : tnOk tn_18_2 := ⟨tg_18_2,all_parts (l := tn_18_2.rows) 4 1 (by decide +kernel) (by intro j hj;match j,hj with
 | 0,_ => exact tr_18_2_0)⟩
theorem ta_18_3 : tnOk tn_18_3 := ⟨tg_18_3,all_parts (l := tn_18_3.rows) 4 2 (by decide +kernel) (by intro j hj;match j,hj with
 | 0,_ => exact tr_18_3_0
 | 1,_ => exact tr_18_3_1)⟩
theorem ta_18_4 : tnOk tn_18_4 := ⟨tg_18_4,all_parts (l := tn_18_4.rows) 4 1 (by decide +kernel) (by intro j hj;match j,hj with
 | 0,_ => exact tr_18_4_0)⟩
theorem ta_18_5 : tnOk tn_18_5 := ⟨tg_18_5,all_parts (l := tn_18_5.rows) 4 1 (by decide +kernel) (by intro j hj;match j,hj with
 | 0,_ => exact tr_18_5_0)⟩
theorem ta_20_0_0 : tnOk tn_20_0_0 := ⟨tg_20_0_0,all_parts (l := tn_20_0_0.rows) 4 2 (by decide +kernel) (by intro j hj;match j,hj with
 | 0,_ => exact tr_20_0_0_0
 | 1,_ => exact tr_20_0_0_1)⟩
theorem ta_20_0_1 : tnOk tn_20_0_1 := ⟨tg_20_0_1,all_parts (l := tn_20_0_1.rows) 4 1 (by decide +kernel) (by intro j hj;match j,hj with
 | 0,_ => exact tr_20_0_1_0)⟩
theorem ta_20_0_2 : tnOk tn_20_0_2 := ⟨tg_20_0_2,all_parts (l := tn_20_0_2.rows) 4 2 (by decide +kernel) (by intro j hj;match j,hj with
 | 0,_ => exact tr_20_0_2_0
 | 1,_ => exact tr_20_0_2_1)⟩
theorem ta_20_0_3 : tnOk tn_20_0_3 := ⟨tg_20_0_3,all_parts (l := tn_20_0_3.rows) 4 1 (by decide +kernel) (by intro j hj;match j,hj with
 | 0,_ => exact tr_20_0_3_0)⟩
theorem ta_20_1_0 : tnOk tn_20_1_0 := ⟨tg_20_1_0,all_parts (l := tn_20_1_0.rows) 4 2 (by decide +kernel) (by intro j hj;match j,hj with
 | 0,_ => exact tr_20_1_0_0
 | 1,_ => exact tr_20_1_0_1)⟩
theorem ta_20_1_1 : tnOk tn_20_1_1 := ⟨tg_20_1_1,all_parts (l := tn_20_1_1.rows) 4 1 (by decide +kernel) (by intro j hj;match j,hj with
 | 0,_ => exact tr_20_1_1_0)⟩
theorem ta_20_1_2 : tnOk tn_20_1_2 := ⟨tg_20_1_2,all_parts (l := tn_20_1_2.rows) 4 2 (by decide +kernel) (by intro j hj;match j,hj with
 | 0,_ => exact tr_20_1_2_0
 | 1,_ => exact tr_20_1_2_1)⟩
theorem ta_20_1_3 : tnOk tn_20_1_3 := ⟨tg_20_1_3,all_parts (l := tn_20_1_3.rows) 4 1 (by decide +kernel) (by intro j hj;match j,hj with
 | 0,_ => exact tr_20_1_3_0)⟩
theorem ta_21_0_0 : tnOk tn_21_0_0 := ⟨tg_21_0_0,all_parts (l := tn_21_0_0.rows) 4 3 (by decide +kernel) (by intro j hj;match j,hj with
 | 0,_ => exact tr_21_0_0_0
 | 1,_ => exact tr_21_0_0_1
 | 2,_ => exact tr_21_0_0_2)⟩
theorem ta_21_0_1 : tnOk tn_21_0_1 := ⟨tg_21_0_1,all_parts (l := tn_21_0_1.rows) 4 2 (by decide +kernel) (by intro j hj;match j,hj with
 | 0,_ => exact tr_21_0_1_0
 | 1,_ => exact tr_21_0_1_1)⟩
theorem ta_21_0_2 : tnOk tn_21_0_2 := ⟨tg_21_0_2,all_parts (l := tn_21_0_2.rows) 4 2 (by decide +kernel) (by intro j hj;match j,hj with
 | 0,_ => exact tr_21_0_2_0
 | 1,_ => exact tr_21_0_2_1)⟩
theorem ta_21_0_3 : tnOk tn_21_0_3 := ⟨tg_21_0_3,all_parts (l := tn_21_0_3.rows) 4 3 (by decide +kernel) (by intro j hj;match j,hj with
 | 0,_ => exact tr_21_0_3_0
 | 1,_ => exact tr_21_0_3_1
 | 2,_ => exact tr_21_0_3_2)⟩
theorem ta_21_0_4 : tnOk tn_21_0_4 := ⟨tg_21_0_4,all_parts (l := tn_21_0_4.rows) 4 2 (by decide +kernel) (by intro j hj;match j,hj with
 | 0,_ => exact tr_21_0_4_0
 | 1,_ => exact tr_21_0_4_1)⟩
theorem ta_21_0_5 : tnOk tn_21_0_5 := ⟨tg_21_0_5,all_parts (l := tn_21_0_5.rows) 4 2 (by decide +kernel) (by intro j hj;match j,hj with
 | 0,_ => exact tr_21_0_5_0
 | 1,_ => exact tr_21_0_5_1)⟩
theorem ta_21_1_0 : tnOk tn_21_1_0 := ⟨tg_21_1_0,all_parts (l := tn_21_1_0.rows) 4 3 (by decide +kernel) (by intro j hj;match j,hj with
 | 0,_ => exact tr_21_1_0_0
 | 1,_ => exact tr_21_1_0_1
 | 2,_ => exact tr_21_1_0_2)⟩
theorem ta_21_1_1 : tnOk tn_21_1_1 := ⟨tg_21_1_1,all_parts (l := tn_21_1_1.rows) 4 2 (by decide +kernel) (by intro j hj;match j,hj with
 | 0,_ => exact tr_21_1_1_0
 | 1,_ => exact tr_21_1_1_1)⟩
theorem ta_21_1_2 : tnOk tn_21_1_2 := ⟨tg_21_1_2,all_parts (l := tn_21_1_2.rows) 4 2 (by decide +kernel) (by intro j hj;match j,hj with
 | 0,_ => exact tr_21_1_2_0
 | 1,_ => exact tr_21_1_2_1)⟩
theorem ta_21_1_3 : tnOk tn_21_1_3 := ⟨tg_21_1_3,all_parts (l := tn_21_1_3.rows) 4 3 (by decide +kernel) (by intro j hj;match j,hj with
 | 0,_ => exact tr_21_1_3_0
 | 1,_ => exact tr_21_1_3_1
 | 2,_ => exact tr_21_1_3_2)⟩
theorem ta_21_1_4 : tnOk tn_21_1_4 := ⟨tg_21_1_4,all_parts (l := tn_21_1_4.rows) 4 2 (by decide +kernel) (by intro j hj;match j,hj with
 | 0,_ => exact tr_21_1_4_0
 | 1,_ => exact tr_21_1_4_1)⟩
theorem ta_21_1_5 : tnOk tn_21_1_5 := ⟨tg_21_1_5,all_parts (l := tn_21_1_5.rows) 4 2 (by decide +kernel) (by intro j hj;match j,hj with
 | 0,_ => exact tr_21_1_5_0
 | 1,_ => exact tr_21_1_5_1)⟩
theorem ta_22_0 : tnOk tn_22_0 := ⟨tg_22_0,all_parts (l := tn_22_0.rows) 4 3 (by decide +kernel) (by intro j hj;match j,hj with
 | 0,_ => exact tr_22_0_0
 | 1,_ => exact tr_22_0_1
 | 2,_ => exact tr_22_0_2)⟩
theorem ta_22_5 : tnOk tn_22_5 := ⟨tg_22_5,all_parts (l := tn_22_5.rows) 4 3 (by decide +kernel) (by intro j hj;match j,hj with
 | 0,_ => exact tr_22_5_0
 | 1,_ => exact tr_22_5_1
 | 2,_ => exact tr_22_5_2)⟩
theorem ta_24_0_0_0 : tnOk tn_24_0_0_0 := ⟨tg_24_0_0_0,all_parts (l := tn_24_0_0_0.rows) 4 2 (by decide +kernel) (by intro j hj;match j,hj with
 | 0,_ => exact tr_24_0_0_0_0
 | 1,_ => exact tr_24_0_0_0_1)⟩
theorem ta_24_0_0_1 : tnOk tn_24_0_0_1 := ⟨tg_24_0_0_1,all_parts (l := tn_24_0_0_1.rows) 4 2 (by decide +kernel) (by intro j hj;match j,hj with
 | 0,_ => exact tr_24_0_0_1_0
 | 1,_ => exact tr_24_0_0_1_1)⟩
theorem ta_24_0_1_0 : tnOk tn_24_0_1_0 := ⟨tg_24_0_1_0,all_parts (l := tn_24_0_1_0.rows) 4 2 (by decide +kernel) (by intro j hj;match j,hj with
 | 0,_ => exact tr_24_0_1_0_0
 | 1,_ => exact tr_24_0_1_0_1)⟩
theorem ta_24_0_1_1 : tnOk tn_24_0_1_1 := ⟨tg_24_0_1_1,all_parts (l := tn_24_0_1_1.rows) 4 2 (by decide +kernel) (by intro j hj;match j,hj with
 | 0,_ => exact tr_24_0_1_1_0
 | 1,_ => exact tr_24_0_1_1_1)⟩
theorem ta_24_1_0_0 : tnOk tn_24_1_0_0 := ⟨tg_24_1_0_0,all_parts (l := tn_24_1_0_0.rows) 4 2 (by decide +kernel) (by intro j hj;match j,hj with
 | 0,_ => exact tr_24_1_0_0_0
 | 1,_ => exact tr_24_1_0_0_1)⟩
theorem ta_24_1_0_1 : tnOk tn_24_1_0_1 := ⟨tg_24_1_0_1,all_parts (l := tn_24_1_0_1.rows) 4 2 (by decide +kernel) (by intro j hj;match j,hj with
 | 0,_ => exact tr_24_1_0_1_0
 | 1,_ => exact tr_24_1_0_1_1)⟩
theorem ta_24_1_1_0 : tnOk tn_24_1_1_0 := ⟨tg_24_1_1_0,all_parts (l := tn_24_1_1_0.rows) 4 2 (by decide +kernel) (by intro j hj;match j,hj with
 | 0,_ => exact tr_24_1_1_0_0
 | 1,_ => exact tr_24_1_1_0_1)⟩
theorem ta_24_1_1_1 : tnOk tn_24_1_1_1 := ⟨tg_24_1_1_1,all_parts (l := tn_24_1_1_1.rows) 4 2 (by decide +kernel) (by intro j hj;match j,hj with
 | 0,_ => exact tr_24_1_1_1_0
 | 1,_ => exact tr_24_1_1_1_1)⟩
theorem ta_26_0 : tnOk tn_26_0 := ⟨tg_26_0,all_parts (l := tn_26_0.rows) 4 3 (by decide +kernel) (by intro j hj;match j,hj with
 | 0,_ => exact tr_26_0_0
 | 1,_ => exact tr_26_0_1
 | 2,_ => exact tr_26_0_2)⟩
theorem ta_26_6 : tnOk tn_26_6 := ⟨tg_26_6,all_parts (l := tn_26_6.rows) 4 3 (by decide +kernel) (by intro j hj;match j,hj with
 | 0,_ => exact tr_26_6_0
 | 1,_ => exact tr_26_6_1
 | 2,_ => exact tr_26_6_2)⟩
theorem ta_28_0_0 : tnOk tn_28_0_0 := ⟨tg_28_0_0,all_parts (l := tn_28_0_0.rows) 4 3 (by decide +kernel) (by intro j hj;match j,hj with
 | 0,_ => exact tr_28_0_0_0
 | 1,_ => exact tr_28_0_0_1
 | 2,_ => exact tr_28_0_0_2)⟩
theorem ta_28_0_3 : tnOk tn_28_0_3 := ⟨tg_28_0_3,all_parts (l := tn_28_0_3.rows) 4 3 (by decide +kernel) (by intro j hj;match j,hj with
 | 0,_ => exact tr_28_0_3_0
 | 1,_ => exact tr_28_0_3_1
 | 2,_ => exact tr_28_0_3_2)⟩
theorem ta_28_1_0 : tnOk tn_28_1_0 := ⟨tg_28_1_0,all_parts (l := tn_28_1_0.rows) 4 3 (by decide +kernel) (by intro j hj;match j,hj with
 | 0,_ => exact tr_28_1_0_0
 | 1,_ => exact tr_28_1_0_1
 | 2,_ => exact tr_28_1_0_2)⟩
theorem ta_28_1_3 : tnOk tn_28_1_3 := ⟨tg_28_1_3,all_parts (l := tn_28_1_3.rows) 4 3 (by decide +kernel) (by intro j hj;match j,hj with
 | 0,_ => exact tr_28_1_3_0
 | 1,_ => exact tr_28_1_3_1
 | 2,_ => exact tr_28_1_3_2)⟩
theorem ta_30_0_0 : tnOk tn_30_0_0 := ⟨tg_30_0_0,all_parts (l := tn_30_0_0.rows) 4 2 (by decide +kernel) (by intro j hj;match j,hj with
 | 0,_ => exact tr_30_0_0_0
 | 1,_ => exact tr_30_0_0_1)⟩
theorem ta_30_0_2 : tnOk tn_30_0_2 := ⟨tg_30_0_2,all_parts (l := tn_30_0_2.rows) 4 2 (by decide +kernel) (by intro j hj;match j,hj with
 | 0,_ => exact tr_30_0_2_0
 | 1,_ => exact tr_30_0_2_1)⟩
theorem ta_30_1_0 : tnOk tn_30_1_0 := ⟨tg_30_1_0,all_parts (l := tn_30_1_0.rows) 4 2 (by decide +kernel) (by intro j hj;match j,hj with
 | 0,_ => exact tr_30_1_0_0
 | 1,_ => exact tr_30_1_0_1)⟩
theorem ta_30_1_2 : tnOk tn_30_1_2 := ⟨tg_30_1_2,all_parts (l := tn_30_1_2.rows) 4 2 (by decide +kernel) (by intro j hj;match j,hj with
 | 0,_ => exact tr_30_1_2_0
 | 1,_ => exact tr_30_1_2_1)⟩
theorem ta_36_0_0 : tnOk tn_36_0_0 := ⟨tg_36_0_0,all_parts (l := tn_36_0_0.rows) 4 3 (by decide +kernel) (by intro j hj;match j,hj with
 | 0,_ => exact tr_36_0_0_0
 | 1,_ => exact tr_36_0_0_1
 | 2,_ => exact tr_36_0_0_2)⟩
theorem ta_36_0_1 : tnOk tn_36_0_1 := ⟨tg_36_0_1,all_parts (l := tn_36_0_1.rows) 4 2 (by decide +kernel) (by intro j hj;match j,hj with
 | 0,_ => exact tr_36_0_1_0
 | 1,_ => exact tr_36_0_1_1)⟩
theorem ta_36_0_2 : tnOk tn_36_0_2 := ⟨tg_36_0_2,all_parts (l := tn_36_0_2.rows) 4 2 (by decide +kernel) (by intro j hj;match j,hj with
 | 0,_ => exact tr_36_0_2_0
 | 1,_ => exact tr_36_0_2_1)⟩
theorem ta_36_0_3 : tnOk tn_36_0_3 := ⟨tg_36_0_3,all_parts (l := tn_36_0_3.rows) 4 3 (by decide +kernel) (by intro j hj;match j,hj with
 | 0,_ => exact tr_36_0_3_0
 | 1,_ => exact tr_36_0_3_1
 | 2,_ => exact tr_36_0_3_2)⟩
theorem ta_36_0_4 : tnOk tn_36_0_4 := ⟨tg_36_0_4,all_parts (l := tn_36_0_4.rows) 4 2 (by decide +kernel) (by intro j hj;match j,hj with
 | 0,_ => exact tr_36_0_4_0
 | 1,_ => exact tr_36_0_4_1)⟩
theorem ta_36_0_5 : tnOk tn_36_0_5 := ⟨tg_36_0_5,all_parts (l := tn_36_0_5.rows) 4 2 (by decide +kernel) (by intro j hj;match j,hj with
 | 0,_ => exact tr_36_0_5_0
 | 1,_ => exact tr_36_0_5_1)⟩
theorem ta_36_1_0 : tnOk tn_36_1_0 := ⟨tg_36_1_0,all_parts (l := tn_36_1_0.rows) 4 3 (by decide +kernel) (by intro j hj;match j,hj with
 | 0,_ => exact tr_36_1_0_0
 | 1,_ => exact tr_36_1_0_1
 | 2,_ => exact tr_36_1_0_2)⟩
theorem ta_36_1_1 : tnOk tn_36_1_1 := ⟨tg_36_1_1,all_parts (l := tn_36_1_1.rows) 4 2 (by decide +kernel) (by intro j hj;match j,hj with
 | 0,_ => exact tr_36_1_1_0
 | 1,_ => exact tr_36_1_1_1)⟩
theorem ta_36_1_2 : tnOk tn_36_1_2 := ⟨tg_36_1_2,all_parts (l := tn_36_1_2.rows) 4 2 (by decide +kernel) (by intro j hj;match j,hj with
 | 0,_ => exact tr_36_1_2_0
 | 1,_ => exact tr_36_1_2_1)⟩
theorem ta_36_1_3 : tnOk tn_36_1_3 := ⟨tg_36_1_3,all_parts (l := tn_36_1_3.rows) 4 3 (by decide +kernel) (by intro j hj;match j,hj with
 | 0,_ => exact tr_36_1_3_0
 | 1,_ => exact tr_36_1_3_1
 | 2,_ => exact tr_36_1_3_2)⟩
theorem ta_36_1_4 : tnOk tn_36_1_4 := ⟨tg_36_1_4,all_parts (l := tn_36_1_4.rows) 4 2 (by decide +kernel) (by intro j hj;match j,hj with
 | 0,_ => exact tr_36_1_4_0
 | 1,_ => exact tr_36_1_4_1)⟩
theorem ta_36_1_5 : tnOk tn_36_1_5 := ⟨tg_36_1_5,all_parts (l := tn_36_1_5.rows) 4 2 (by decide +kernel) (by intro j hj;match j,hj with
 | 0,_ => exact tr_36_1_5_0
 | 1,_ => exact tr_36_1_5_1)⟩
theorem ta_42_0_0 : tnOk tn_42_0_0 := ⟨tg_42_0_0,all_parts (l := tn_42_0_0.rows) 4 3 (by decide +kernel) (by intro j hj;match j,hj with
 | 0,_ => exact tr_42_0_0_0
 | 1,_ => exact tr_42_0_0_1
 | 2,_ => exact tr_42_0_0_2)⟩
theorem ta_42_0_1 : tnOk tn_42_0_1 := ⟨tg_42_0_1,all_parts (l := tn_42_0_1.rows) 4 2 (by decide +kernel) (by intro j hj;match j,hj with
 | 0,_ => exact tr_42_0_1_0
 | 1,_ => exact tr_42_0_1_1)⟩
theorem ta_42_0_2 : tnOk tn_42_0_2 := ⟨tg_42_0_2,all_parts (l := tn_42_0_2.rows) 4 2 (by decide +kernel) (by intro j hj;match j,hj with
 | 0,_ => exact tr_42_0_2_0
 | 1,_ => exact tr_42_0_2_1)⟩
theorem ta_42_0_3 : tnOk tn_42_0_3 := ⟨tg_42_0_3,all_parts (l := tn_42_0_3.rows) 4 3 (by decide +kernel) (by intro j hj;match j,hj with
 | 0,_ => exact tr_42_0_3_0
 | 1,_ => exact tr_42_0_3_1
 | 2,_ => exact tr_42_0_3_2)⟩
theorem ta_42_0_4 : tnOk tn_42_0_4 := ⟨tg_42_0_4,all_parts (l := tn_42_0_4.rows) 4 2 (by decide +kernel) (by intro j hj;match j,hj with
 | 0,_ => exact tr_42_0_4_0
 | 1,_ => exact tr_42_0_4_1)⟩
theorem ta_42_0_5 : tnOk tn_42_0_5 := ⟨tg_42_0_5,all_parts (l := tn_42_0_5.rows) 4 2 (by decide +kernel) (by intro j hj;match j,hj with
 | 0,_ => exact tr_42_0_5_0
 | 1,_ => exact tr_42_0_5_1)⟩
theorem ta_42_1_0 : tnOk tn_42_1_0 := ⟨tg_42_1_0,all_parts (l := tn_42_1_0.rows) 4 3 (by decide +kernel) (by intro j hj;match j,hj with
 | 0,_ => exact tr_42_1_0_0
 | 1,_ => exact tr_42_1_0_1
 | 2,_ => exact tr_42_1_0_2)⟩
theorem ta_42_1_1 : tnOk tn_42_1_1 := ⟨tg_42_1_1,all_parts (l := tn_42_1_1.rows) 4 2 (by decide +kernel) (by intro j hj;match j,hj with
 | 0,_ => exact tr_42_1_1_0
 | 1,_ => exact tr_42_1_1_1)⟩
theorem ta_42_1_2 : tnOk tn_42_1_2 := ⟨tg_42_1_2,all_parts (l := tn_42_1_2.rows) 4 2 (by decide +kernel) (by intro j hj;match j,hj with
 | 0,_ => exact tr_42_1_2_0
 | 1,_ => exact tr_42_1_2_1)⟩
theorem ta_42_1_3 : tnOk tn_42_1_3 := ⟨tg_42_1_3,all_parts (l := tn_42_1_3.rows) 4 3 (by decide +kernel) (by intro j hj;match j,hj with
 | 0,_ => exact tr_42_1_3_0
 | 1,_ => exact tr_42_1_3_1
 | 2,_ => exact tr_42_1_3_2)⟩
theorem ta_42_1_4 : tnOk tn_42_1_4 := ⟨tg_42_1_4,all_parts (l := tn_42_1_4.rows) 4 2 (by decide +kernel) (by intro j hj;match j,hj with
 | 0,_ => exact tr_42_1_4_0
 | 1,_ => exact tr_42_1_4_1)⟩
theorem ta_42_1_5 : tnOk tn_42_1_5 := ⟨tg_42_1_5,all_parts (l := tn_42_1_5.rows) 4 2 (by decide +kernel) (by intro j hj;match j,hj with
 | 0,_ => exact tr_42_1_5_0
 | 1,_ => exact tr_42_1_5_1)⟩
theorem tm_0 : ∀ e ∈ tnT.getD 0 [],tnOk e := by
 show ∀ e ∈ [],tnOk e
 exact fun e he => nomatch he
theorem tm_1 : ∀ e ∈ tnT.getD 1 [],tnOk e := by
 show ∀ e ∈ [tn_1],tnOk e
 refine List.forall_mem_cons.2 ⟨ta_1,?_⟩
 exact fun e he => nomatch he
theorem tm_2 : ∀ e ∈ tnT.getD 2 [],tnOk e := by
 show ∀ e ∈ [tn_2],tnOk e
 refine List.forall_mem_cons.2 ⟨ta_2,?_⟩
 exact fun e he => nomatch he
theorem tm_3 : ∀ e ∈ tnT.getD 3 [],tnOk e := by
 show ∀ e ∈ [tn_3_0,tn_3_1],tnOk e
 refine List.forall_mem_cons.2 ⟨ta_3_0,?_⟩
 refine List.forall_mem_cons.2 ⟨ta_3_1,?_⟩
 exact fun e he => nomatch he
theorem tm_4 : ∀ e ∈ tnT.getD 4 [],tnOk e := by
 show ∀ e ∈ [tn_4_0,tn_4_1],tnOk e
 refine List.forall_mem_cons.2 ⟨ta_4_0,?_⟩
 refine List.forall_mem_cons.2 ⟨ta_4_1,?_⟩
 exact fun e he => nomatch he
theorem tm_5 : ∀ e ∈ tnT.getD 5 [],tnOk e := by
 show ∀ e ∈ [tn_5_0,tn_5_1,tn_5_2,tn_5_3],tnOk e
 refine List.forall_mem_cons.2 ⟨ta_5_0,?_⟩
 refine List.forall_mem_cons.2 ⟨ta_5_1,?_⟩
 refine List.forall_mem_cons.2 ⟨ta_5_2,?_⟩
 refine List.forall_mem_cons.2 ⟨ta_5_3,?_⟩
 exact fun e he => nomatch he
theorem tm_6 : ∀ e ∈ tnT.getD 6 [],tnOk e := by
 show ∀ e ∈ [tn_6_0,tn_6_1],tnOk e
 refine List.forall_mem_cons.2 ⟨ta_6_0,?_⟩
 refine List.forall_mem_cons.2 ⟨ta_6_1,?_⟩
 exact fun e he => nomatch he
theorem tm_7 : ∀ e ∈ tnT.getD 7 [],tnOk e := by
 show ∀ e ∈ [tn_7_0,tn_7_1,tn_7_2,tn_7_3,tn_7_4,tn_7_5],tnOk e
 refine List.forall_mem_cons.2 ⟨ta_7_0,?_⟩
 refine List.forall_mem_cons.2 ⟨ta_7_1,?_⟩
 refine List.forall_mem_cons.2 ⟨ta_7_2,?_⟩
 refine List.forall_mem_cons.2 ⟨ta_7_3,?_⟩
 refine List.forall_mem_cons.2 ⟨ta_7_4,?_⟩
 refine List.forall_mem_cons.2 ⟨ta_7_5,?_⟩
 exact fun e he => nomatch he
theorem tm_8 : ∀ e ∈ tnT.getD 8 [],tnOk e := by
 show ∀ e ∈ [tn_8_0_0,tn_8_0_1,tn_8_1_0,tn_8_1_1],tnOk e
 refine List.forall_mem_cons.2 ⟨ta_8_0_0,?_⟩
 refine List.forall_mem_cons.2 ⟨ta_8_0_1,?_⟩
 refine List.forall_mem_cons.2 ⟨ta_8_1_0,?_⟩
 refine List.forall_mem_cons.2 ⟨ta_8_1_1,?_⟩
 exact fun e he => nomatch he
theorem tm_9 : ∀ e ∈ tnT.getD 9 [],tnOk e := by
 show ∀ e ∈ [tn_9_0,tn_9_1,tn_9_2,tn_9_3,tn_9_4,tn_9_5],tnOk e
 refine List.forall_mem_cons.2 ⟨ta_9_0,?_⟩
 refine List.forall_mem_cons.2 ⟨ta_9_1,?_⟩
 refine List.forall_mem_cons.2 ⟨ta_9_2,?_⟩
 refine List.forall_mem_cons.2 ⟨ta_9_3,?_⟩
 refine List.forall_mem_cons.2 ⟨ta_9_4,?_⟩
 refine List.forall_mem_cons.2 ⟨ta_9_5,?_⟩
 exact fun e he => nomatch he
theorem tm_10 : ∀ e ∈ tnT.getD 10 [],tnOk e := by
 show ∀ e ∈ [tn_10_0,tn_10_1,tn_10_2,tn_10_3],tnOk e
 refine List.forall_mem_cons.2 ⟨ta_10_0,?_⟩
 refine List.forall_mem_cons.2 ⟨ta_10_1,?_⟩
 refine List.forall_mem_cons.2 ⟨ta_10_2,?_⟩
 refine List.forall_mem_cons.2 ⟨ta_10_3,?_⟩
 exact fun e he => nomatch he
theorem tm_11 : ∀ e ∈ tnT.getD 11 [],tnOk e := by
 show ∀ e ∈ [tn_11_0,tn_11_5],tnOk e
 refine List.forall_mem_cons.2 ⟨ta_11_0,?_⟩
 refine List.forall_mem_cons.2 ⟨ta_11_5,?_⟩
 exact fun e he => nomatch he
theorem tm_12 : ∀ e ∈ tnT.getD 12 [],tnOk e := by
 show ∀ e ∈ [tn_12_0_0,tn_12_0_1,tn_12_1_0,tn_12_1_1],tnOk e
 refine List.forall_mem_cons.2 ⟨ta_12_0_0,?_⟩
 refine List.forall_mem_cons.2 ⟨ta_12_0_1,?_⟩
 refine List.forall_mem_cons.2 ⟨ta_12_1_0,?_⟩
 refine List.forall_mem_cons.2 ⟨ta_12_1_1,?_⟩
 exact fun e he => nomatch he
theorem tm_13 : ∀ e ∈ tnT.getD 13 [],tnOk e := by
 show ∀ e ∈ [tn_13_0,tn_13_6],tnOk e
 refine List.forall_mem_cons.2 ⟨ta_13_0,?_⟩
 refine List.forall_mem_cons.2 ⟨ta_13_6,?_⟩
 exact fun e he => nomatch he
theorem tm_14 : ∀ e ∈ tnT.getD 14 [],tnOk e := by
 show ∀ e ∈ [tn_14_0,tn_14_1,tn_14_2,tn_14_3,tn_14_4,tn_14_5],tnOk e
 refine List.forall_mem_cons.2 ⟨ta_14_0,?_⟩
 refine List.forall_mem_cons.2 ⟨ta_14_1,?_⟩
 refine List.forall_mem_cons.2 ⟨ta_14_2,?_⟩
 refine List.forall_mem_cons.2 ⟨ta_14_3,?_⟩
 refine List.forall_mem_cons.2 ⟨ta_14_4,?_⟩
 refine List.forall_mem_cons.2 ⟨ta_14_5,?_⟩
 exact fun e he => nomatch he
theorem tm_15 : ∀ e ∈ tnT.getD 15 [],tnOk e := by
 show ∀ e ∈ [tn_15_0_0,tn_15_0_2,tn_15_1_0,tn_15_1_2],tnOk e
 refine List.forall_mem_cons.2 ⟨ta_15_0_0,?_⟩
 refine List.forall_mem_cons.2 ⟨ta_15_0_2,?_⟩
 refine List.forall_mem_cons.2 ⟨ta_15_1_0,?_⟩
 refine List.forall_mem_cons.2 ⟨ta_15_1_2,?_⟩
 exact fun e he => nomatch he
theorem tm_16 : ∀ e ∈ tnT.getD 16 [],tnOk e := by
 show ∀ e ∈ [tn_16_0_0,tn_16_0_1,tn_16_0_2,tn_16_0_3,tn_16_1_0,tn_16_1_1,tn_16_1_2,tn_16_1_3],tnOk e
 refine List.forall_mem_cons.2 ⟨ta_16_0_0,?_⟩
 refine List.forall_mem_cons.2 ⟨ta_16_0_1,?_⟩
 refine List.forall_mem_cons.2 ⟨ta_16_0_2,?_⟩
 refine List.forall_mem_cons.2 ⟨ta_16_0_3,?_⟩
 refine List.forall_mem_cons.2 ⟨ta_16_1_0,?_⟩
 refine List.forall_mem_cons.2 ⟨ta_16_1_1,?_⟩
 refine List.forall_mem_cons.2 ⟨ta_16_1_2,?_⟩
 refine List.forall_mem_cons.2 ⟨ta_16_1_3,?_⟩
 exact fun e he => nomatch he
theorem tm_17 : ∀ e ∈ tnT.getD 17 [],tnOk e := by
 show ∀ e ∈ [],tnOk e
 exact fun e he => nomatch he
theorem tm_18 : ∀ e ∈ tnT.getD 18 [],tnOk e := by
 show ∀ e ∈ [tn_18_0,tn_18_1,tn_18_2,tn_18_3,tn_18_4,tn_18_5],tnOk e
 refine List.forall_mem_cons.2 ⟨ta_18_0,?_⟩
 refine List.forall_mem_cons.2 ⟨ta_18_1,?_⟩
 refine List.forall_mem_cons.2 ⟨ta_18_2,?_⟩
 refine List.forall_mem_cons.2 ⟨ta_18_3,?_⟩
 refine List.forall_mem_cons.2 ⟨ta_18_4,?_⟩
 refine List.forall_mem_cons.2 ⟨ta_18_5,?_⟩
 exact fun e he => nomatch he
theorem tm_19 : ∀ e ∈ tnT.getD 19 [],tnOk e := by
 show ∀ e ∈ [],tnOk e
 exact fun e he => nomatch he
theorem tm_20 : ∀ e ∈ tnT.getD 20 [],tnOk e := by
 show ∀ e ∈ [tn_20_0_0,tn_20_0_1,tn_20_0_2,tn_20_0_3,tn_20_1_0,tn_20_1_1,tn_20_1_2,tn_20_1_3],tnOk e
 refine List.forall_mem_cons.2 ⟨ta_20_0_0,?_⟩
 refine List.forall_mem_cons.2 ⟨ta_20_0_1,?_⟩
 refine List.forall_mem_cons.2 ⟨ta_20_0_2,?_⟩
 refine List.forall_mem_cons.2 ⟨ta_20_0_3,?_⟩
 refine List.forall_mem_cons.2 ⟨ta_20_1_0,?_⟩
 refine List.forall_mem_cons.2 ⟨ta_20_1_1,?_⟩
 refine List.forall_mem_cons.2 ⟨ta_20_1_2,?_⟩
 refine List.forall_mem_cons.2 ⟨ta_20_1_3,?_⟩
 exact fun e he => nomatch he
theorem tm_21 : ∀ e ∈ tnT.getD 21 [],tnOk e := by
 show ∀ e ∈ [tn_21_0_0,tn_21_0_1,tn_21_0_2,tn_21_0_3,tn_21_0_4,tn_21_0_5,tn_21_1_0,tn_21_1_1,tn_21_1_2,tn_21_1_3,tn_21_1_4,tn_21_1_5],tnOk e
 refine List.forall_mem_cons.2 ⟨ta_21_0_0,?_⟩
 refine List.forall_mem_cons.2 ⟨ta_21_0_1,?_⟩
 refine List.forall_mem_cons.2 ⟨ta_21_0_2,?_⟩
 refine List.forall_mem_cons.2 ⟨ta_21_0_3,?_⟩
 refine List.forall_mem_cons.2 ⟨ta_21_0_4,?_⟩
 refine List.forall_mem_cons.2 ⟨ta_21_0_5,?_⟩
 refine List.forall_mem_cons.2 ⟨ta_21_1_0,?_⟩
 refine List.forall_mem_cons.2 ⟨ta_21_1_1,?_⟩
 refine List.forall_mem_cons.2 ⟨ta_21_1_2,?_⟩
 refine List.forall_mem_cons.2 ⟨ta_21_1_3,?_⟩
 refine List.forall_mem_cons.2 ⟨ta_21_1_4,?_⟩
 refine List.forall_mem_cons.2 ⟨ta_21_1_5,?_⟩
 exact fun e he => nomatch he
theorem tm_22 : ∀ e ∈ tnT.getD 22 [],tnOk e := by
 show ∀ e ∈ [tn_22_0,tn_22_5],tnOk e
 refine List.forall_mem_cons.2 ⟨ta_22_0,?_⟩
 refine List.forall_mem_cons.2 ⟨ta_22_5,?_⟩
 exact fun e he => nomatch he
theorem tm_23 : ∀ e ∈ tnT.getD 23 [],tnOk e := by
 show ∀ e ∈ [],tnOk e
 exact fun e he => nomatch he
theorem tm_24 : ∀ e ∈ tnT.getD 24 [],tnOk e := by
 show ∀ e ∈ [tn_24_0_0_0,tn_24_0_0_1,tn_24_0_1_0,tn_24_0_1_1,tn_24_1_0_0,tn_24_1_0_1,tn_24_1_1_0,tn_24_1_1_1],tnOk e
 refine List.forall_mem_cons.2 ⟨ta_24_0_0_0,?_⟩
 refine List.forall_mem_cons.2 ⟨ta_24_0_0_1,?_⟩
 refine List.forall_mem_cons.2 ⟨ta_24_0_1_0,?_⟩
 refine List.forall_mem_cons.2 ⟨ta_24_0_1_1,?_⟩
 refine List.forall_mem_cons.2 ⟨ta_24_1_0_0,?_⟩
 refine List.forall_mem_cons.2 ⟨ta_24_1_0_1,?_⟩
 refine List.forall_mem_cons.2 ⟨ta_24_1_1_0,?_⟩
 refine List.forall_mem_cons.2 ⟨ta_24_1_1_1,?_⟩
 exact fun e he => nomatch he
theorem tm_25 : ∀ e ∈ tnT.getD 25 [],tnOk e := by
 show ∀ e ∈ [],tnOk e
 exact fun e he => nomatch he
theorem tm_26 : ∀ e ∈ tnT.getD 26 [],tnOk e := by
 show ∀ e ∈ [tn_26_0,tn_26_6],tnOk e
 refine List.forall_mem_cons.2 ⟨ta_26_0,?_⟩
 refine List.forall_mem_cons.2 ⟨ta_26_6,?_⟩
 exact fun e he => nomatch he
theorem tm_27 : ∀ e ∈ tnT.getD 27 [],tnOk e := by
 show ∀ e ∈ [],tnOk e
 exact fun e he => nomatch he
theorem tm_28 : ∀ e ∈ tnT.getD 28 [],tnOk e := by
 show ∀ e ∈ [tn_28_0_0,tn_28_0_3,tn_28_1_0,tn_28_1_3],tnOk e
 refine List.forall_mem_cons.2 ⟨ta_28_0_0,?_⟩
 refine List.forall_mem_cons.2 ⟨ta_28_0_3,?_⟩
 refine List.forall_mem_cons.2 ⟨ta_28_1_0,?_⟩
 refine List.forall_mem_cons.2 ⟨ta_28_1_3,?_⟩
 exact fun e he => nomatch he
theorem tm_29 : ∀ e ∈ tnT.getD 29 [],tnOk e := by
 show ∀ e ∈ [],tnOk e
 exact fun e he => nomatch he
theorem tm_30 : ∀ e ∈ tnT.getD 30 [],tnOk e := by
 show ∀ e ∈ [tn_30_0_0,tn_30_0_2,tn_30_1_0,tn_30_1_2],tnOk e
 refine List.forall_mem_cons.2 ⟨ta_30_0_0,?_⟩
 refine List.forall_mem_cons.2 ⟨ta_30_0_2,?_⟩
 refine List.forall_mem_cons.2 ⟨ta_30_1_0,?_⟩
 refine List.forall_mem_cons.2 ⟨ta_30_1_2,?_⟩
 exact fun e he => nomatch he
theorem tm_31 : ∀ e ∈ tnT.getD 31 [],tnOk e := by
 show ∀ e ∈ [],tnOk e
 exact fun e he => nomatch he
theorem tm_32 : ∀ e ∈ tnT.getD 32 [],tnOk e := by
 show ∀ e ∈ [],tnOk e
 exact fun e he => nomatch he
theorem tm_33 : ∀ e ∈ tnT.getD 33 [],tnOk e := by
 show ∀ e ∈ [],tnOk e
 exact fun e he => nomatch he
theorem tm_34 : ∀ e ∈ tnT.getD 34 [],tnOk e := by
 show ∀ e ∈ [],tnOk e
 exact fun e he => nomatch he
theorem tm_35 : ∀ e ∈ tnT.getD 35 [],tnOk e := by
 show ∀ e ∈ [],tnOk e
 exact fun e he => nomatch he
theorem tm_36 : ∀ e ∈ tnT.getD 36 [],tnOk e := by
 show ∀ e ∈ [tn_36_0_0,tn_36_0_1,tn_36_0_2,tn_36_0_3,tn_36_0_4,tn_36_0_5,tn_36_1_0,tn_36_1_1,tn_36_1_2,tn_36_1_3,tn_36_1_4,tn_36_1_5],tnOk e
 refine List.forall_mem_cons.2 ⟨ta_36_0_0,?_⟩
 refine List.forall_mem_cons.2 ⟨ta_36_0_1,?_⟩
 refine List.forall_mem_cons.2 ⟨ta_36_0_2,?_⟩
 refine List.forall_mem_cons.2 ⟨ta_36_0_3,?_⟩
 refine List.forall_mem_cons.2 ⟨ta_36_0_4,?_⟩
 refine List.forall_mem_cons.2 ⟨ta_36_0_5,?_⟩
 refine List.forall_mem_cons.2 ⟨ta_36_1_0,?_⟩
 refine List.forall_mem_cons.2 ⟨ta_36_1_1,?_⟩
 refine List.forall_mem_cons.2 ⟨ta_36_1_2,?_⟩
 refine List.forall_mem_cons.2 ⟨ta_36_1_3,?_⟩
 refine List.forall_mem_cons.2 ⟨ta_36_1_4,?_⟩
 refine List.forall_mem_cons.2 ⟨ta_36_1_5,?_⟩
 exact fun e he => nomatch he
theorem tm_37 : ∀ e ∈ tnT.getD 37 [],tnOk e := by
 show ∀ e ∈ [],tnOk e
 exact fun e he => nomatch he
theorem tm_38 : ∀ e ∈ tnT.getD 38 [],tnOk e := by
 show ∀ e ∈ [],tnOk e
 exact fun e he => nomatch he
theorem tm_39 : ∀ e ∈ tnT.getD 39 [],tnOk e := by
 show ∀ e ∈ [],tnOk e
 exact fun e he => nomatch he
theorem tm_40 : ∀ e ∈ tnT.getD 40 [],tnOk e := by
 show ∀ e ∈ [],tnOk e
 exact fun e he => nomatch he
theorem tm_41 : ∀ e ∈ tnT.getD 41 [],tnOk e := by
 show ∀ e ∈ [],tnOk e
 exact fun e he => nomatch he
theorem tm_42 : ∀ e ∈ tnT.getD 42 [],tnOk e := by
 show ∀ e ∈ [tn_42_0_0,tn_42_0_1,tn_42_0_2,tn_42_0_3,tn_42_0_4,tn_42_0_5,tn_42_1_0,tn_42_1_1,tn_42_1_2,tn_42_1_3,tn_42_1_4,tn_42_1_5],tnOk e
 refine List.forall_mem_cons.2 ⟨ta_42_0_0,?_⟩
 refine List.forall_mem_cons.2 ⟨ta_42_0_1,?_⟩
 refine List.forall_mem_cons.2 ⟨ta_42_0_2,?_⟩
 refine List.forall_mem_cons.2 ⟨ta_42_0_3,?_⟩
 refine List.forall_mem_cons.2 ⟨ta_42_0_4,?_⟩
 refine List.forall_mem_cons.2 ⟨ta_42_0_5,?_⟩
 refine List.forall_mem_cons.2 ⟨ta_42_1_0,?_⟩
 refine List.forall_mem_cons.2 ⟨ta_42_1_1,?_⟩
 refine List.forall_mem_cons.2 ⟨ta_42_1_2,?_⟩
 refine List.forall_mem_cons.2 ⟨ta_42_1_3,?_⟩
 refine List.forall_mem_cons.2 ⟨ta_42_1_4,?_⟩
 refine List.forall_mem_cons.2 ⟨ta_42_1_5,?_⟩
 exact fun e he => nomatch he
theorem tm_43 : ∀ e ∈ tnT.getD 43 [],tnOk e := by
 show ∀ e ∈ [],tnOk e
 exact fun e he => nomatch he
theorem tm_44 : ∀ e ∈ tnT.getD 44 [],tnOk e := by
 show ∀ e ∈ [],tnOk e
 exact fun e he => nomatch he
theorem tm_45 : ∀ e ∈ tnT.getD 45 [],tnOk e := by
 show ∀ e ∈ [],tnOk e
 exact fun e he => nomatch he
theorem tm_46 : ∀ e ∈ tnT.getD 46 [],tnOk e := by
 show ∀ e ∈ [],tnOk e
 exact fun e he => nomatch he
theorem tm_47 : ∀ e ∈ tnT.getD 47 [],tnOk e := by
 show ∀ e ∈ [],tnOk e
 exact fun e he => nomatch he
theorem tm_48 : ∀ e ∈ tnT.getD 48 [],tnOk e := by
 show ∀ e ∈ [],tnOk e
 exact fun e he => nomatch he
theorem tm_49 : ∀ e ∈ tnT.getD 49 [],tnOk e := by
 show ∀ e ∈ [],tnOk e
 exact fun e he => nomatch he
theorem tm_50 : ∀ e ∈ tnT.getD 50 [],tnOk e := by
 show ∀ e ∈ [],tnOk e
 exact fun e he => nomatch he
theorem tm_51 : ∀ e ∈ tnT.getD 51 [],tnOk e := by
 show ∀ e ∈ [],tnOk e
 exact fun e he => nomatch he
theorem tm_52 : ∀ e ∈ tnT.getD 52 [],tnOk e := by
 show ∀ e ∈ [],tnOk e
 exact fun e he => nomatch he
theorem tm_53 : ∀ e ∈ tnT.getD 53 [],tnOk e := by
 show ∀ e ∈ [],tnOk e
 exact fun e he => nomatch he
theorem tm_54 : ∀ e ∈ tnT.getD 54 [],tnOk e := by
 show ∀ e ∈ [],tnOk e
 exact fun e he => nomatch he
theorem tm_55 : ∀ e ∈ tnT.getD 55 [],tnOk e := by
 show ∀ e ∈ [],tnOk e
 exact fun e he => nomatch he
theorem tm_56 : ∀ e ∈ tnT.getD 56 [],tnOk e := by
 show ∀ e ∈ [],tnOk e
 exact fun e he => nomatch he
theorem tm_57 : ∀ e ∈ tnT.getD 57 [],tnOk e := by
 show ∀ e ∈ [],tnOk e
 exact fun e he => nomatch he
theorem tm_58 : ∀ e ∈ tnT.getD 58 [],tnOk e := by
 show ∀ e ∈ [],tnOk e
 exact fun e he => nomatch he
theorem tm_59 : ∀ e ∈ tnT.getD 59 [],tnOk e := by
 show ∀ e ∈ [],tnOk e
 exact fun e he => nomatch he
theorem tm_60 : ∀ e ∈ tnT.getD 60 [],tnOk e := by
 show ∀ e ∈ [],tnOk e
 exact fun e he => nomatch he
theorem tm_mem : ∀ n ∈ [0,1,2,3,4,5,6,7,8,9,10,11,12,13,14,15,16,17,18,19,20,21,22,23,24,25,26,27,28,29,30,31,32,33,34,35,36,37,38,39,40,41,42,43,44,45,46,47,48,49,50,51,52,53,54,55,56,57,58,59,60],∀ e ∈ tnT.getD n [],tnOk e := by
 refine List.forall_mem_cons.2 ⟨tm_0,?_⟩
 refine List.forall_mem_cons.2 ⟨tm_1,?_⟩
 refine List.forall_mem_cons.2 ⟨tm_2,?_⟩
 refine List.forall_mem_cons.2 ⟨tm_3,?_⟩
 refine List.forall_mem_cons.2 ⟨tm_4,?_⟩
 refine List.forall_mem_cons.2 ⟨tm_5,?_⟩
 refine List.forall_mem_cons.2 ⟨tm_6,?_⟩
 refine List.forall_mem_cons.2 ⟨tm_7,?_⟩
 refine List.forall_mem_cons.2 ⟨tm_8,?_⟩
 refine List.forall_mem_cons.2 ⟨tm_9,?_⟩
 refine List.forall_mem_cons.2 ⟨tm_10,?_⟩
 refine List.forall_mem_cons.2 ⟨tm_11,?_⟩
 refine List.forall_mem_cons.2 ⟨tm_12,?_⟩
 refine List.forall_mem_cons.2 ⟨tm_13,?_⟩
 refine List.forall_mem_cons.2 ⟨tm_14,?_⟩
 refine List.forall_mem_cons.2 ⟨tm_15,?_⟩
 refine List.forall_mem_cons.2 ⟨tm_16,?_⟩
 refine List.forall_mem_cons.2 ⟨tm_17,?_⟩
 refine List.forall_mem_cons.2 ⟨tm_18,?_⟩
 refine List.forall_mem_cons.2 ⟨tm_19,?_⟩
 refine List.forall_mem_cons.2 ⟨tm_20,?_⟩
 refine List.forall_mem_cons.2 ⟨tm_21,?_⟩
 refine List.forall_mem_cons.2 ⟨tm_22,?_⟩
 refine List.forall_mem_cons.2 ⟨tm_23,?_⟩
 refine List.forall_mem_cons.2 ⟨tm_24,?_⟩
 refine List.forall_mem_cons.2 ⟨tm_25,?_⟩
 refine List.forall_mem_cons.2 ⟨tm_26,?_⟩
 refine List.forall_mem_cons.2 ⟨tm_27,?_⟩
 refine List.forall_mem_cons.2 ⟨tm_28,?_⟩
 refine List.forall_mem_cons.2 ⟨tm_29,?_⟩
 refine List.forall_mem_cons.2 ⟨tm_30,?_⟩
 refine List.forall_mem_cons.2 ⟨tm_31,?_⟩
 refine List.forall_mem_cons.2 ⟨tm_32,?_⟩
 refine List.forall_mem_cons.2 ⟨tm_33,?_⟩
 refine List.forall_mem_cons.2 ⟨tm_34,?_⟩
 refine List.forall_mem_cons.2 ⟨tm_35,?_⟩
 refine List.forall_mem_cons.2 ⟨tm_36,?_⟩
 refine List.forall_mem_cons.2 ⟨tm_37,?_⟩
 refine List.forall_mem_cons.2 ⟨tm_38,?_⟩
 refine List.forall_mem_cons.2 ⟨tm_39,?_⟩
 refine List.forall_mem_cons.2 ⟨tm_40,?_⟩
 refine List.forall_mem_cons.2 ⟨tm_41,?_⟩
 refine List.forall_mem_cons.2 ⟨tm_42,?_⟩
 refine List.forall_mem_cons.2 ⟨tm_43,?_⟩
 refine List.forall_mem_cons.2 ⟨tm_44,?_⟩
 refine List.forall_mem_cons.2 ⟨tm_45,?_⟩
 refine List.forall_mem_cons.2 ⟨tm_46,?_⟩
 refine List.forall_mem_cons.2 ⟨tm_47,?_⟩
 refine List.forall_mem_cons.2 ⟨tm_48,?_⟩
 refine List.forall_mem_cons.2 ⟨tm_49,?_⟩
 refine List.forall_mem_cons.2 ⟨tm_50,?_⟩
 refine List.forall_mem_cons.2 ⟨tm_51,?_⟩
 refine List.forall_mem_cons.2 ⟨tm_52,?_⟩
 refine List.forall_mem_cons.2 ⟨tm_53,?_⟩
 refine List.forall_mem_cons.2 ⟨tm_54,?_⟩
 refine List.forall_mem_cons.2 ⟨tm_55,?_⟩
 refine List.forall_mem_cons.2 ⟨tm_56,?_⟩
 refine List.forall_mem_cons.2 ⟨tm_57,?_⟩
 refine List.forall_mem_cons.2 ⟨tm_58,?_⟩
 refine List.forall_mem_cons.2 ⟨tm_59,?_⟩
 refine List.forall_mem_cons.2 ⟨tm_60,?_⟩
 exact fun n hn => nomatch hn
def tnFind (m : Nat) (v : List Nat) : Bool := (tnT.getD m []).any fun e => Nat.beq e.m m && eqN e.v v && tnP e
theorem tf_all : ((List.range 61).all fun m => (sml m).all (tnFind m)) = true := by decide +kernel
theorem tf_ok {m : Nat} (hm : m ≤ 60) {v : List Nat} (hv : v ∈ sml m) : ∃ e : TnE,tnOk e ∧ tnP e = true ∧ e.m = m ∧ e.v = v := by
 have h := List.all_eq_true.1 (List.all_eq_true.1 tf_all m (List.mem_range.2 (by omega))) v hv
 obtain ⟨e,he,h2⟩ := List.any_eq_true.1 h
 rw [Bool.and_eq_true,Bool.and_eq_true,Nat.beq_eq] at h2
 refine ⟨e,tm_mem m ?_ e he,h2.2,h2.1.1,eqN_ok h2.1.2⟩
 have : m ∈ List.range 61 := List.mem_range.2 (by omega)
 exact this
structure TnG (e : TnE) : Prop where
 ga : PureGood Tryz.prog 16 [chV e.m e.v] (.tup [.sl e.g.length (qc (rz e.g)),i64 e.n,i64 0])
 od : PureGood Tryz.prog 29 [chV e.m e.v] (.tup [i64 e.o,i64 0])
 cj : PureGood Tryz.prog 24 [chV e.m e.v] (.tup [chV e.m e.y,i64 0])
 no : PureGood Tryz.prog 60 [i64 e.n,.sl e.g.length (qc (rz e.g))] (.sl e.g.length (qc (rz e.g)))
 ck : PureGood Tryz.prog 58 [i64 e.n] (i64 0)
 sz : ∀ z ∈ e.g,okZ z = true
theorem tnG_ok {e : TnE} (h : tnG e = true) : TnG e := by
 unfold tnG at h
 simp only [Bool.and_eq_true] at h
 obtain ⟨⟨⟨⟨h1,h2⟩,h3⟩,h4⟩,h5⟩ := h
 have hs : ∀ z ∈ e.g,okZ z = true := by
  unfold tnGa at h1
  split at h1
  ·rw [Bool.and_eq_true] at h1
   exact (elIs_ok h1.2).2
  ·cases h1
 refine ⟨?_,?_,?_,?_,?_,hs⟩
 ·unfold tnGa at h1
  split at h1
  ·rename_i r c z he
   rw [Bool.and_eq_true,Bool.and_eq_true,Nat.beq_eq,Nat.beq_eq] at h1
   obtain ⟨⟨rfl,rfl⟩,h1⟩ := h1
   rw [(elIs_ok h1).1] at he
   exact evo_good orcU_ok he
  ·cases h1
 ·exact evo_good orcU_ok (i2_ok h2)
 ·unfold tnCj at h3
  split at h3
  ·rename_i c k cs z he
   split at h3
   ·rename_i l hl
    rw [Bool.and_eq_true,Bool.and_eq_true,Bool.and_eq_true,Nat.beq_eq,Nat.beq_eq,Nat.beq_eq] at h3
    obtain ⟨⟨⟨rfl,rfl⟩,rfl⟩,h3⟩ := h3
    have := eqN_ok h3
    obtain ⟨rfl,_⟩ := rdNs_ok hl
    subst this
    rw [chV_eq e.m e.y,nI_len]
    exact evo_good orcU_ok he
   ·cases h3
  ·cases h3
 ·unfold tnNo at h4
  split at h4
  ·rename_i r he
   rw [(elIs_ok h4).1,wrZL_sl hs] at he
   exact evo_good orcU_ok he
  ·cases h4
 ·unfold tnCk at h5
  split at h5
  ·rename_i z he
   rw [Nat.beq_eq] at h5
   subst h5
   exact evo_good orcU_ok he
  ·cases h5
structure TnR (e : TnE) (k x y : Nat) (u a : List Int) : Prop where
 im : PureGood Tryz.prog 59 [i64 e.n,i64 k,.sl e.g.length (qc (rz e.g))] (.sl a.length (qc (rz a)))
 el : PureGood Tryz.prog 21 [i64 e.n,.agg [bl false,i64 x,i64 y]] (.tup [.sl u.length (qc (rz u)),i64 0])
 pr : PureGood Tryz.prog 26 [i64 e.n,.sl u.length (qc (rz u)),.sl e.g.length (qc (rz e.g))] (.tup [.sl a.length (qc (rz a)),bl true])
 sz : ∀ z ∈ a,okZ z = true
theorem tnR_ok {e : TnE} {k x y : Nat} {u a : List Int} (hs : ∀ z ∈ e.g,okZ z = true) (h : tnR e (k,x,y,u,a) = true) : TnR e k x y u a := by
 have h : (tnIm e k a && tnEl e x y u && tnPr e u a) = true := h
 rw [Bool.and_eq_true,Bool.and_eq_true] at h
 obtain ⟨⟨h1,h2⟩,h3⟩ := h
 have hu : ∀ z ∈ u,okZ z = true := by
  unfold tnEl at h2
  split at h2
  ·rw [Bool.and_eq_true] at h2
   exact (elIs_ok h2.2).2
  ·cases h2
 have ha : ∀ z ∈ a,okZ z = true := by
  unfold tnIm at h1
  split at h1
  ·exact (elIs_ok h1).2
  ·cases h1
 refine ⟨?_,?_,?_,ha⟩
 ·unfold tnIm at h1
  split at h1
  ·rename_i r he
   rw [(elIs_ok h1).1,wrZL_sl hs] at he
   exact evo_good orcU_ok he
  ·cases h1
 ·unfold tnEl at h2
  split at h2
  ·rename_i r z he
   rw [Bool.and_eq_true,Nat.beq_eq] at h2
   obtain ⟨rfl,h2⟩ := h2
   rw [(elIs_ok h2).1] at he
   exact evo_good orcU_ok he
  ·cases h2
 ·unfold tnPr at h3
  split at h3
  ·rename_i r b he
   rw [Bool.and_eq_true] at h3
   obtain ⟨rfl,h3⟩ := h3
   rw [(elIs_ok h3).1,wrZL_sl hs,wrZL_sl hu] at he
   exact evo_good orcU_ok he
  ·cases h3
theorem same_rz {a : List Int} (h : ∀ z ∈ a,okZ z = true) (hl : a.length ≤ 1000000000) : PureGood Tryz.prog 18 [.sl a.length (qc (rz a)),.sl a.length (qc (rz a))] (.lit (.bool true)) := by
 have := sameRats_self (rz a) (fun c hc => by
  obtain ⟨z,hz,rfl⟩ := List.mem_map.1 hc
  have := tiny_lq (okZ_tiny (h z hz))
  omega) (by rw [rz_len];exact hl)
 rw [encF_qc,rz_len] at this
 exact this
theorem tmod_row {t : Int} {o n : Nat} (ho : 1 ≤ o) (hn : 1 ≤ n) (h : n % o = 0) : ∃ j,j < n / o ∧ (1 + t * o) % (n : Int) = (((1 + j * o) % n : Nat) : Int) := by
 obtain ⟨c,rfl⟩ := Nat.dvd_of_mod_eq_zero h
 rw [Nat.mul_div_cancel_left _ (by omega)]
 have hc : 0 < c := by
  rcases Nat.eq_zero_or_pos c with rfl | h
  ·simp at hn
  ·exact h
 have h1 : 0 ≤ t % (c : Int) := Int.emod_nonneg _ (by omega)
 have h2 : t % (c : Int) < c := Int.emod_lt_of_pos _ (by omega)
 refine ⟨(t % (c : Int)).toNat,by omega,?_⟩
 have e : ((t % (c : Int)).toNat : Int) = t % (c : Int) := by omega
 have e2 : t = (c : Int) * (t / c) + t % c := (Int.mul_ediv_add_emod t c).symm
 have e3 : 1 + t * (o : Int) = (1 : Int) + t % c * o + ((o : Int) * (c : Int)) * (t / c) := by
  have e5 : t * (o : Int) = ((c : Int) * (t / c) + t % c) * o := by rw [← e2]
  rw [e5,Int.add_mul]
  have e6 : (c : Int) * (t / c) * o = (o : Int) * c * (t / c) := by rw [Int.mul_right_comm,Int.mul_comm (c : Int) o]
  omega
 simp only [Int.natCast_emod,Int.natCast_add,Int.natCast_mul,e]
 rw [e3,Int.add_mul_emod_self_left]
 rfl
attribute [local irreducible] evo
theorem turns_small {m : Nat} (m1 : 1 ≤ m) (m2 : m ≤ 60) {v : List Nat} (hv : v ∈ sml m) (hl : ¬ 100 < (nI v).length) (t : Int) (ht : -32768 ≤ t ∧ t ≤ 32767) : PureGood Tryz.prog 9 [.agg [i64 m,.sl (nI v).length (ec (nI v))],i16 t] (.lit (.bool true)) := by
 obtain ⟨e,⟨hg,hr⟩,hp,rfl,rfl⟩ := tf_ok m2 hv
 have G := tnG_ok hg
 unfold tnP at hp
 simp only [Bool.and_eq_true,Nat.beq_eq,Nat.ble_eq] at hp
 obtain ⟨⟨⟨⟨⟨⟨⟨⟨p1,p0⟩,p2⟩,p3⟩,p4⟩,p5⟩,p6⟩,p7⟩,p8⟩ := hp
 obtain ⟨v1,v2⟩ := okV_get p1
 have g1 := G.ga
 have g2 := G.od
 have g3 := G.cj
 rw [chV_eq] at g1 g2 g3
 rw [chV_eq] at g3
 by_cases hgc : Int.gcd (1 + t * e.o) e.n = 1
 ·obtain ⟨j,hj,hk⟩ := tmod_row (t := t) p6 p4 p3
  have h8 := List.all_eq_true.1 p8 j (List.mem_range.2 hj)
  rw [fNat_eq] at h8
  generalize hk0 : (1 + j * e.o) % e.n = k0 at *
  have hkk : (1 + t * (e.o : Int)) % (e.n : Int) = (k0 : Int) % (e.n : Int) := by rw [← hk,Int.emod_emod]
  have hgk : Nat.gcd k0 e.n = 1 := by
   have := gcd_mod hkk
   rw [hgc] at this
   exact this.symm
  rw [hgk] at h8
  rw [Bool.or_eq_true] at h8
  rcases h8 with h8 | h8
  ·cases h8
  ·obtain ⟨⟨k,x,y,u,a⟩,hrow,h9⟩ := List.any_eq_true.1 h8
   rw [Bool.and_eq_true,Bool.and_eq_true,Nat.beq_eq,Nat.ble_eq] at h9
   obtain ⟨⟨h9,h10⟩,h11⟩ := h9
   simp only at h9 h10 h11
   subst h9
   have R := tnR_ok G.sz (List.all_eq_true.1 hr _ hrow)
   have hva : vf e.m e.y (1 + t * e.o) (od e.m).length = (x,y) := by
    rw [vf_mod m2 p2 e.y hkk _ (Nat.le_refl _)]
    unfold vIs at h10
    have := vK_eq e.m e.y (k : Int) (od e.m).length 0
    rw [Nat.zero_add] at this
    have e0 : vf e.m e.y (k : Int) 0 = (0,1) := rfl
    rw [e0] at this
    rw [this] at h10
    simp only [Bool.and_eq_true,Nat.beq_eq] at h10
    exact Prod.ext h10.1 h10.2
   have b1 : -1966080 ≤ t * e.o ∧ t * e.o ≤ 1966080 := by
    constructor
    ·have := Int.mul_le_mul_of_nonneg_right (a := -32768) (b := t) (c := e.o) ht.1 (by omega)
     omega
    ·have := Int.mul_le_mul_of_nonneg_right (a := t) (b := 32767) (c := e.o) ht.2 (by omega)
     omega
   have hvv := value_yes m1 m2 v1 v2 (1 + t * e.o) (by omega) (gcd_sub p2 hgc)
   rw [hva] at hvv
   have hb : ChB (e.m : Int) (nI e.y) := ⟨by omega,by rw [nI_len,v1];have := (tb (m := e.m) m2).2.2.1;omega⟩
   have hce : cerr (e.m : Int) (nI e.y) = 0 := by
    unfold cerr
    rw [if_pos ⟨by omega,by omega⟩,Int.toNat_natCast,if_pos (by rw [nI_len,v1]),if_pos (fun i hi => ?_)]
    rw [nI_len] at hi
    have := Nat.le_of_ble_eq_true (List.all_eq_true.1 p0 i (List.mem_range.2 hi))
    rw [nI_get]
    omega
   have hval := dvalue_of hb hce (by omega) hvv
   have hgal := galois_of p4 p5 (k := 1 + t * e.o) (by omega) hk hgk G.ck G.no R.im
   have la : a.length ≤ 1000000000 := by omega
   exact lawTurns_yes hl ht ⟨p6,p7⟩ ⟨p4,p5⟩ g1 g2 hgc hgal g3 hval R.el R.pr (same_rz R.sz la)
 ·exact lawTurns_skip hl ht ⟨p6,p7⟩ ⟨p4,p5⟩ g1 g2 hgc
theorem lawTurns_good (m : Int) (l : List Int) (hm : -9223372036854775808 ≤ m ∧ m ≤ 9223372036854775807) (t : Int) (ht : -32768 ≤ t ∧ t ≤ 32767) : PureGood Tryz.prog 9 [.agg [i64 m,.sl l.length (ec l)],i16 t] (.lit (.bool true)) := by
 by_cases h1 : 100 < l.length
 ·exact lawTurns_many h1
 ·have hb : ChB m l := ⟨hm,by omega⟩
  by_cases he : cerr m l = 0
  ·obtain ⟨n,rfl,n1,n2,v,hv,rfl⟩ := cerr_ok he
   rcases chkB_ok (gb_all n1 n2 hv) with h | ⟨h2,h3⟩
   ·exact turns_small n1 n2 h h1 t ht
   ·obtain ⟨p1,o1,_⟩ := chkOr_ok (jo_all n1 n2 hv)
    exact lawTurns_err h1 (by decide) (gauss_err7 h2 h3).1 o1
  ·exact lawTurns_err h1 he (gauss_err hb he) (order_err hb he)
end Go.Proofs.YtlbckpljefadpaaGreat
namespace Go.Proofs.YtlbckpljefadpaaGreat
open Go Go.Lg Go.ChangeShapes Go.WideShapes Go.ChangeAt Go.RowKit
set_option maxRecDepth 100000
theorem own : ownKnob Tryz.prog.godebug = none := by kernel_rfl
theorem cChr : Tryz.prog.cellsOf 24 = 2 := by kernel_rfl
theorem cInt : Tryz.prog.cellsOf 3 = 1 := by kernel_rfl
theorem cInts : Tryz.prog.cellsOf 22 = 1 := by kernel_rfl
theorem tsChr : Tryz.prog.cellTypes Tryz.prog.depth 24 = some [3,22] := by kernel_rfl
theorem rep_ints {W : World} {a : Addr} {len cap : Nat} {zs : List Int} (hs : a.spot = none) (hl : len ≤ zs.length) (hc : len ≤ cap) (hm : cap ≤ maxLen) (hcell : ∀ i, i < zs.length → W.cell? (a.add i) = some (.int .i64 (zs.getD i 0))) :
  Rep (fun g => g < W.heap.size) W.heap (fun _ => none) (.sl (zs.take len).length (ec (zs.take len))) (.slice (some a) len cap) := by
 have e : (zs.take len).length = len := by rw [List.length_take,Nat.min_eq_left hl]
 rw [e]
 refine Rep.sl (us := (zs.take len).map fun z => Value.int .i64 z) hc hm hs (by simp [ec]) ?_ ?_ ?_
 ·intro j u hu
  rw [List.getElem?_map] at hu
  obtain ⟨z,hz,rfl⟩ := Option.map_eq_some_iff.1 hu
  have hj : j < (zs.take len).length := (List.getElem?_eq_some_iff.1 hz).1
  have hj2 : j < zs.length := by rw [e] at hj;omega
  have hzj : zs.getD j 0 = z := by
   rw [List.getElem?_take,if_pos (by rw [e] at hj;exact hj)] at hz
   simp [List.getD,hz]
  have h := hcell j hj2
  rw [cell?_eq' W a hs j,hzj] at h
  refine ⟨?_,h⟩
  unfold cellAt at h
  cases hh : W.heap[a.block]? with
  | none => rw [hh] at h;cases h
  | some o => exact (Array.getElem?_eq_some_iff.1 hh).1
 ·intro u hu
  obtain ⟨z,_,rfl⟩ := List.mem_map.1 hu
  rfl
 ·intro j c u hc hu
  rw [ec,List.getElem?_map] at hc
  rw [List.getElem?_map] at hu
  obtain ⟨z,hz,rfl⟩ := Option.map_eq_some_iff.1 hc
  rw [hz] at hu
  cases hu
  exact .lit _
theorem open_chr {H : Type} {enc : TypeId × Value → H} {W : World} {b0 : Nat} {v : Value} {d : DataW H} {ps : List MemPlace} (hval : Value.okWide Tryz.prog W .any b0 24 v) (hd : DataW.Trod enc Tryz.prog W 0 (fun _ => true) true 24 v d ps) :
  ∃ (lv : Int) (xs : List Int), (Lit.int .i64 lv).wf = true ∧ Rep (fun g => g < W.heap.size) W.heap (fun _ => none) (.agg [.lit (.int .i64 lv), .sl xs.length (ec xs)]) v ∧
    ∀ W' : World,(∀ i,i < W.heap.size → W'.heap[i]? = W.heap[i]?) → ∃ ps',DataW.Trod enc Tryz.prog W' 0 (fun b => decide (b < W.heap.size)) true 24 v d ps' := by
 simp only [Value.okWide,Tryz.underlying24] at hval
 obtain ⟨cs,rfl,h2,ts,hts,_,hrow⟩ := hval
 rw [tsChr] at hts
 cases hts
 rw [cChr] at h2
 obtain ⟨fuel,hf⟩ := hd
 obtain ⟨y0,y1,n,hx,hlen,e0,e1⟩ := trod_struct2 Tryz.underlying24 hf
 have hc0 : (Value.agg cs).cells = cs := rfl
 rw [hc0] at e0 e1 hlen
 obtain ⟨c0,c1,hcs⟩ : ∃ c0 c1,cs = #[c0,c1] := by
  obtain ⟨l⟩ := cs
  match l,h2 with
  | [c0,c1],_ => exact ⟨c0,c1,rfl⟩
 subst hcs
 simp only [cInt,cInts,List.drop_zero,List.drop_succ_cons,List.take_succ_cons,List.take_zero] at e0 e1
 obtain ⟨lv,a1,rfl,hw⟩ := DataW.trod_int Tryz.underlying3 e0
 simp only [List.cons.injEq,and_true] at a1
 subst a1
 have r1 := hrow 1 c1 rfl
 obtain ⟨u,hu,hcell⟩ := r1
 simp only [List.length_cons,List.length_nil,Nat.reduceAdd,Nat.reduceMod,List.getElem?_cons_succ,List.getElem?_cons_zero,Option.some.injEq] at hu
 subst hu
 obtain ⟨hx1,hx2⟩ := Prod.mk.inj hx
 rcases open_ints Tryz.underlying22 Tryz.underlying3 cInt e1 with ⟨b1,rfl⟩ | ⟨a,len,cap,zs,b1,hb,hl,hm,hz,rfl,hcl,hwf⟩
 ·simp only [List.cons.injEq,and_true] at b1
  subst b1
  refine ⟨lv,[],hw,?_,fun W' _ => ⟨ps,2,?_⟩⟩
  ·refine Rep.agg (us := [.int .i64 lv,.slice none 0 0]) rfl (by simp [Value.oneCell']) ?_
   intro j c u hc hu
   match j with
   | 0 => simp at hc hu;subst hc;subst hu;exact .lit _
   | 1 => simp at hc hu;subst hc;subst hu;exact .snil
   | j + 2 => simp at hc
  ·rw [hx1,hx2]
   refine trod_struct2_mk (y0 := (.lit (.int .i64 lv),[])) (y1 := (.nil,[])) Tryz.underlying24 hlen ?_ ?_
   ·rw [hc0]
    simp only [cInt,List.drop_zero,List.take_succ_cons,List.take_zero]
    exact trod_int_mk 0 Tryz.underlying3 hw
   ·rw [hc0]
    simp only [cInts,List.drop_zero,List.drop_succ_cons,List.take_succ_cons,List.take_zero]
    simp [DataW.trod,Tryz.underlying22]
 ·simp only [List.cons.injEq,and_true] at b1
  subst b1
  simp only [if_true] at hz
  have hspot : a.spot = none := by
   simp only [Cell.okWide,Cell.ok,Tryz.underlying22] at hcell
   exact hcell.2.2.2.1
  refine ⟨lv,zs.take len,hw,?_,fun W' hk => ⟨ps,3,?_⟩⟩
  ·refine Rep.agg (us := [.int .i64 lv,.slice (some a) len cap]) rfl (by simp [Value.oneCell']) ?_
   intro j c u hc hu
   match j with
   | 0 => simp at hc hu;subst hc;subst hu;exact .lit _
   | 1 => simp at hc hu;subst hc;subst hu;exact (by simpa using rep_ints hspot (by omega) hl hm hcl)
   | j + 2 => simp at hc
  ·rw [hx1,hx2]
   have hblk : ∀ i,i < zs.length → a.block < W.heap.size := fun i hi => by
    have h := hcl i hi
    rw [cell?_eq' W a hspot i] at h
    unfold cellAt at h
    cases hh : W.heap[a.block]? with
    | none => rw [hh] at h;cases h
    | some o => exact (Array.getElem?_eq_some_iff.1 hh).1
   refine trod_struct2_mk (y0 := (.lit (.int .i64 lv),[])) (y1 := (.slice (lits .i64 (zs.take len)) (lits .i64 (zs.drop len)),MemPlace.row a zs.length)) Tryz.underlying24 hlen ?_ ?_
   ·rw [hc0]
    simp only [cInt,List.drop_zero,List.take_succ_cons,List.take_zero]
    exact trod_int_mk 1 Tryz.underlying3 hw
   ·rw [hc0]
    simp only [cInts,List.drop_zero,List.drop_succ_cons,List.take_succ_cons,List.take_zero]
    refine shut_ints 0 Tryz.underlying22 Tryz.underlying3 cInt hb hl hm ?_ (fun i hi => ?_) hwf
    ·by_cases hbs : a.block < W.heap.size
     ·simp [hbs,hz]
     ·have : zs.length = 0 := by
       rcases Nat.eq_zero_or_pos zs.length with h | h
       ·exact h
       ·exact absurd (hblk 0 h) hbs
      simp [hbs];omega
    ·rw [cell?_eq' W' a hspot i,cellAt_same (hk _ (hblk i hi)),← cell?_eq' W a hspot i]
     exact hcl i hi
end Go.Proofs.YtlbckpljefadpaaGreat