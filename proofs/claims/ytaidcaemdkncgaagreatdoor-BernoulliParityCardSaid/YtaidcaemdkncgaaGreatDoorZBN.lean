/- Contracts of functions of the program, and what proves them (texts: BC10). -/
import Derived.Test.YtaidcaemdkncgaaGreatDoorZBF
import Derived.Test.YtaidcaemdkncgaaGreatDoorZBG
import Derived.Test.YtaidcaemdkncgaaGreatDoorZBH
import Derived.Test.YtaidcaemdkncgaaGreatDoorZBI
import Derived.Test.YtaidcaemdkncgaaGreatDoorZBJ
import Derived.Test.YtaidcaemdkncgaaGreatDoorZBK
import Derived.Test.YtaidcaemdkncgaaGreatDoorZBL
import Derived.Test.YtaidcaemdkncgaaGreatDoorZBM
set_option linter.all false
set_option maxRecDepth 100000
set_option maxHeartbeats 8000000
namespace Go.Proofs.YtaidcaemdkncgaaGreatDoor
open Go Go.Lg Go.Num
theorem bc_mem : ∀ n ∈ [1,2,3,4,5,6,7,8,9,10,11,12,13,14,15,16,17,18,19,20,21,22,23,24,25,26,27,28,29,30,31,32,33,34,35,36,37,38,39,40,41,42,43,44,45,46,47,48,49,50,51,52,53,54,55,56,57,58,59,60],(prodN (od n)).all (chkBC n) = true := by
 simp only [List.forall_mem_cons]
 exact ⟨bc_1,bc_2,bc_3,bc_4,bc_5,bc_6,bc_7,bc_8,bc_9,bc_10,bc_11,bc_12,bc_13,bc_14,bc_15,bc_16,bc_17,bc_18,bc_19,bc_20,bc_21,bc_22,bc_23,bc_24,bc_25,bc_26,bc_27,bc_28,bc_29,bc_30,bc_31,bc_32,bc_33,bc_34,bc_35,bc_36,bc_37,bc_38,bc_39,bc_40,bc_41,bc_42,bc_43,bc_44,bc_45,bc_46,bc_47,bc_48,bc_49,bc_50,bc_51,bc_52,bc_53,bc_54,bc_55,bc_56,bc_57,bc_58,bc_59,bc_60,by simp⟩
theorem bc_all {n : Nat} (h1 : 1 ≤ n) (h2 : n ≤ 60) {v : List Nat} (hv : v ∈ prodN (od n)) : chkBC n v = true := by
 have h := bc_mem n (by
  have : n ∈ List.range' 1 60 := by rw [List.mem_range'_1];omega
  exact this)
 exact List.all_eq_true.1 h v hv
end Go.Proofs.YtaidcaemdkncgaaGreatDoor