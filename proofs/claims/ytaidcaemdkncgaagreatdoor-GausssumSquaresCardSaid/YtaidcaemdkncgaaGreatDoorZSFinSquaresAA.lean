/- Contracts of functions of the program, and what proves them (texts: SQ). -/
import Derived.Test.YtaidcaemdkncgaaGreatDoorZSAZ
import Derived.Test.YtaidcaemdkncgaaGreatDoorZSBA
import Derived.Test.YtaidcaemdkncgaaGreatDoorZSBB
import Derived.Test.YtaidcaemdkncgaaGreatDoorZSBC
import Derived.Test.YtaidcaemdkncgaaGreatDoorZSBD
import Derived.Test.YtaidcaemdkncgaaGreatDoorZSBE
set_option linter.all false
set_option maxRecDepth 100000
set_option maxHeartbeats 8000000
namespace Go.Proofs.YtaidcaemdkncgaaGreatDoor
open Go Go.Lg Go.Num
theorem sq_all : ∀ i ∈ [0,1,2,3,4,5,6,7,8,9,10,11,12,13,14,15,16,17,18,19,20,21,22,23,24,25,26,27,28,29,30,31,32,33,34,35,36,37,38,39,40,41,42,43,44,45,46,47,48,49,50,51,52,53,54,55,56,57,58,59,60,61,62,63,64,65,66,67,68,69,70,71,72,73,74,75,76,77,78,79,80,81,82,83,84,85,86,87,88,89,90,91,92,93,94,95,96,97,98,99,100,101,102,103,104,105,106,107,108,109,110,111,112,113,114,115,116,117,118,119,120],chkSi i = true := by
 refine List.forall_mem_cons.2 ⟨sq_0,?_⟩
 refine List.forall_mem_cons.2 ⟨sq_1,?_⟩
 refine List.forall_mem_cons.2 ⟨sq_2,?_⟩
 refine List.forall_mem_cons.2 ⟨sq_3,?_⟩
 refine List.forall_mem_cons.2 ⟨sq_4,?_⟩
 refine List.forall_mem_cons.2 ⟨sq_5,?_⟩
 refine List.forall_mem_cons.2 ⟨sq_6,?_⟩
 refine List.forall_mem_cons.2 ⟨sq_7,?_⟩
 refine List.forall_mem_cons.2 ⟨sq_8,?_⟩
 refine List.forall_mem_cons.2 ⟨sq_9,?_⟩
 refine List.forall_mem_cons.2 ⟨sq_10,?_⟩
 refine List.forall_mem_cons.2 ⟨sq_11,?_⟩
 refine List.forall_mem_cons.2 ⟨sq_12,?_⟩
 refine List.forall_mem_cons.2 ⟨sq_13,?_⟩
 refine List.forall_mem_cons.2 ⟨sq_14,?_⟩
 refine List.forall_mem_cons.2 ⟨sq_15,?_⟩
 refine List.forall_mem_cons.2 ⟨sq_16,?_⟩
 refine List.forall_mem_cons.2 ⟨sq_17,?_⟩
 refine List.forall_mem_cons.2 ⟨sq_18,?_⟩
 refine List.forall_mem_cons.2 ⟨sq_19,?_⟩
 refine List.forall_mem_cons.2 ⟨sq_20,?_⟩
 refine List.forall_mem_cons.2 ⟨sq_21,?_⟩
 refine List.forall_mem_cons.2 ⟨sq_22,?_⟩
 refine List.forall_mem_cons.2 ⟨sq_23,?_⟩
 refine List.forall_mem_cons.2 ⟨sq_24,?_⟩
 refine List.forall_mem_cons.2 ⟨sq_25,?_⟩
 refine List.forall_mem_cons.2 ⟨sq_26,?_⟩
 refine List.forall_mem_cons.2 ⟨sq_27,?_⟩
 refine List.forall_mem_cons.2 ⟨sq_28,?_⟩
 refine List.forall_mem_cons.2 ⟨sq_29,?_⟩
 refine List.forall_mem_cons.2 ⟨sq_30,?_⟩
 refine List.forall_mem_cons.2 ⟨sq_31,?_⟩
 refine List.forall_mem_cons.2 ⟨sq_32,?_⟩
 refine List.forall_mem_cons.2 ⟨sq_33,?_⟩
 refine List.forall_mem_cons.2 ⟨sq_34,?_⟩
 refine List.forall_mem_cons.2 ⟨sq_35,?_⟩
 refine List.forall_mem_cons.2 ⟨sq_36,?_⟩
 refine List.forall_mem_cons.2 ⟨sq_37,?_⟩
 refine List.forall_mem_cons.2 ⟨sq_38,?_⟩
 refine List.forall_mem_cons.2 ⟨sq_39,?_⟩
 refine List.forall_mem_cons.2 ⟨sq_40,?_⟩
 refine List.forall_mem_cons.2 ⟨sq_41,?_⟩
 refine List.forall_mem_cons.2 ⟨sq_42,?_⟩
 refine List.forall_mem_cons.2 ⟨sq_43,?_⟩
 refine List.forall_mem_cons.2 ⟨sq_44,?_⟩
 refine List.forall_mem_cons.2 ⟨sq_45,?_⟩
 refine List.forall_mem_cons.2 ⟨sq_46,?_⟩
 refine List.forall_mem_cons.2 ⟨sq_47,?_⟩
 refine List.forall_mem_cons.2 ⟨sq_48,?_⟩
 refine List.forall_mem_cons.2 ⟨sq_49,?_⟩
 refine List.forall_mem_cons.2 ⟨sq_50,?_⟩
 refine List.forall_mem_cons.2 ⟨sq_51,?_⟩
 refine List.forall_mem_cons.2 ⟨sq_52,?_⟩
 refine List.forall_mem_cons.2 ⟨sq_53,?_⟩
 refine List.forall_mem_cons.2 ⟨sq_54,?_⟩
 refine List.forall_mem_cons.2 ⟨sq_55,?_⟩
 refine List.forall_mem_cons.2 ⟨sq_56,?_⟩
 refine List.forall_mem_cons.2 ⟨sq_57,?_⟩
 refine List.forall_mem_cons.2 ⟨sq_58,?_⟩
 refine List.forall_mem_cons.2 ⟨sq_59,?_⟩
 refine List.forall_mem_cons.2 ⟨sq_60,?_⟩
 refine List.forall_mem_cons.2 ⟨sq_61,?_⟩
 refine List.forall_mem_cons.2 ⟨sq_62,?_⟩
 refine List.forall_mem_cons.2 ⟨sq_63,?_⟩
 refine List.forall_mem_cons.2 ⟨sq_64,?_⟩
 refine List.forall_mem_cons.2 ⟨sq_65,?_⟩
 refine List.forall_mem_cons.2 ⟨sq_66,?_⟩
 refine List.forall_mem_cons.2 ⟨sq_67,?_⟩
 refine List.forall_mem_cons.2 ⟨sq_68,?_⟩
 refine List.forall_mem_cons.2 ⟨sq_69,?_⟩
 refine List.forall_mem_cons.2 ⟨sq_70,?_⟩
 refine List.forall_mem_cons.2 ⟨sq_71,?_⟩
 refine List.forall_mem_cons.2 ⟨sq_72,?_⟩
 refine List.forall_mem_cons.2 ⟨sq_73,?_⟩
 refine List.forall_mem_cons.2 ⟨sq_74,?_⟩
 refine List.forall_mem_cons.2 ⟨sq_75,?_⟩
 refine List.forall_mem_cons.2 ⟨sq_76,?_⟩
 refine List.forall_mem_cons.2 ⟨sq_77,?_⟩
 refine List.forall_mem_cons.2 ⟨sq_78,?_⟩
 refine List.forall_mem_cons.2 ⟨sq_79,?_⟩
 refine List.forall_mem_cons.2 ⟨sq_80,?_⟩
 refine List.forall_mem_cons.2 ⟨sq_81,?_⟩
 refine List.forall_mem_cons.2 ⟨sq_82,?_⟩
 refine List.forall_mem_cons.2 ⟨sq_83,?_⟩
 refine List.forall_mem_cons.2 ⟨sq_84,?_⟩
 refine List.forall_mem_cons.2 ⟨sq_85,?_⟩
 refine List.forall_mem_cons.2 ⟨sq_86,?_⟩
 refine List.forall_mem_cons.2 ⟨sq_87,?_⟩
 refine List.forall_mem_cons.2 ⟨sq_88,?_⟩
 refine List.forall_mem_cons.2 ⟨sq_89,?_⟩
 refine List.forall_mem_cons.2 ⟨sq_90,?_⟩
 refine List.forall_mem_cons.2 ⟨sq_91,?_⟩
 refine List.forall_mem_cons.2 ⟨sq_92,?_⟩
 refine List.forall_mem_cons.2 ⟨sq_93,?_⟩
 refine List.forall_mem_cons.2 ⟨sq_94,?_⟩
 refine List.forall_mem_cons.2 ⟨sq_95,?_⟩
 refine List.forall_mem_cons.2 ⟨sq_96,?_⟩
 refine List.forall_mem_cons.2 ⟨sq_97,?_⟩
 refine List.forall_mem_cons.2 ⟨sq_98,?_⟩
 refine List.forall_mem_cons.2 ⟨sq_99,?_⟩
 refine List.forall_mem_cons.2 ⟨sq_100,?_⟩
 refine List.forall_mem_cons.2 ⟨sq_101,?_⟩
 refine List.forall_mem_cons.2 ⟨sq_102,?_⟩
 refine List.forall_mem_cons.2 ⟨sq_103,?_⟩
 refine List.forall_mem_cons.2 ⟨sq_104,?_⟩
 refine List.forall_mem_cons.2 ⟨sq_105,?_⟩
 refine List.forall_mem_cons.2 ⟨sq_106,?_⟩
 refine List.forall_mem_cons.2 ⟨sq_107,?_⟩
 refine List.forall_mem_cons.2 ⟨sq_108,?_⟩
 refine List.forall_mem_cons.2 ⟨sq_109,?_⟩
 refine List.forall_mem_cons.2 ⟨sq_110,?_⟩
 refine List.forall_mem_cons.2 ⟨sq_111,?_⟩
 refine List.forall_mem_cons.2 ⟨sq_112,?_⟩
 refine List.forall_mem_cons.2 ⟨sq_113,?_⟩
 refine List.forall_mem_cons.2 ⟨sq_114,?_⟩
 refine List.forall_mem_cons.2 ⟨sq_115,?_⟩
 refine List.forall_mem_cons.2 ⟨sq_116,?_⟩
 refine List.forall_mem_cons.2 ⟨sq_117,?_⟩
 refine List.forall_mem_cons.2 ⟨sq_118,?_⟩
 refine List.forall_mem_cons.2 ⟨sq_119,?_⟩
 refine List.forall_mem_cons.2 ⟨sq_120,?_⟩
 exact fun n hn => nomatch hn
theorem lawSquares_good (d : Int) (hd : -9223372036854775808 ≤ d ∧ d ≤ 9223372036854775807) : PureGood Tryz.prog 3 [i64 d] (.lit (.bool true)) := by
 by_cases h : d < -60 ∨ 60 < d
 ·exact lawSquares_far d hd h
 ·have hm : (d + 60).toNat ∈ List.range 121 := List.mem_range.2 (by omega)
  have h2 := sq_all (d + 60).toNat hm
  unfold chkSi at h2
  have e : Int.sub (Int.ofNat (d + 60).toNat) 60 = d := by
   show ((d + 60).toNat : Int) - 60 = d
   omega
  rw [e] at h2
  exact chkSq_ok h2
end Go.Proofs.YtaidcaemdkncgaaGreatDoor