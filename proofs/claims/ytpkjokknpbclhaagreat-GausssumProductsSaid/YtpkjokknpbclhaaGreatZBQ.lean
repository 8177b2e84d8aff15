/- Contracts of functions of the program, and what proves them (texts: JO). -/
import Derived.Test.YtpkjokknpbclhaaGreatZBO
import Derived.Test.YtpkjokknpbclhaaGreatZBP
set_option linter.all false
namespace Go.Proofs.YtpkjokknpbclhaaGreat
open Go Go.Lg Go.Num
set_option maxRecDepth 100000
theorem jo_mem : ∀ n ∈ [1,2,3,4,5,6,7,8,9,10,11,12,13,14,15,16,17,18,19,20,21,22,23,24,25,26,27,28,29,30,31,32,33,34,35,36,37,38,39,40,41,42,43,44,45,46,47,48,49,50,51,52,53,54,55,56,57,58,59,60],(prodN (od n)).all (chkOr n) = true := by
 simp only [List.forall_mem_cons]
 exact ⟨jo_1,jo_2,jo_3,jo_4,jo_5,jo_6,jo_7,jo_8,jo_9,jo_10,jo_11,jo_12,jo_13,jo_14,jo_15,jo_16,jo_17,jo_18,jo_19,jo_20,jo_21,jo_22,jo_23,jo_24,jo_25,jo_26,jo_27,jo_28,jo_29,jo_30,jo_31,jo_32,jo_33,jo_34,jo_35,jo_36,jo_37,jo_38,jo_39,jo_40,jo_41,jo_42,jo_43,jo_44,jo_45,jo_46,jo_47,jo_48,jo_49,jo_50,jo_51,jo_52,jo_53,jo_54,jo_55,jo_56,jo_57,jo_58,jo_59,jo_60,by simp⟩
theorem jo_all {n : Nat} (h1 : 1 ≤ n) (h2 : n ≤ 60) {v : List Nat} (hv : v ∈ prodN (od n)) : chkOr n v = true := by
 have h := jo_mem n (by
  have : n ∈ List.range' 1 60 := by rw [List.mem_range'_1];omega
  exact this)
 exact List.all_eq_true.1 h v hv
end Go.Proofs.YtpkjokknpbclhaaGreat