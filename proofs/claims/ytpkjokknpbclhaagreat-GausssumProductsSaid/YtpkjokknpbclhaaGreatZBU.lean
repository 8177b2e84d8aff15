/- Contracts of functions of the program, and what proves them (texts: JPL). -/
import Derived.KernelRfl
import Derived.Test.YtpkjokknpbclhaaGreatZBT
set_option linter.all false
namespace Go.Proofs.YtpkjokknpbclhaaGreat
open Go Go.Lg Go.Num
set_option maxRecDepth 100000
noncomputable def chkLa (N : Nat) : Bool := (match evo orcX 31 [.lit (.int .i64 (.ofNat N))] with
 | some (.lit (.bool b)) => b
 | _ => false) && Nat.blt 12 (phK N)
theorem la_ok {N : Nat} (h : chkLa N = true) : PureGood Tryz.prog 31 [i64 N] (bl true) ∧ 12 < phN N N := by
 unfold chkLa at h
 rw [Bool.and_eq_true,phK_eq] at h
 refine ⟨?_,Nat.le_of_ble_eq_true h.2⟩
 have h := h.1
 split at h
 ·rename_i b e
  subst h
  exact evo_good orcX_ok e
 ·cases h
theorem la_0 : [17,19,23,25,27,29,31,32,33,34].all chkLa = true := by kernel_rfl
theorem la_1 : [35,37,38,39,40,41,43,44,45,46].all chkLa = true := by kernel_rfl
theorem la_2 : [47,48,49,50,51,52,53,54,55,56].all chkLa = true := by kernel_rfl
theorem la_3 : [57,58,59,60,62,66,68,70,74,78].all chkLa = true := by kernel_rfl
theorem la_4 : [82,84,86,90,93,94,98,100,102,105].all chkLa = true := by kernel_rfl
theorem la_5 : [106,110,111,114,116,118,129,136,140,147].all chkLa = true := by kernel_rfl
theorem la_6 : [148,155,156,164,165,168,171,180,186,203].all chkLa = true := by kernel_rfl
theorem la_7 : [204,205,210,212,220,222,253,258,272,294].all chkLa = true := by kernel_rfl
theorem la_8 : [301,310,328,330,333,342,406,408,410,420].all chkLa = true := by kernel_rfl
theorem la_9 : [444,465,506,602,666,689,812,816,820,903].all chkLa = true := by kernel_rfl
theorem la_10 : [930,1081,1332,1378,1640,1711,1806,2162,2756,3422].all chkLa = true := by kernel_rfl
theorem la_all : nlJ.all chkLa = true := by
 have e : nlJ = [17,19,23,25,27,29,31,32,33,34] ++ [35,37,38,39,40,41,43,44,45,46] ++ [47,48,49,50,51,52,53,54,55,56] ++ [57,58,59,60,62,66,68,70,74,78] ++ [82,84,86,90,93,94,98,100,102,105] ++ [106,110,111,114,116,118,129,136,140,147] ++ [148,155,156,164,165,168,171,180,186,203] ++ [204,205,210,212,220,222,253,258,272,294] ++ [301,310,328,330,333,342,406,408,410,420] ++ [444,465,506,602,666,689,812,816,820,903] ++ [930,1081,1332,1378,1640,1711,1806,2162,2756,3422] := rfl
 rw [e]
 simp only [List.all_append,la_0,la_1,la_2,la_3,la_4,la_5,la_6,la_7,la_8,la_9,la_10,Bool.and_true,Bool.and_self]
theorem sp_0 : (List.range' 1 20).all splJ = true := by decide +kernel
theorem sp_1 : (List.range' 21 20).all splJ = true := by decide +kernel
theorem sp_2 : (List.range' 41 20).all splJ = true := by decide +kernel
theorem sp_all {n : Nat} (h1 : 1 ≤ n) (h2 : n ≤ 60) : splJ n = true := by
 by_cases a : n ≤ 20
 ·exact List.all_eq_true.1 sp_0 n (by rw [List.mem_range'_1];omega)
 ·by_cases b : n ≤ 40
  ·exact List.all_eq_true.1 sp_1 n (by rw [List.mem_range'_1];omega)
  ·exact List.all_eq_true.1 sp_2 n (by rw [List.mem_range'_1];omega)
end Go.Proofs.YtpkjokknpbclhaaGreat