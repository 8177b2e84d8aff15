/- Contracts of functions of the program, and what proves them (texts: GSN ClsG). -/
import Derived.Test.YtlbckpljefadpaaGreatRows
import Derived.WalkKit
import Derived.ProofKit
import Derived.OpenShut
import Derived.Stop.Joined
import Derived.Test.YtlbckpljefadpaaGreatZAD
import Derived.Test.YtlbckpljefadpaaGreatZAP
import Derived.Test.YtlbckpljefadpaaGreatZFinNormsAA
import Derived.Test.YtlbckpljefadpaaGreatZFinNormsAB
import Derived.Test.YtlbckpljefadpaaGreatZFinNormsAC
import Derived.Test.YtlbckpljefadpaaGreatZFinNormsAD
import Derived.Test.YtlbckpljefadpaaGreatZFinNormsAE
import Derived.Test.YtlbckpljefadpaaGreatZFinNormsAF
set_option linter.all false
namespace Go.Proofs.YtlbckpljefadpaaGreat
open Go Go.Lg Go.Num
set_option maxRecDepth 100000
theorem gsN_n0 : ∀ v ∈ sml 0,chkU 8 0 v = true := fun v hv => nomatch (show v ∈ ([] : List (List Nat)) from hv)
theorem gsN_n1 : ∀ v ∈ sml 1,chkU 8 1 v = true :=
 show ∀ v ∈ [[]],chkU 8 1 v = true by simp only [List.forall_mem_cons];exact ⟨gsN_1,by simp⟩
theorem gsN_n2 : ∀ v ∈ sml 2,chkU 8 2 v = true :=
 show ∀ v ∈ [[]],chkU 8 2 v = true by simp only [List.forall_mem_cons];exact ⟨gsN_2,by simp⟩
theorem gsN_n3 : ∀ v ∈ sml 3,chkU 8 3 v = true :=
 show ∀ v ∈ [[0],[1]],chkU 8 3 v = true by simp only [List.forall_mem_cons];exact ⟨gsN_3_0,gsN_3_1,by simp⟩
theorem gsN_n4 : ∀ v ∈ sml 4,chkU 8 4 v = true :=
 show ∀ v ∈ [[0],[1]],chkU 8 4 v = true by simp only [List.forall_mem_cons];exact ⟨gsN_4_0,gsN_4_1,by simp⟩
theorem gsN_n5 : ∀ v ∈ sml 5,chkU 8 5 v = true :=
 show ∀ v ∈ [[0],[1],[2],[3]],chkU 8 5 v = true by simp only [List.forall_mem_cons];exact ⟨gsN_5_0,gsN_5_1,gsN_5_2,gsN_5_3,by simp⟩
theorem gsN_n6 : ∀ v ∈ sml 6,chkU 8 6 v = true :=
 show ∀ v ∈ [[0],[1]],chkU 8 6 v = true by simp only [List.forall_mem_cons];exact ⟨gsN_6_0,gsN_6_1,by simp⟩
theorem gsN_n7 : ∀ v ∈ sml 7,chkU 8 7 v = true :=
 show ∀ v ∈ [[0],[1],[2],[3],[4],[5]],chkU 8 7 v = true by simp only [List.forall_mem_cons];exact ⟨gsN_7_0,gsN_7_1,gsN_7_2,gsN_7_3,gsN_7_4,gsN_7_5,by simp⟩
theorem gsN_n8 : ∀ v ∈ sml 8,chkU 8 8 v = true :=
 show ∀ v ∈ [[0,0],[0,1],[1,0],[1,1]],chkU 8 8 v = true by simp only [List.forall_mem_cons];exact ⟨gsN_8_0_0,gsN_8_0_1,gsN_8_1_0,gsN_8_1_1,by simp⟩
theorem gsN_n9 : ∀ v ∈ sml 9,chkU 8 9 v = true :=
 show ∀ v ∈ [[0],[1],[2],[3],[4],[5]],chkU 8 9 v = true by simp only [List.forall_mem_cons];exact ⟨gsN_9_0,gsN_9_1,gsN_9_2,gsN_9_3,gsN_9_4,gsN_9_5,by simp⟩
theorem gsN_n10 : ∀ v ∈ sml 10,chkU 8 10 v = true :=
 show ∀ v ∈ [[0],[1],[2],[3]],chkU 8 10 v = true by simp only [List.forall_mem_cons];exact ⟨gsN_10_0,gsN_10_1,gsN_10_2,gsN_10_3,by simp⟩
theorem gsN_n11 : ∀ v ∈ sml 11,chkU 8 11 v = true :=
 show ∀ v ∈ [[0],[5]],chkU 8 11 v = true by simp only [List.forall_mem_cons];exact ⟨gsN_11_0,gsN_11_5,by simp⟩
theorem gsN_n12 : ∀ v ∈ sml 12,chkU 8 12 v = true :=
 show ∀ v ∈ [[0,0],[0,1],[1,0],[1,1]],chkU 8 12 v = true by simp only [List.forall_mem_cons];exact ⟨gsN_12_0_0,gsN_12_0_1,gsN_12_1_0,gsN_12_1_1,by simp⟩
theorem gsN_n13 : ∀ v ∈ sml 13,chkU 8 13 v = true :=
 show ∀ v ∈ [[0],[6]],chkU 8 13 v = true by simp only [List.forall_mem_cons];exact ⟨gsN_13_0,gsN_13_6,by simp⟩
theorem gsN_n14 : ∀ v ∈ sml 14,chkU 8 14 v = true :=
 show ∀ v ∈ [[0],[1],[2],[3],[4],[5]],chkU 8 14 v = true by simp only [List.forall_mem_cons];exact ⟨gsN_14_0,gsN_14_1,gsN_14_2,gsN_14_3,gsN_14_4,gsN_14_5,by simp⟩
theorem gsN_n15 : ∀ v ∈ sml 15,chkU 8 15 v = true :=
 show ∀ v ∈ [[0,0],[0,2],[1,0],[1,2]],chkU 8 15 v = true by simp only [List.forall_mem_cons];exact ⟨gsN_15_0_0,gsN_15_0_2,gsN_15_1_0,gsN_15_1_2,by simp⟩
theorem gsN_n16 : ∀ v ∈ sml 16,chkU 8 16 v = true :=
 show ∀ v ∈ [[0,0],[0,1],[0,2],[0,3],[1,0],[1,1],[1,2],[1,3]],chkU 8 16 v = true by simp only [List.forall_mem_cons];exact ⟨gsN_16_0_0,gsN_16_0_1,gsN_16_0_2,gsN_16_0_3,gsN_16_1_0,gsN_16_1_1,gsN_16_1_2,gsN_16_1_3,by simp⟩
theorem gsN_n17 : ∀ v ∈ sml 17,chkU 8 17 v = true := fun v hv => nomatch (show v ∈ ([] : List (List Nat)) from hv)
theorem gsN_n18 : ∀ v ∈ sml 18,chkU 8 18 v = true :=
 show ∀ v ∈ [[0],[1],[2],[3],[4],[5]],chkU 8 18 v = true by simp only [List.forall_mem_cons];exact ⟨gsN_18_0,gsN_18_1,gsN_18_2,gsN_18_3,gsN_18_4,gsN_18_5,by simp⟩
theorem gsN_n19 : ∀ v ∈ sml 19,chkU 8 19 v = true := fun v hv => nomatch (show v ∈ ([] : List (List Nat)) from hv)
theorem gsN_n20 : ∀ v ∈ sml 20,chkU 8 20 v = true :=
 show ∀ v ∈ [[0,0],[0,1],[0,2],[0,3],[1,0],[1,1],[1,2],[1,3]],chkU 8 20 v = true by simp only [List.forall_mem_cons];exact ⟨gsN_20_0_0,gsN_20_0_1,gsN_20_0_2,gsN_20_0_3,gsN_20_1_0,gsN_20_1_1,gsN_20_1_2,gsN_20_1_3,by simp⟩
theorem gsN_n21 : ∀ v ∈ sml 21,chkU 8 21 v = true :=
 show ∀ v ∈ [[0,0],[0,1],[0,2],[0,3],[0,4],[0,5],[1,0],[1,1],[1,2],[1,3],[1,4],[1,5]],chkU 8 21 v = true by simp only [List.forall_mem_cons];exact ⟨gsN_21_0_0,gsN_21_0_1,gsN_21_0_2,gsN_21_0_3,gsN_21_0_4,gsN_21_0_5,gsN_21_1_0,gsN_21_1_1,gsN_21_1_2,gsN_21_1_3,gsN_21_1_4,gsN_21_1_5,by simp⟩
theorem gsN_n22 : ∀ v ∈ sml 22,chkU 8 22 v = true :=
 show ∀ v ∈ [[0],[5]],chkU 8 22 v = true by simp only [List.forall_mem_cons];exact ⟨gsN_22_0,gsN_22_5,by simp⟩
theorem gsN_n23 : ∀ v ∈ sml 23,chkU 8 23 v = true := fun v hv => nomatch (show v ∈ ([] : List (List Nat)) from hv)
theorem gsN_n24 : ∀ v ∈ sml 24,chkU 8 24 v = true :=
 show ∀ v ∈ [[0,0,0],[0,0,1],[0,1,0],[0,1,1],[1,0,0],[1,0,1],[1,1,0],[1,1,1]],chkU 8 24 v = true by simp only [List.forall_mem_cons];exact ⟨gsN_24_0_0_0,gsN_24_0_0_1,gsN_24_0_1_0,gsN_24_0_1_1,gsN_24_1_0_0,gsN_24_1_0_1,gsN_24_1_1_0,gsN_24_1_1_1,by simp⟩
theorem gsN_n25 : ∀ v ∈ sml 25,chkU 8 25 v = true := fun v hv => nomatch (show v ∈ ([] : List (List Nat)) from hv)
theorem gsN_n26 : ∀ v ∈ sml 26,chkU 8 26 v = true :=
 show ∀ v ∈ [[0],[6]],chkU 8 26 v = true by simp only [List.forall_mem_cons];exact ⟨gsN_26_0,gsN_26_6,by simp⟩
theorem gsN_n27 : ∀ v ∈ sml 27,chkU 8 27 v = true := fun v hv => nomatch (show v ∈ ([] : List (List Nat)) from hv)
theorem gsN_n28 : ∀ v ∈ sml 28,chkU 8 28 v = true :=
 show ∀ v ∈ [[0,0],[0,3],[1,0],[1,3]],chkU 8 28 v = true by simp only [List.forall_mem_cons];exact ⟨gsN_28_0_0,gsN_28_0_3,gsN_28_1_0,gsN_28_1_3,by simp⟩
theorem gsN_n29 : ∀ v ∈ sml 29,chkU 8 29 v = true := fun v hv => nomatch (show v ∈ ([] : List (List Nat)) from hv)
theorem gsN_n30 : ∀ v ∈ sml 30,chkU 8 30 v = true :=
 show ∀ v ∈ [[0,0],[0,2],[1,0],[1,2]],chkU 8 30 v = true by simp only [List.forall_mem_cons];exact ⟨gsN_30_0_0,gsN_30_0_2,gsN_30_1_0,gsN_30_1_2,by simp⟩
theorem gsN_n31 : ∀ v ∈ sml 31,chkU 8 31 v = true := fun v hv => nomatch (show v ∈ ([] : List (List Nat)) from hv)
theorem gsN_n32 : ∀ v ∈ sml 32,chkU 8 32 v = true := fun v hv => nomatch (show v ∈ ([] : List (List Nat)) from hv)
theorem gsN_n33 : ∀ v ∈ sml 33,chkU 8 33 v = true := fun v hv => nomatch (show v ∈ ([] : List (List Nat)) from hv)
theorem gsN_n34 : ∀ v ∈ sml 34,chkU 8 34 v = true := fun v hv => nomatch (show v ∈ ([] : List (List Nat)) from hv)
theorem gsN_n35 : ∀ v ∈ sml 35,chkU 8 35 v = true := fun v hv => nomatch (show v ∈ ([] : List (List Nat)) from hv)
theorem gsN_n36 : ∀ v ∈ sml 36,chkU 8 36 v = true :=
 show ∀ v ∈ [[0,0],[0,1],[0,2],[0,3],[0,4],[0,5],[1,0],[1,1],[1,2],[1,3],[1,4],[1,5]],chkU 8 36 v = true by simp only [List.forall_mem_cons];exact ⟨gsN_36_0_0,gsN_36_0_1,gsN_36_0_2,gsN_36_0_3,gsN_36_0_4,gsN_36_0_5,gsN_36_1_0,gsN_36_1_1,gsN_36_1_2,gsN_36_1_3,gsN_36_1_4,gsN_36_1_5,by simp⟩
theorem gsN_n37 : ∀ v ∈ sml 37,chkU 8 37 v = true := fun v hv => nomatch (show v ∈ ([] : List (List Nat)) from hv)
theorem gsN_n38 : ∀ v ∈ sml 38,chkU 8 38 v = true := fun v hv => nomatch (show v ∈ ([] : List (List Nat)) from hv)
theorem gsN_n39 : ∀ v ∈ sml 39,chkU 8 39 v = true := fun v hv => nomatch (show v ∈ ([] : List (List Nat)) from hv)
theorem gsN_n40 : ∀ v ∈ sml 40,chkU 8 40 v = true := fun v hv => nomatch (show v ∈ ([] : List (List Nat)) from hv)
theorem gsN_n41 : ∀ v ∈ sml 41,chkU 8 41 v = true := fun v hv => nomatch (show v ∈ ([] : List (List Nat)) from hv)
theorem gsN_n42 : ∀ v ∈ sml 42,chkU 8 42 v = true :=
 show ∀ v ∈ [[0,0],[0,1],[0,2],[0,3],[0,4],[0,5],[1,0],[1,1],[1,2],[1,3],[1,4],[1,5]],chkU 8 42 v = true by simp only [List.forall_mem_cons];exact ⟨gsN_42_0_0,gsN_42_0_1,gsN_42_0_2,gsN_42_0_3,gsN_42_0_4,gsN_42_0_5,gsN_42_1_0,gsN_42_1_1,gsN_42_1_2,gsN_42_1_3,gsN_42_1_4,gsN_42_1_5,by simp⟩
theorem gsN_n43 : ∀ v ∈ sml 43,chkU 8 43 v = true := fun v hv => nomatch (show v ∈ ([] : List (List Nat)) from hv)
theorem gsN_n44 : ∀ v ∈ sml 44,chkU 8 44 v = true := fun v hv => nomatch (show v ∈ ([] : List (List Nat)) from hv)
theorem gsN_n45 : ∀ v ∈ sml 45,chkU 8 45 v = true := fun v hv => nomatch (show v ∈ ([] : List (List Nat)) from hv)
theorem gsN_n46 : ∀ v ∈ sml 46,chkU 8 46 v = true := fun v hv => nomatch (show v ∈ ([] : List (List Nat)) from hv)
theorem gsN_n47 : ∀ v ∈ sml 47,chkU 8 47 v = true := fun v hv => nomatch (show v ∈ ([] : List (List Nat)) from hv)
theorem gsN_n48 : ∀ v ∈ sml 48,chkU 8 48 v = true := fun v hv => nomatch (show v ∈ ([] : List (List Nat)) from hv)
theorem gsN_n49 : ∀ v ∈ sml 49,chkU 8 49 v = true := fun v hv => nomatch (show v ∈ ([] : List (List Nat)) from hv)
theorem gsN_n50 : ∀ v ∈ sml 50,chkU 8 50 v = true := fun v hv => nomatch (show v ∈ ([] : List (List Nat)) from hv)
theorem gsN_n51 : ∀ v ∈ sml 51,chkU 8 51 v = true := fun v hv => nomatch (show v ∈ ([] : List (List Nat)) from hv)
theorem gsN_n52 : ∀ v ∈ sml 52,chkU 8 52 v = true := fun v hv => nomatch (show v ∈ ([] : List (List Nat)) from hv)
theorem gsN_n53 : ∀ v ∈ sml 53,chkU 8 53 v = true := fun v hv => nomatch (show v ∈ ([] : List (List Nat)) from hv)
theorem gsN_n54 : ∀ v ∈ sml 54,chkU 8 54 v = true := fun v hv => nomatch (show v ∈ ([] : List (List Nat)) from hv)
theorem gsN_n55 : ∀ v ∈ sml 55,chkU 8 55 v = true := fun v hv => nomatch (show v ∈ ([] : List (List Nat)) from hv)
theorem gsN_n56 : ∀ v ∈ sml 56,chkU 8 56 v = true := fun v hv => nomatch (show v ∈ ([] : List (List Nat)) from hv)
theorem gsN_n57 : ∀ v ∈ sml 57,chkU 8 57 v = true := fun v hv => nomatch (show v ∈ ([] : List (List Nat)) from hv)
theorem gsN_n58 : ∀ v ∈ sml 58,chkU 8 58 v = true := fun v hv => nomatch (show v ∈ ([] : List (List Nat)) from hv)
theorem gsN_n59 : ∀ v ∈ sml 59,chkU 8 59 v = true := fun v hv => nomatch (show v ∈ ([] : List (List Nat)) from hv)
theorem gsN_n60 : ∀ v ∈ sml 60,chkU 8 60 v = true := fun v hv => nomatch (show v ∈ ([] : List (List Nat)) from hv)
theorem gsN_mem : ∀ n ∈ [0,1,2,3,4,5,6,7,8,9,10,11,12,13,14,15,16,17,18,19,20,21,22,23,24,25,26,27,28,29,30,31,32,33,34,35,36,37,38,39,40,41,42,43,44,45,46,47,48,49,50,51,52,53,54,55,56,57,58,59,60],∀ v ∈ sml n,chkU 8 n v = true := by
 rw [List.forall_mem_cons]
 refine ⟨gsN_n0,?_⟩
 rw [List.forall_mem_cons]
 refine ⟨gsN_n1,?_⟩
 rw [List.forall_mem_cons]
 refine ⟨gsN_n2,?_⟩
 rw [List.forall_mem_cons]
 refine ⟨gsN_n3,?_⟩
 rw [List.forall_mem_cons]
 refine ⟨gsN_n4,?_⟩
 rw [List.forall_mem_cons]
 refine ⟨gsN_n5,?_⟩
 rw [List.forall_mem_cons]
 refine ⟨gsN_n6,?_⟩
 rw [List.forall_mem_cons]
 refine ⟨gsN_n7,?_⟩
 rw [List.forall_mem_cons]
 refine ⟨gsN_n8,?_⟩
 rw [List.forall_mem_cons]
 refine ⟨gsN_n9,?_⟩
 rw [List.forall_mem_cons]
 refine ⟨gsN_n10,?_⟩
 rw [List.forall_mem_cons]
 refine ⟨gsN_n11,?_⟩
 rw [List.forall_mem_cons]
 refine ⟨gsN_n12,?_⟩
 rw [List.forall_mem_cons]
 refine ⟨gsN_n13,?_⟩
 rw [List.forall_mem_cons]
 refine ⟨gsN_n14,?_⟩
 rw [List.forall_mem_cons]
 refine ⟨gsN_n15,?_⟩
 rw [List.forall_mem_cons]
 refine ⟨gsN_n16,?_⟩
 rw [List.forall_mem_cons]
 refine ⟨gsN_n17,?_⟩
 rw [List.forall_mem_cons]
 refine ⟨gsN_n18,?_⟩
 rw [List.forall_mem_cons]
 refine ⟨gsN_n19,?_⟩
 rw [List.forall_mem_cons]
 refine ⟨gsN_n20,?_⟩
 rw [List.forall_mem_cons]
 refine ⟨gsN_n21,?_⟩
 rw [List.forall_mem_cons]
 refine ⟨gsN_n22,?_⟩
 rw [List.forall_mem_cons]
 refine ⟨gsN_n23,?_⟩
 rw [List.forall_mem_cons]
 refine ⟨gsN_n24,?_⟩
 rw [List.forall_mem_cons]
 refine ⟨gsN_n25,?_⟩
 rw [List.forall_mem_cons]
 refine ⟨gsN_n26,?_⟩
 rw [List.forall_mem_cons]
 refine ⟨gsN_n27,?_⟩
 rw [List.forall_mem_cons]
 refine ⟨gsN_n28,?_⟩
 rw [List.forall_mem_cons]
 refine ⟨gsN_n29,?_⟩
 rw [List.forall_mem_cons]
 refine ⟨gsN_n30,?_⟩
 rw [List.forall_mem_cons]
 refine ⟨gsN_n31,?_⟩
 rw [List.forall_mem_cons]
 refine ⟨gsN_n32,?_⟩
 rw [List.forall_mem_cons]
 refine ⟨gsN_n33,?_⟩
 rw [List.forall_mem_cons]
 refine ⟨gsN_n34,?_⟩
 rw [List.forall_mem_cons]
 refine ⟨gsN_n35,?_⟩
 rw [List.forall_mem_cons]
 refine ⟨gsN_n36,?_⟩
 rw [List.forall_mem_cons]
 refine ⟨gsN_n37,?_⟩
 rw [List.forall_mem_cons]
 refine ⟨gsN_n38,?_⟩
 rw [List.forall_mem_cons]
 refine ⟨gsN_n39,?_⟩
 rw [List.forall_mem_cons]
 refine ⟨gsN_n40,?_⟩
 rw [List.forall_mem_cons]
 refine ⟨gsN_n41,?_⟩
 rw [List.forall_mem_cons]
 refine ⟨gsN_n42,?_⟩
 rw [List.forall_mem_cons]
 refine ⟨gsN_n43,?_⟩
 rw [List.forall_mem_cons]
 refine ⟨gsN_n44,?_⟩
 rw [List.forall_mem_cons]
 refine ⟨gsN_n45,?_⟩
 rw [List.forall_mem_cons]
 refine ⟨gsN_n46,?_⟩
 rw [List.forall_mem_cons]
 refine ⟨gsN_n47,?_⟩
 rw [List.forall_mem_cons]
 refine ⟨gsN_n48,?_⟩
 rw [List.forall_mem_cons]
 refine ⟨gsN_n49,?_⟩
 rw [List.forall_mem_cons]
 refine ⟨gsN_n50,?_⟩
 rw [List.forall_mem_cons]
 refine ⟨gsN_n51,?_⟩
 rw [List.forall_mem_cons]
 refine ⟨gsN_n52,?_⟩
 rw [List.forall_mem_cons]
 refine ⟨gsN_n53,?_⟩
 rw [List.forall_mem_cons]
 refine ⟨gsN_n54,?_⟩
 rw [List.forall_mem_cons]
 refine ⟨gsN_n55,?_⟩
 rw [List.forall_mem_cons]
 refine ⟨gsN_n56,?_⟩
 rw [List.forall_mem_cons]
 refine ⟨gsN_n57,?_⟩
 rw [List.forall_mem_cons]
 refine ⟨gsN_n58,?_⟩
 rw [List.forall_mem_cons]
 refine ⟨gsN_n59,?_⟩
 rw [List.forall_mem_cons]
 refine ⟨gsN_n60,?_⟩
 exact fun n hn => nomatch hn
theorem gsN_all : ∀ n,∀ v ∈ sml n,chkU 8 n v = true := by
 intro n v hv
 by_cases hn : n < 61
 ·exact gsN_mem n (by
   have : n ∈ List.range 61 := List.mem_range.2 hn
   exact this) v hv
 ·exfalso
  have : sml n = [] := by
   unfold sml
   rw [List.getD_eq_getElem?_getD,List.getElem?_eq_none (by show smlT.length ≤ n;have : smlT.length = 61 := rfl;omega)]
   rfl
  rw [this] at hv
  simp at hv
end Go.Proofs.YtlbckpljefadpaaGreat
namespace Go.Proofs.YtlbckpljefadpaaGreat
open Go Go.Lg Go.ChangeShapes Go.WideShapes Go.ChangeAt Go.RowKit
set_option maxRecDepth 100000
theorem own : ownKnob Tryz.prog.godebug = none := by kernel_rfl
theorem cChr : Tryz.prog.cellsOf 24 = 2 := by kernel_rfl
theorem cInt : Tryz.prog.cellsOf 3 = 1 := by kernel_rfl
theorem cInts : Tryz.prog.cellsOf 22 = 1 := by kernel_rfl
theorem tsChr : Tryz.prog.cellTypes Tryz.prog.depth 24 = some [3,22] := by kernel_rfl
theorem rep_ints {W : World} {a : Addr} {len cap : Nat} {zs : List Int} (hs : a.spot = none) (hl : len ≤ zs.length) (hc : len ≤ cap) (hm : cap ≤ maxLen) (hcell : ∀ i, i < zs.length → W.cell? (a.add i) = some (.int .i64 (zs.getD i 0))) :
  Rep (fun g => g < W.heap.size) W.heap (fun _ => none) (.sl (zs.take len).length (ec (zs.take len))) (.slice (some a) len cap) := by
 have e : (zs.take len).length = len := by rw [List.length_take,Nat.min_eq_left hl]
 rw [e]
 refine Rep.sl (us := (zs.take len).map fun z => Value.int .i64 z) hc hm hs (by simp [ec]) ?_ ?_ ?_
 ·intro j u hu
  rw [List.getElem?_map] at hu
  obtain ⟨z,hz,rfl⟩ := Option.map_eq_some_iff.1 hu
  have hj : j < (zs.take len).length := (List.getElem?_eq_some_iff.1 hz).1
  have hj2 : j < zs.length := by rw [e] at hj;omega
  have hzj : zs.getD j 0 = z := by
   rw [List.getElem?_take,if_pos (by rw [e] at hj;exact hj)] at hz
   simp [List.getD,hz]
  have h := hcell j hj2
  rw [cell?_eq' W a hs j,hzj] at h
  refine ⟨?_,h⟩
  unfold cellAt at h
  cases hh : W.heap[a.block]? with
  | none => rw [hh] at h;cases h
  | some o => exact (Array.getElem?_eq_some_iff.1 hh).1
 ·intro u hu
  obtain ⟨z,_,rfl⟩ := List.mem_map.1 hu
  rfl
 ·intro j c u hc hu
  rw [ec,List.getElem?_map] at hc
  rw [List.getElem?_map] at hu
  obtain ⟨z,hz,rfl⟩ := Option.map_eq_some_iff.1 hc
  rw [hz] at hu
  cases hu
  exact .lit _
theorem open_chr {H : Type} {enc : TypeId × Value → H} {W : World} {b0 : Nat} {v : Value} {d : DataW H} {ps : List MemPlace} (hval : Value.okWide Tryz.prog W .any b0 24 v) (hd : DataW.Trod enc Tryz.prog W 0 (fun _ => true) true 24 v d ps) :
  ∃ (lv : Int) (xs : List Int), (Lit.int .i64 lv).wf = true ∧ Rep (fun g => g < W.heap.size) W.heap (fun _ => none) (.agg [.lit (.int .i64 lv), .sl xs.length (ec xs)]) v ∧
    ∀ W' : World,(∀ i,i < W.heap.size → W'.heap[i]? = W.heap[i]?) → ∃ ps',DataW.Trod enc Tryz.prog W' 0 (fun b => decide (b < W.heap.size)) true 24 v d ps' := by
 simp only [Value.okWide,Tryz.underlying24] at hval
 obtain ⟨cs,rfl,h2,ts,hts,_,hrow⟩ := hval
 rw [tsChr] at hts
 cases hts
 rw [cChr] at h2
 obtain ⟨fuel,hf⟩ := hd
 obtain ⟨y0,y1,n,hx,hlen,e0,e1⟩ := trod_struct2 Tryz.underlying24 hf
 have hc0 : (Value.agg cs).cells = cs := rfl
 rw [hc0] at e0 e1 hlen
 obtain ⟨c0,c1,hcs⟩ : ∃ c0 c1,cs = #[c0,c1] := by
  obtain ⟨l⟩ := cs
  match l,h2 with
  | [c0,c1],_ => exact ⟨c0,c1,rfl⟩
 subst hcs
 simp only [cInt,cInts,List.drop_zero,List.drop_succ_cons,List.take_succ_cons,List.take_zero] at e0 e1
 obtain ⟨lv,a1,rfl,hw⟩ := DataW.trod_int Tryz.underlying3 e0
 simp only [List.cons.injEq,and_true] at a1
 subst a1
 have r1 := hrow 1 c1 rfl
 obtain ⟨u,hu,hcell⟩ := r1
 simp only [List.length_cons,List.length_nil,Nat.reduceAdd,Nat.reduceMod,List.getElem?_cons_succ,List.getElem?_cons_zero,Option.some.injEq] at hu
 subst hu
 obtain ⟨hx1,hx2⟩ := Prod.mk.inj hx
 rcases open_ints Tryz.underlying22 Tryz.underlying3 cInt e1 with ⟨b1,rfl⟩ | ⟨a,len,cap,zs,b1,hb,hl,hm,hz,rfl,hcl,hwf⟩
 ·simp only [List.cons.injEq,and_true] at b1
  subst b1
  refine ⟨lv,[],hw,?_,fun W' _ => ⟨ps,2,?_⟩⟩
  ·refine Rep.agg (us := [.int .i64 lv,.slice none 0 0]) rfl (by simp [Value.oneCell']) ?_
   intro j c u hc hu
   match j with
   | 0 => simp at hc hu;subst hc;subst hu;exact .lit _
   | 1 => simp at hc hu;subst hc;subst hu;exact .snil
   | j + 2 => simp at hc
  ·rw [hx1,hx2]
   refine trod_struct2_mk (y0 := (.lit (.int .i64 lv),[])) (y1 := (.nil,[])) Tryz.underlying24 hlen ?_ ?_
   ·rw [hc0]
    simp only [cInt,List.drop_zero,List.take_succ_cons,List.take_zero]
    exact trod_int_mk 0 Tryz.underlying3 hw
   ·rw [hc0]
    simp only [cInts,List.drop_zero,List.drop_succ_cons,List.take_succ_cons,List.take_zero]
    simp [DataW.trod,Tryz.underlying22]
 ·simp only [List.cons.injEq,and_true] at b1
  subst b1
  simp only [if_true] at hz
  have hspot : a.spot = none := by
   simp only [Cell.okWide,Cell.ok,Tryz.underlying22] at hcell
   exact hcell.2.2.2.1
  refine ⟨lv,zs.take len,hw,?_,fun W' hk => ⟨ps,3,?_⟩⟩
  ·refine Rep.agg (us := [.int .i64 lv,.slice (some a) len cap]) rfl (by simp [Value.oneCell']) ?_
   intro j c u hc hu
   match j with
   | 0 => simp at hc hu;subst hc;subst hu;exact .lit _
   | 1 => simp at hc hu;subst hc;subst hu;exact (by simpa using rep_ints hspot (by omega) hl hm hcl)
   | j + 2 => simp at hc
  ·rw [hx1,hx2]
   have hblk : ∀ i,i < zs.length → a.block < W.heap.size := fun i hi => by
    have h := hcl i hi
    rw [cell?_eq' W a hspot i] at h
    unfold cellAt at h
    cases hh : W.heap[a.block]? with
    | none => rw [hh] at h;cases h
    | some o => exact (Array.getElem?_eq_some_iff.1 hh).1
   refine trod_struct2_mk (y0 := (.lit (.int .i64 lv),[])) (y1 := (.slice (lits .i64 (zs.take len)) (lits .i64 (zs.drop len)),MemPlace.row a zs.length)) Tryz.underlying24 hlen ?_ ?_
   ·rw [hc0]
    simp only [cInt,List.drop_zero,List.take_succ_cons,List.take_zero]
    exact trod_int_mk 1 Tryz.underlying3 hw
   ·rw [hc0]
    simp only [cInts,List.drop_zero,List.drop_succ_cons,List.take_succ_cons,List.take_zero]
    refine shut_ints 0 Tryz.underlying22 Tryz.underlying3 cInt hb hl hm ?_ (fun i hi => ?_) hwf
    ·by_cases hbs : a.block < W.heap.size
     ·simp [hbs,hz]
     ·have : zs.length = 0 := by
       rcases Nat.eq_zero_or_pos zs.length with h | h
       ·exact h
       ·exact absurd (hblk 0 h) hbs
      simp [hbs];omega
    ·rw [cell?_eq' W' a hspot i,cellAt_same (hk _ (hblk i hi)),← cell?_eq' W a hspot i]
     exact hcl i hi
end Go.Proofs.YtlbckpljefadpaaGreat