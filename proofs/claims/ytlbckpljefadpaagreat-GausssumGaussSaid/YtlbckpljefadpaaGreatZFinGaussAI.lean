/- Contracts of functions of the program, and what proves them (texts: GSG ClsG). -/
import Derived.Test.YtlbckpljefadpaaGreatRows
import Derived.WalkKit
import Derived.ProofKit
import Derived.OpenShut
import Derived.Stop.Joined
import Derived.Test.YtlbckpljefadpaaGreatZAD
import Derived.Test.YtlbckpljefadpaaGreatZAP
import Derived.Test.YtlbckpljefadpaaGreatZFinGaussAA
import Derived.Test.YtlbckpljefadpaaGreatZFinGaussAB
import Derived.Test.YtlbckpljefadpaaGreatZFinGaussAC
import Derived.Test.YtlbckpljefadpaaGreatZFinGaussAD
import Derived.Test.YtlbckpljefadpaaGreatZFinGaussAE
import Derived.Test.YtlbckpljefadpaaGreatZFinGaussAF
import Derived.Test.YtlbckpljefadpaaGreatZFinGaussAG
import Derived.Test.YtlbckpljefadpaaGreatZFinGaussAH
set_option linter.all false
namespace Go.Proofs.YtlbckpljefadpaaGreat
open Go Go.Lg Go.Num
set_option maxRecDepth 100000
theorem gsG_n0 : ∀ v ∈ sml 0,chkR 4 0 v = true := fun v hv => nomatch (show v ∈ ([] : List (List Nat)) from hv)
theorem gsG_n1 : ∀ v ∈ sml 1,chkR 4 1 v = true :=
 show ∀ v ∈ [[]],chkR 4 1 v = true by simp only [List.forall_mem_cons];exact ⟨gsG_1,by simp⟩
theorem gsG_n2 : ∀ v ∈ sml 2,chkR 4 2 v = true :=
 show ∀ v ∈ [[]],chkR 4 2 v = true by simp only [List.forall_mem_cons];exact ⟨gsG_2,by simp⟩
theorem gsG_n3 : ∀ v ∈ sml 3,chkR 4 3 v = true :=
 show ∀ v ∈ [[0],[1]],chkR 4 3 v = true by simp only [List.forall_mem_cons];exact ⟨gsG_3_0,gsG_3_1,by simp⟩
theorem gsG_n4 : ∀ v ∈ sml 4,chkR 4 4 v = true :=
 show ∀ v ∈ [[0],[1]],chkR 4 4 v = true by simp only [List.forall_mem_cons];exact ⟨gsG_4_0,gsG_4_1,by simp⟩
theorem gsG_n5 : ∀ v ∈ sml 5,chkR 4 5 v = true :=
 show ∀ v ∈ [[0],[1],[2],[3]],chkR 4 5 v = true by simp only [List.forall_mem_cons];exact ⟨gsG_5_0,gsG_5_1,gsG_5_2,gsG_5_3,by simp⟩
theorem gsG_n6 : ∀ v ∈ sml 6,chkR 4 6 v = true :=
 show ∀ v ∈ [[0],[1]],chkR 4 6 v = true by simp only [List.forall_mem_cons];exact ⟨gsG_6_0,gsG_6_1,by simp⟩
theorem gsG_n7 : ∀ v ∈ sml 7,chkR 4 7 v = true :=
 show ∀ v ∈ [[0],[1],[2],[3],[4],[5]],chkR 4 7 v = true by simp only [List.forall_mem_cons];exact ⟨gsG_7_0,gsG_7_1,gsG_7_2,gsG_7_3,gsG_7_4,gsG_7_5,by simp⟩
theorem gsG_n8 : ∀ v ∈ sml 8,chkR 4 8 v = true :=
 show ∀ v ∈ [[0,0],[0,1],[1,0],[1,1]],chkR 4 8 v = true by simp only [List.forall_mem_cons];exact ⟨gsG_8_0_0,gsG_8_0_1,gsG_8_1_0,gsG_8_1_1,by simp⟩
theorem gsG_n9 : ∀ v ∈ sml 9,chkR 4 9 v = true :=
 show ∀ v ∈ [[0],[1],[2],[3],[4],[5]],chkR 4 9 v = true by simp only [List.forall_mem_cons];exact ⟨gsG_9_0,gsG_9_1,gsG_9_2,gsG_9_3,gsG_9_4,gsG_9_5,by simp⟩
theorem gsG_n10 : ∀ v ∈ sml 10,chkR 4 10 v = true :=
 show ∀ v ∈ [[0],[1],[2],[3]],chkR 4 10 v = true by simp only [List.forall_mem_cons];exact ⟨gsG_10_0,gsG_10_1,gsG_10_2,gsG_10_3,by simp⟩
theorem gsG_n11 : ∀ v ∈ sml 11,chkR 4 11 v = true :=
 show ∀ v ∈ [[0],[5]],chkR 4 11 v = true by simp only [List.forall_mem_cons];exact ⟨gsG_11_0,gsG_11_5,by simp⟩
theorem gsG_n12 : ∀ v ∈ sml 12,chkR 4 12 v = true :=
 show ∀ v ∈ [[0,0],[0,1],[1,0],[1,1]],chkR 4 12 v = true by simp only [List.forall_mem_cons];exact ⟨gsG_12_0_0,gsG_12_0_1,gsG_12_1_0,gsG_12_1_1,by simp⟩
theorem gsG_n13 : ∀ v ∈ sml 13,chkR 4 13 v = true :=
 show ∀ v ∈ [[0],[6]],chkR 4 13 v = true by simp only [List.forall_mem_cons];exact ⟨gsG_13_0,gsG_13_6,by simp⟩
theorem gsG_n14 : ∀ v ∈ sml 14,chkR 4 14 v = true :=
 show ∀ v ∈ [[0],[1],[2],[3],[4],[5]],chkR 4 14 v = true by simp only [List.forall_mem_cons];exact ⟨gsG_14_0,gsG_14_1,gsG_14_2,gsG_14_3,gsG_14_4,gsG_14_5,by simp⟩
theorem gsG_n15 : ∀ v ∈ sml 15,chkR 4 15 v = true :=
 show ∀ v ∈ [[0,0],[0,2],[1,0],[1,2]],chkR 4 15 v = true by simp only [List.forall_mem_cons];exact ⟨gsG_15_0_0,gsG_15_0_2,gsG_15_1_0,gsG_15_1_2,by simp⟩
theorem gsG_n16 : ∀ v ∈ sml 16,chkR 4 16 v = true :=
 show ∀ v ∈ [[0,0],[0,1],[0,2],[0,3],[1,0],[1,1],[1,2],[1,3]],chkR 4 16 v = true by simp only [List.forall_mem_cons];exact ⟨gsG_16_0_0,gsG_16_0_1,gsG_16_0_2,gsG_16_0_3,gsG_16_1_0,gsG_16_1_1,gsG_16_1_2,gsG_16_1_3,by simp⟩
theorem gsG_n17 : ∀ v ∈ sml 17,chkR 4 17 v = true := fun v hv => nomatch (show v ∈ ([] : List (List Nat)) from hv)
theorem gsG_n18 : ∀ v ∈ sml 18,chkR 4 18 v = true :=
 show ∀ v ∈ [[0],[1],[2],[3],[4],[5]],chkR 4 18 v = true by simp only [List.forall_mem_cons];exact ⟨gsG_18_0,gsG_18_1,gsG_18_2,gsG_18_3,gsG_18_4,gsG_18_5,by simp⟩
theorem gsG_n19 : ∀ v ∈ sml 19,chkR 4 19 v = true := fun v hv => nomatch (show v ∈ ([] : List (List Nat)) from hv)
theorem gsG_n20 : ∀ v ∈ sml 20,chkR 4 20 v = true :=
 show ∀ v ∈ [[0,0],[0,1],[0,2],[0,3],[1,0],[1,1],[1,2],[1,3]],chkR 4 20 v = true by simp only [List.forall_mem_cons];exact ⟨gsG_20_0_0,gsG_20_0_1,gsG_20_0_2,gsG_20_0_3,gsG_20_1_0,gsG_20_1_1,gsG_20_1_2,gsG_20_1_3,by simp⟩
theorem gsG_n21 : ∀ v ∈ sml 21,chkR 4 21 v = true :=
 show ∀ v ∈ [[0,0],[0,1],[0,2],[0,3],[0,4],[0,5],[1,0],[1,1],[1,2],[1,3],[1,4],[1,5]],chkR 4 21 v = true by simp only [List.forall_mem_cons];exact ⟨gsG_21_0_0,gsG_21_0_1,gsG_21_0_2,gsG_21_0_3,gsG_21_0_4,gsG_21_0_5,gsG_21_1_0,gsG_21_1_1,gsG_21_1_2,gsG_21_1_3,gsG_21_1_4,gsG_21_1_5,by simp⟩
theorem gsG_n22 : ∀ v ∈ sml 22,chkR 4 22 v = true :=
 show ∀ v ∈ [[0],[5]],chkR 4 22 v = true by simp only [List.forall_mem_cons];exact ⟨gsG_22_0,gsG_22_5,by simp⟩
theorem gsG_n23 : ∀ v ∈ sml 23,chkR 4 23 v = true := fun v hv => nomatch (show v ∈ ([] : List (List Nat)) from hv)
theorem gsG_n24 : ∀ v ∈ sml 24,chkR 4 24 v = true :=
 show ∀ v ∈ [[0,0,0],[0,0,1],[0,1,0],[0,1,1],[1,0,0],[1,0,1],[1,1,0],[1,1,1]],chkR 4 24 v = true by simp only [List.forall_mem_cons];exact ⟨gsG_24_0_0_0,gsG_24_0_0_1,gsG_24_0_1_0,gsG_24_0_1_1,gsG_24_1_0_0,gsG_24_1_0_1,gsG_24_1_1_0,gsG_24_1_1_1,by simp⟩
theorem gsG_n25 : ∀ v ∈ sml 25,chkR 4 25 v = true := fun v hv => nomatch (show v ∈ ([] : List (List Nat)) from hv)
theorem gsG_n26 : ∀ v ∈ sml 26,chkR 4 26 v = true :=
 show ∀ v ∈ [[0],[6]],chkR 4 26 v = true by simp only [List.forall_mem_cons];exact ⟨gsG_26_0,gsG_26_6,by simp⟩
theorem gsG_n27 : ∀ v ∈ sml 27,chkR 4 27 v = true := fun v hv => nomatch (show v ∈ ([] : List (List Nat)) from hv)
theorem gsG_n28 : ∀ v ∈ sml 28,chkR 4 28 v = true :=
 show ∀ v ∈ [[0,0],[0,3],[1,0],[1,3]],chkR 4 28 v = true by simp only [List.forall_mem_cons];exact ⟨gsG_28_0_0,gsG_28_0_3,gsG_28_1_0,gsG_28_1_3,by simp⟩
theorem gsG_n29 : ∀ v ∈ sml 29,chkR 4 29 v = true := fun v hv => nomatch (show v ∈ ([] : List (List Nat)) from hv)
theorem gsG_n30 : ∀ v ∈ sml 30,chkR 4 30 v = true :=
 show ∀ v ∈ [[0,0],[0,2],[1,0],[1,2]],chkR 4 30 v = true by simp only [List.forall_mem_cons];exact ⟨gsG_30_0_0,gsG_30_0_2,gsG_30_1_0,gsG_30_1_2,by simp⟩
theorem gsG_n31 : ∀ v ∈ sml 31,chkR 4 31 v = true := fun v hv => nomatch (show v ∈ ([] : List (List Nat)) from hv)
theorem gsG_n32 : ∀ v ∈ sml 32,chkR 4 32 v = true := fun v hv => nomatch (show v ∈ ([] : List (List Nat)) from hv)
theorem gsG_n33 : ∀ v ∈ sml 33,chkR 4 33 v = true := fun v hv => nomatch (show v ∈ ([] : List (List Nat)) from hv)
theorem gsG_n34 : ∀ v ∈ sml 34,chkR 4 34 v = true := fun v hv => nomatch (show v ∈ ([] : List (List Nat)) from hv)
theorem gsG_n35 : ∀ v ∈ sml 35,chkR 4 35 v = true := fun v hv => nomatch (show v ∈ ([] : List (List Nat)) from hv)
theorem gsG_n36 : ∀ v ∈ sml 36,chkR 4 36 v = true :=
 show ∀ v ∈ [[0,0],[0,1],[0,2],[0,3],[0,4],[0,5],[1,0],[1,1],[1,2],[1,3],[1,4],[1,5]],chkR 4 36 v = true by simp only [List.forall_mem_cons];exact ⟨gsG_36_0_0,gsG_36_0_1,gsG_36_0_2,gsG_36_0_3,gsG_36_0_4,gsG_36_0_5,gsG_36_1_0,gsG_36_1_1,gsG_36_1_2,gsG_36_1_3,gsG_36_1_4,gsG_36_1_5,by simp⟩
theorem gsG_n37 : ∀ v ∈ sml 37,chkR 4 37 v = true := fun v hv => nomatch (show v ∈ ([] : List (List Nat)) from hv)
theorem gsG_n38 : ∀ v ∈ sml 38,chkR 4 38 v = true := fun v hv => nomatch (show v ∈ ([] : List (List Nat)) from hv)
theorem gsG_n39 : ∀ v ∈ sml 39,chkR 4 39 v = true := fun v hv => nomatch (show v ∈ ([] : List (List Nat)) from hv)
theorem gsG_n40 : ∀ v ∈ sml 40,chkR 4 40 v = true := fun v hv => nomatch (show v ∈ ([] : List (List Nat)) from hv)
theorem gsG_n41 : ∀ v ∈ sml 41,chkR 4 41 v = true := fun v hv => nomatch (show v ∈ ([] : List (List Nat)) from hv)
theorem gsG_n42 : ∀ v ∈ sml 42,chkR 4 42 v = true :=
 show ∀ v ∈ [[0,0],[0,1],[0,2],[0,3],[0,4],[0,5],[1,0],[1,1],[1,2],[1,3],[1,4],[1,5]],chkR 4 42 v = true by simp only [List.forall_mem_cons];exact ⟨gsG_42_0_0,gsG_42_0_1,gsG_42_0_2,gsG_42_0_3,gsG_42_0_4,gsG_42_0_5,gsG_42_1_0,gsG_42_1_1,gsG_42_1_2,gsG_42_1_3,gsG_42_1_4,gsG_42_1_5,by simp⟩
theorem gsG_n43 : ∀ v ∈ sml 43,chkR 4 43 v = true := fun v hv => nomatch (show v ∈ ([] : List (List Nat)) from hv)
theorem gsG_n44 : ∀ v ∈ sml 44,chkR 4 44 v = true := fun v hv => nomatch (show v ∈ ([] : List (List Nat)) from hv)
theorem gsG_n45 : ∀ v ∈ sml 45,chkR 4 45 v = true := fun v hv => nomatch (show v ∈ ([] : List (List Nat)) from hv)
theorem gsG_n46 : ∀ v ∈ sml 46,chkR 4 46 v = true := fun v hv => nomatch (show v ∈ ([] : List (List Nat)) from hv)
theorem gsG_n47 : ∀ v ∈ sml 47,chkR 4 47 v = true := fun v hv => nomatch (show v ∈ ([] : List (List Nat)) from hv)
theorem gsG_n48 : ∀ v ∈ sml 48,chkR 4 48 v = true := fun v hv => nomatch (show v ∈ ([] : List (List Nat)) from hv)
theorem gsG_n49 : ∀ v ∈ sml 49,chkR 4 49 v = true := fun v hv => nomatch (show v ∈ ([] : List (List Nat)) from hv)
theorem gsG_n50 : ∀ v ∈ sml 50,chkR 4 50 v = true := fun v hv => nomatch (show v ∈ ([] : List (List Nat)) from hv)
theorem gsG_n51 : ∀ v ∈ sml 51,chkR 4 51 v = true := fun v hv => nomatch (show v ∈ ([] : List (List Nat)) from hv)
theorem gsG_n52 : ∀ v ∈ sml 52,chkR 4 52 v = true := fun v hv => nomatch (show v ∈ ([] : List (List Nat)) from hv)
theorem gsG_n53 : ∀ v ∈ sml 53,chkR 4 53 v = true := fun v hv => nomatch (show v ∈ ([] : List (List Nat)) from hv)
theorem gsG_n54 : ∀ v ∈ sml 54,chkR 4 54 v = true := fun v hv => nomatch (show v ∈ ([] : List (List Nat)) from hv)
theorem gsG_n55 : ∀ v ∈ sml 55,chkR 4 55 v = true := fun v hv => nomatch (show v ∈ ([] : List (List Nat)) from hv)
theorem gsG_n56 : ∀ v ∈ sml 56,chkR 4 56 v = true := fun v hv => nomatch (show v ∈ ([] : List (List Nat)) from hv)
theorem gsG_n57 : ∀ v ∈ sml 57,chkR 4 57 v = true := fun v hv => nomatch (show v ∈ ([] : List (List Nat)) from hv)
theorem gsG_n58 : ∀ v ∈ sml 58,chkR 4 58 v = true := fun v hv => nomatch (show v ∈ ([] : List (List Nat)) from hv)
theorem gsG_n59 : ∀ v ∈ sml 59,chkR 4 59 v = true := fun v hv => nomatch (show v ∈ ([] : List (List Nat)) from hv)
theorem gsG_n60 : ∀ v ∈ sml 60,chkR 4 60 v = true := fun v hv => nomatch (show v ∈ ([] : List (List Nat)) from hv)
theorem gsG_mem : ∀ n ∈ [0,1,2,3,4,5,6,7,8,9,10,11,12,13,14,15,16,17,18,19,20,21,22,23,24,25,26,27,28,29,30,31,32,33,34,35,36,37,38,39,40,41,42,43,44,45,46,47,48,49,50,51,52,53,54,55,56,57,58,59,60],∀ v ∈ sml n,chkR 4 n v = true := by
 rw [List.forall_mem_cons]
 refine ⟨gsG_n0,?_⟩
 rw [List.forall_mem_cons]
 refine ⟨gsG_n1,?_⟩
 rw [List.forall_mem_cons]
 refine ⟨gsG_n2,?_⟩
 rw [List.forall_mem_cons]
 refine ⟨gsG_n3,?_⟩
 rw [List.forall_mem_cons]
 refine ⟨gsG_n4,?_⟩
 rw [List.forall_mem_cons]
 refine ⟨gsG_n5,?_⟩
 rw [List.forall_mem_cons]
 refine ⟨gsG_n6,?_⟩
 rw [List.forall_mem_cons]
 refine ⟨gsG_n7,?_⟩
 rw [List.forall_mem_cons]
 refine ⟨gsG_n8,?_⟩
 rw [List.forall_mem_cons]
 refine ⟨gsG_n9,?_⟩
 rw [List.forall_mem_cons]
 refine ⟨gsG_n10,?_⟩
 rw [List.forall_mem_cons]
 refine ⟨gsG_n11,?_⟩
 rw [List.forall_mem_cons]
 refine ⟨gsG_n12,?_⟩
 rw [List.forall_mem_cons]
 refine ⟨gsG_n13,?_⟩
 rw [List.forall_mem_cons]
 refine ⟨gsG_n14,?_⟩
 rw [List.forall_mem_cons]
 refine ⟨gsG_n15,?_⟩
 rw [List.forall_mem_cons]
 refine ⟨gsG_n16,?_⟩
 rw [List.forall_mem_cons]
 refine ⟨gsG_n17,?_⟩
 rw [List.forall_mem_cons]
 refine ⟨gsG_n18,?_⟩
 rw [List.forall_mem_cons]
 refine ⟨gsG_n19,?_⟩
 rw [List.forall_mem_cons]
 refine ⟨gsG_n20,?_⟩
 rw [List.forall_mem_cons]
 refine ⟨gsG_n21,?_⟩
 rw [List.forall_mem_cons]
 refine ⟨gsG_n22,?_⟩
 rw [List.forall_mem_cons]
 refine ⟨gsG_n23,?_⟩
 rw [List.forall_mem_cons]
 refine ⟨gsG_n24,?_⟩
 rw [List.forall_mem_cons]
 refine ⟨gsG_n25,?_⟩
 rw [List.forall_mem_cons]
 refine ⟨gsG_n26,?_⟩
 rw [List.forall_mem_cons]
 refine ⟨gsG_n27,?_⟩
 rw [List.forall_mem_cons]
 refine ⟨gsG_n28,?_⟩
 rw [List.forall_mem_cons]
 refine ⟨gsG_n29,?_⟩
 rw [List.forall_mem_cons]
 refine ⟨gsG_n30,?_⟩
 rw [List.forall_mem_cons]
 refine ⟨gsG_n31,?_⟩
 rw [List.forall_mem_cons]
 refine ⟨gsG_n32,?_⟩
 rw [List.forall_mem_cons]
 refine ⟨gsG_n33,?_⟩
 rw [List.forall_mem_cons]
 refine ⟨gsG_n34,?_⟩
 rw [List.forall_mem_cons]
 refine ⟨gsG_n35,?_⟩
 rw [List.forall_mem_cons]
 refine ⟨gsG_n36,?_⟩
 rw [List.forall_mem_cons]
 refine ⟨gsG_n37,?_⟩
 rw [List.forall_mem_cons]
 refine ⟨gsG_n38,?_⟩
 rw [List.forall_mem_cons]
 refine ⟨gsG_n39,?_⟩
 rw [List.forall_mem_cons]
 refine ⟨gsG_n40,?_⟩
 rw [List.forall_mem_cons]
 refine ⟨gsG_n41,?_⟩
 rw [List.forall_mem_cons]
 refine ⟨gsG_n42,?_⟩
 rw [List.forall_mem_cons]
 refine ⟨gsG_n43,?_⟩
 rw [List.forall_mem_cons]
 refine ⟨gsG_n44,?_⟩
 rw [List.forall_mem_cons]
 refine ⟨gsG_n45,?_⟩
 rw [List.forall_mem_cons]
 refine ⟨gsG_n46,?_⟩
 rw [List.forall_mem_cons]
 refine ⟨gsG_n47,?_⟩
 rw [List.forall_mem_cons]
 refine ⟨gsG_n48,?_⟩
 rw [List.forall_mem_cons]
 refine ⟨gsG_n49,?_⟩
 rw [List.forall_mem_cons]
 refine ⟨gsG_n50,?_⟩
 rw [List.forall_mem_cons]
 refine ⟨gsG_n51,?_⟩
 rw [List.forall_mem_cons]
 refine ⟨gsG_n52,?_⟩
 rw [List.forall_mem_cons]
 refine ⟨gsG_n53,?_⟩
 rw [List.forall_mem_cons]
 refine ⟨gsG_n54,?_⟩
 rw [List.forall_mem_cons]
 refine ⟨gsG_n55,?_⟩
 rw [List.forall_mem_cons]
 refine ⟨gsG_n56,?_⟩
 rw [List.forall_mem_cons]
 refine ⟨gsG_n57,?_⟩
 rw [List.forall_mem_cons]
 refine ⟨gsG_n58,?_⟩
 rw [List.forall_mem_cons]
 refine ⟨gsG_n59,?_⟩
 rw [List.forall_mem_cons]
 refine ⟨gsG_n60,?_⟩
 exact fun n hn => nomatch hn
theorem gsG_all : ∀ n,∀ v ∈ sml n,chkR 4 n v = true := by
 intro n v hv
 by_cases hn : n < 61
 ·exact gsG_mem n (by
   have : n ∈ List.range 61 := List.mem_range.2 hn
   exact this) v hv
 ·exfalso
  have : sml n = [] := by
   unfold sml
   rw [List.getD_eq_getElem?_getD,List.getElem?_eq_none (by show smlT.length ≤ n;have : smlT.length = 61 := rfl;omega)]
   rfl
  rw [this] at hv
  simp at hv
end Go.Proofs.YtlbckpljefadpaaGreat
namespace Go.Proofs.YtlbckpljefadpaaGreat
open Go Go.Lg Go.ChangeShapes Go.WideShapes Go.ChangeAt Go.RowKit
set_option maxRecDepth 100000
theorem own : ownKnob Tryz.prog.godebug = none := by kernel_rfl
theorem cChr : Tryz.prog.cellsOf 24 = 2 := by kernel_rfl
theorem cInt : Tryz.prog.cellsOf 3 = 1 := by kernel_rfl
theorem cInts : Tryz.prog.cellsOf 22 = 1 := by kernel_rfl
theorem tsChr : Tryz.prog.cellTypes Tryz.prog.depth 24 = some [3,22] := by kernel_rfl
theorem rep_ints {W : World} {a : Addr} {len cap : Nat} {zs : List Int} (hs : a.spot = none) (hl : len ≤ zs.length) (hc : len ≤ cap) (hm : cap ≤ maxLen) (hcell : ∀ i, i < zs.length → W.cell? (a.add i) = some (.int .i64 (zs.getD i 0))) :
  Rep (fun g => g < W.heap.size) W.heap (fun _ => none) (.sl (zs.take len).length (ec (zs.take len))) (.slice (some a) len cap) := by
 have e : (zs.take len).length = len := by rw [List.length_take,Nat.min_eq_left hl]
 rw [e]
 refine Rep.sl (us := (zs.take len).map fun z => Value.int .i64 z) hc hm hs (by simp [ec]) ?_ ?_ ?_
 ·intro j u hu
  rw [List.getElem?_map] at hu
  obtain ⟨z,hz,rfl⟩ := Option.map_eq_some_iff.1 hu
  have hj : j < (zs.take len).length := (List.getElem?_eq_some_iff.1 hz).1
  have hj2 : j < zs.length := by rw [e] at hj;omega
  have hzj : zs.getD j 0 = z := by
   rw [List.getElem?_take,if_pos (by rw [e] at hj;exact hj)] at hz
   simp [List.getD,hz]
  have h := hcell j hj2
  rw [cell?_eq' W a hs j,hzj] at h
  refine ⟨?_,h⟩
  unfold cellAt at h
  cases hh : W.heap[a.block]? with
  | none => rw [hh] at h;cases h
  | some o => exact (Array.getElem?_eq_some_iff.1 hh).1
 ·intro u hu
  obtain ⟨z,_,rfl⟩ := List.mem_map.1 hu
  rfl
 ·intro j c u hc hu
  rw [ec,List.getElem?_map] at hc
  rw [List.getElem?_map] at hu
  obtain ⟨z,hz,rfl⟩ := Option.map_eq_some_iff.1 hc
  rw [hz] at hu
  cases hu
  exact .lit _
theorem open_chr {H : Type} {enc : TypeId × Value → H} {W : World} {b0 : Nat} {v : Value} {d : DataW H} {ps : List MemPlace} (hval : Value.okWide Tryz.prog W .any b0 24 v) (hd : DataW.Trod enc Tryz.prog W 0 (fun _ => true) true 24 v d ps) :
  ∃ (lv : Int) (xs : List Int), (Lit.int .i64 lv).wf = true ∧ Rep (fun g => g < W.heap.size) W.heap (fun _ => none) (.agg [.lit (.int .i64 lv), .sl xs.length (ec xs)]) v ∧
    ∀ W' : World,(∀ i,i < W.heap.size → W'.heap[i]? = W.heap[i]?) → ∃ ps',DataW.Trod enc Tryz.prog W' 0 (fun b => decide (b < W.heap.size)) true 24 v d ps' := by
 simp only [Value.okWide,Tryz.underlying24] at hval
 obtain ⟨cs,rfl,h2,ts,hts,_,hrow⟩ := hval
 rw [tsChr] at hts
 cases hts
 rw [cChr] at h2
 obtain ⟨fuel,hf⟩ := hd
 obtain ⟨y0,y1,n,hx,hlen,e0,e1⟩ := trod_struct2 Tryz.underlying24 hf
 have hc0 : (Value.agg cs).cells = cs := rfl
 rw [hc0] at e0 e1 hlen
 obtain ⟨c0,c1,hcs⟩ : ∃ c0 c1,cs = #[c0,c1] := by
  obtain ⟨l⟩ := cs
  match l,h2 with
  | [c0,c1],_ => exact ⟨c0,c1,rfl⟩
 subst hcs
 simp only [cInt,cInts,List.drop_zero,List.drop_succ_cons,List.take_succ_cons,List.take_zero] at e0 e1
 obtain ⟨lv,a1,rfl,hw⟩ := DataW.trod_int Tryz.underlying3 e0
 simp only [List.cons.injEq,and_true] at a1
 subst a1
 have r1 := hrow 1 c1 rfl
 obtain ⟨u,hu,hcell⟩ := r1
 simp only [List.length_cons,List.length_nil,Nat.reduceAdd,Nat.reduceMod,List.getElem?_cons_succ,List.getElem?_cons_zero,Option.some.injEq] at hu
 subst hu
 obtain ⟨hx1,hx2⟩ := Prod.mk.inj hx
 rcases open_ints Tryz.underlying22 Tryz.underlying3 cInt e1 with ⟨b1,rfl⟩ | ⟨a,len,cap,zs,b1,hb,hl,hm,hz,rfl,hcl,hwf⟩
 ·simp only [List.cons.injEq,and_true] at b1
  subst b1
  refine ⟨lv,[],hw,?_,fun W' _ => ⟨ps,2,?_⟩⟩
  ·refine Rep.agg (us := [.int .i64 lv,.slice none 0 0]) rfl (by simp [Value.oneCell']) ?_
   intro j c u hc hu
   match j with
   | 0 => simp at hc hu;subst hc;subst hu;exact .lit _
   | 1 => simp at hc hu;subst hc;subst hu;exact .snil
   | j + 2 => simp at hc
  ·rw [hx1,hx2]
   refine trod_struct2_mk (y0 := (.lit (.int .i64 lv),[])) (y1 := (.nil,[])) Tryz.underlying24 hlen ?_ ?_
   ·rw [hc0]
    simp only [cInt,List.drop_zero,List.take_succ_cons,List.take_zero]
    exact trod_int_mk 0 Tryz.underlying3 hw
   ·rw [hc0]
    simp only [cInts,List.drop_zero,List.drop_succ_cons,List.take_succ_cons,List.take_zero]
    simp [DataW.trod,Tryz.underlying22]
 ·simp only [List.cons.injEq,and_true] at b1
  subst b1
  simp only [if_true] at hz
  have hspot : a.spot = none := by
   simp only [Cell.okWide,Cell.ok,Tryz.underlying22] at hcell
   exact hcell.2.2.2.1
  refine ⟨lv,zs.take len,hw,?_,fun W' hk => ⟨ps,3,?_⟩⟩
  ·refine Rep.agg (us := [.int .i64 lv,.slice (some a) len cap]) rfl (by simp [Value.oneCell']) ?_
   intro j c u hc hu
   match j with
   | 0 => simp at hc hu;subst hc;subst hu;exact .lit _
   | 1 => simp at hc hu;subst hc;subst hu;exact (by simpa using rep_ints hspot (by omega) hl hm hcl)
   | j + 2 => simp at hc
  ·rw [hx1,hx2]
   have hblk : ∀ i,i < zs.length → a.block < W.heap.size := fun i hi => by
    have h := hcl i hi
    rw [cell?_eq' W a hspot i] at h
    unfold cellAt at h
    cases hh : W.heap[a.block]? with
    | none => rw [hh] at h;cases h
    | some o => exact (Array.getElem?_eq_some_iff.1 hh).1
   refine trod_struct2_mk (y0 := (.lit (.int .i64 lv),[])) (y1 := (.slice (lits .i64 (zs.take len)) (lits .i64 (zs.drop len)),MemPlace.row a zs.length)) Tryz.underlying24 hlen ?_ ?_
   ·rw [hc0]
    simp only [cInt,List.drop_zero,List.take_succ_cons,List.take_zero]
    exact trod_int_mk 1 Tryz.underlying3 hw
   ·rw [hc0]
    simp only [cInts,List.drop_zero,List.drop_succ_cons,List.take_succ_cons,List.take_zero]
    refine shut_ints 0 Tryz.underlying22 Tryz.underlying3 cInt hb hl hm ?_ (fun i hi => ?_) hwf
    ·by_cases hbs : a.block < W.heap.size
     ·simp [hbs,hz]
     ·have : zs.length = 0 := by
       rcases Nat.eq_zero_or_pos zs.length with h | h
       ·exact h
       ·exact absurd (hblk 0 h) hbs
      simp [hbs];omega
    ·rw [cell?_eq' W' a hspot i,cellAt_same (hk _ (hblk i hi)),← cell?_eq' W a hspot i]
     exact hcl i hi
end Go.Proofs.YtlbckpljefadpaaGreat