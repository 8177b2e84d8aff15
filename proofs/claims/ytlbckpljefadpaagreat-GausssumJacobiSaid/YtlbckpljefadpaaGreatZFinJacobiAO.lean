/- Contracts of functions of the program, and what proves them (texts: JP ClsG). -/
import Derived.Test.YtlbckpljefadpaaGreatRows
import Derived.WalkKit
import Derived.ProofKit
import Derived.OpenShut
import Derived.Stop.Joined
import Derived.Test.YtlbckpljefadpaaGreatZAD
import Derived.Test.YtlbckpljefadpaaGreatZAP
import Derived.Test.YtlbckpljefadpaaGreatZBU
import Derived.Test.YtlbckpljefadpaaGreatZFinJacobiAA
import Derived.Test.YtlbckpljefadpaaGreatZFinJacobiAB
import Derived.Test.YtlbckpljefadpaaGreatZFinJacobiAC
import Derived.Test.YtlbckpljefadpaaGreatZFinJacobiAD
import Derived.Test.YtlbckpljefadpaaGreatZFinJacobiAE
import Derived.Test.YtlbckpljefadpaaGreatZFinJacobiAF
import Derived.Test.YtlbckpljefadpaaGreatZFinJacobiAG
import Derived.Test.YtlbckpljefadpaaGreatZFinJacobiAH
import Derived.Test.YtlbckpljefadpaaGreatZFinJacobiAI
import Derived.Test.YtlbckpljefadpaaGreatZFinJacobiAJ
import Derived.Test.YtlbckpljefadpaaGreatZFinJacobiAK
import Derived.Test.YtlbckpljefadpaaGreatZFinJacobiAL
import Derived.Test.YtlbckpljefadpaaGreatZFinJacobiAM
import Derived.Test.YtlbckpljefadpaaGreatZFinJacobiAN
set_option linter.all false
namespace Go.Proofs.YtlbckpljefadpaaGreat
open Go Go.Lg Go.Num
set_option maxRecDepth 100000
theorem jp_n0 : ∀ p ∈ pj 0,chkJ 0 p.1 p.2 = true := fun p hp => nomatch (show p ∈ ([] : List (List Nat × List Nat)) from hp)
theorem jp_n1 : ∀ p ∈ pj 1,chkJ 1 p.1 p.2 = true :=
 show ∀ p ∈ [([],[])],chkJ 1 p.1 p.2 = true by
  refine List.forall_mem_cons.2 ⟨jp_1__,?_⟩
  exact fun p hp => nomatch hp
theorem jp_n2 : ∀ p ∈ pj 2,chkJ 2 p.1 p.2 = true :=
 show ∀ p ∈ [([],[])],chkJ 2 p.1 p.2 = true by
  refine List.forall_mem_cons.2 ⟨jp_2__,?_⟩
  exact fun p hp => nomatch hp
theorem jp_n3 : ∀ p ∈ pj 3,chkJ 3 p.1 p.2 = true :=
 show ∀ p ∈ [([0],[0]),([0],[1]),([1],[0]),([1],[1])],chkJ 3 p.1 p.2 = true by
  refine List.forall_mem_cons.2 ⟨jp_3_0_0,?_⟩
  refine List.forall_mem_cons.2 ⟨jp_3_0_1,?_⟩
  refine List.forall_mem_cons.2 ⟨jp_3_1_0,?_⟩
  refine List.forall_mem_cons.2 ⟨jp_3_1_1,?_⟩
  exact fun p hp => nomatch hp
theorem jp_n4 : ∀ p ∈ pj 4,chkJ 4 p.1 p.2 = true :=
 show ∀ p ∈ [([0],[0]),([0],[1]),([1],[0]),([1],[1])],chkJ 4 p.1 p.2 = true by
  refine List.forall_mem_cons.2 ⟨jp_4_0_0,?_⟩
  refine List.forall_mem_cons.2 ⟨jp_4_0_1,?_⟩
  refine List.forall_mem_cons.2 ⟨jp_4_1_0,?_⟩
  refine List.forall_mem_cons.2 ⟨jp_4_1_1,?_⟩
  exact fun p hp => nomatch hp
theorem jp_n5 : ∀ p ∈ pj 5,chkJ 5 p.1 p.2 = true :=
 show ∀ p ∈ [([0],[0]),([0],[1]),([0],[2]),([0],[3]),([1],[0]),([1],[1]),([1],[2]),([1],[3]),([2],[0]),([2],[1]),([2],[2]),([2],[3]),([3],[0]),([3],[1]),([3],[2]),([3],[3])],chkJ 5 p.1 p.2 = true by
  refine List.forall_mem_cons.2 ⟨jp_5_0_0,?_⟩
  refine List.forall_mem_cons.2 ⟨jp_5_0_1,?_⟩
  refine List.forall_mem_cons.2 ⟨jp_5_0_2,?_⟩
  refine List.forall_mem_cons.2 ⟨jp_5_0_3,?_⟩
  refine List.forall_mem_cons.2 ⟨jp_5_1_0,?_⟩
  refine List.forall_mem_cons.2 ⟨jp_5_1_1,?_⟩
  refine List.forall_mem_cons.2 ⟨jp_5_1_2,?_⟩
  refine List.forall_mem_cons.2 ⟨jp_5_1_3,?_⟩
  refine List.forall_mem_cons.2 ⟨jp_5_2_0,?_⟩
  refine List.forall_mem_cons.2 ⟨jp_5_2_1,?_⟩
  refine List.forall_mem_cons.2 ⟨jp_5_2_2,?_⟩
  refine List.forall_mem_cons.2 ⟨jp_5_2_3,?_⟩
  refine List.forall_mem_cons.2 ⟨jp_5_3_0,?_⟩
  refine List.forall_mem_cons.2 ⟨jp_5_3_1,?_⟩
  refine List.forall_mem_cons.2 ⟨jp_5_3_2,?_⟩
  refine List.forall_mem_cons.2 ⟨jp_5_3_3,?_⟩
  exact fun p hp => nomatch hp
theorem jp_n6 : ∀ p ∈ pj 6,chkJ 6 p.1 p.2 = true :=
 show ∀ p ∈ [([0],[0]),([0],[1]),([1],[0]),([1],[1])],chkJ 6 p.1 p.2 = true by
  refine List.forall_mem_cons.2 ⟨jp_6_0_0,?_⟩
  refine List.forall_mem_cons.2 ⟨jp_6_0_1,?_⟩
  refine List.forall_mem_cons.2 ⟨jp_6_1_0,?_⟩
  refine List.forall_mem_cons.2 ⟨jp_6_1_1,?_⟩
  exact fun p hp => nomatch hp
theorem jp_n7 : ∀ p ∈ pj 7,chkJ 7 p.1 p.2 = true :=
 show ∀ p ∈ [([0],[0]),([0],[1]),([0],[2]),([0],[3]),([0],[4]),([0],[5]),([1],[0]),([1],[1]),([1],[2]),([1],[3]),([1],[4]),([1],[5]),([2],[0]),([2],[1]),([2],[2]),([2],[3]),([2],[4]),([2],[5]),([3],[0]),([3],[1]),([3],[2]),([3],[3]),([3],[4]),([3],[5]),([4],[0]),([4],[1]),([4],[2]),([4],[3]),([4],[4]),([4],[5]),([5],[0]),([5],[1]),([5],[2]),([5],[3]),([5],[4]),([5],[5])],chkJ 7 p.1 p.2 = true by
  refine List.forall_mem_cons.2 ⟨jp_7_0_0,?_⟩
  refine List.forall_mem_cons.2 ⟨jp_7_0_1,?_⟩
  refine List.forall_mem_cons.2 ⟨jp_7_0_2,?_⟩
  refine List.forall_mem_cons.2 ⟨jp_7_0_3,?_⟩
  refine List.forall_mem_cons.2 ⟨jp_7_0_4,?_⟩
  refine List.forall_mem_cons.2 ⟨jp_7_0_5,?_⟩
  refine List.forall_mem_cons.2 ⟨jp_7_1_0,?_⟩
  refine List.forall_mem_cons.2 ⟨jp_7_1_1,?_⟩
  refine List.forall_mem_cons.2 ⟨jp_7_1_2,?_⟩
  refine List.forall_mem_cons.2 ⟨jp_7_1_3,?_⟩
  refine List.forall_mem_cons.2 ⟨jp_7_1_4,?_⟩
  refine List.forall_mem_cons.2 ⟨jp_7_1_5,?_⟩
  refine List.forall_mem_cons.2 ⟨jp_7_2_0,?_⟩
  refine List.forall_mem_cons.2 ⟨jp_7_2_1,?_⟩
  refine List.forall_mem_cons.2 ⟨jp_7_2_2,?_⟩
  refine List.forall_mem_cons.2 ⟨jp_7_2_3,?_⟩
  refine List.forall_mem_cons.2 ⟨jp_7_2_4,?_⟩
  refine List.forall_mem_cons.2 ⟨jp_7_2_5,?_⟩
  refine List.forall_mem_cons.2 ⟨jp_7_3_0,?_⟩
  refine List.forall_mem_cons.2 ⟨jp_7_3_1,?_⟩
  refine List.forall_mem_cons.2 ⟨jp_7_3_2,?_⟩
  refine List.forall_mem_cons.2 ⟨jp_7_3_3,?_⟩
  refine List.forall_mem_cons.2 ⟨jp_7_3_4,?_⟩
  refine List.forall_mem_cons.2 ⟨jp_7_3_5,?_⟩
  refine List.forall_mem_cons.2 ⟨jp_7_4_0,?_⟩
  refine List.forall_mem_cons.2 ⟨jp_7_4_1,?_⟩
  refine List.forall_mem_cons.2 ⟨jp_7_4_2,?_⟩
  refine List.forall_mem_cons.2 ⟨jp_7_4_3,?_⟩
  refine List.forall_mem_cons.2 ⟨jp_7_4_4,?_⟩
  refine List.forall_mem_cons.2 ⟨jp_7_4_5,?_⟩
  refine List.forall_mem_cons.2 ⟨jp_7_5_0,?_⟩
  refine List.forall_mem_cons.2 ⟨jp_7_5_1,?_⟩
  refine List.forall_mem_cons.2 ⟨jp_7_5_2,?_⟩
  refine List.forall_mem_cons.2 ⟨jp_7_5_3,?_⟩
  refine List.forall_mem_cons.2 ⟨jp_7_5_4,?_⟩
  refine List.forall_mem_cons.2 ⟨jp_7_5_5,?_⟩
  exact fun p hp => nomatch hp
theorem jp_n8 : ∀ p ∈ pj 8,chkJ 8 p.1 p.2 = true :=
 show ∀ p ∈ [([0,0],[0,0]),([0,0],[0,1]),([0,0],[1,0]),([0,0],[1,1]),([0,1],[0,0]),([0,1],[0,1]),([0,1],[1,0]),([0,1],[1,1]),([1,0],[0,0]),([1,0],[0,1]),([1,0],[1,0]),([1,0],[1,1]),([1,1],[0,0]),([1,1],[0,1]),([1,1],[1,0]),([1,1],[1,1])],chkJ 8 p.1 p.2 = true by
  refine List.forall_mem_cons.2 ⟨jp_8_0_0_0_0,?_⟩
  refine List.forall_mem_cons.2 ⟨jp_8_0_0_0_1,?_⟩
  refine List.forall_mem_cons.2 ⟨jp_8_0_0_1_0,?_⟩
  refine List.forall_mem_cons.2 ⟨jp_8_0_0_1_1,?_⟩
  refine List.forall_mem_cons.2 ⟨jp_8_0_1_0_0,?_⟩
  refine List.forall_mem_cons.2 ⟨jp_8_0_1_0_1,?_⟩
  refine List.forall_mem_cons.2 ⟨jp_8_0_1_1_0,?_⟩
  refine List.forall_mem_cons.2 ⟨jp_8_0_1_1_1,?_⟩
  refine List.forall_mem_cons.2 ⟨jp_8_1_0_0_0,?_⟩
  refine List.forall_mem_cons.2 ⟨jp_8_1_0_0_1,?_⟩
  refine List.forall_mem_cons.2 ⟨jp_8_1_0_1_0,?_⟩
  refine List.forall_mem_cons.2 ⟨jp_8_1_0_1_1,?_⟩
  refine List.forall_mem_cons.2 ⟨jp_8_1_1_0_0,?_⟩
  refine List.forall_mem_cons.2 ⟨jp_8_1_1_0_1,?_⟩
  refine List.forall_mem_cons.2 ⟨jp_8_1_1_1_0,?_⟩
  refine List.forall_mem_cons.2 ⟨jp_8_1_1_1_1,?_⟩
  exact fun p hp => nomatch hp
theorem jp_n9 : ∀ p ∈ pj 9,chkJ 9 p.1 p.2 = true :=
 show ∀ p ∈ [([0],[0]),([0],[1]),([0],[2]),([0],[3]),([0],[4]),([0],[5]),([1],[0]),([1],[1]),([1],[2]),([1],[3]),([1],[4]),([1],[5]),([2],[0]),([2],[1]),([2],[2]),([2],[3]),([2],[4]),([2],[5]),([3],[0]),([3],[1]),([3],[2]),([3],[3]),([3],[4]),([3],[5]),([4],[0]),([4],[1]),([4],[2]),([4],[3]),([4],[4]),([4],[5]),([5],[0]),([5],[1]),([5],[2]),([5],[3]),([5],[4]),([5],[5])],chkJ 9 p.1 p.2 = true by
  refine List.forall_mem_cons.2 ⟨jp_9_0_0,?_⟩
  refine List.forall_mem_cons.2 ⟨jp_9_0_1,?_⟩
  refine List.forall_mem_cons.2 ⟨jp_9_0_2,?_⟩
  refine List.forall_mem_cons.2 ⟨jp_9_0_3,?_⟩
  refine List.forall_mem_cons.2 ⟨jp_9_0_4,?_⟩
  refine List.forall_mem_cons.2 ⟨jp_9_0_5,?_⟩
  refine List.forall_mem_cons.2 ⟨jp_9_1_0,?_⟩
  refine List.forall_mem_cons.2 ⟨jp_9_1_1,?_⟩
  refine List.forall_mem_cons.2 ⟨jp_9_1_2,?_⟩
  refine List.forall_mem_cons.2 ⟨jp_9_1_3,?_⟩
  refine List.forall_mem_cons.2 ⟨jp_9_1_4,?_⟩
  refine List.forall_mem_cons.2 ⟨jp_9_1_5,?_⟩
  refine List.forall_mem_cons.2 ⟨jp_9_2_0,?_⟩
  refine List.forall_mem_cons.2 ⟨jp_9_2_1,?_⟩
  refine List.forall_mem_cons.2 ⟨jp_9_2_2,?_⟩
  refine List.forall_mem_cons.2 ⟨jp_9_2_3,?_⟩
  refine List.forall_mem_cons.2 ⟨jp_9_2_4,?_⟩
  refine List.forall_mem_cons.2 ⟨jp_9_2_5,?_⟩
  refine List.forall_mem_cons.2 ⟨jp_9_3_0,?_⟩
  refine List.forall_mem_cons.2 ⟨jp_9_3_1,?_⟩
  refine List.forall_mem_cons.2 ⟨jp_9_3_2,?_⟩
  refine List.forall_mem_cons.2 ⟨jp_9_3_3,?_⟩
  refine List.forall_mem_cons.2 ⟨jp_9_3_4,?_⟩
  refine List.forall_mem_cons.2 ⟨jp_9_3_5,?_⟩
  refine List.forall_mem_cons.2 ⟨jp_9_4_0,?_⟩
  refine List.forall_mem_cons.2 ⟨jp_9_4_1,?_⟩
  refine List.forall_mem_cons.2 ⟨jp_9_4_2,?_⟩
  refine List.forall_mem_cons.2 ⟨jp_9_4_3,?_⟩
  refine List.forall_mem_cons.2 ⟨jp_9_4_4,?_⟩
  refine List.forall_mem_cons.2 ⟨jp_9_4_5,?_⟩
  refine List.forall_mem_cons.2 ⟨jp_9_5_0,?_⟩
  refine List.forall_mem_cons.2 ⟨jp_9_5_1,?_⟩
  refine List.forall_mem_cons.2 ⟨jp_9_5_2,?_⟩
  refine List.forall_mem_cons.2 ⟨jp_9_5_3,?_⟩
  refine List.forall_mem_cons.2 ⟨jp_9_5_4,?_⟩
  refine List.forall_mem_cons.2 ⟨jp_9_5_5,?_⟩
  exact fun p hp => nomatch hp
theorem jp_n10 : ∀ p ∈ pj 10,chkJ 10 p.1 p.2 = true :=
 show ∀ p ∈ [([0],[0]),([0],[1]),([0],[2]),([0],[3]),([1],[0]),([1],[1]),([1],[2]),([1],[3]),([2],[0]),([2],[1]),([2],[2]),([2],[3]),([3],[0]),([3],[1]),([3],[2]),([3],[3])],chkJ 10 p.1 p.2 = true by
  refine List.forall_mem_cons.2 ⟨jp_10_0_0,?_⟩
  refine List.forall_mem_cons.2 ⟨jp_10_0_1,?_⟩
  refine List.forall_mem_cons.2 ⟨jp_10_0_2,?_⟩
  refine List.forall_mem_cons.2 ⟨jp_10_0_3,?_⟩
  refine List.forall_mem_cons.2 ⟨jp_10_1_0,?_⟩
  refine List.forall_mem_cons.2 ⟨jp_10_1_1,?_⟩
  refine List.forall_mem_cons.2 ⟨jp_10_1_2,?_⟩
  refine List.forall_mem_cons.2 ⟨jp_10_1_3,?_⟩
  refine List.forall_mem_cons.2 ⟨jp_10_2_0,?_⟩
  refine List.forall_mem_cons.2 ⟨jp_10_2_1,?_⟩
  refine List.forall_mem_cons.2 ⟨jp_10_2_2,?_⟩
  refine List.forall_mem_cons.2 ⟨jp_10_2_3,?_⟩
  refine List.forall_mem_cons.2 ⟨jp_10_3_0,?_⟩
  refine List.forall_mem_cons.2 ⟨jp_10_3_1,?_⟩
  refine List.forall_mem_cons.2 ⟨jp_10_3_2,?_⟩
  refine List.forall_mem_cons.2 ⟨jp_10_3_3,?_⟩
  exact fun p hp => nomatch hp
theorem jp_n11 : ∀ p ∈ pj 11,chkJ 11 p.1 p.2 = true :=
 show ∀ p ∈ [([0],[0]),([0],[5]),([5],[0]),([5],[5])],chkJ 11 p.1 p.2 = true by
  refine List.forall_mem_cons.2 ⟨jp_11_0_0,?_⟩
  refine List.forall_mem_cons.2 ⟨jp_11_0_5,?_⟩
  refine List.forall_mem_cons.2 ⟨jp_11_5_0,?_⟩
  refine List.forall_mem_cons.2 ⟨jp_11_5_5,?_⟩
  exact fun p hp => nomatch hp
theorem jp_n12 : ∀ p ∈ pj 12,chkJ 12 p.1 p.2 = true :=
 show ∀ p ∈ [([0,0],[0,0]),([0,0],[0,1]),([0,0],[1,0]),([0,0],[1,1]),([0,1],[0,0]),([0,1],[0,1]),([0,1],[1,0]),([0,1],[1,1]),([1,0],[0,0]),([1,0],[0,1]),([1,0],[1,0]),([1,0],[1,1]),([1,1],[0,0]),([1,1],[0,1]),([1,1],[1,0]),([1,1],[1,1])],chkJ 12 p.1 p.2 = true by
  refine List.forall_mem_cons.2 ⟨jp_12_0_0_0_0,?_⟩
  refine List.forall_mem_cons.2 ⟨jp_12_0_0_0_1,?_⟩
  refine List.forall_mem_cons.2 ⟨jp_12_0_0_1_0,?_⟩
  refine List.forall_mem_cons.2 ⟨jp_12_0_0_1_1,?_⟩
  refine List.forall_mem_cons.2 ⟨jp_12_0_1_0_0,?_⟩
  refine List.forall_mem_cons.2 ⟨jp_12_0_1_0_1,?_⟩
  refine List.forall_mem_cons.2 ⟨jp_12_0_1_1_0,?_⟩
  refine List.forall_mem_cons.2 ⟨jp_12_0_1_1_1,?_⟩
  refine List.forall_mem_cons.2 ⟨jp_12_1_0_0_0,?_⟩
  refine List.forall_mem_cons.2 ⟨jp_12_1_0_0_1,?_⟩
  refine List.forall_mem_cons.2 ⟨jp_12_1_0_1_0,?_⟩
  refine List.forall_mem_cons.2 ⟨jp_12_1_0_1_1,?_⟩
  refine List.forall_mem_cons.2 ⟨jp_12_1_1_0_0,?_⟩
  refine List.forall_mem_cons.2 ⟨jp_12_1_1_0_1,?_⟩
  refine List.forall_mem_cons.2 ⟨jp_12_1_1_1_0,?_⟩
  refine List.forall_mem_cons.2 ⟨jp_12_1_1_1_1,?_⟩
  exact fun p hp => nomatch hp
theorem jp_n13 : ∀ p ∈ pj 13,chkJ 13 p.1 p.2 = true :=
 show ∀ p ∈ [([0],[0]),([0],[6]),([6],[0]),([6],[6])],chkJ 13 p.1 p.2 = true by
  refine List.forall_mem_cons.2 ⟨jp_13_0_0,?_⟩
  refine List.forall_mem_cons.2 ⟨jp_13_0_6,?_⟩
  refine List.forall_mem_cons.2 ⟨jp_13_6_0,?_⟩
  refine List.forall_mem_cons.2 ⟨jp_13_6_6,?_⟩
  exact fun p hp => nomatch hp
theorem jp_n14 : ∀ p ∈ pj 14,chkJ 14 p.1 p.2 = true :=
 show ∀ p ∈ [([0],[0]),([0],[1]),([0],[2]),([0],[3]),([0],[4]),([0],[5]),([1],[0]),([1],[1]),([1],[2]),([1],[3]),([1],[4]),([1],[5]),([2],[0]),([2],[1]),([2],[2]),([2],[3]),([2],[4]),([2],[5]),([3],[0]),([3],[1]),([3],[2]),([3],[3]),([3],[4]),([3],[5]),([4],[0]),([4],[1]),([4],[2]),([4],[3]),([4],[4]),([4],[5]),([5],[0]),([5],[1]),([5],[2]),([5],[3]),([5],[4]),([5],[5])],chkJ 14 p.1 p.2 = true by
  refine List.forall_mem_cons.2 ⟨jp_14_0_0,?_⟩
  refine List.forall_mem_cons.2 ⟨jp_14_0_1,?_⟩
  refine List.forall_mem_cons.2 ⟨jp_14_0_2,?_⟩
  refine List.forall_mem_cons.2 ⟨jp_14_0_3,?_⟩
  refine List.forall_mem_cons.2 ⟨jp_14_0_4,?_⟩
  refine List.forall_mem_cons.2 ⟨jp_14_0_5,?_⟩
  refine List.forall_mem_cons.2 ⟨jp_14_1_0,?_⟩
  refine List.forall_mem_cons.2 ⟨jp_14_1_1,?_⟩
  refine List.forall_mem_cons.2 ⟨jp_14_1_2,?_⟩
  refine List.forall_mem_cons.2 ⟨jp_14_1_3,?_⟩
  refine List.forall_mem_cons.2 ⟨jp_14_1_4,?_⟩
  refine List.forall_mem_cons.2 ⟨jp_14_1_5,?_⟩
  refine List.forall_mem_cons.2 ⟨jp_14_2_0,?_⟩
  refine List.forall_mem_cons.2 ⟨jp_14_2_1,?_⟩
  refine List.forall_mem_cons.2 ⟨jp_14_2_2,?_⟩
  refine List.forall_mem_cons.2 ⟨jp_14_2_3,?_⟩
  refine List.forall_mem_cons.2 ⟨jp_14_2_4,?_⟩
  refine List.forall_mem_cons.2 ⟨jp_14_2_5,?_⟩
  refine List.forall_mem_cons.2 ⟨jp_14_3_0,?_⟩
  refine List.forall_mem_cons.2 ⟨jp_14_3_1,?_⟩
  refine List.forall_mem_cons.2 ⟨jp_14_3_2,?_⟩
  refine List.forall_mem_cons.2 ⟨jp_14_3_3,?_⟩
  refine List.forall_mem_cons.2 ⟨jp_14_3_4,?_⟩
  refine List.forall_mem_cons.2 ⟨jp_14_3_5,?_⟩
  refine List.forall_mem_cons.2 ⟨jp_14_4_0,?_⟩
  refine List.forall_mem_cons.2 ⟨jp_14_4_1,?_⟩
  refine List.forall_mem_cons.2 ⟨jp_14_4_2,?_⟩
  refine List.forall_mem_cons.2 ⟨jp_14_4_3,?_⟩
  refine List.forall_mem_cons.2 ⟨jp_14_4_4,?_⟩
  refine List.forall_mem_cons.2 ⟨jp_14_4_5,?_⟩
  refine List.forall_mem_cons.2 ⟨jp_14_5_0,?_⟩
  refine List.forall_mem_cons.2 ⟨jp_14_5_1,?_⟩
  refine List.forall_mem_cons.2 ⟨jp_14_5_2,?_⟩
  refine List.forall_mem_cons.2 ⟨jp_14_5_3,?_⟩
  refine List.forall_mem_cons.2 ⟨jp_14_5_4,?_⟩
  refine List.forall_mem_cons.2 ⟨jp_14_5_5,?_⟩
  exact fun p hp => nomatch hp
theorem jp_n15 : ∀ p ∈ pj 15,chkJ 15 p.1 p.2 = true :=
 show ∀ p ∈ [([0,0],[0,0]),([0,0],[0,2]),([0,0],[1,0]),([0,0],[1,2]),([0,2],[0,0]),([0,2],[0,2]),([0,2],[1,0]),([0,2],[1,2]),([1,0],[0,0]),([1,0],[0,2]),([1,0],[1,0]),([1,0],[1,2]),([1,2],[0,0]),([1,2],[0,2]),([1,2],[1,0]),([1,2],[1,2])],chkJ 15 p.1 p.2 = true by
  refine List.forall_mem_cons.2 ⟨jp_15_0_0_0_0,?_⟩
  refine List.forall_mem_cons.2 ⟨jp_15_0_0_0_2,?_⟩
  refine List.forall_mem_cons.2 ⟨jp_15_0_0_1_0,?_⟩
  refine List.forall_mem_cons.2 ⟨jp_15_0_0_1_2,?_⟩
  refine List.forall_mem_cons.2 ⟨jp_15_0_2_0_0,?_⟩
  refine List.forall_mem_cons.2 ⟨jp_15_0_2_0_2,?_⟩
  refine List.forall_mem_cons.2 ⟨jp_15_0_2_1_0,?_⟩
  refine List.forall_mem_cons.2 ⟨jp_15_0_2_1_2,?_⟩
  refine List.forall_mem_cons.2 ⟨jp_15_1_0_0_0,?_⟩
  refine List.forall_mem_cons.2 ⟨jp_15_1_0_0_2,?_⟩
  refine List.forall_mem_cons.2 ⟨jp_15_1_0_1_0,?_⟩
  refine List.forall_mem_cons.2 ⟨jp_15_1_0_1_2,?_⟩
  refine List.forall_mem_cons.2 ⟨jp_15_1_2_0_0,?_⟩
  refine List.forall_mem_cons.2 ⟨jp_15_1_2_0_2,?_⟩
  refine List.forall_mem_cons.2 ⟨jp_15_1_2_1_0,?_⟩
  refine List.forall_mem_cons.2 ⟨jp_15_1_2_1_2,?_⟩
  exact fun p hp => nomatch hp
theorem jp_n16 : ∀ p ∈ pj 16,chkJ 16 p.1 p.2 = true :=
 show ∀ p ∈ [([0,0],[0,0]),([0,0],[0,1]),([0,0],[0,2]),([0,0],[0,3]),([0,0],[1,0]),([0,0],[1,1]),([0,0],[1,2]),([0,0],[1,3]),([0,1],[0,0]),([0,1],[0,1]),([0,1],[0,2]),([0,1],[0,3]),([0,1],[1,0]),([0,1],[1,1]),([0,1],[1,2]),([0,1],[1,3]),([0,2],[0,0]),([0,2],[0,1]),([0,2],[0,2]),([0,2],[0,3]),([0,2],[1,0]),([0,2],[1,1]),([0,2],[1,2]),([0,2],[1,3]),([0,3],[0,0]),([0,3],[0,1]),([0,3],[0,2]),([0,3],[0,3]),([0,3],[1,0]),([0,3],[1,1]),([0,3],[1,2]),([0,3],[1,3]),([1,0],[0,0]),([1,0],[0,1]),([1,0],[0,2]),([1,0],[0,3]),([1,0],[1,0]),([1,0],[1,1]),([1,0],[1,2]),([1,0],[1,3]),([1,1],[0,0]),([1,1],[0,1]),([1,1],[0,2]),([1,1],[0,3]),([1,1],[1,0]),([1,1],[1,1]),([1,1],[1,2]),([1,1],[1,3]),([1,2],[0,0]),([1,2],[0,1]),([1,2],[0,2]),([1,2],[0,3]),([1,2],[1,0]),([1,2],[1,1]),([1,2],[1,2]),([1,2],[1,3]),([1,3],[0,0]),([1,3],[0,1]),([1,3],[0,2]),([1,3],[0,3]),([1,3],[1,0]),([1,3],[1,1]),([1,3],[1,2]),([1,3],[1,3])],chkJ 16 p.1 p.2 = true by
  refine List.forall_mem_cons.2 ⟨jp_16_0_0_0_0,?_⟩
  refine List.forall_mem_cons.2 ⟨jp_16_0_0_0_1,?_⟩
  refine List.forall_mem_cons.2 ⟨jp_16_0_0_0_2,?_⟩
  refine List.forall_mem_cons.2 ⟨jp_16_0_0_0_3,?_⟩
  refine List.forall_mem_cons.2 ⟨jp_16_0_0_1_0,?_⟩
  refine List.forall_mem_cons.2 ⟨jp_16_0_0_1_1,?_⟩
  refine List.forall_mem_cons.2 ⟨jp_16_0_0_1_2,?_⟩
  refine List.forall_mem_cons.2 ⟨jp_16_0_0_1_3,?_⟩
  refine List.forall_mem_cons.2 ⟨jp_16_0_1_0_0,?_⟩
  refine List.forall_mem_cons.2 ⟨jp_16_0_1_0_1,?_⟩
  refine List.forall_mem_cons.2 ⟨jp_16_0_1_0_2,?_⟩
  refine List.forall_mem_cons.2 ⟨jp_16_0_1_0_3,?_⟩
  refine List.forall_mem_cons.2 ⟨jp_16_0_1_1_0,?_⟩
  refine List.forall_mem_cons.2 ⟨jp_16_0_1_1_1,?_⟩
  refine List.forall_mem_cons.2 ⟨jp_16_0_1_1_2,?_⟩
  refine List.forall_mem_cons.2 ⟨jp_16_0_1_1_3,?_⟩
  refine List.forall_mem_cons.2 ⟨jp_16_0_2_0_0,?_⟩
  refine List.forall_mem_cons.2 ⟨jp_16_0_2_0_1,?_⟩
  refine List.forall_mem_cons.2 ⟨jp_16_0_2_0_2,?_⟩
  refine List.forall_mem_cons.2 ⟨jp_16_0_2_0_3,?_⟩
  refine List.forall_mem_cons.2 ⟨jp_16_0_2_1_0,?_⟩
  refine List.forall_mem_cons.2 ⟨jp_16_0_2_1_1,?_⟩
  refine List.forall_mem_cons.2 ⟨jp_16_0_2_1_2,?_⟩
  refine List.forall_mem_cons.2 ⟨jp_16_0_2_1_3,?_⟩
  refine List.forall_mem_cons.2 ⟨jp_16_0_3_0_0,?_⟩
  refine List.forall_mem_cons.2 ⟨jp_16_0_3_0_1,?_⟩
  refine List.forall_mem_cons.2 ⟨jp_16_0_3_0_2,?_⟩
  refine List.forall_mem_cons.2 ⟨jp_16_0_3_0_3,?_⟩
  refine List.forall_mem_cons.2 ⟨jp_16_0_3_1_0,?_⟩
  refine List.forall_mem_cons.2 ⟨jp_16_0_3_1_1,?_⟩
  refine List.forall_mem_cons.2 ⟨jp_16_0_3_1_2,?_⟩
  refine List.forall_mem_cons.2 ⟨jp_16_0_3_1_3,?_⟩
  refine List.forall_mem_cons.2 ⟨jp_16_1_0_0_0,?_⟩
  refine List.forall_mem_cons.2 ⟨jp_16_1_0_0_1,?_⟩
  refine List.forall_mem_cons.2 ⟨jp_16_1_0_0_2,?_⟩
  refine List.forall_mem_cons.2 ⟨jp_16_1_0_0_3,?_⟩
  refine List.forall_mem_cons.2 ⟨jp_16_1_0_1_0,?_⟩
  refine List.forall_mem_cons.2 ⟨jp_16_1_0_1_1,?_⟩
  refine List.forall_mem_cons.2 ⟨jp_16_1_0_1_2,?_⟩
  refine List.forall_mem_cons.2 ⟨jp_16_1_0_1_3,?_⟩
  refine List.forall_mem_cons.2 ⟨jp_16_1_1_0_0,?_⟩
  refine List.forall_mem_cons.2 ⟨jp_16_1_1_0_1,?_⟩
  refine List.forall_mem_cons.2 ⟨jp_16_1_1_0_2,?_⟩
  refine List.forall_mem_cons.2 ⟨jp_16_1_1_0_3,?_⟩
  refine List.forall_mem_cons.2 ⟨jp_16_1_1_1_0,?_⟩
  refine List.forall_mem_cons.2 ⟨jp_16_1_1_1_1,?_⟩
  refine List.forall_mem_cons.2 ⟨jp_16_1_1_1_2,?_⟩
  refine List.forall_mem_cons.2 ⟨jp_16_1_1_1_3,?_⟩
  refine List.forall_mem_cons.2 ⟨jp_16_1_2_0_0,?_⟩
  refine List.forall_mem_cons.2 ⟨jp_16_1_2_0_1,?_⟩
  refine List.forall_mem_cons.2 ⟨jp_16_1_2_0_2,?_⟩
  refine List.forall_mem_cons.2 ⟨jp_16_1_2_0_3,?_⟩
  refine List.forall_mem_cons.2 ⟨jp_16_1_2_1_0,?_⟩
  refine List.forall_mem_cons.2 ⟨jp_16_1_2_1_1,?_⟩
  refine List.forall_mem_cons.2 ⟨jp_16_1_2_1_2,?_⟩
  refine List.forall_mem_cons.2 ⟨jp_16_1_2_1_3,?_⟩
  refine List.forall_mem_cons.2 ⟨jp_16_1_3_0_0,?_⟩
  refine List.forall_mem_cons.2 ⟨jp_16_1_3_0_1,?_⟩
  refine List.forall_mem_cons.2 ⟨jp_16_1_3_0_2,?_⟩
  refine List.forall_mem_cons.2 ⟨jp_16_1_3_0_3,?_⟩
  refine List.forall_mem_cons.2 ⟨jp_16_1_3_1_0,?_⟩
  refine List.forall_mem_cons.2 ⟨jp_16_1_3_1_1,?_⟩
  refine List.forall_mem_cons.2 ⟨jp_16_1_3_1_2,?_⟩
  refine List.forall_mem_cons.2 ⟨jp_16_1_3_1_3,?_⟩
  exact fun p hp => nomatch hp
theorem jp_n17 : ∀ p ∈ pj 17,chkJ 17 p.1 p.2 = true := fun p hp => nomatch (show p ∈ ([] : List (List Nat × List Nat)) from hp)
theorem jp_n18 : ∀ p ∈ pj 18,chkJ 18 p.1 p.2 = true :=
 show ∀ p ∈ [([0],[0]),([0],[1]),([0],[2]),([0],[3]),([0],[4]),([0],[5]),([1],[0]),([1],[1]),([1],[2]),([1],[3]),([1],[4]),([1],[5]),([2],[0]),([2],[1]),([2],[2]),([2],[3]),([2],[4]),([2],[5]),([3],[0]),([3],[1]),([3],[2]),([3],[3]),([3],[4]),([3],[5]),([4],[0]),([4],[1]),([4],[2]),([4],[3]),([4],[4]),([4],[5]),([5],[0]),([5],[1]),([5],[2]),([5],[3]),([5],[4]),([5],[5])],chkJ 18 p.1 p.2 = true by
  refine List.forall_mem_cons.2 ⟨jp_18_0_0,?_⟩
  refine List.forall_mem_cons.2 ⟨jp_18_0_1,?_⟩
  refine List.forall_mem_cons.2 ⟨jp_18_0_2,?_⟩
  refine List.forall_mem_cons.2 ⟨jp_18_0_3,?_⟩
  refine List.forall_mem_cons.2 ⟨jp_18_0_4,?_⟩
  refine List.forall_mem_cons.2 ⟨jp_18_0_5,?_⟩
  refine List.forall_mem_cons.2 ⟨jp_18_1_0,?_⟩
  refine List.forall_mem_cons.2 ⟨jp_18_1_1,?_⟩
  refine List.forall_mem_cons.2 ⟨jp_18_1_2,?_⟩
  refine List.forall_mem_cons.2 ⟨jp_18_1_3,?_⟩
  refine List.forall_mem_cons.2 ⟨jp_18_1_4,?_⟩
  refine List.forall_mem_cons.2 ⟨jp_18_1_5,?_⟩
  refine List.forall_mem_cons.2 ⟨jp_18_2_0,?_⟩
  refine List.forall_mem_cons.2 ⟨jp_18_2_1,?_⟩
  refine List.forall_mem_cons.2 ⟨jp_18_2_2,?_⟩
  refine List.forall_mem_cons.2 ⟨jp_18_2_3,?_⟩
  refine List.forall_mem_cons.2 ⟨jp_18_2_4,?_⟩
  refine List.forall_mem_cons.2 ⟨jp_18_2_5,?_⟩
  refine List.forall_mem_cons.2 ⟨jp_18_3_0,?_⟩
  refine List.forall_mem_cons.2 ⟨jp_18_3_1,?_⟩
  refine List.forall_mem_cons.2 ⟨jp_18_3_2,?_⟩
  refine List.forall_mem_cons.2 ⟨jp_18_3_3,?_⟩
  refine List.forall_mem_cons.2 ⟨jp_18_3_4,?_⟩
  refine List.forall_mem_cons.2 ⟨jp_18_3_5,?_⟩
  refine List.forall_mem_cons.2 ⟨jp_18_4_0,?_⟩
  refine List.forall_mem_cons.2 ⟨jp_18_4_1,?_⟩
  refine List.forall_mem_cons.2 ⟨jp_18_4_2,?_⟩
  refine List.forall_mem_cons.2 ⟨jp_18_4_3,?_⟩
  refine List.forall_mem_cons.2 ⟨jp_18_4_4,?_⟩
  refine List.forall_mem_cons.2 ⟨jp_18_4_5,?_⟩
  refine List.forall_mem_cons.2 ⟨jp_18_5_0,?_⟩
  refine List.forall_mem_cons.2 ⟨jp_18_5_1,?_⟩
  refine List.forall_mem_cons.2 ⟨jp_18_5_2,?_⟩
  refine List.forall_mem_cons.2 ⟨jp_18_5_3,?_⟩
  refine List.forall_mem_cons.2 ⟨jp_18_5_4,?_⟩
  refine List.forall_mem_cons.2 ⟨jp_18_5_5,?_⟩
  exact fun p hp => nomatch hp
theorem jp_n19 : ∀ p ∈ pj 19,chkJ 19 p.1 p.2 = true := fun p hp => nomatch (show p ∈ ([] : List (List Nat × List Nat)) from hp)
theorem jp_n20 : ∀ p ∈ pj 20,chkJ 20 p.1 p.2 = true :=
 show ∀ p ∈ [([0,0],[0,0]),([0,0],[0,1]),([0,0],[0,2]),([0,0],[0,3]),([0,0],[1,0]),([0,0],[1,1]),([0,0],[1,2]),([0,0],[1,3]),([0,1],[0,0]),([0,1],[0,1]),([0,1],[0,2]),([0,1],[0,3]),([0,1],[1,0]),([0,1],[1,1]),([0,1],[1,2]),([0,1],[1,3]),([0,2],[0,0]),([0,2],[0,1]),([0,2],[0,2]),([0,2],[0,3]),([0,2],[1,0]),([0,2],[1,1]),([0,2],[1,2]),([0,2],[1,3]),([0,3],[0,0]),([0,3],[0,1]),([0,3],[0,2]),([0,3],[0,3]),([0,3],[1,0]),([0,3],[1,1]),([0,3],[1,2]),([0,3],[1,3]),([1,0],[0,0]),([1,0],[0,1]),([1,0],[0,2]),([1,0],[0,3]),([1,0],[1,0]),([1,0],[1,1]),([1,0],[1,2]),([1,0],[1,3]),([1,1],[0,0]),([1,1],[0,1]),([1,1],[0,2]),([1,1],[0,3]),([1,1],[1,0]),([1,1],[1,1]),([1,1],[1,2]),([1,1],[1,3]),([1,2],[0,0]),([1,2],[0,1]),([1,2],[0,2]),([1,2],[0,3]),([1,2],[1,0]),([1,2],[1,1]),([1,2],[1,2]),([1,2],[1,3]),([1,3],[0,0]),([1,3],[0,1]),([1,3],[0,2]),([1,3],[0,3]),([1,3],[1,0]),([1,3],[1,1]),([1,3],[1,2]),([1,3],[1,3])],chkJ 20 p.1 p.2 = true by
  refine List.forall_mem_cons.2 ⟨jp_20_0_0_0_0,?_⟩
  refine List.forall_mem_cons.2 ⟨jp_20_0_0_0_1,?_⟩
  refine List.forall_mem_cons.2 ⟨jp_20_0_0_0_2,?_⟩
  refine List.forall_mem_cons.2 ⟨jp_20_0_0_0_3,?_⟩
  refine List.forall_mem_cons.2 ⟨jp_20_0_0_1_0,?_⟩
  refine List.forall_mem_cons.2 ⟨jp_20_0_0_1_1,?_⟩
  refine List.forall_mem_cons.2 ⟨jp_20_0_0_1_2,?_⟩
  refine List.forall_mem_cons.2 ⟨jp_20_0_0_1_3,?_⟩
  refine List.forall_mem_cons.2 ⟨jp_20_0_1_0_0,?_⟩
  refine List.forall_mem_cons.2 ⟨jp_20_0_1_0_1,?_⟩
  refine List.forall_mem_cons.2 ⟨jp_20_0_1_0_2,?_⟩
  refine List.forall_mem_cons.2 ⟨jp_20_0_1_0_3,?_⟩
  refine List.forall_mem_cons.2 ⟨jp_20_0_1_1_0,?_⟩
  refine List.forall_mem_cons.2 ⟨jp_20_0_1_1_1,?_⟩
  refine List.forall_mem_cons.2 ⟨jp_20_0_1_1_2,?_⟩
  refine List.forall_mem_cons.2 ⟨jp_20_0_1_1_3,?_⟩
  refine List.forall_mem_cons.2 ⟨jp_20_0_2_0_0,?_⟩
  refine List.forall_mem_cons.2 ⟨jp_20_0_2_0_1,?_⟩
  refine List.forall_mem_cons.2 ⟨jp_20_0_2_0_2,?_⟩
  refine List.forall_mem_cons.2 ⟨jp_20_0_2_0_3,?_⟩
  refine List.forall_mem_cons.2 ⟨jp_20_0_2_1_0,?_⟩
  refine List.forall_mem_cons.2 ⟨jp_20_0_2_1_1,?_⟩
  refine List.forall_mem_cons.2 ⟨jp_20_0_2_1_2,?_⟩
  refine List.forall_mem_cons.2 ⟨jp_20_0_2_1_3,?_⟩
  refine List.forall_mem_cons.2 ⟨jp_20_0_3_0_0,?_⟩
  refine List.forall_mem_cons.2 ⟨jp_20_0_3_0_1,?_⟩
  refine List.forall_mem_cons.2 ⟨jp_20_0_3_0_2,?_⟩
  refine List.forall_mem_cons.2 ⟨jp_20_0_3_0_3,?_⟩
  refine List.forall_mem_cons.2 ⟨jp_20_0_3_1_0,?_⟩
  refine List.forall_mem_cons.2 ⟨jp_20_0_3_1_1,?_⟩
  refine List.forall_mem_cons.2 ⟨jp_20_0_3_1_2,?_⟩
  refine List.forall_mem_cons.2 ⟨jp_20_0_3_1_3,?_⟩
  refine List.forall_mem_cons.2 ⟨jp_20_1_0_0_0,?_⟩
  refine List.forall_mem_cons.2 ⟨jp_20_1_0_0_1,?_⟩
  refine List.forall_mem_cons.2 ⟨jp_20_1_0_0_2,?_⟩
  refine List.forall_mem_cons.2 ⟨jp_20_1_0_0_3,?_⟩
  refine List.forall_mem_cons.2 ⟨jp_20_1_0_1_0,?_⟩
  refine List.forall_mem_cons.2 ⟨jp_20_1_0_1_1,?_⟩
  refine List.forall_mem_cons.2 ⟨jp_20_1_0_1_2,?_⟩
  refine List.forall_mem_cons.2 ⟨jp_20_1_0_1_3,?_⟩
  refine List.forall_mem_cons.2 ⟨jp_20_1_1_0_0,?_⟩
  refine List.forall_mem_cons.2 ⟨jp_20_1_1_0_1,?_⟩
  refine List.forall_mem_cons.2 ⟨jp_20_1_1_0_2,?_⟩
  refine List.forall_mem_cons.2 ⟨jp_20_1_1_0_3,?_⟩
  refine List.forall_mem_cons.2 ⟨jp_20_1_1_1_0,?_⟩
  refine List.forall_mem_cons.2 ⟨jp_20_1_1_1_1,?_⟩
  refine List.forall_mem_cons.2 ⟨jp_20_1_1_1_2,?_⟩
  refine List.forall_mem_cons.2 ⟨jp_20_1_1_1_3,?_⟩
  refine List.forall_mem_cons.2 ⟨jp_20_1_2_0_0,?_⟩
  refine List.forall_mem_cons.2 ⟨jp_20_1_2_0_1,?_⟩
  refine List.forall_mem_cons.2 ⟨jp_20_1_2_0_2,?_⟩
  refine List.forall_mem_cons.2 ⟨jp_20_1_2_0_3,?_⟩
  refine List.forall_mem_cons.2 ⟨jp_20_1_2_1_0,?_⟩
  refine List.forall_mem_cons.2 ⟨jp_20_1_2_1_1,?_⟩
  refine List.forall_mem_cons.2 ⟨jp_20_1_2_1_2,?_⟩
  refine List.forall_mem_cons.2 ⟨jp_20_1_2_1_3,?_⟩
  refine List.forall_mem_cons.2 ⟨jp_20_1_3_0_0,?_⟩
  refine List.forall_mem_cons.2 ⟨jp_20_1_3_0_1,?_⟩
  refine List.forall_mem_cons.2 ⟨jp_20_1_3_0_2,?_⟩
  refine List.forall_mem_cons.2 ⟨jp_20_1_3_0_3,?_⟩
  refine List.forall_mem_cons.2 ⟨jp_20_1_3_1_0,?_⟩
  refine List.forall_mem_cons.2 ⟨jp_20_1_3_1_1,?_⟩
  refine List.forall_mem_cons.2 ⟨jp_20_1_3_1_2,?_⟩
  refine List.forall_mem_cons.2 ⟨jp_20_1_3_1_3,?_⟩
  exact fun p hp => nomatch hp
theorem jp_n21 : ∀ p ∈ pj 21,chkJ 21 p.1 p.2 = true :=
 show ∀ p ∈ [([0,0],[0,0]),([0,0],[0,1]),([0,0],[0,2]),([0,0],[0,3]),([0,0],[0,4]),([0,0],[0,5]),([0,0],[1,0]),([0,0],[1,1]),([0,0],[1,2]),([0,0],[1,3]),([0,0],[1,4]),([0,0],[1,5]),([0,1],[0,0]),([0,1],[0,1]),([0,1],[0,2]),([0,1],[0,3]),([0,1],[0,4]),([0,1],[0,5]),([0,1],[1,0]),([0,1],[1,1]),([0,1],[1,2]),([0,1],[1,3]),([0,1],[1,4]),([0,1],[1,5]),([0,2],[0,0]),([0,2],[0,1]),([0,2],[0,2]),([0,2],[0,3]),([0,2],[0,4]),([0,2],[0,5]),([0,2],[1,0]),([0,2],[1,1]),([0,2],[1,2]),([0,2],[1,3]),([0,2],[1,4]),([0,2],[1,5]),([0,3],[0,0]),([0,3],[0,1]),([0,3],[0,2]),([0,3],[0,3]),([0,3],[0,4]),([0,3],[0,5]),([0,3],[1,0]),([0,3],[1,1]),([0,3],[1,2]),([0,3],[1,3]),([0,3],[1,4]),([0,3],[1,5]),([0,4],[0,0]),([0,4],[0,1]),([0,4],[0,2]),([0,4],[0,3]),([0,4],[0,4]),([0,4],[0,5]),([0,4],[1,0]),([0,4],[1,1]),([0,4],[1,2]),([0,4],[1,3]),([0,4],[1,4]),([0,4],[1,5]),([0,5],[0,0]),([0,5],[0,1]),([0,5],[0,2]),([0,5],[0,3]),([0,5],[0,4]),([0,5],[0,5]),([0,5],[1,0]),([0,5],[1,1]),([0,5],[1,2]),([0,5],[1,3]),([0,5],[1,4]),([0,5],[1,5]),([1,0],[0,0]),([1,0],[0,1]),([1,0],[0,2]),([1,0],[0,3]),([1,0],[0,4]),([1,0],[0,5]),([1,0],[1,0]),([1,0],[1,1]),([1,0],[1,2]),([1,0],[1,3]),([1,0],[1,4]),([1,0],[1,5]),([1,1],[0,0]),([1,1],[0,1]),([1,1],[0,2]),([1,1],[0,3]),([1,1],[0,4]),([1,1],[0,5]),([1,1],[1,0]),([1,1],[1,1]),([1,1],[1,2]),([1,1],[1,3]),([1,1],[1,4]),([1,1],[1,5]),([1,2],[0,0]),([1,2],[0,1]),([1,2],[0,2]),([1,2],[0,3]),([1,2],[0,4]),([1,2],[0,5]),([1,2],[1,0]),([1,2],[1,1]),([1,2],[1,2]),([1,2],[1,3]),([1,2],[1,4]),([1,2],[1,5]),([1,3],[0,0]),([1,3],[0,1]),([1,3],[0,2]),([1,3],[0,3]),([1,3],[0,4]),([1,3],[0,5]),([1,3],[1,0]),([1,3],[1,1]),([1,3],[1,2]),([1,3],[1,3]),([1,3],[1,4]),([1,3],[1,5]),([1,4],[0,0]),([1,4],[0,1]),([1,4],[0,2]),([1,4],[0,3]),([1,4],[0,4]),([1,4],[0,5]),([1,4],[1,0]),([1,4],[1,1]),([1,4],[1,2]),([1,4],[1,3]),([1,4],[1,4]),([1,4],[1,5]),([1,5],[0,0]),([1,5],[0,1]),([1,5],[0,2]),([1,5],[0,3]),([1,5],[0,4]),([1,5],[0,5]),([1,5],[1,0]),([1,5],[1,1]),([1,5],[1,2]),([1,5],[1,3]),([1,5],[1,4]),([1,5],[1,5])],chkJ 21 p.1 p.2 = true by
  refine List.forall_mem_cons.2 ⟨jp_21_0_0_0_0,?_⟩
  refine List.forall_mem_cons.2 ⟨jp_21_0_0_0_1,?_⟩
  refine List.forall_mem_cons.2 ⟨jp_21_0_0_0_2,?_⟩
  refine List.forall_mem_cons.2 ⟨jp_21_0_0_0_3,?_⟩
  refine List.forall_mem_cons.2 ⟨jp_21_0_0_0_4,?_⟩
  refine List.forall_mem_cons.2 ⟨jp_21_0_0_0_5,?_⟩
  refine List.forall_mem_cons.2 ⟨jp_21_0_0_1_0,?_⟩
  refine List.forall_mem_cons.2 ⟨jp_21_0_0_1_1,?_⟩
  refine List.forall_mem_cons.2 ⟨jp_21_0_0_1_2,?_⟩
  refine List.forall_mem_cons.2 ⟨jp_21_0_0_1_3,?_⟩
  refine List.forall_mem_cons.2 ⟨jp_21_0_0_1_4,?_⟩
  refine List.forall_mem_cons.2 ⟨jp_21_0_0_1_5,?_⟩
  refine List.forall_mem_cons.2 ⟨jp_21_0_1_0_0,?_⟩
  refine List.forall_mem_cons.2 ⟨jp_21_0_1_0_1,?_⟩
  refine List.forall_mem_cons.2 ⟨jp_21_0_1_0_2,?_⟩
  refine List.forall_mem_cons.2 ⟨jp_21_0_1_0_3,?_⟩
  refine List.forall_mem_cons.2 ⟨jp_21_0_1_0_4,?_⟩
  refine List.forall_mem_cons.2 ⟨jp_21_0_1_0_5,?_⟩
  refine List.forall_mem_cons.2 ⟨jp_21_0_1_1_0,?_⟩
  refine List.forall_mem_cons.2 ⟨jp_21_0_1_1_1,?_⟩
  refine List.forall_mem_cons.2 ⟨jp_21_0_1_1_2,?_⟩
  refine List.forall_mem_cons.2 ⟨jp_21_0_1_1_3,?_⟩
  refine List.forall_mem_cons.2 ⟨jp_21_0_1_1_4,?_⟩
  refine List.forall_mem_cons.2 ⟨jp_21_0_1_1_5,?_⟩
  refine List.forall_mem_cons.2 ⟨jp_21_0_2_0_0,?_⟩
  refine List.forall_mem_cons.2 ⟨jp_21_0_2_0_1,?_⟩
  refine List.forall_mem_cons.2 ⟨jp_21_0_2_0_2,?_⟩
  refine List.forall_mem_cons.2 ⟨jp_21_0_2_0_3,?_⟩
  refine List.forall_mem_cons.2 ⟨jp_21_0_2_0_4,?_⟩
  refine List.forall_mem_cons.2 ⟨jp_21_0_2_0_5,?_⟩
  refine List.forall_mem_cons.2 ⟨jp_21_0_2_1_0,?_⟩
  refine List.forall_mem_cons.2 ⟨jp_21_0_2_1_1,?_⟩
  refine List.forall_mem_cons.2 ⟨jp_21_0_2_1_2,?_⟩
  refine List.forall_mem_cons.2 ⟨jp_21_0_2_1_3,?_⟩
  refine List.forall_mem_cons.2 ⟨jp_21_0_2_1_4,?_⟩
  refine List.forall_mem_cons.2 ⟨jp_21_0_2_1_5,?_⟩
  refine List.forall_mem_cons.2 ⟨jp_21_0_3_0_0,?_⟩
  refine List.forall_mem_cons.2 ⟨jp_21_0_3_0_1,?_⟩
  refine List.forall_mem_cons.2 ⟨jp_21_0_3_0_2,?_⟩
  refine List.forall_mem_cons.2 ⟨jp_21_0_3_0_3,?_⟩
  refine List.forall_mem_cons.2 ⟨jp_21_0_3_0_4,?_⟩
  refine List.forall_mem_cons.2 ⟨jp_21_0_3_0_5,?_⟩
  refine List.forall_mem_cons.2 ⟨jp_21_0_3_1_0,?_⟩
  refine List.forall_mem_cons.2 ⟨jp_21_0_3_1_1,?_⟩
  refine List.forall_mem_cons.2 ⟨jp_21_0_3_1_2,?_⟩
  refine List.forall_mem_cons.2 ⟨jp_21_0_3_1_3,?_⟩
  refine List.forall_mem_cons.2 ⟨jp_21_0_3_1_4,?_⟩
  refine List.forall_mem_cons.2 ⟨jp_21_0_3_1_5,?_⟩
  refine List.forall_mem_cons.2 ⟨jp_21_0_4_0_0,?_⟩
  refine List.forall_mem_cons.2 ⟨jp_21_0_4_0_1,?_⟩
  refine List.forall_mem_cons.2 ⟨jp_21_0_4_0_2,?_⟩
  refine List.forall_mem_cons.2 ⟨jp_21_0_4_0_3,?_⟩
  refine List.forall_mem_cons.2 ⟨jp_21_0_4_0_4,?_⟩
  refine List.forall_mem_cons.2 ⟨jp_21_0_4_0_5,?_⟩
  refine List.forall_mem_cons.2 ⟨jp_21_0_4_1_0,?_⟩
  refine List.forall_mem_cons.2 ⟨jp_21_0_4_1_1,?_⟩
  refine List.forall_mem_cons.2 ⟨jp_21_0_4_1_2,?_⟩
  refine List.forall_mem_cons.2 ⟨jp_21_0_4_1_3,?_⟩
  refine List.forall_mem_cons.2 ⟨jp_21_0_4_1_4,?_⟩
  refine List.forall_mem_cons.2 ⟨jp_21_0_4_1_5,?_⟩
  refine List.forall_mem_cons.2 ⟨jp_21_0_5_0_0,?_⟩
  refine List.forall_mem_cons.2 ⟨jp_21_0_5_0_1,?_⟩
  refine List.forall_mem_cons.2 ⟨jp_21_0_5_0_2,?_⟩
  refine List.forall_mem_cons.2 ⟨jp_21_0_5_0_3,?_⟩
  refine List.forall_mem_cons.2 ⟨jp_21_0_5_0_4,?_⟩
  refine List.forall_mem_cons.2 ⟨jp_21_0_5_0_5,?_⟩
  refine List.forall_mem_cons.2 ⟨jp_21_0_5_1_0,?_⟩
  refine List.forall_mem_cons.2 ⟨jp_21_0_5_1_1,?_⟩
  refine List.forall_mem_cons.2 ⟨jp_21_0_5_1_2,?_⟩
  refine List.forall_mem_cons.2 ⟨jp_21_0_5_1_3,?_⟩
  refine List.forall_mem_cons.2 ⟨jp_21_0_5_1_4,?_⟩
  refine List.forall_mem_cons.2 ⟨jp_21_0_5_1_5,?_⟩
  refine List.forall_mem_cons.2 ⟨jp_21_1_0_0_0,?_⟩
  refine List.forall_mem_cons.2 ⟨jp_21_1_0_0_1,?_⟩
  refine List.forall_mem_cons.2 ⟨jp_21_1_0_0_2,?_⟩
  refine List.forall_mem_cons.2 ⟨jp_21_1_0_0_3,?_⟩
  refine List.forall_mem_cons.2 ⟨jp_21_1_0_0_4,?_⟩
  refine List.forall_mem_cons.2 ⟨jp_21_1_0_0_5,?_⟩
  refine List.forall_mem_cons.2 ⟨jp_21_1_0_1_0,?_⟩
  refine List.forall_mem_cons.2 ⟨jp_21_1_0_1_1,?_⟩
  refine List.forall_mem_cons.2 ⟨jp_21_1_0_1_2,?_⟩
  refine List.forall_mem_cons.2 ⟨jp_21_1_0_1_3,?_⟩
  refine List.forall_mem_cons.2 ⟨jp_21_1_0_1_4,?_⟩
  refine List.forall_mem_cons.2 ⟨jp_21_1_0_1_5,?_⟩
  refine List.forall_mem_cons.2 ⟨jp_21_1_1_0_0,?_⟩
  refine List.forall_mem_cons.2 ⟨jp_21_1_1_0_1,?_⟩
  refine List.forall_mem_cons.2 ⟨jp_21_1_1_0_2,?_⟩
  refine List.forall_mem_cons.2 ⟨jp_21_1_1_0_3,?_⟩
  refine List.forall_mem_cons.2 ⟨jp_21_1_1_0_4,?_⟩
  refine List.forall_mem_cons.2 ⟨jp_21_1_1_0_5,?_⟩
  refine List.forall_mem_cons.2 ⟨jp_21_1_1_1_0,?_⟩
  refine List.forall_mem_cons.2 ⟨jp_21_1_1_1_1,?_⟩
  refine List.forall_mem_cons.2 ⟨jp_21_1_1_1_2,?_⟩
  refine List.forall_mem_cons.2 ⟨jp_21_1_1_1_3,?_⟩
  refine List.forall_mem_cons.2 ⟨jp_21_1_1_1_4,?_⟩
  refine List.forall_mem_cons.2 ⟨jp_21_1_1_1_5,?_⟩
  refine List.forall_mem_cons.2 ⟨jp_21_1_2_0_0,?_⟩
  refine List.forall_mem_cons.2 ⟨jp_21_1_2_0_1,?_⟩
  refine List.forall_mem_cons.2 ⟨jp_21_1_2_0_2,?_⟩
  refine List.forall_mem_cons.2 ⟨jp_21_1_2_0_3,?_⟩
  refine List.forall_mem_cons.2 ⟨jp_21_1_2_0_4,?_⟩
  refine List.forall_mem_cons.2 ⟨jp_21_1_2_0_5,?_⟩
  refine List.forall_mem_cons.2 ⟨jp_21_1_2_1_0,?_⟩
  refine List.forall_mem_cons.2 ⟨jp_21_1_2_1_1,?_⟩
  refine List.forall_mem_cons.2 ⟨jp_21_1_2_1_2,?_⟩
  refine List.forall_mem_cons.2 ⟨jp_21_1_2_1_3,?_⟩
  refine List.forall_mem_cons.2 ⟨jp_21_1_2_1_4,?_⟩
  refine List.forall_mem_cons.2 ⟨jp_21_1_2_1_5,?_⟩
  refine List.forall_mem_cons.2 ⟨jp_21_1_3_0_0,?_⟩
  refine List.forall_mem_cons.2 ⟨jp_21_1_3_0_1,?_⟩
  refine List.forall_mem_cons.2 ⟨jp_21_1_3_0_2,?_⟩
  refine List.forall_mem_cons.2 ⟨jp_21_1_3_0_3,?_⟩
  refine List.forall_mem_cons.2 ⟨jp_21_1_3_0_4,?_⟩
  refine List.forall_mem_cons.2 ⟨jp_21_1_3_0_5,?_⟩
  refine List.forall_mem_cons.2 ⟨jp_21_1_3_1_0,?_⟩
  refine List.forall_mem_cons.2 ⟨jp_21_1_3_1_1,?_⟩
  refine List.forall_mem_cons.2 ⟨jp_21_1_3_1_2,?_⟩
  refine List.forall_mem_cons.2 ⟨jp_21_1_3_1_3,?_⟩
  refine List.forall_mem_cons.2 ⟨jp_21_1_3_1_4,?_⟩
  refine List.forall_mem_cons.2 ⟨jp_21_1_3_1_5,?_⟩
  refine List.forall_mem_cons.2 ⟨jp_21_1_4_0_0,?_⟩
  refine List.forall_mem_cons.2 ⟨jp_21_1_4_0_1,?_⟩
  refine List.forall_mem_cons.2 ⟨jp_21_1_4_0_2,?_⟩
  refine List.forall_mem_cons.2 ⟨jp_21_1_4_0_3,?_⟩
  refine List.forall_mem_cons.2 ⟨jp_21_1_4_0_4,?_⟩
  refine List.forall_mem_cons.2 ⟨jp_21_1_4_0_5,?_⟩
  refine List.forall_mem_cons.2 ⟨jp_21_1_4_1_0,?_⟩
  refine List.forall_mem_cons.2 ⟨jp_21_1_4_1_1,?_⟩
  refine List.forall_mem_cons.2 ⟨jp_21_1_4_1_2,?_⟩
  refine List.forall_mem_cons.2 ⟨jp_21_1_4_1_3,?_⟩
  refine List.forall_mem_cons.2 ⟨jp_21_1_4_1_4,?_⟩
  refine List.forall_mem_cons.2 ⟨jp_21_1_4_1_5,?_⟩
  refine List.forall_mem_cons.2 ⟨jp_21_1_5_0_0,?_⟩
  refine List.forall_mem_cons.2 ⟨jp_21_1_5_0_1,?_⟩
  refine List.forall_mem_cons.2 ⟨jp_21_1_5_0_2,?_⟩
  refine List.forall_mem_cons.2 ⟨jp_21_1_5_0_3,?_⟩
  refine List.forall_mem_cons.2 ⟨jp_21_1_5_0_4,?_⟩
  refine List.forall_mem_cons.2 ⟨jp_21_1_5_0_5,?_⟩
  refine List.forall_mem_cons.2 ⟨jp_21_1_5_1_0,?_⟩
  refine List.forall_mem_cons.2 ⟨jp_21_1_5_1_1,?_⟩
  refine List.forall_mem_cons.2 ⟨jp_21_1_5_1_2,?_⟩
  refine List.forall_mem_cons.2 ⟨jp_21_1_5_1_3,?_⟩
  refine List.forall_mem_cons.2 ⟨jp_21_1_5_1_4,?_⟩
  refine List.forall_mem_cons.2 ⟨jp_21_1_5_1_5,?_⟩
  exact fun p hp => nomatch hp
theorem jp_n22 : ∀ p ∈ pj 22,chkJ 22 p.1 p.2 = true :=
 show ∀ p ∈ [([0],[0]),([0],[5]),([5],[0]),([5],[5])],chkJ 22 p.1 p.2 = true by
  refine List.forall_mem_cons.2 ⟨jp_22_0_0,?_⟩
  refine List.forall_mem_cons.2 ⟨jp_22_0_5,?_⟩
  refine List.forall_mem_cons.2 ⟨jp_22_5_0,?_⟩
  refine List.forall_mem_cons.2 ⟨jp_22_5_5,?_⟩
  exact fun p hp => nomatch hp
theorem jp_n23 : ∀ p ∈ pj 23,chkJ 23 p.1 p.2 = true := fun p hp => nomatch (show p ∈ ([] : List (List Nat × List Nat)) from hp)
theorem jp_n24 : ∀ p ∈ pj 24,chkJ 24 p.1 p.2 = true :=
 show ∀ p ∈ [([0,0,0],[0,0,0]),([0,0,0],[0,0,1]),([0,0,0],[0,1,0]),([0,0,0],[0,1,1]),([0,0,0],[1,0,0]),([0,0,0],[1,0,1]),([0,0,0],[1,1,0]),([0,0,0],[1,1,1]),([0,0,1],[0,0,0]),([0,0,1],[0,0,1]),([0,0,1],[0,1,0]),([0,0,1],[0,1,1]),([0,0,1],[1,0,0]),([0,0,1],[1,0,1]),([0,0,1],[1,1,0]),([0,0,1],[1,1,1]),([0,1,0],[0,0,0]),([0,1,0],[0,0,1]),([0,1,0],[0,1,0]),([0,1,0],[0,1,1]),([0,1,0],[1,0,0]),([0,1,0],[1,0,1]),([0,1,0],[1,1,0]),([0,1,0],[1,1,1]),([0,1,1],[0,0,0]),([0,1,1],[0,0,1]),([0,1,1],[0,1,0]),([0,1,1],[0,1,1]),([0,1,1],[1,0,0]),([0,1,1],[1,0,1]),([0,1,1],[1,1,0]),([0,1,1],[1,1,1]),([1,0,0],[0,0,0]),([1,0,0],[0,0,1]),([1,0,0],[0,1,0]),([1,0,0],[0,1,1]),([1,0,0],[1,0,0]),([1,0,0],[1,0,1]),([1,0,0],[1,1,0]),([1,0,0],[1,1,1]),([1,0,1],[0,0,0]),([1,0,1],[0,0,1]),([1,0,1],[0,1,0]),([1,0,1],[0,1,1]),([1,0,1],[1,0,0]),([1,0,1],[1,0,1]),([1,0,1],[1,1,0]),([1,0,1],[1,1,1]),([1,1,0],[0,0,0]),([1,1,0],[0,0,1]),([1,1,0],[0,1,0]),([1,1,0],[0,1,1]),([1,1,0],[1,0,0]),([1,1,0],[1,0,1]),([1,1,0],[1,1,0]),([1,1,0],[1,1,1]),([1,1,1],[0,0,0]),([1,1,1],[0,0,1]),([1,1,1],[0,1,0]),([1,1,1],[0,1,1]),([1,1,1],[1,0,0]),([1,1,1],[1,0,1]),([1,1,1],[1,1,0]),([1,1,1],[1,1,1])],chkJ 24 p.1 p.2 = true by
  refine List.forall_mem_cons.2 ⟨jp_24_0_0_0_0_0_0,?_⟩
  refine List.forall_mem_cons.2 ⟨jp_24_0_0_0_0_0_1,?_⟩
  refine List.forall_mem_cons.2 ⟨jp_24_0_0_0_0_1_0,?_⟩
  refine List.forall_mem_cons.2 ⟨jp_24_0_0_0_0_1_1,?_⟩
  refine List.forall_mem_cons.2 ⟨jp_24_0_0_0_1_0_0,?_⟩
  refine List.forall_mem_cons.2 ⟨jp_24_0_0_0_1_0_1,?_⟩
  refine List.forall_mem_cons.2 ⟨jp_24_0_0_0_1_1_0,?_⟩
  refine List.forall_mem_cons.2 ⟨jp_24_0_0_0_1_1_1,?_⟩
  refine List.forall_mem_cons.2 ⟨jp_24_0_0_1_0_0_0,?_⟩
  refine List.forall_mem_cons.2 ⟨jp_24_0_0_1_0_0_1,?_⟩
  refine List.forall_mem_cons.2 ⟨jp_24_0_0_1_0_1_0,?_⟩
  refine List.forall_mem_cons.2 ⟨jp_24_0_0_1_0_1_1,?_⟩
  refine List.forall_mem_cons.2 ⟨jp_24_0_0_1_1_0_0,?_⟩
  refine List.forall_mem_cons.2 ⟨jp_24_0_0_1_1_0_1,?_⟩
  refine List.forall_mem_cons.2 ⟨jp_24_0_0_1_1_1_0,?_⟩
  refine List.forall_mem_cons.2 ⟨jp_24_0_0_1_1_1_1,?_⟩
  refine List.forall_mem_cons.2 ⟨jp_24_0_1_0_0_0_0,?_⟩
  refine List.forall_mem_cons.2 ⟨jp_24_0_1_0_0_0_1,?_⟩
  refine List.forall_mem_cons.2 ⟨jp_24_0_1_0_0_1_0,?_⟩
  refine List.forall_mem_cons.2 ⟨jp_24_0_1_0_0_1_1,?_⟩
  refine List.forall_mem_cons.2 ⟨jp_24_0_1_0_1_0_0,?_⟩
  refine List.forall_mem_cons.2 ⟨jp_24_0_1_0_1_0_1,?_⟩
  refine List.forall_mem_cons.2 ⟨jp_24_0_1_0_1_1_0,?_⟩
  refine List.forall_mem_cons.2 ⟨jp_24_0_1_0_1_1_1,?_⟩
  refine List.forall_mem_cons.2 ⟨jp_24_0_1_1_0_0_0,?_⟩
  refine List.forall_mem_cons.2 ⟨jp_24_0_1_1_0_0_1,?_⟩
  refine List.forall_mem_cons.2 ⟨jp_24_0_1_1_0_1_0,?_⟩
  refine List.forall_mem_cons.2 ⟨jp_24_0_1_1_0_1_1,?_⟩
  refine List.forall_mem_cons.2 ⟨jp_24_0_1_1_1_0_0,?_⟩
  refine List.forall_mem_cons.2 ⟨jp_24_0_1_1_1_0_1,?_⟩
  refine List.forall_mem_cons.2 ⟨jp_24_0_1_1_1_1_0,?_⟩
  refine List.forall_mem_cons.2 ⟨jp_24_0_1_1_1_1_1,?_⟩
  refine List.forall_mem_cons.2 ⟨jp_24_1_0_0_0_0_0,?_⟩
  refine List.forall_mem_cons.2 ⟨jp_24_1_0_0_0_0_1,?_⟩
  refine List.forall_mem_cons.2 ⟨jp_24_1_0_0_0_1_0,?_⟩
  refine List.forall_mem_cons.2 ⟨jp_24_1_0_0_0_1_1,?_⟩
  refine List.forall_mem_cons.2 ⟨jp_24_1_0_0_1_0_0,?_⟩
  refine List.forall_mem_cons.2 ⟨jp_24_1_0_0_1_0_1,?_⟩
  refine List.forall_mem_cons.2 ⟨jp_24_1_0_0_1_1_0,?_⟩
  refine List.forall_mem_cons.2 ⟨jp_24_1_0_0_1_1_1,?_⟩
  refine List.forall_mem_cons.2 ⟨jp_24_1_0_1_0_0_0,?_⟩
  refine List.forall_mem_cons.2 ⟨jp_24_1_0_1_0_0_1,?_⟩
  refine List.forall_mem_cons.2 ⟨jp_24_1_0_1_0_1_0,?_⟩
  refine List.forall_mem_cons.2 ⟨jp_24_1_0_1_0_1_1,?_⟩
  refine List.forall_mem_cons.2 ⟨jp_24_1_0_1_1_0_0,?_⟩
  refine List.forall_mem_cons.2 ⟨jp_24_1_0_1_1_0_1,?_⟩
  refine List.forall_mem_cons.2 ⟨jp_24_1_0_1_1_1_0,?_⟩
  refine List.forall_mem_cons.2 ⟨jp_24_1_0_1_1_1_1,?_⟩
  refine List.forall_mem_cons.2 ⟨jp_24_1_1_0_0_0_0,?_⟩
  refine List.forall_mem_cons.2 ⟨jp_24_1_1_0_0_0_1,?_⟩
  refine List.forall_mem_cons.2 ⟨jp_24_1_1_0_0_1_0,?_⟩
  refine List.forall_mem_cons.2 ⟨jp_24_1_1_0_0_1_1,?_⟩
  refine List.forall_mem_cons.2 ⟨jp_24_1_1_0_1_0_0,?_⟩
  refine List.forall_mem_cons.2 ⟨jp_24_1_1_0_1_0_1,?_⟩
  refine List.forall_mem_cons.2 ⟨jp_24_1_1_0_1_1_0,?_⟩
  refine List.forall_mem_cons.2 ⟨jp_24_1_1_0_1_1_1,?_⟩
  refine List.forall_mem_cons.2 ⟨jp_24_1_1_1_0_0_0,?_⟩
  refine List.forall_mem_cons.2 ⟨jp_24_1_1_1_0_0_1,?_⟩
  refine List.forall_mem_cons.2 ⟨jp_24_1_1_1_0_1_0,?_⟩
  refine List.forall_mem_cons.2 ⟨jp_24_1_1_1_0_1_1,?_⟩
  refine List.forall_mem_cons.2 ⟨jp_24_1_1_1_1_0_0,?_⟩
  refine List.forall_mem_cons.2 ⟨jp_24_1_1_1_1_0_1,?_⟩
  refine List.forall_mem_cons.2 ⟨jp_24_1_1_1_1_1_0,?_⟩
  refine List.forall_mem_cons.2 ⟨jp_24_1_1_1_1_1_1,?_⟩
  exact fun p hp => nomatch hp
theorem jp_n25 : ∀ p ∈ pj 25,chkJ 25 p.1 p.2 = true := fun p hp => nomatch (show p ∈ ([] : List (List Nat × List Nat)) from hp)
theorem jp_n26 : ∀ p ∈ pj 26,chkJ 26 p.1 p.2 = true :=
 show ∀ p ∈ [([0],[0]),([0],[6]),([6],[0]),([6],[6])],chkJ 26 p.1 p.2 = true by
  refine List.forall_mem_cons.2 ⟨jp_26_0_0,?_⟩
  refine List.forall_mem_cons.2 ⟨jp_26_0_6,?_⟩
  refine List.forall_mem_cons.2 ⟨jp_26_6_0,?_⟩
  refine List.forall_mem_cons.2 ⟨jp_26_6_6,?_⟩
  exact fun p hp => nomatch hp
theorem jp_n27 : ∀ p ∈ pj 27,chkJ 27 p.1 p.2 = true := fun p hp => nomatch (show p ∈ ([] : List (List Nat × List Nat)) from hp)
theorem jp_n28 : ∀ p ∈ pj 28,chkJ 28 p.1 p.2 = true :=
 show ∀ p ∈ [([0,0],[0,0]),([0,0],[0,3]),([0,0],[1,0]),([0,0],[1,3]),([0,3],[0,0]),([0,3],[0,3]),([0,3],[1,0]),([0,3],[1,3]),([1,0],[0,0]),([1,0],[0,3]),([1,0],[1,0]),([1,0],[1,3]),([1,3],[0,0]),([1,3],[0,3]),([1,3],[1,0]),([1,3],[1,3])],chkJ 28 p.1 p.2 = true by
  refine List.forall_mem_cons.2 ⟨jp_28_0_0_0_0,?_⟩
  refine List.forall_mem_cons.2 ⟨jp_28_0_0_0_3,?_⟩
  refine List.forall_mem_cons.2 ⟨jp_28_0_0_1_0,?_⟩
  refine List.forall_mem_cons.2 ⟨jp_28_0_0_1_3,?_⟩
  refine List.forall_mem_cons.2 ⟨jp_28_0_3_0_0,?_⟩
  refine List.forall_mem_cons.2 ⟨jp_28_0_3_0_3,?_⟩
  refine List.forall_mem_cons.2 ⟨jp_28_0_3_1_0,?_⟩
  refine List.forall_mem_cons.2 ⟨jp_28_0_3_1_3,?_⟩
  refine List.forall_mem_cons.2 ⟨jp_28_1_0_0_0,?_⟩
  refine List.forall_mem_cons.2 ⟨jp_28_1_0_0_3,?_⟩
  refine List.forall_mem_cons.2 ⟨jp_28_1_0_1_0,?_⟩
  refine List.forall_mem_cons.2 ⟨jp_28_1_0_1_3,?_⟩
  refine List.forall_mem_cons.2 ⟨jp_28_1_3_0_0,?_⟩
  refine List.forall_mem_cons.2 ⟨jp_28_1_3_0_3,?_⟩
  refine List.forall_mem_cons.2 ⟨jp_28_1_3_1_0,?_⟩
  refine List.forall_mem_cons.2 ⟨jp_28_1_3_1_3,?_⟩
  exact fun p hp => nomatch hp
theorem jp_n29 : ∀ p ∈ pj 29,chkJ 29 p.1 p.2 = true := fun p hp => nomatch (show p ∈ ([] : List (List Nat × List Nat)) from hp)
theorem jp_n30 : ∀ p ∈ pj 30,chkJ 30 p.1 p.2 = true :=
 show ∀ p ∈ [([0,0],[0,0]),([0,0],[0,2]),([0,0],[1,0]),([0,0],[1,2]),([0,2],[0,0]),([0,2],[0,2]),([0,2],[1,0]),([0,2],[1,2]),([1,0],[0,0]),([1,0],[0,2]),([1,0],[1,0]),([1,0],[1,2]),([1,2],[0,0]),([1,2],[0,2]),([1,2],[1,0]),([1,2],[1,2])],chkJ 30 p.1 p.2 = true by
  refine List.forall_mem_cons.2 ⟨jp_30_0_0_0_0,?_⟩
  refine List.forall_mem_cons.2 ⟨jp_30_0_0_0_2,?_⟩
  refine List.forall_mem_cons.2 ⟨jp_30_0_0_1_0,?_⟩
  refine List.forall_mem_cons.2 ⟨jp_30_0_0_1_2,?_⟩
  refine List.forall_mem_cons.2 ⟨jp_30_0_2_0_0,?_⟩
  refine List.forall_mem_cons.2 ⟨jp_30_0_2_0_2,?_⟩
  refine List.forall_mem_cons.2 ⟨jp_30_0_2_1_0,?_⟩
  refine List.forall_mem_cons.2 ⟨jp_30_0_2_1_2,?_⟩
  refine List.forall_mem_cons.2 ⟨jp_30_1_0_0_0,?_⟩
  refine List.forall_mem_cons.2 ⟨jp_30_1_0_0_2,?_⟩
  refine List.forall_mem_cons.2 ⟨jp_30_1_0_1_0,?_⟩
  refine List.forall_mem_cons.2 ⟨jp_30_1_0_1_2,?_⟩
  refine List.forall_mem_cons.2 ⟨jp_30_1_2_0_0,?_⟩
  refine List.forall_mem_cons.2 ⟨jp_30_1_2_0_2,?_⟩
  refine List.forall_mem_cons.2 ⟨jp_30_1_2_1_0,?_⟩
  refine List.forall_mem_cons.2 ⟨jp_30_1_2_1_2,?_⟩
  exact fun p hp => nomatch hp
theorem jp_n31 : ∀ p ∈ pj 31,chkJ 31 p.1 p.2 = true := fun p hp => nomatch (show p ∈ ([] : List (List Nat × List Nat)) from hp)
theorem jp_n32 : ∀ p ∈ pj 32,chkJ 32 p.1 p.2 = true := fun p hp => nomatch (show p ∈ ([] : List (List Nat × List Nat)) from hp)
theorem jp_n33 : ∀ p ∈ pj 33,chkJ 33 p.1 p.2 = true := fun p hp => nomatch (show p ∈ ([] : List (List Nat × List Nat)) from hp)
theorem jp_n34 : ∀ p ∈ pj 34,chkJ 34 p.1 p.2 = true := fun p hp => nomatch (show p ∈ ([] : List (List Nat × List Nat)) from hp)
theorem jp_n35 : ∀ p ∈ pj 35,chkJ 35 p.1 p.2 = true := fun p hp => nomatch (show p ∈ ([] : List (List Nat × List Nat)) from hp)
theorem jp_n36 : ∀ p ∈ pj 36,chkJ 36 p.1 p.2 = true :=
 show ∀ p ∈ [([0,0],[0,0]),([0,0],[0,1]),([0,0],[0,2]),([0,0],[0,3]),([0,0],[0,4]),([0,0],[0,5]),([0,0],[1,0]),([0,0],[1,1]),([0,0],[1,2]),([0,0],[1,3]),([0,0],[1,4]),([0,0],[1,5]),([0,1],[0,0]),([0,1],[0,1]),([0,1],[0,2]),([0,1],[0,3]),([0,1],[0,4]),([0,1],[0,5]),([0,1],[1,0]),([0,1],[1,1]),([0,1],[1,2]),([0,1],[1,3]),([0,1],[1,4]),([0,1],[1,5]),([0,2],[0,0]),([0,2],[0,1]),([0,2],[0,2]),([0,2],[0,3]),([0,2],[0,4]),([0,2],[0,5]),([0,2],[1,0]),([0,2],[1,1]),([0,2],[1,2]),([0,2],[1,3]),([0,2],[1,4]),([0,2],[1,5]),([0,3],[0,0]),([0,3],[0,1]),([0,3],[0,2]),([0,3],[0,3]),([0,3],[0,4]),([0,3],[0,5]),([0,3],[1,0]),([0,3],[1,1]),([0,3],[1,2]),([0,3],[1,3]),([0,3],[1,4]),([0,3],[1,5]),([0,4],[0,0]),([0,4],[0,1]),([0,4],[0,2]),([0,4],[0,3]),([0,4],[0,4]),([0,4],[0,5]),([0,4],[1,0]),([0,4],[1,1]),([0,4],[1,2]),([0,4],[1,3]),([0,4],[1,4]),([0,4],[1,5]),([0,5],[0,0]),([0,5],[0,1]),([0,5],[0,2]),([0,5],[0,3]),([0,5],[0,4]),([0,5],[0,5]),([0,5],[1,0]),([0,5],[1,1]),([0,5],[1,2]),([0,5],[1,3]),([0,5],[1,4]),([0,5],[1,5]),([1,0],[0,0]),([1,0],[0,1]),([1,0],[0,2]),([1,0],[0,3]),([1,0],[0,4]),([1,0],[0,5]),([1,0],[1,0]),([1,0],[1,1]),([1,0],[1,2]),([1,0],[1,3]),([1,0],[1,4]),([1,0],[1,5]),([1,1],[0,0]),([1,1],[0,1]),([1,1],[0,2]),([1,1],[0,3]),([1,1],[0,4]),([1,1],[0,5]),([1,1],[1,0]),([1,1],[1,1]),([1,1],[1,2]),([1,1],[1,3]),([1,1],[1,4]),([1,1],[1,5]),([1,2],[0,0]),([1,2],[0,1]),([1,2],[0,2]),([1,2],[0,3]),([1,2],[0,4]),([1,2],[0,5]),([1,2],[1,0]),([1,2],[1,1]),([1,2],[1,2]),([1,2],[1,3]),([1,2],[1,4]),([1,2],[1,5]),([1,3],[0,0]),([1,3],[0,1]),([1,3],[0,2]),([1,3],[0,3]),([1,3],[0,4]),([1,3],[0,5]),([1,3],[1,0]),([1,3],[1,1]),([1,3],[1,2]),([1,3],[1,3]),([1,3],[1,4]),([1,3],[1,5]),([1,4],[0,0]),([1,4],[0,1]),([1,4],[0,2]),([1,4],[0,3]),([1,4],[0,4]),([1,4],[0,5]),([1,4],[1,0]),([1,4],[1,1]),([1,4],[1,2]),([1,4],[1,3]),([1,4],[1,4]),([1,4],[1,5]),([1,5],[0,0]),([1,5],[0,1]),([1,5],[0,2]),([1,5],[0,3]),([1,5],[0,4]),([1,5],[0,5]),([1,5],[1,0]),([1,5],[1,1]),([1,5],[1,2]),([1,5],[1,3]),([1,5],[1,4]),([1,5],[1,5])],chkJ 36 p.1 p.2 = true by
  refine List.forall_mem_cons.2 ⟨jp_36_0_0_0_0,?_⟩
  refine List.forall_mem_cons.2 ⟨jp_36_0_0_0_1,?_⟩
  refine List.forall_mem_cons.2 ⟨jp_36_0_0_0_2,?_⟩
  refine List.forall_mem_cons.2 ⟨jp_36_0_0_0_3,?_⟩
  refine List.forall_mem_cons.2 ⟨jp_36_0_0_0_4,?_⟩
  refine List.forall_mem_cons.2 ⟨jp_36_0_0_0_5,?_⟩
  refine List.forall_mem_cons.2 ⟨jp_36_0_0_1_0,?_⟩
  refine List.forall_mem_cons.2 ⟨jp_36_0_0_1_1,?_⟩
  refine List.forall_mem_cons.2 ⟨jp_36_0_0_1_2,?_⟩
  refine List.forall_mem_cons.2 ⟨jp_36_0_0_1_3,?_⟩
  refine List.forall_mem_cons.2 ⟨jp_36_0_0_1_4,?_⟩
  refine List.forall_mem_cons.2 ⟨jp_36_0_0_1_5,?_⟩
  refine List.forall_mem_cons.2 ⟨jp_36_0_1_0_0,?_⟩
  refine List.forall_mem_cons.2 ⟨jp_36_0_1_0_1,?_⟩
  refine List.forall_mem_cons.2 ⟨jp_36_0_1_0_2,?_⟩
  refine List.forall_mem_cons.2 ⟨jp_36_0_1_0_3,?_⟩
  refine List.forall_mem_cons.2 ⟨jp_36_0_1_0_4,?_⟩
  refine List.forall_mem_cons.2 ⟨jp_36_0_1_0_5,?_⟩
  refine List.forall_mem_cons.2 ⟨jp_36_0_1_1_0,?_⟩
  refine List.forall_mem_cons.2 ⟨jp_36_0_1_1_1,?_⟩
  refine List.forall_mem_cons.2 ⟨jp_36_0_1_1_2,?_⟩
  refine List.forall_mem_cons.2 ⟨jp_36_0_1_1_3,?_⟩
  refine List.forall_mem_cons.2 ⟨jp_36_0_1_1_4,?_⟩
  refine List.forall_mem_cons.2 ⟨jp_36_0_1_1_5,?_⟩
  refine List.forall_mem_cons.2 ⟨jp_36_0_2_0_0,?_⟩
  refine List.forall_mem_cons.2 ⟨jp_36_0_2_0_1,?_⟩
  refine List.forall_mem_cons.2 ⟨jp_36_0_2_0_2,?_⟩
  refine List.forall_mem_cons.2 ⟨jp_36_0_2_0_3,?_⟩
  refine List.forall_mem_cons.2 ⟨jp_36_0_2_0_4,?_⟩
  refine List.forall_mem_cons.2 ⟨jp_36_0_2_0_5,?_⟩
  refine List.forall_mem_cons.2 ⟨jp_36_0_2_1_0,?_⟩
  refine List.forall_mem_cons.2 ⟨jp_36_0_2_1_1,?_⟩
  refine List.forall_mem_cons.2 ⟨jp_36_0_2_1_2,?_⟩
  refine List.forall_mem_cons.2 ⟨jp_36_0_2_1_3,?_⟩
  refine List.forall_mem_cons.2 ⟨jp_36_0_2_1_4,?_⟩
  refine List.forall_mem_cons.2 ⟨jp_36_0_2_1_5,?_⟩
  refine List.forall_mem_cons.2 ⟨jp_36_0_3_0_0,?_⟩
  refine List.forall_mem_cons.2 ⟨jp_36_0_3_0_1,?_⟩
  refine List.forall_mem_cons.2 ⟨jp_36_0_3_0_2,?_⟩
  refine List.forall_mem_cons.2 ⟨jp_36_0_3_0_3,?_⟩
  refine List.forall_mem_cons.2 ⟨jp_36_0_3_0_4,?_⟩
  refine List.forall_mem_cons.2 ⟨jp_36_0_3_0_5,?_⟩
  refine List.forall_mem_cons.2 ⟨jp_36_0_3_1_0,?_⟩
  refine List.forall_mem_cons.2 ⟨jp_36_0_3_1_1,?_⟩
  refine List.forall_mem_cons.2 ⟨jp_36_0_3_1_2,?_⟩
  refine List.forall_mem_cons.2 ⟨jp_36_0_3_1_3,?_⟩
  refine List.forall_mem_cons.2 ⟨jp_36_0_3_1_4,?_⟩
  refine List.forall_mem_cons.2 ⟨jp_36_0_3_1_5,?_⟩
  refine List.forall_mem_cons.2 ⟨jp_36_0_4_0_0,?_⟩
  refine List.forall_mem_cons.2 ⟨jp_36_0_4_0_1,?_⟩
  refine List.forall_mem_cons.2 ⟨jp_36_0_4_0_2,?_⟩
  refine List.forall_mem_cons.2 ⟨jp_36_0_4_0_3,?_⟩
  refine List.forall_mem_cons.2 ⟨jp_36_0_4_0_4,?_⟩
  refine List.forall_mem_cons.2 ⟨jp_36_0_4_0_5,?_⟩
  refine List.forall_mem_cons.2 ⟨jp_36_0_4_1_0,?_⟩
  refine List.forall_mem_cons.2 ⟨jp_36_0_4_1_1,?_⟩
  refine List.forall_mem_cons.2 ⟨jp_36_0_4_1_2,?_⟩
  refine List.forall_mem_cons.2 ⟨jp_36_0_4_1_3,?_⟩
  refine List.forall_mem_cons.2 ⟨jp_36_0_4_1_4,?_⟩
  refine List.forall_mem_cons.2 ⟨jp_36_0_4_1_5,?_⟩
  refine List.forall_mem_cons.2 ⟨jp_36_0_5_0_0,?_⟩
  refine List.forall_mem_cons.2 ⟨jp_36_0_5_0_1,?_⟩
  refine List.forall_mem_cons.2 ⟨jp_36_0_5_0_2,?_⟩
  refine List.forall_mem_cons.2 ⟨jp_36_0_5_0_3,?_⟩
  refine List.forall_mem_cons.2 ⟨jp_36_0_5_0_4,?_⟩
  refine List.forall_mem_cons.2 ⟨jp_36_0_5_0_5,?_⟩
  refine List.forall_mem_cons.2 ⟨jp_36_0_5_1_0,?_⟩
  refine List.forall_mem_cons.2 ⟨jp_36_0_5_1_1,?_⟩
  refine List.forall_mem_cons.2 ⟨jp_36_0_5_1_2,?_⟩
  refine List.forall_mem_cons.2 ⟨jp_36_0_5_1_3,?_⟩
  refine List.forall_mem_cons.2 ⟨jp_36_0_5_1_4,?_⟩
  refine List.forall_mem_cons.2 ⟨jp_36_0_5_1_5,?_⟩
  refine List.forall_mem_cons.2 ⟨jp_36_1_0_0_0,?_⟩
  refine List.forall_mem_cons.2 ⟨jp_36_1_0_0_1,?_⟩
  refine List.forall_mem_cons.2 ⟨jp_36_1_0_0_2,?_⟩
  refine List.forall_mem_cons.2 ⟨jp_36_1_0_0_3,?_⟩
  refine List.forall_mem_cons.2 ⟨jp_36_1_0_0_4,?_⟩
  refine List.forall_mem_cons.2 ⟨jp_36_1_0_0_5,?_⟩
  refine List.forall_mem_cons.2 ⟨jp_36_1_0_1_0,?_⟩
  refine List.forall_mem_cons.2 ⟨jp_36_1_0_1_1,?_⟩
  refine List.forall_mem_cons.2 ⟨jp_36_1_0_1_2,?_⟩
  refine List.forall_mem_cons.2 ⟨jp_36_1_0_1_3,?_⟩
  refine List.forall_mem_cons.2 ⟨jp_36_1_0_1_4,?_⟩
  refine List.forall_mem_cons.2 ⟨jp_36_1_0_1_5,?_⟩
  refine List.forall_mem_cons.2 ⟨jp_36_1_1_0_0,?_⟩
  refine List.forall_mem_cons.2 ⟨jp_36_1_1_0_1,?_⟩
  refine List.forall_mem_cons.2 ⟨jp_36_1_1_0_2,?_⟩
  refine List.forall_mem_cons.2 ⟨jp_36_1_1_0_3,?_⟩
  refine List.forall_mem_cons.2 ⟨jp_36_1_1_0_4,?_⟩
  refine List.forall_mem_cons.2 ⟨jp_36_1_1_0_5,?_⟩
  refine List.forall_mem_cons.2 ⟨jp_36_1_1_1_0,?_⟩
  refine List.forall_mem_cons.2 ⟨jp_36_1_1_1_1,?_⟩
  refine List.forall_mem_cons.2 ⟨jp_36_1_1_1_2,?_⟩
  refine List.forall_mem_cons.2 ⟨jp_36_1_1_1_3,?_⟩
  refine List.forall_mem_cons.2 ⟨jp_36_1_1_1_4,?_⟩
  refine List.forall_mem_cons.2 ⟨jp_36_1_1_1_5,?_⟩
  refine List.forall_mem_cons.2 ⟨jp_36_1_2_0_0,?_⟩
  refine List.forall_mem_cons.2 ⟨jp_36_1_2_0_1,?_⟩
  refine List.forall_mem_cons.2 ⟨jp_36_1_2_0_2,?_⟩
  refine List.forall_mem_cons.2 ⟨jp_36_1_2_0_3,?_⟩
  refine List.forall_mem_cons.2 ⟨jp_36_1_2_0_4,?_⟩
  refine List.forall_mem_cons.2 ⟨jp_36_1_2_0_5,?_⟩
  refine List.forall_mem_cons.2 ⟨jp_36_1_2_1_0,?_⟩
  refine List.forall_mem_cons.2 ⟨jp_36_1_2_1_1,?_⟩
  refine List.forall_mem_cons.2 ⟨jp_36_1_2_1_2,?_⟩
  refine List.forall_mem_cons.2 ⟨jp_36_1_2_1_3,?_⟩
  refine List.forall_mem_cons.2 ⟨jp_36_1_2_1_4,?_⟩
  refine List.forall_mem_cons.2 ⟨jp_36_1_2_1_5,?_⟩
  refine List.forall_mem_cons.2 ⟨jp_36_1_3_0_0,?_⟩
  refine List.forall_mem_cons.2 ⟨jp_36_1_3_0_1,?_⟩
  refine List.forall_mem_cons.2 ⟨jp_36_1_3_0_2,?_⟩
  refine List.forall_mem_cons.2 ⟨jp_36_1_3_0_3,?_⟩
  refine List.forall_mem_cons.2 ⟨jp_36_1_3_0_4,?_⟩
  refine List.forall_mem_cons.2 ⟨jp_36_1_3_0_5,?_⟩
  refine List.forall_mem_cons.2 ⟨jp_36_1_3_1_0,?_⟩
  refine List.forall_mem_cons.2 ⟨jp_36_1_3_1_1,?_⟩
  refine List.forall_mem_cons.2 ⟨jp_36_1_3_1_2,?_⟩
  refine List.forall_mem_cons.2 ⟨jp_36_1_3_1_3,?_⟩
  refine List.forall_mem_cons.2 ⟨jp_36_1_3_1_4,?_⟩
  refine List.forall_mem_cons.2 ⟨jp_36_1_3_1_5,?_⟩
  refine List.forall_mem_cons.2 ⟨jp_36_1_4_0_0,?_⟩
  refine List.forall_mem_cons.2 ⟨jp_36_1_4_0_1,?_⟩
  refine List.forall_mem_cons.2 ⟨jp_36_1_4_0_2,?_⟩
  refine List.forall_mem_cons.2 ⟨jp_36_1_4_0_3,?_⟩
  refine List.forall_mem_cons.2 ⟨jp_36_1_4_0_4,?_⟩
  refine List.forall_mem_cons.2 ⟨jp_36_1_4_0_5,?_⟩
  refine List.forall_mem_cons.2 ⟨jp_36_1_4_1_0,?_⟩
  refine List.forall_mem_cons.2 ⟨jp_36_1_4_1_1,?_⟩
  refine List.forall_mem_cons.2 ⟨jp_36_1_4_1_2,?_⟩
  refine List.forall_mem_cons.2 ⟨jp_36_1_4_1_3,?_⟩
  refine List.forall_mem_cons.2 ⟨jp_36_1_4_1_4,?_⟩
  refine List.forall_mem_cons.2 ⟨jp_36_1_4_1_5,?_⟩
  refine List.forall_mem_cons.2 ⟨jp_36_1_5_0_0,?_⟩
  refine List.forall_mem_cons.2 ⟨jp_36_1_5_0_1,?_⟩
  refine List.forall_mem_cons.2 ⟨jp_36_1_5_0_2,?_⟩
  refine List.forall_mem_cons.2 ⟨jp_36_1_5_0_3,?_⟩
  refine List.forall_mem_cons.2 ⟨jp_36_1_5_0_4,?_⟩
  refine List.forall_mem_cons.2 ⟨jp_36_1_5_0_5,?_⟩
  refine List.forall_mem_cons.2 ⟨jp_36_1_5_1_0,?_⟩
  refine List.forall_mem_cons.2 ⟨jp_36_1_5_1_1,?_⟩
  refine List.forall_mem_cons.2 ⟨jp_36_1_5_1_2,?_⟩
  refine List.forall_mem_cons.2 ⟨jp_36_1_5_1_3,?_⟩
  refine List.forall_mem_cons.2 ⟨jp_36_1_5_1_4,?_⟩
  refine List.forall_mem_cons.2 ⟨jp_36_1_5_1_5,?_⟩
  exact fun p hp => nomatch hp
theorem jp_n37 : ∀ p ∈ pj 37,chkJ 37 p.1 p.2 = true := fun p hp => nomatch (show p ∈ ([] : List (List Nat × List Nat)) from hp)
theorem jp_n38 : ∀ p ∈ pj 38,chkJ 38 p.1 p.2 = true := fun p hp => nomatch (show p ∈ ([] : List (List Nat × List Nat)) from hp)
theorem jp_n39 : ∀ p ∈ pj 39,chkJ 39 p.1 p.2 = true := fun p hp => nomatch (show p ∈ ([] : List (List Nat × List Nat)) from hp)
theorem jp_n40 : ∀ p ∈ pj 40,chkJ 40 p.1 p.2 = true := fun p hp => nomatch (show p ∈ ([] : List (List Nat × List Nat)) from hp)
theorem jp_n41 : ∀ p ∈ pj 41,chkJ 41 p.1 p.2 = true := fun p hp => nomatch (show p ∈ ([] : List (List Nat × List Nat)) from hp)
theorem jp_n42 : ∀ p ∈ pj 42,chkJ 42 p.1 p.2 = true :=
 show ∀ p ∈ [([0,0],[0,0]),([0,0],[0,1]),([0,0],[0,2]),([0,0],[0,3]),([0,0],[0,4]),([0,0],[0,5]),([0,0],[1,0]),([0,0],[1,1]),([0,0],[1,2]),([0,0],[1,3]),([0,0],[1,4]),([0,0],[1,5]),([0,1],[0,0]),([0,1],[0,1]),([0,1],[0,2]),([0,1],[0,3]),([0,1],[0,4]),([0,1],[0,5]),([0,1],[1,0]),([0,1],[1,1]),([0,1],[1,2]),([0,1],[1,3]),([0,1],[1,4]),([0,1],[1,5]),([0,2],[0,0]),([0,2],[0,1]),([0,2],[0,2]),([0,2],[0,3]),([0,2],[0,4]),([0,2],[0,5]),([0,2],[1,0]),([0,2],[1,1]),([0,2],[1,2]),([0,2],[1,3]),([0,2],[1,4]),([0,2],[1,5]),([0,3],[0,0]),([0,3],[0,1]),([0,3],[0,2]),([0,3],[0,3]),([0,3],[0,4]),([0,3],[0,5]),([0,3],[1,0]),([0,3],[1,1]),([0,3],[1,2]),([0,3],[1,3]),([0,3],[1,4]),([0,3],[1,5]),([0,4],[0,0]),([0,4],[0,1]),([0,4],[0,2]),([0,4],[0,3]),([0,4],[0,4]),([0,4],[0,5]),([0,4],[1,0]),([0,4],[1,1]),([0,4],[1,2]),([0,4],[1,3]),([0,4],[1,4]),([0,4],[1,5]),([0,5],[0,0]),([0,5],[0,1]),([0,5],[0,2]),([0,5],[0,3]),([0,5],[0,4]),([0,5],[0,5]),([0,5],[1,0]),([0,5],[1,1]),([0,5],[1,2]),([0,5],[1,3]),([0,5],[1,4]),([0,5],[1,5]),([1,0],[0,0]),([1,0],[0,1]),([1,0],[0,2]),([1,0],[0,3]),([1,0],[0,4]),([1,0],[0,5]),([1,0],[1,0]),([1,0],[1,1]),([1,0],[1,2]),([1,0],[1,3]),([1,0],[1,4]),([1,0],[1,5]),([1,1],[0,0]),([1,1],[0,1]),([1,1],[0,2]),([1,1],[0,3]),([1,1],[0,4]),([1,1],[0,5]),([1,1],[1,0]),([1,1],[1,1]),([1,1],[1,2]),([1,1],[1,3]),([1,1],[1,4]),([1,1],[1,5]),([1,2],[0,0]),([1,2],[0,1]),([1,2],[0,2]),([1,2],[0,3]),([1,2],[0,4]),([1,2],[0,5]),([1,2],[1,0]),([1,2],[1,1]),([1,2],[1,2]),([1,2],[1,3]),([1,2],[1,4]),([1,2],[1,5]),([1,3],[0,0]),([1,3],[0,1]),([1,3],[0,2]),([1,3],[0,3]),([1,3],[0,4]),([1,3],[0,5]),([1,3],[1,0]),([1,3],[1,1]),([1,3],[1,2]),([1,3],[1,3]),([1,3],[1,4]),([1,3],[1,5]),([1,4],[0,0]),([1,4],[0,1]),([1,4],[0,2]),([1,4],[0,3]),([1,4],[0,4]),([1,4],[0,5]),([1,4],[1,0]),([1,4],[1,1]),([1,4],[1,2]),([1,4],[1,3]),([1,4],[1,4]),([1,4],[1,5]),([1,5],[0,0]),([1,5],[0,1]),([1,5],[0,2]),([1,5],[0,3]),([1,5],[0,4]),([1,5],[0,5]),([1,5],[1,0]),([1,5],[1,1]),([1,5],[1,2]),([1,5],[1,3]),([1,5],[1,4]),([1,5],[1,5])],chkJ 42 p.1 p.2 = true by
  refine List.forall_mem_cons.2 ⟨jp_42_0_0_0_0,?_⟩
  refine List.forall_mem_cons.2 ⟨jp_42_0_0_0_1,?_⟩
  refine List.forall_mem_cons.2 ⟨jp_42_0_0_0_2,?_⟩
  refine List.forall_mem_cons.2 ⟨jp_42_0_0_0_3,?_⟩
  refine List.forall_mem_cons.2 ⟨jp_42_0_0_0_4,?_⟩
  refine List.forall_mem_cons.2 ⟨jp_42_0_0_0_5,?_⟩
  refine List.forall_mem_cons.2 ⟨jp_42_0_0_1_0,?_⟩
  refine List.forall_mem_cons.2 ⟨jp_42_0_0_1_1,?_⟩
  refine List.forall_mem_cons.2 ⟨jp_42_0_0_1_2,?_⟩
  refine List.forall_mem_cons.2 ⟨jp_42_0_0_1_3,?_⟩
  refine List.forall_mem_cons.2 ⟨jp_42_0_0_1_4,?_⟩
  refine List.forall_mem_cons.2 ⟨jp_42_0_0_1_5,?_⟩
  refine List.forall_mem_cons.2 ⟨jp_42_0_1_0_0,?_⟩
  refine List.forall_mem_cons.2 ⟨jp_42_0_1_0_1,?_⟩
  refine List.forall_mem_cons.2 ⟨jp_42_0_1_0_2,?_⟩
  refine List.forall_mem_cons.2 ⟨jp_42_0_1_0_3,?_⟩
  refine List.forall_mem_cons.2 ⟨jp_42_0_1_0_4,?_⟩
  refine List.forall_mem_cons.2 ⟨jp_42_0_1_0_5,?_⟩
  refine List.forall_mem_cons.2 ⟨jp_42_0_1_1_0,?_⟩
  refine List.forall_mem_cons.2 ⟨jp_42_0_1_1_1,?_⟩
  refine List.forall_mem_cons.2 ⟨jp_42_0_1_1_2,?_⟩
  refine List.forall_mem_cons.2 ⟨jp_42_0_1_1_3,?_⟩
  refine List.forall_mem_cons.2 ⟨jp_42_0_1_1_4,?_⟩
  refine List.forall_mem_cons.2 ⟨jp_42_0_1_1_5,?_⟩
  refine List.forall_mem_cons.2 ⟨jp_42_0_2_0_0,?_⟩
  refine List.forall_mem_cons.2 ⟨jp_42_0_2_0_1,?_⟩
  refine List.forall_mem_cons.2 ⟨jp_42_0_2_0_2,?_⟩
  refine List.forall_mem_cons.2 ⟨jp_42_0_2_0_3,?_⟩
  refine List.forall_mem_cons.2 ⟨jp_42_0_2_0_4,?_⟩
  refine List.forall_mem_cons.2 ⟨jp_42_0_2_0_5,?_⟩
  refine List.forall_mem_cons.2 ⟨jp_42_0_2_1_0,?_⟩
  refine List.forall_mem_cons.2 ⟨jp_42_0_2_1_1,?_⟩
  refine List.forall_mem_cons.2 ⟨jp_42_0_2_1_2,?_⟩
  refine List.forall_mem_cons.2 ⟨jp_42_0_2_1_3,?_⟩
  refine List.forall_mem_cons.2 ⟨jp_42_0_2_1_4,?_⟩
  refine List.forall_mem_cons.2 ⟨jp_42_0_2_1_5,?_⟩
  refine List.forall_mem_cons.2 ⟨jp_42_0_3_0_0,?_⟩
  refine List.forall_mem_cons.2 ⟨jp_42_0_3_0_1,?_⟩
  refine List.forall_mem_cons.2 ⟨jp_42_0_3_0_2,?_⟩
  refine List.forall_mem_cons.2 ⟨jp_42_0_3_0_3,?_⟩
  refine List.forall_mem_cons.2 ⟨jp_42_0_3_0_4,?_⟩
  refine List.forall_mem_cons.2 ⟨jp_42_0_3_0_5,?_⟩
  refine List.forall_mem_cons.2 ⟨jp_42_0_3_1_0,?_⟩
  refine List.forall_mem_cons.2 ⟨jp_42_0_3_1_1,?_⟩
  refine List.forall_mem_cons.2 ⟨jp_42_0_3_1_2,?_⟩
  refine List.forall_mem_cons.2 ⟨jp_42_0_3_1_3,?_⟩
  refine List.forall_mem_cons.2 ⟨jp_42_0_3_1_4,?_⟩
  refine List.forall_mem_cons.2 ⟨jp_42_0_3_1_5,?_⟩
  refine List.forall_mem_cons.2 ⟨jp_42_0_4_0_0,?_⟩
  refine List.forall_mem_cons.2 ⟨jp_42_0_4_0_1,?_⟩
  refine List.forall_mem_cons.2 ⟨jp_42_0_4_0_2,?_⟩
  refine List.forall_mem_cons.2 ⟨jp_42_0_4_0_3,?_⟩
  refine List.forall_mem_cons.2 ⟨jp_42_0_4_0_4,?_⟩
  refine List.forall_mem_cons.2 ⟨jp_42_0_4_0_5,?_⟩
  refine List.forall_mem_cons.2 ⟨jp_42_0_4_1_0,?_⟩
  refine List.forall_mem_cons.2 ⟨jp_42_0_4_1_1,?_⟩
  refine List.forall_mem_cons.2 ⟨jp_42_0_4_1_2,?_⟩
  refine List.forall_mem_cons.2 ⟨jp_42_0_4_1_3,?_⟩
  refine List.forall_mem_cons.2 ⟨jp_42_0_4_1_4,?_⟩
  refine List.forall_mem_cons.2 ⟨jp_42_0_4_1_5,?_⟩
  refine List.forall_mem_cons.2 ⟨jp_42_0_5_0_0,?_⟩
  refine List.forall_mem_cons.2 ⟨jp_42_0_5_0_1,?_⟩
  refine List.forall_mem_cons.2 ⟨jp_42_0_5_0_2,?_⟩
  refine List.forall_mem_cons.2 ⟨jp_42_0_5_0_3,?_⟩
  refine List.forall_mem_cons.2 ⟨jp_42_0_5_0_4,?_⟩
  refine List.forall_mem_cons.2 ⟨jp_42_0_5_0_5,?_⟩
  refine List.forall_mem_cons.2 ⟨jp_42_0_5_1_0,?_⟩
  refine List.forall_mem_cons.2 ⟨jp_42_0_5_1_1,?_⟩
  refine List.forall_mem_cons.2 ⟨jp_42_0_5_1_2,?_⟩
  refine List.forall_mem_cons.2 ⟨jp_42_0_5_1_3,?_⟩
  refine List.forall_mem_cons.2 ⟨jp_42_0_5_1_4,?_⟩
  refine List.forall_mem_cons.2 ⟨jp_42_0_5_1_5,?_⟩
  refine List.forall_mem_cons.2 ⟨jp_42_1_0_0_0,?_⟩
  refine List.forall_mem_cons.2 ⟨jp_42_1_0_0_1,?_⟩
  refine List.forall_mem_cons.2 ⟨jp_42_1_0_0_2,?_⟩
  refine List.forall_mem_cons.2 ⟨jp_42_1_0_0_3,?_⟩
  refine List.forall_mem_cons.2 ⟨jp_42_1_0_0_4,?_⟩
  refine List.forall_mem_cons.2 ⟨jp_42_1_0_0_5,?_⟩
  refine List.forall_mem_cons.2 ⟨jp_42_1_0_1_0,?_⟩
  refine List.forall_mem_cons.2 ⟨jp_42_1_0_1_1,?_⟩
  refine List.forall_mem_cons.2 ⟨jp_42_1_0_1_2,?_⟩
  refine List.forall_mem_cons.2 ⟨jp_42_1_0_1_3,?_⟩
  refine List.forall_mem_cons.2 ⟨jp_42_1_0_1_4,?_⟩
  refine List.forall_mem_cons.2 ⟨jp_42_1_0_1_5,?_⟩
  refine List.forall_mem_cons.2 ⟨jp_42_1_1_0_0,?_⟩
  refine List.forall_mem_cons.2 ⟨jp_42_1_1_0_1,?_⟩
  refine List.forall_mem_cons.2 ⟨jp_42_1_1_0_2,?_⟩
  refine List.forall_mem_cons.2 ⟨jp_42_1_1_0_3,?_⟩
  refine List.forall_mem_cons.2 ⟨jp_42_1_1_0_4,?_⟩
  refine List.forall_mem_cons.2 ⟨jp_42_1_1_0_5,?_⟩
  refine List.forall_mem_cons.2 ⟨jp_42_1_1_1_0,?_⟩
  refine List.forall_mem_cons.2 ⟨jp_42_1_1_1_1,?_⟩
  refine List.forall_mem_cons.2 ⟨jp_42_1_1_1_2,?_⟩
  refine List.forall_mem_cons.2 ⟨jp_42_1_1_1_3,?_⟩
  refine List.forall_mem_cons.2 ⟨jp_42_1_1_1_4,?_⟩
  refine List.forall_mem_cons.2 ⟨jp_42_1_1_1_5,?_⟩
  refine List.forall_mem_cons.2 ⟨jp_42_1_2_0_0,?_⟩
  refine List.forall_mem_cons.2 ⟨jp_42_1_2_0_1,?_⟩
  refine List.forall_mem_cons.2 ⟨jp_42_1_2_0_2,?_⟩
  refine List.forall_mem_cons.2 ⟨jp_42_1_2_0_3,?_⟩
  refine List.forall_mem_cons.2 ⟨jp_42_1_2_0_4,?_⟩
  refine List.forall_mem_cons.2 ⟨jp_42_1_2_0_5,?_⟩
  refine List.forall_mem_cons.2 ⟨jp_42_1_2_1_0,?_⟩
  refine List.forall_mem_cons.2 ⟨jp_42_1_2_1_1,?_⟩
  refine List.forall_mem_cons.2 ⟨jp_42_1_2_1_2,?_⟩
  refine List.forall_mem_cons.2 ⟨jp_42_1_2_1_3,?_⟩
  refine List.forall_mem_cons.2 ⟨jp_42_1_2_1_4,?_⟩
  refine List.forall_mem_cons.2 ⟨jp_42_1_2_1_5,?_⟩
  refine List.forall_mem_cons.2 ⟨jp_42_1_3_0_0,?_⟩
  refine List.forall_mem_cons.2 ⟨jp_42_1_3_0_1,?_⟩
  refine List.forall_mem_cons.2 ⟨jp_42_1_3_0_2,?_⟩
  refine List.forall_mem_cons.2 ⟨jp_42_1_3_0_3,?_⟩
  refine List.forall_mem_cons.2 ⟨jp_42_1_3_0_4,?_⟩
  refine List.forall_mem_cons.2 ⟨jp_42_1_3_0_5,?_⟩
  refine List.forall_mem_cons.2 ⟨jp_42_1_3_1_0,?_⟩
  refine List.forall_mem_cons.2 ⟨jp_42_1_3_1_1,?_⟩
  refine List.forall_mem_cons.2 ⟨jp_42_1_3_1_2,?_⟩
  refine List.forall_mem_cons.2 ⟨jp_42_1_3_1_3,?_⟩
  refine List.forall_mem_cons.2 ⟨jp_42_1_3_1_4,?_⟩
  refine List.forall_mem_cons.2 ⟨jp_42_1_3_1_5,?_⟩
  refine List.forall_mem_cons.2 ⟨jp_42_1_4_0_0,?_⟩
  refine List.forall_mem_cons.2 ⟨jp_42_1_4_0_1,?_⟩
  refine List.forall_mem_cons.2 ⟨jp_42_1_4_0_2,?_⟩
  refine List.forall_mem_cons.2 ⟨jp_42_1_4_0_3,?_⟩
  refine List.forall_mem_cons.2 ⟨jp_42_1_4_0_4,?_⟩
  refine List.forall_mem_cons.2 ⟨jp_42_1_4_0_5,?_⟩
  refine List.forall_mem_cons.2 ⟨jp_42_1_4_1_0,?_⟩
  refine List.forall_mem_cons.2 ⟨jp_42_1_4_1_1,?_⟩
  refine List.forall_mem_cons.2 ⟨jp_42_1_4_1_2,?_⟩
  refine List.forall_mem_cons.2 ⟨jp_42_1_4_1_3,?_⟩
  refine List.forall_mem_cons.2 ⟨jp_42_1_4_1_4,?_⟩
  refine List.forall_mem_cons.2 ⟨jp_42_1_4_1_5,?_⟩
  refine List.forall_mem_cons.2 ⟨jp_42_1_5_0_0,?_⟩
  refine List.forall_mem_cons.2 ⟨jp_42_1_5_0_1,?_⟩
  refine List.forall_mem_cons.2 ⟨jp_42_1_5_0_2,?_⟩
  refine List.forall_mem_cons.2 ⟨jp_42_1_5_0_3,?_⟩
  refine List.forall_mem_cons.2 ⟨jp_42_1_5_0_4,?_⟩
  refine List.forall_mem_cons.2 ⟨jp_42_1_5_0_5,?_⟩
  refine List.forall_mem_cons.2 ⟨jp_42_1_5_1_0,?_⟩
  refine List.forall_mem_cons.2 ⟨jp_42_1_5_1_1,?_⟩
  refine List.forall_mem_cons.2 ⟨jp_42_1_5_1_2,?_⟩
  refine List.forall_mem_cons.2 ⟨jp_42_1_5_1_3,?_⟩
  refine List.forall_mem_cons.2 ⟨jp_42_1_5_1_4,?_⟩
  refine List.forall_mem_cons.2 ⟨jp_42_1_5_1_5,?_⟩
  exact fun p hp => nomatch hp
theorem jp_n43 : ∀ p ∈ pj 43,chkJ 43 p.1 p.2 = true := fun p hp => nomatch (show p ∈ ([] : List (List Nat × List Nat)) from hp)
theorem jp_n44 : ∀ p ∈ pj 44,chkJ 44 p.1 p.2 = true := fun p hp => nomatch (show p ∈ ([] : List (List Nat × List Nat)) from hp)
theorem jp_n45 : ∀ p ∈ pj 45,chkJ 45 p.1 p.2 = true := fun p hp => nomatch (show p ∈ ([] : List (List Nat × List Nat)) from hp)
theorem jp_n46 : ∀ p ∈ pj 46,chkJ 46 p.1 p.2 = true := fun p hp => nomatch (show p ∈ ([] : List (List Nat × List Nat)) from hp)
theorem jp_n47 : ∀ p ∈ pj 47,chkJ 47 p.1 p.2 = true := fun p hp => nomatch (show p ∈ ([] : List (List Nat × List Nat)) from hp)
theorem jp_n48 : ∀ p ∈ pj 48,chkJ 48 p.1 p.2 = true := fun p hp => nomatch (show p ∈ ([] : List (List Nat × List Nat)) from hp)
theorem jp_n49 : ∀ p ∈ pj 49,chkJ 49 p.1 p.2 = true := fun p hp => nomatch (show p ∈ ([] : List (List Nat × List Nat)) from hp)
theorem jp_n50 : ∀ p ∈ pj 50,chkJ 50 p.1 p.2 = true := fun p hp => nomatch (show p ∈ ([] : List (List Nat × List Nat)) from hp)
theorem jp_n51 : ∀ p ∈ pj 51,chkJ 51 p.1 p.2 = true := fun p hp => nomatch (show p ∈ ([] : List (List Nat × List Nat)) from hp)
theorem jp_n52 : ∀ p ∈ pj 52,chkJ 52 p.1 p.2 = true := fun p hp => nomatch (show p ∈ ([] : List (List Nat × List Nat)) from hp)
theorem jp_n53 : ∀ p ∈ pj 53,chkJ 53 p.1 p.2 = true := fun p hp => nomatch (show p ∈ ([] : List (List Nat × List Nat)) from hp)
theorem jp_n54 : ∀ p ∈ pj 54,chkJ 54 p.1 p.2 = true := fun p hp => nomatch (show p ∈ ([] : List (List Nat × List Nat)) from hp)
theorem jp_n55 : ∀ p ∈ pj 55,chkJ 55 p.1 p.2 = true := fun p hp => nomatch (show p ∈ ([] : List (List Nat × List Nat)) from hp)
theorem jp_n56 : ∀ p ∈ pj 56,chkJ 56 p.1 p.2 = true := fun p hp => nomatch (show p ∈ ([] : List (List Nat × List Nat)) from hp)
theorem jp_n57 : ∀ p ∈ pj 57,chkJ 57 p.1 p.2 = true := fun p hp => nomatch (show p ∈ ([] : List (List Nat × List Nat)) from hp)
theorem jp_n58 : ∀ p ∈ pj 58,chkJ 58 p.1 p.2 = true := fun p hp => nomatch (show p ∈ ([] : List (List Nat × List Nat)) from hp)
theorem jp_n59 : ∀ p ∈ pj 59,chkJ 59 p.1 p.2 = true := fun p hp => nomatch (show p ∈ ([] : List (List Nat × List Nat)) from hp)
theorem jp_n60 : ∀ p ∈ pj 60,chkJ 60 p.1 p.2 = true := fun p hp => nomatch (show p ∈ ([] : List (List Nat × List Nat)) from hp)
theorem jp_mem : ∀ n ∈ [0,1,2,3,4,5,6,7,8,9,10,11,12,13,14,15,16,17,18,19,20,21,22,23,24,25,26,27,28,29,30,31,32,33,34,35,36,37,38,39,40,41,42,43,44,45,46,47,48,49,50,51,52,53,54,55,56,57,58,59,60],∀ p ∈ pj n,chkJ n p.1 p.2 = true := by
 refine List.forall_mem_cons.2 ⟨jp_n0,?_⟩
 refine List.forall_mem_cons.2 ⟨jp_n1,?_⟩
 refine List.forall_mem_cons.2 ⟨jp_n2,?_⟩
 refine List.forall_mem_cons.2 ⟨jp_n3,?_⟩
 refine List.forall_mem_cons.2 ⟨jp_n4,?_⟩
 refine List.forall_mem_cons.2 ⟨jp_n5,?_⟩
 refine List.forall_mem_cons.2 ⟨jp_n6,?_⟩
 refine List.forall_mem_cons.2 ⟨jp_n7,?_⟩
 refine List.forall_mem_cons.2 ⟨jp_n8,?_⟩
 refine List.forall_mem_cons.2 ⟨jp_n9,?_⟩
 refine List.forall_mem_cons.2 ⟨jp_n10,?_⟩
 refine List.forall_mem_cons.2 ⟨jp_n11,?_⟩
 refine List.forall_mem_cons.2 ⟨jp_n12,?_⟩
 refine List.forall_mem_cons.2 ⟨jp_n13,?_⟩
 refine List.forall_mem_cons.2 ⟨jp_n14,?_⟩
 refine List.forall_mem_cons.2 ⟨jp_n15,?_⟩
 refine List.forall_mem_cons.2 ⟨jp_n16,?_⟩
 refine List.forall_mem_cons.2 ⟨jp_n17,?_⟩
 refine List.forall_mem_cons.2 ⟨jp_n18,?_⟩
 refine List.forall_mem_cons.2 ⟨jp_n19,?_⟩
 refine List.forall_mem_cons.2 ⟨jp_n20,?_⟩
 refine List.forall_mem_cons.2 ⟨jp_n21,?_⟩
 refine List.forall_mem_cons.2 ⟨jp_n22,?_⟩
 refine List.forall_mem_cons.2 ⟨jp_n23,?_⟩
 refine List.forall_mem_cons.2 ⟨jp_n24,?_⟩
 refine List.forall_mem_cons.2 ⟨jp_n25,?_⟩
 refine List.forall_mem_cons.2 ⟨jp_n26,?_⟩
 refine List.forall_mem_cons.2 ⟨jp_n27,?_⟩
 refine List.forall_mem_cons.2 ⟨jp_n28,?_⟩
 refine List.forall_mem_cons.2 ⟨jp_n29,?_⟩
 refine List.forall_mem_cons.2 ⟨jp_n30,?_⟩
 refine List.forall_mem_cons.2 ⟨jp_n31,?_⟩
 refine List.forall_mem_cons.2 ⟨jp_n32,?_⟩
 refine List.forall_mem_cons.2 ⟨jp_n33,?_⟩
 refine List.forall_mem_cons.2 ⟨jp_n34,?_⟩
 refine List.forall_mem_cons.2 ⟨jp_n35,?_⟩
 refine List.forall_mem_cons.2 ⟨jp_n36,?_⟩
 refine List.forall_mem_cons.2 ⟨jp_n37,?_⟩
 refine List.forall_mem_cons.2 ⟨jp_n38,?_⟩
 refine List.forall_mem_cons.2 ⟨jp_n39,?_⟩
 refine List.forall_mem_cons.2 ⟨jp_n40,?_⟩
 refine List.forall_mem_cons.2 ⟨jp_n41,?_⟩
 refine List.forall_mem_cons.2 ⟨jp_n42,?_⟩
 refine List.forall_mem_cons.2 ⟨jp_n43,?_⟩
 refine List.forall_mem_cons.2 ⟨jp_n44,?_⟩
 refine List.forall_mem_cons.2 ⟨jp_n45,?_⟩
 refine List.forall_mem_cons.2 ⟨jp_n46,?_⟩
 refine List.forall_mem_cons.2 ⟨jp_n47,?_⟩
 refine List.forall_mem_cons.2 ⟨jp_n48,?_⟩
 refine List.forall_mem_cons.2 ⟨jp_n49,?_⟩
 refine List.forall_mem_cons.2 ⟨jp_n50,?_⟩
 refine List.forall_mem_cons.2 ⟨jp_n51,?_⟩
 refine List.forall_mem_cons.2 ⟨jp_n52,?_⟩
 refine List.forall_mem_cons.2 ⟨jp_n53,?_⟩
 refine List.forall_mem_cons.2 ⟨jp_n54,?_⟩
 refine List.forall_mem_cons.2 ⟨jp_n55,?_⟩
 refine List.forall_mem_cons.2 ⟨jp_n56,?_⟩
 refine List.forall_mem_cons.2 ⟨jp_n57,?_⟩
 refine List.forall_mem_cons.2 ⟨jp_n58,?_⟩
 refine List.forall_mem_cons.2 ⟨jp_n59,?_⟩
 refine List.forall_mem_cons.2 ⟨jp_n60,?_⟩
 exact fun n hn => nomatch hn
theorem lawJacobi_good (m1 : Int) (l1 : List Int) (h1 : -9223372036854775808 ≤ m1 ∧ m1 ≤ 9223372036854775807) (m2 : Int) (l2 : List Int) (h2 : -9223372036854775808 ≤ m2 ∧ m2 ≤ 9223372036854775807) : PureGood Tryz.prog 5 [.agg [i64 m1,.sl l1.length (ec l1)],.agg [i64 m2,.sl l2.length (ec l2)]] (.lit (.bool true)) := by
 by_cases hm : 100 < l1.length ∨ 100 < l2.length
 ·exact lawJac_many hm
 ·have n1 : ¬ 100 < l1.length := fun e => hm (.inl e)
  have n2 : ¬ 100 < l2.length := fun e => hm (.inr e)
  have b1 : ChB m1 l1 := ⟨h1,by omega⟩
  have b2 : ChB m2 l2 := ⟨h2,by omega⟩
  by_cases e1 : cerr m1 l1 = 0
  ·obtain ⟨n,rfl,a1,a2,v,hv,rfl⟩ := cerr_ok e1
   obtain ⟨p1,o1,r1⟩ := chkOr_ok (jo_all a1 a2 hv)
   by_cases e2 : cerr m2 l2 = 0
   ·obtain ⟨n',rfl,a3,a4,w,hw,rfl⟩ := cerr_ok e2
    obtain ⟨p2,o2,r2⟩ := chkOr_ok (jo_all a3 a4 hw)
    by_cases hn : n = n'
    ·subst hn
     have hs := List.all_eq_true.1 (List.all_eq_true.1 (sp_all a1 a2) v hv) w hw
     rw [fNat_eq,Bool.or_eq_true] at hs
     rcases hs with hs | hs
     ·have hN := List.elem_iff.1 hs
      obtain ⟨g1,g2⟩ := la_ok (List.all_eq_true.1 la_all _ hN)
      refine lawJac_err n1 n2 (jac_e7 b1 b2 e1 e2 a1 a2 p1.1 p1.2 p2.1 p2.2 o1 o2 r1 r2 ?_ g1 g2)
      unfold nJ
      simp only [fNat_eq]
     ·obtain ⟨p,hp,he⟩ := List.any_eq_true.1 hs
      rw [Bool.and_eq_true] at he
      have x1 := eqN_ok he.1
      have x2 := eqN_ok he.2
      have := jp_mem n (by
       have : n ∈ List.range 61 := List.mem_range.2 (by omega)
       exact this) p hp
      rw [x1,x2] at this
      exact chkJ_ok this
    ·exact lawJac_err n1 n2 (jac_e24 b1 b2 e1 e2 o1 o2 (by omega))
   ·exact lawJac_err n1 n2 (jac_e2 b1 b2 e1 o1 e2)
  ·exact lawJac_err n1 n2 (jac_e1 b1 b2 e1)
end Go.Proofs.YtlbckpljefadpaaGreat
namespace Go.Proofs.YtlbckpljefadpaaGreat
open Go Go.Lg Go.ChangeShapes Go.WideShapes Go.ChangeAt Go.RowKit
set_option maxRecDepth 100000
theorem own : ownKnob Tryz.prog.godebug = none := by kernel_rfl
theorem cChr : Tryz.prog.cellsOf 24 = 2 := by kernel_rfl
theorem cInt : Tryz.prog.cellsOf 3 = 1 := by kernel_rfl
theorem cInts : Tryz.prog.cellsOf 22 = 1 := by kernel_rfl
theorem tsChr : Tryz.prog.cellTypes Tryz.prog.depth 24 = some [3,22] := by kernel_rfl
theorem rep_ints {W : World} {a : Addr} {len cap : Nat} {zs : List Int} (hs : a.spot = none) (hl : len ≤ zs.length) (hc : len ≤ cap) (hm : cap ≤ maxLen) (hcell : ∀ i, i < zs.length → W.cell? (a.add i) = some (.int .i64 (zs.getD i 0))) :
  Rep (fun g => g < W.heap.size) W.heap (fun _ => none) (.sl (zs.take len).length (ec (zs.take len))) (.slice (some a) len cap) := by
 have e : (zs.take len).length = len := by rw [List.length_take,Nat.min_eq_left hl]
 rw [e]
 refine Rep.sl (us := (zs.take len).map fun z => Value.int .i64 z) hc hm hs (by simp [ec]) ?_ ?_ ?_
 ·intro j u hu
  rw [List.getElem?_map] at hu
  obtain ⟨z,hz,rfl⟩ := Option.map_eq_some_iff.1 hu
  have hj : j < (zs.take len).length := (List.getElem?_eq_some_iff.1 hz).1
  have hj2 : j < zs.length := by rw [e] at hj;omega
  have hzj : zs.getD j 0 = z := by
   rw [List.getElem?_take,if_pos (by rw [e] at hj;exact hj)] at hz
   simp [List.getD,hz]
  have h := hcell j hj2
  rw [cell?_eq' W a hs j,hzj] at h
  refine ⟨?_,h⟩
  unfold cellAt at h
  cases hh : W.heap[a.block]? with
  | none => rw [hh] at h;cases h
  | some o => exact (Array.getElem?_eq_some_iff.1 hh).1
 ·intro u hu
  obtain ⟨z,_,rfl⟩ := List.mem_map.1 hu
  rfl
 ·intro j c u hc hu
  rw [ec,List.getElem?_map] at hc
  rw [List.getElem?_map] at hu
  obtain ⟨z,hz,rfl⟩ := Option.map_eq_some_iff.1 hc
  rw [hz] at hu
  cases hu
  exact .lit _
theorem open_chr {H : Type} {enc : TypeId × Value → H} {W : World} {b0 : Nat} {v : Value} {d : DataW H} {ps : List MemPlace} (hval : Value.okWide Tryz.prog W .any b0 24 v) (hd : DataW.Trod enc Tryz.prog W 0 (fun _ => true) true 24 v d ps) :
  ∃ (lv : Int) (xs : List Int), (Lit.int .i64 lv).wf = true ∧ Rep (fun g => g < W.heap.size) W.heap (fun _ => none) (.agg [.lit (.int .i64 lv), .sl xs.length (ec xs)]) v ∧
    ∀ W' : World,(∀ i,i < W.heap.size → W'.heap[i]? = W.heap[i]?) → ∃ ps',DataW.Trod enc Tryz.prog W' 0 (fun b => decide (b < W.heap.size)) true 24 v d ps' := by
 simp only [Value.okWide,Tryz.underlying24] at hval
 obtain ⟨cs,rfl,h2,ts,hts,_,hrow⟩ := hval
 rw [tsChr] at hts
 cases hts
 rw [cChr] at h2
 obtain ⟨fuel,hf⟩ := hd
 obtain ⟨y0,y1,n,hx,hlen,e0,e1⟩ := trod_struct2 Tryz.underlying24 hf
 have hc0 : (Value.agg cs).cells = cs := rfl
 rw [hc0] at e0 e1 hlen
 obtain ⟨c0,c1,hcs⟩ : ∃ c0 c1,cs = #[c0,c1] := by
  obtain ⟨l⟩ := cs
  match l,h2 with
  | [c0,c1],_ => exact ⟨c0,c1,rfl⟩
 subst hcs
 simp only [cInt,cInts,List.drop_zero,List.drop_succ_cons,List.take_succ_cons,List.take_zero] at e0 e1
 obtain ⟨lv,a1,rfl,hw⟩ := DataW.trod_int Tryz.underlying3 e0
 simp only [List.cons.injEq,and_true] at a1
 subst a1
 have r1 := hrow 1 c1 rfl
 obtain ⟨u,hu,hcell⟩ := r1
 simp only [List.length_cons,List.length_nil,Nat.reduceAdd,Nat.reduceMod,List.getElem?_cons_succ,List.getElem?_cons_zero,Option.some.injEq] at hu
 subst hu
 obtain ⟨hx1,hx2⟩ := Prod.mk.inj hx
 rcases open_ints Tryz.underlying22 Tryz.underlying3 cInt e1 with ⟨b1,rfl⟩ | ⟨a,len,cap,zs,b1,hb,hl,hm,hz,rfl,hcl,hwf⟩
 ·simp only [List.cons.injEq,and_true] at b1
  subst b1
  refine ⟨lv,[],hw,?_,fun W' _ => ⟨ps,2,?_⟩⟩
  ·refine Rep.agg (us := [.int .i64 lv,.slice none 0 0]) rfl (by simp [Value.oneCell']) ?_
   intro j c u hc hu
   match j with
   | 0 => simp at hc hu;subst hc;subst hu;exact .lit _
   | 1 => simp at hc hu;subst hc;subst hu;exact .snil
   | j + 2 => simp at hc
  ·rw [hx1,hx2]
   refine trod_struct2_mk (y0 := (.lit (.int .i64 lv),[])) (y1 := (.nil,[])) Tryz.underlying24 hlen ?_ ?_
   ·rw [hc0]
    simp only [cInt,List.drop_zero,List.take_succ_cons,List.take_zero]
    exact trod_int_mk 0 Tryz.underlying3 hw
   ·rw [hc0]
    simp only [cInts,List.drop_zero,List.drop_succ_cons,List.take_succ_cons,List.take_zero]
    simp [DataW.trod,Tryz.underlying22]
 ·simp only [List.cons.injEq,and_true] at b1
  subst b1
  simp only [if_true] at hz
  have hspot : a.spot = none := by
   simp only [Cell.okWide,Cell.ok,Tryz.underlying22] at hcell
   exact hcell.2.2.2.1
  refine ⟨lv,zs.take len,hw,?_,fun W' hk => ⟨ps,3,?_⟩⟩
  ·refine Rep.agg (us := [.int .i64 lv,.slice (some a) len cap]) rfl (by simp [Value.oneCell']) ?_
   intro j c u hc hu
   match j with
   | 0 => simp at hc hu;subst hc;subst hu;exact .lit _
   | 1 => simp at hc hu;subst hc;subst hu;exact (by simpa using rep_ints hspot (by omega) hl hm hcl)
   | j + 2 => simp at hc
  ·rw [hx1,hx2]
   have hblk : ∀ i,i < zs.length → a.block < W.heap.size := fun i hi => by
    have h := hcl i hi
    rw [cell?_eq' W a hspot i] at h
    unfold cellAt at h
    cases hh : W.heap[a.block]? with
    | none => rw [hh] at h;cases h
    | some o => exact (Array.getElem?_eq_some_iff.1 hh).1
   refine trod_struct2_mk (y0 := (.lit (.int .i64 lv),[])) (y1 := (.slice (lits .i64 (zs.take len)) (lits .i64 (zs.drop len)),MemPlace.row a zs.length)) Tryz.underlying24 hlen ?_ ?_
   ·rw [hc0]
    simp only [cInt,List.drop_zero,List.take_succ_cons,List.take_zero]
    exact trod_int_mk 1 Tryz.underlying3 hw
   ·rw [hc0]
    simp only [cInts,List.drop_zero,List.drop_succ_cons,List.take_succ_cons,List.take_zero]
    refine shut_ints 0 Tryz.underlying22 Tryz.underlying3 cInt hb hl hm ?_ (fun i hi => ?_) hwf
    ·by_cases hbs : a.block < W.heap.size
     ·simp [hbs,hz]
     ·have : zs.length = 0 := by
       rcases Nat.eq_zero_or_pos zs.length with h | h
       ·exact h
       ·exact absurd (hblk 0 h) hbs
      simp [hbs];omega
    ·rw [cell?_eq' W' a hspot i,cellAt_same (hk _ (hblk i hi)),← cell?_eq' W a hspot i]
     exact hcl i hi
end Go.Proofs.YtlbckpljefadpaaGreat