/- Contracts of functions of the program, and what proves them (texts: PD ClsG). -/
import Derived.Test.YtpkjokknpbclhaaGreatRows
import Derived.WalkKit
import Derived.ProofKit
import Derived.OpenShut
import Derived.Stop.Joined
import Derived.Test.YtpkjokknpbclhaaGreatZAD
import Derived.Test.YtpkjokknpbclhaaGreatZAP
import Derived.Test.YtpkjokknpbclhaaGreatZBU
import Derived.Test.YtpkjokknpbclhaaGreatZFinProductsGAA
import Derived.Test.YtpkjokknpbclhaaGreatZFinProductsGAB
import Derived.Test.YtpkjokknpbclhaaGreatZFinProductsGAC
import Derived.Test.YtpkjokknpbclhaaGreatZFinProductsGAD
import Derived.Test.YtpkjokknpbclhaaGreatZFinProductsGAE
import Derived.Test.YtpkjokknpbclhaaGreatZFinProductsGAF
import Derived.Test.YtpkjokknpbclhaaGreatZFinProductsGAG
import Derived.Test.YtpkjokknpbclhaaGreatZFinProductsGAH
import Derived.Test.YtpkjokknpbclhaaGreatZFinProductsGAI
import Derived.Test.YtpkjokknpbclhaaGreatZFinProductsGAJ
import Derived.Test.YtpkjokknpbclhaaGreatZFinProductsGAK
import Derived.Test.YtpkjokknpbclhaaGreatZFinProductsGAL
import Derived.Test.YtpkjokknpbclhaaGreatZFinProductsGAM
import Derived.Test.YtpkjokknpbclhaaGreatZFinProductsGAN
import Derived.Test.YtpkjokknpbclhaaGreatZFinProductsGAO
set_option linter.all false
namespace Go.Proofs.YtpkjokknpbclhaaGreat
open Go Go.Lg Go.Num
set_option maxRecDepth 100000
theorem pd_n0 : ∀ p ∈ pj 0,chkPd 0 p.1 p.2 = true := fun p hp => nomatch (show p ∈ ([] : List (List Nat × List Nat)) from hp)
theorem pd_n1 : ∀ p ∈ pj 1,chkPd 1 p.1 p.2 = true :=
 show ∀ p ∈ [([],[])],chkPd 1 p.1 p.2 = true by
  refine List.forall_mem_cons.2 ⟨pd_1__,?_⟩
  exact fun p hp => nomatch hp
theorem pd_n2 : ∀ p ∈ pj 2,chkPd 2 p.1 p.2 = true :=
 show ∀ p ∈ [([],[])],chkPd 2 p.1 p.2 = true by
  refine List.forall_mem_cons.2 ⟨pd_2__,?_⟩
  exact fun p hp => nomatch hp
theorem pd_n3 : ∀ p ∈ pj 3,chkPd 3 p.1 p.2 = true :=
 show ∀ p ∈ [([0],[0]),([0],[1]),([1],[0]),([1],[1])],chkPd 3 p.1 p.2 = true by
  refine List.forall_mem_cons.2 ⟨pd_3_0_0,?_⟩
  refine List.forall_mem_cons.2 ⟨pd_3_0_1,?_⟩
  refine List.forall_mem_cons.2 ⟨pd_3_1_0,?_⟩
  refine List.forall_mem_cons.2 ⟨pd_3_1_1,?_⟩
  exact fun p hp => nomatch hp
theorem pd_n4 : ∀ p ∈ pj 4,chkPd 4 p.1 p.2 = true :=
 show ∀ p ∈ [([0],[0]),([0],[1]),([1],[0]),([1],[1])],chkPd 4 p.1 p.2 = true by
  refine List.forall_mem_cons.2 ⟨pd_4_0_0,?_⟩
  refine List.forall_mem_cons.2 ⟨pd_4_0_1,?_⟩
  refine List.forall_mem_cons.2 ⟨pd_4_1_0,?_⟩
  refine List.forall_mem_cons.2 ⟨pd_4_1_1,?_⟩
  exact fun p hp => nomatch hp
theorem pd_n5 : ∀ p ∈ pj 5,chkPd 5 p.1 p.2 = true :=
 show ∀ p ∈ [([0],[0]),([0],[1]),([0],[2]),([0],[3]),([1],[0]),([1],[1]),([1],[2]),([1],[3]),([2],[0]),([2],[1]),([2],[2]),([2],[3]),([3],[0]),([3],[1]),([3],[2]),([3],[3])],chkPd 5 p.1 p.2 = true by
  refine List.forall_mem_cons.2 ⟨pd_5_0_0,?_⟩
  refine List.forall_mem_cons.2 ⟨pd_5_0_1,?_⟩
  refine List.forall_mem_cons.2 ⟨pd_5_0_2,?_⟩
  refine List.forall_mem_cons.2 ⟨pd_5_0_3,?_⟩
  refine List.forall_mem_cons.2 ⟨pd_5_1_0,?_⟩
  refine List.forall_mem_cons.2 ⟨pd_5_1_1,?_⟩
  refine List.forall_mem_cons.2 ⟨pd_5_1_2,?_⟩
  refine List.forall_mem_cons.2 ⟨pd_5_1_3,?_⟩
  refine List.forall_mem_cons.2 ⟨pd_5_2_0,?_⟩
  refine List.forall_mem_cons.2 ⟨pd_5_2_1,?_⟩
  refine List.forall_mem_cons.2 ⟨pd_5_2_2,?_⟩
  refine List.forall_mem_cons.2 ⟨pd_5_2_3,?_⟩
  refine List.forall_mem_cons.2 ⟨pd_5_3_0,?_⟩
  refine List.forall_mem_cons.2 ⟨pd_5_3_1,?_⟩
  refine List.forall_mem_cons.2 ⟨pd_5_3_2,?_⟩
  refine List.forall_mem_cons.2 ⟨pd_5_3_3,?_⟩
  exact fun p hp => nomatch hp
theorem pd_n6 : ∀ p ∈ pj 6,chkPd 6 p.1 p.2 = true :=
 show ∀ p ∈ [([0],[0]),([0],[1]),([1],[0]),([1],[1])],chkPd 6 p.1 p.2 = true by
  refine List.forall_mem_cons.2 ⟨pd_6_0_0,?_⟩
  refine List.forall_mem_cons.2 ⟨pd_6_0_1,?_⟩
  refine List.forall_mem_cons.2 ⟨pd_6_1_0,?_⟩
  refine List.forall_mem_cons.2 ⟨pd_6_1_1,?_⟩
  exact fun p hp => nomatch hp
theorem pd_n7 : ∀ p ∈ pj 7,chkPd 7 p.1 p.2 = true :=
 show ∀ p ∈ [([0],[0]),([0],[1]),([0],[2]),([0],[3]),([0],[4]),([0],[5]),([1],[0]),([1],[1]),([1],[2]),([1],[3]),([1],[4]),([1],[5]),([2],[0]),([2],[1]),([2],[2]),([2],[3]),([2],[4]),([2],[5]),([3],[0]),([3],[1]),([3],[2]),([3],[3]),([3],[4]),([3],[5]),([4],[0]),([4],[1]),([4],[2]),([4],[3]),([4],[4]),([4],[5]),([5],[0]),([5],[1]),([5],[2]),([5],[3]),([5],[4]),([5],[5])],chkPd 7 p.1 p.2 = true by
  refine List.forall_mem_cons.2 ⟨pd_7_0_0,?_⟩
  refine List.forall_mem_cons.2 ⟨pd_7_0_1,?_⟩
  refine List.forall_mem_cons.2 ⟨pd_7_0_2,?_⟩
  refine List.forall_mem_cons.2 ⟨pd_7_0_3,?_⟩
  refine List.forall_mem_cons.2 ⟨pd_7_0_4,?_⟩
  refine List.forall_mem_cons.2 ⟨pd_7_0_5,?_⟩
  refine List.forall_mem_cons.2 ⟨pd_7_1_0,?_⟩
  refine List.forall_mem_cons.2 ⟨pd_7_1_1,?_⟩
  refine List.forall_mem_cons.2 ⟨pd_7_1_2,?_⟩
  refine List.forall_mem_cons.2 ⟨pd_7_1_3,?_⟩
  refine List.forall_mem_cons.2 ⟨pd_7_1_4,?_⟩
  refine List.forall_mem_cons.2 ⟨pd_7_1_5,?_⟩
  refine List.forall_mem_cons.2 ⟨pd_7_2_0,?_⟩
  refine List.forall_mem_cons.2 ⟨pd_7_2_1,?_⟩
  refine List.forall_mem_cons.2 ⟨pd_7_2_2,?_⟩
  refine List.forall_mem_cons.2 ⟨pd_7_2_3,?_⟩
  refine List.forall_mem_cons.2 ⟨pd_7_2_4,?_⟩
  refine List.forall_mem_cons.2 ⟨pd_7_2_5,?_⟩
  refine List.forall_mem_cons.2 ⟨pd_7_3_0,?_⟩
  refine List.forall_mem_cons.2 ⟨pd_7_3_1,?_⟩
  refine List.forall_mem_cons.2 ⟨pd_7_3_2,?_⟩
  refine List.forall_mem_cons.2 ⟨pd_7_3_3,?_⟩
  refine List.forall_mem_cons.2 ⟨pd_7_3_4,?_⟩
  refine List.forall_mem_cons.2 ⟨pd_7_3_5,?_⟩
  refine List.forall_mem_cons.2 ⟨pd_7_4_0,?_⟩
  refine List.forall_mem_cons.2 ⟨pd_7_4_1,?_⟩
  refine List.forall_mem_cons.2 ⟨pd_7_4_2,?_⟩
  refine List.forall_mem_cons.2 ⟨pd_7_4_3,?_⟩
  refine List.forall_mem_cons.2 ⟨pd_7_4_4,?_⟩
  refine List.forall_mem_cons.2 ⟨pd_7_4_5,?_⟩
  refine List.forall_mem_cons.2 ⟨pd_7_5_0,?_⟩
  refine List.forall_mem_cons.2 ⟨pd_7_5_1,?_⟩
  refine List.forall_mem_cons.2 ⟨pd_7_5_2,?_⟩
  refine List.forall_mem_cons.2 ⟨pd_7_5_3,?_⟩
  refine List.forall_mem_cons.2 ⟨pd_7_5_4,?_⟩
  refine List.forall_mem_cons.2 ⟨pd_7_5_5,?_⟩
  exact fun p hp => nomatch hp
theorem pd_n8 : ∀ p ∈ pj 8,chkPd 8 p.1 p.2 = true :=
 show ∀ p ∈ [([0,0],[0,0]),([0,0],[0,1]),([0,0],[1,0]),([0,0],[1,1]),([0,1],[0,0]),([0,1],[0,1]),([0,1],[1,0]),([0,1],[1,1]),([1,0],[0,0]),([1,0],[0,1]),([1,0],[1,0]),([1,0],[1,1]),([1,1],[0,0]),([1,1],[0,1]),([1,1],[1,0]),([1,1],[1,1])],chkPd 8 p.1 p.2 = true by
  refine List.forall_mem_cons.2 ⟨pd_8_0_0_0_0,?_⟩
  refine List.forall_mem_cons.2 ⟨pd_8_0_0_0_1,?_⟩
  refine List.forall_mem_cons.2 ⟨pd_8_0_0_1_0,?_⟩
  refine List.forall_mem_cons.2 ⟨pd_8_0_0_1_1,?_⟩
  refine List.forall_mem_cons.2 ⟨pd_8_0_1_0_0,?_⟩
  refine List.forall_mem_cons.2 ⟨pd_8_0_1_0_1,?_⟩
  refine List.forall_mem_cons.2 ⟨pd_8_0_1_1_0,?_⟩
  refine List.forall_mem_cons.2 ⟨pd_8_0_1_1_1,?_⟩
  refine List.forall_mem_cons.2 ⟨pd_8_1_0_0_0,?_⟩
  refine List.forall_mem_cons.2 ⟨pd_8_1_0_0_1,?_⟩
  refine List.forall_mem_cons.2 ⟨pd_8_1_0_1_0,?_⟩
  refine List.forall_mem_cons.2 ⟨pd_8_1_0_1_1,?_⟩
  refine List.forall_mem_cons.2 ⟨pd_8_1_1_0_0,?_⟩
  refine List.forall_mem_cons.2 ⟨pd_8_1_1_0_1,?_⟩
  refine List.forall_mem_cons.2 ⟨pd_8_1_1_1_0,?_⟩
  refine List.forall_mem_cons.2 ⟨pd_8_1_1_1_1,?_⟩
  exact fun p hp => nomatch hp
theorem pd_n9 : ∀ p ∈ pj 9,chkPd 9 p.1 p.2 = true :=
 show ∀ p ∈ [([0],[0]),([0],[1]),([0],[2]),([0],[3]),([0],[4]),([0],[5]),([1],[0]),([1],[1]),([1],[2]),([1],[3]),([1],[4]),([1],[5]),([2],[0]),([2],[1]),([2],[2]),([2],[3]),([2],[4]),([2],[5]),([3],[0]),([3],[1]),([3],[2]),([3],[3]),([3],[4]),([3],[5]),([4],[0]),([4],[1]),([4],[2]),([4],[3]),([4],[4]),([4],[5]),([5],[0]),([5],[1]),([5],[2]),([5],[3]),([5],[4]),([5],[5])],chkPd 9 p.1 p.2 = true by
  refine List.forall_mem_cons.2 ⟨pd_9_0_0,?_⟩
  refine List.forall_mem_cons.2 ⟨pd_9_0_1,?_⟩
  refine List.forall_mem_cons.2 ⟨pd_9_0_2,?_⟩
  refine List.forall_mem_cons.2 ⟨pd_9_0_3,?_⟩
  refine List.forall_mem_cons.2 ⟨pd_9_0_4,?_⟩
  refine List.forall_mem_cons.2 ⟨pd_9_0_5,?_⟩
  refine List.forall_mem_cons.2 ⟨pd_9_1_0,?_⟩
  refine List.forall_mem_cons.2 ⟨pd_9_1_1,?_⟩
  refine List.forall_mem_cons.2 ⟨pd_9_1_2,?_⟩
  refine List.forall_mem_cons.2 ⟨pd_9_1_3,?_⟩
  refine List.forall_mem_cons.2 ⟨pd_9_1_4,?_⟩
  refine List.forall_mem_cons.2 ⟨pd_9_1_5,?_⟩
  refine List.forall_mem_cons.2 ⟨pd_9_2_0,?_⟩
  refine List.forall_mem_cons.2 ⟨pd_9_2_1,?_⟩
  refine List.forall_mem_cons.2 ⟨pd_9_2_2,?_⟩
  refine List.forall_mem_cons.2 ⟨pd_9_2_3,?_⟩
  refine List.forall_mem_cons.2 ⟨pd_9_2_4,?_⟩
  refine List.forall_mem_cons.2 ⟨pd_9_2_5,?_⟩
  refine List.forall_mem_cons.2 ⟨pd_9_3_0,?_⟩
  refine List.forall_mem_cons.2 ⟨pd_9_3_1,?_⟩
  refine List.forall_mem_cons.2 ⟨pd_9_3_2,?_⟩
  refine List.forall_mem_cons.2 ⟨pd_9_3_3,?_⟩
  refine List.forall_mem_cons.2 ⟨pd_9_3_4,?_⟩
  refine List.forall_mem_cons.2 ⟨pd_9_3_5,?_⟩
  refine List.forall_mem_cons.2 ⟨pd_9_4_0,?_⟩
  refine List.forall_mem_cons.2 ⟨pd_9_4_1,?_⟩
  refine List.forall_mem_cons.2 ⟨pd_9_4_2,?_⟩
  refine List.forall_mem_cons.2 ⟨pd_9_4_3,?_⟩
  refine List.forall_mem_cons.2 ⟨pd_9_4_4,?_⟩
  refine List.forall_mem_cons.2 ⟨pd_9_4_5,?_⟩
  refine List.forall_mem_cons.2 ⟨pd_9_5_0,?_⟩
  refine List.forall_mem_cons.2 ⟨pd_9_5_1,?_⟩
  refine List.forall_mem_cons.2 ⟨pd_9_5_2,?_⟩
  refine List.forall_mem_cons.2 ⟨pd_9_5_3,?_⟩
  refine List.forall_mem_cons.2 ⟨pd_9_5_4,?_⟩
  refine List.forall_mem_cons.2 ⟨pd_9_5_5,?_⟩
  exact fun p hp => nomatch hp
theorem pd_n10 : ∀ p ∈ pj 10,chkPd 10 p.1 p.2 = true :=
 show ∀ p ∈ [([0],[0]),([0],[1]),([0],[2]),([0],[3]),([1],[0]),([1],[1]),([1],[2]),([1],[3]),([2],[0]),([2],[1]),([2],[2]),([2],[3]),([3],[0]),([3],[1]),([3],[2]),([3],[3])],chkPd 10 p.1 p.2 = true by
  refine List.forall_mem_cons.2 ⟨pd_10_0_0,?_⟩
  refine List.forall_mem_cons.2 ⟨pd_10_0_1,?_⟩
  refine List.forall_mem_cons.2 ⟨pd_10_0_2,?_⟩
  refine List.forall_mem_cons.2 ⟨pd_10_0_3,?_⟩
  refine List.forall_mem_cons.2 ⟨pd_10_1_0,?_⟩
  refine List.forall_mem_cons.2 ⟨pd_10_1_1,?_⟩
  refine List.forall_mem_cons.2 ⟨pd_10_1_2,?_⟩
  refine List.forall_mem_cons.2 ⟨pd_10_1_3,?_⟩
  refine List.forall_mem_cons.2 ⟨pd_10_2_0,?_⟩
  refine List.forall_mem_cons.2 ⟨pd_10_2_1,?_⟩
  refine List.forall_mem_cons.2 ⟨pd_10_2_2,?_⟩
  refine List.forall_mem_cons.2 ⟨pd_10_2_3,?_⟩
  refine List.forall_mem_cons.2 ⟨pd_10_3_0,?_⟩
  refine List.forall_mem_cons.2 ⟨pd_10_3_1,?_⟩
  refine List.forall_mem_cons.2 ⟨pd_10_3_2,?_⟩
  refine List.forall_mem_cons.2 ⟨pd_10_3_3,?_⟩
  exact fun p hp => nomatch hp
theorem pd_n11 : ∀ p ∈ pj 11,chkPd 11 p.1 p.2 = true :=
 show ∀ p ∈ [([0],[0]),([0],[5]),([5],[0]),([5],[5])],chkPd 11 p.1 p.2 = true by
  refine List.forall_mem_cons.2 ⟨pd_11_0_0,?_⟩
  refine List.forall_mem_cons.2 ⟨pd_11_0_5,?_⟩
  refine List.forall_mem_cons.2 ⟨pd_11_5_0,?_⟩
  refine List.forall_mem_cons.2 ⟨pd_11_5_5,?_⟩
  exact fun p hp => nomatch hp
theorem pd_n12 : ∀ p ∈ pj 12,chkPd 12 p.1 p.2 = true :=
 show ∀ p ∈ [([0,0],[0,0]),([0,0],[0,1]),([0,0],[1,0]),([0,0],[1,1]),([0,1],[0,0]),([0,1],[0,1]),([0,1],[1,0]),([0,1],[1,1]),([1,0],[0,0]),([1,0],[0,1]),([1,0],[1,0]),([1,0],[1,1]),([1,1],[0,0]),([1,1],[0,1]),([1,1],[1,0]),([1,1],[1,1])],chkPd 12 p.1 p.2 = true by
  refine List.forall_mem_cons.2 ⟨pd_12_0_0_0_0,?_⟩
  refine List.forall_mem_cons.2 ⟨pd_12_0_0_0_1,?_⟩
  refine List.forall_mem_cons.2 ⟨pd_12_0_0_1_0,?_⟩
  refine List.forall_mem_cons.2 ⟨pd_12_0_0_1_1,?_⟩
  refine List.forall_mem_cons.2 ⟨pd_12_0_1_0_0,?_⟩
  refine List.forall_mem_cons.2 ⟨pd_12_0_1_0_1,?_⟩
  refine List.forall_mem_cons.2 ⟨pd_12_0_1_1_0,?_⟩
  refine List.forall_mem_cons.2 ⟨pd_12_0_1_1_1,?_⟩
  refine List.forall_mem_cons.2 ⟨pd_12_1_0_0_0,?_⟩
  refine List.forall_mem_cons.2 ⟨pd_12_1_0_0_1,?_⟩
  refine List.forall_mem_cons.2 ⟨pd_12_1_0_1_0,?_⟩
  refine List.forall_mem_cons.2 ⟨pd_12_1_0_1_1,?_⟩
  refine List.forall_mem_cons.2 ⟨pd_12_1_1_0_0,?_⟩
  refine List.forall_mem_cons.2 ⟨pd_12_1_1_0_1,?_⟩
  refine List.forall_mem_cons.2 ⟨pd_12_1_1_1_0,?_⟩
  refine List.forall_mem_cons.2 ⟨pd_12_1_1_1_1,?_⟩
  exact fun p hp => nomatch hp
theorem pd_n13 : ∀ p ∈ pj 13,chkPd 13 p.1 p.2 = true :=
 show ∀ p ∈ [([0],[0]),([0],[6]),([6],[0]),([6],[6])],chkPd 13 p.1 p.2 = true by
  refine List.forall_mem_cons.2 ⟨pd_13_0_0,?_⟩
  refine List.forall_mem_cons.2 ⟨pd_13_0_6,?_⟩
  refine List.forall_mem_cons.2 ⟨pd_13_6_0,?_⟩
  refine List.forall_mem_cons.2 ⟨pd_13_6_6,?_⟩
  exact fun p hp => nomatch hp
theorem pd_n14 : ∀ p ∈ pj 14,chkPd 14 p.1 p.2 = true :=
 show ∀ p ∈ [([0],[0]),([0],[1]),([0],[2]),([0],[3]),([0],[4]),([0],[5]),([1],[0]),([1],[1]),([1],[2]),([1],[3]),([1],[4]),([1],[5]),([2],[0]),([2],[1]),([2],[2]),([2],[3]),([2],[4]),([2],[5]),([3],[0]),([3],[1]),([3],[2]),([3],[3]),([3],[4]),([3],[5]),([4],[0]),([4],[1]),([4],[2]),([4],[3]),([4],[4]),([4],[5]),([5],[0]),([5],[1]),([5],[2]),([5],[3]),([5],[4]),([5],[5])],chkPd 14 p.1 p.2 = true by
  refine List.forall_mem_cons.2 ⟨pd_14_0_0,?_⟩
  refine List.forall_mem_cons.2 ⟨pd_14_0_1,?_⟩
  refine List.forall_mem_cons.2 ⟨pd_14_0_2,?_⟩
  refine List.forall_mem_cons.2 ⟨pd_14_0_3,?_⟩
  refine List.forall_mem_cons.2 ⟨pd_14_0_4,?_⟩
  refine List.forall_mem_cons.2 ⟨pd_14_0_5,?_⟩
  refine List.forall_mem_cons.2 ⟨pd_14_1_0,?_⟩
  refine List.forall_mem_cons.2 ⟨pd_14_1_1,?_⟩
  refine List.forall_mem_cons.2 ⟨pd_14_1_2,?_⟩
  refine List.forall_mem_cons.2 ⟨pd_14_1_3,?_⟩
  refine List.forall_mem_cons.2 ⟨pd_14_1_4,?_⟩
  refine List.forall_mem_cons.2 ⟨pd_14_1_5,?_⟩
  refine List.forall_mem_cons.2 ⟨pd_14_2_0,?_⟩
  refine List.forall_mem_cons.2 ⟨pd_14_2_1,?_⟩
  refine List.forall_mem_cons.2 ⟨pd_14_2_2,?_⟩
  refine List.forall_mem_cons.2 ⟨pd_14_2_3,?_⟩
  refine List.forall_mem_cons.2 ⟨pd_14_2_4,?_⟩
  refine List.forall_mem_cons.2 ⟨pd_14_2_5,?_⟩
  refine List.forall_mem_cons.2 ⟨pd_14_3_0,?_⟩
  refine List.forall_mem_cons.2 ⟨pd_14_3_1,?_⟩
  refine List.forall_mem_cons.2 ⟨pd_14_3_2,?_⟩
  refine List.forall_mem_cons.2 ⟨pd_14_3_3,?_⟩
  refine List.forall_mem_cons.2 ⟨pd_14_3_4,?_⟩
  refine List.forall_mem_cons.2 ⟨pd_14_3_5,?_⟩
  refine List.forall_mem_cons.2 ⟨pd_14_4_0,?_⟩
  refine List.forall_mem_cons.2 ⟨pd_14_4_1,?_⟩
  refine List.forall_mem_cons.2 ⟨pd_14_4_2,?_⟩
  refine List.forall_mem_cons.2 ⟨pd_14_4_3,?_⟩
  refine List.forall_mem_cons.2 ⟨pd_14_4_4,?_⟩
  refine List.forall_mem_cons.2 ⟨pd_14_4_5,?_⟩
  refine List.forall_mem_cons.2 ⟨pd_14_5_0,?_⟩
  refine List.forall_mem_cons.2 ⟨pd_14_5_1,?_⟩
  refine List.forall_mem_cons.2 ⟨pd_14_5_2,?_⟩
  refine List.forall_mem_cons.2 ⟨pd_14_5_3,?_⟩
  refine List.forall_mem_cons.2 ⟨pd_14_5_4,?_⟩
  refine List.forall_mem_cons.2 ⟨pd_14_5_5,?_⟩
  exact fun p hp => nomatch hp
theorem pd_n15 : ∀ p ∈ pj 15,chkPd 15 p.1 p.2 = true :=
 show ∀ p ∈ [([0,0],[0,0]),([0,0],[0,2]),([0,0],[1,0]),([0,0],[1,2]),([0,2],[0,0]),([0,2],[0,2]),([0,2],[1,0]),([0,2],[1,2]),([1,0],[0,0]),([1,0],[0,2]),([1,0],[1,0]),([1,0],[1,2]),([1,2],[0,0]),([1,2],[0,2]),([1,2],[1,0]),([1,2],[1,2])],chkPd 15 p.1 p.2 = true by
  refine List.forall_mem_cons.2 ⟨pd_15_0_0_0_0,?_⟩
  refine List.forall_mem_cons.2 ⟨pd_15_0_0_0_2,?_⟩
  refine List.forall_mem_cons.2 ⟨pd_15_0_0_1_0,?_⟩
  refine List.forall_mem_cons.2 ⟨pd_15_0_0_1_2,?_⟩
  refine List.forall_mem_cons.2 ⟨pd_15_0_2_0_0,?_⟩
  refine List.forall_mem_cons.2 ⟨pd_15_0_2_0_2,?_⟩
  refine List.forall_mem_cons.2 ⟨pd_15_0_2_1_0,?_⟩
  refine List.forall_mem_cons.2 ⟨pd_15_0_2_1_2,?_⟩
  refine List.forall_mem_cons.2 ⟨pd_15_1_0_0_0,?_⟩
  refine List.forall_mem_cons.2 ⟨pd_15_1_0_0_2,?_⟩
  refine List.forall_mem_cons.2 ⟨pd_15_1_0_1_0,?_⟩
  refine List.forall_mem_cons.2 ⟨pd_15_1_0_1_2,?_⟩
  refine List.forall_mem_cons.2 ⟨pd_15_1_2_0_0,?_⟩
  refine List.forall_mem_cons.2 ⟨pd_15_1_2_0_2,?_⟩
  refine List.forall_mem_cons.2 ⟨pd_15_1_2_1_0,?_⟩
  refine List.forall_mem_cons.2 ⟨pd_15_1_2_1_2,?_⟩
  exact fun p hp => nomatch hp
theorem pd_n16 : ∀ p ∈ pj 16,chkPd 16 p.1 p.2 = true :=
 show ∀ p ∈ [([0,0],[0,0]),([0,0],[0,1]),([0,0],[0,2]),([0,0],[0,3]),([0,0],[1,0]),([0,0],[1,1]),([0,0],[1,2]),([0,0],[1,3]),([0,1],[0,0]),([0,1],[0,1]),([0,1],[0,2]),([0,1],[0,3]),([0,1],[1,0]),([0,1],[1,1]),([0,1],[1,2]),([0,1],[1,3]),([0,2],[0,0]),([0,2],[0,1]),([0,2],[0,2]),([0,2],[0,3]),([0,2],[1,0]),([0,2],[1,1]),([0,2],[1,2]),([0,2],[1,3]),([0,3],[0,0]),([0,3],[0,1]),([0,3],[0,2]),([0,3],[0,3]),([0,3],[1,0]),([0,3],[1,1]),([0,3],[1,2]),([0,3],[1,3]),([1,0],[0,0]),([1,0],[0,1]),([1,0],[0,2]),([1,0],[0,3]),([1,0],[1,0]),([1,0],[1,1]),([1,0],[1,2]),([1,0],[1,3]),([1,1],[0,0]),([1,1],[0,1]),([1,1],[0,2]),([1,1],[0,3]),([1,1],[1,0]),([1,1],[1,1]),([1,1],[1,2]),([1,1],[1,3]),([1,2],[0,0]),([1,2],[0,1]),([1,2],[0,2]),([1,2],[0,3]),([1,2],[1,0]),([1,2],[1,1]),([1,2],[1,2]),([1,2],[1,3]),([1,3],[0,0]),([1,3],[0,1]),([1,3],[0,2]),([1,3],[0,3]),([1,3],[1,0]),([1,3],[1,1]),([1,3],[1,2]),([1,3],[1,3])],chkPd 16 p.1 p.2 = true by
  refine List.forall_mem_cons.2 ⟨pd_16_0_0_0_0,?_⟩
  refine List.forall_mem_cons.2 ⟨pd_16_0_0_0_1,?_⟩
  refine List.forall_mem_cons.2 ⟨pd_16_0_0_0_2,?_⟩
  refine List.forall_mem_cons.2 ⟨pd_16_0_0_0_3,?_⟩
  refine List.forall_mem_cons.2 ⟨pd_16_0_0_1_0,?_⟩
  refine List.forall_mem_cons.2 ⟨pd_16_0_0_1_1,?_⟩
  refine List.forall_mem_cons.2 ⟨pd_16_0_0_1_2,?_⟩
  refine List.forall_mem_cons.2 ⟨pd_16_0_0_1_3,?_⟩
  refine List.forall_mem_cons.2 ⟨pd_16_0_1_0_0,?_⟩
  refine List.forall_mem_cons.2 ⟨pd_16_0_1_0_1,?_⟩
  refine List.forall_mem_cons.2 ⟨pd_16_0_1_0_2,?_⟩
  refine List.forall_mem_cons.2 ⟨pd_16_0_1_0_3,?_⟩
  refine List.forall_mem_cons.2 ⟨pd_16_0_1_1_0,?_⟩
  refine List.forall_mem_cons.2 ⟨pd_16_0_1_1_1,?_⟩
  refine List.forall_mem_cons.2 ⟨pd_16_0_1_1_2,?_⟩
  refine List.forall_mem_cons.2 ⟨pd_16_0_1_1_3,?_⟩
  refine List.forall_mem_cons.2 ⟨pd_16_0_2_0_0,?_⟩
  refine List.forall_mem_cons.2 ⟨pd_16_0_2_0_1,?_⟩
  refine List.forall_mem_cons.2 ⟨pd_16_0_2_0_2,?_⟩
  refine List.forall_mem_cons.2 ⟨pd_16_0_2_0_3,?_⟩
  refine List.forall_mem_cons.2 ⟨pd_16_0_2_1_0,?_⟩
  refine List.forall_mem_cons.2 ⟨pd_16_0_2_1_1,?_⟩
  refine List.forall_mem_cons.2 ⟨pd_16_0_2_1_2,?_⟩
  refine List.forall_mem_cons.2 ⟨pd_16_0_2_1_3,?_⟩
  refine List.forall_mem_cons.2 ⟨pd_16_0_3_0_0,?_⟩
  refine List.forall_mem_cons.2 ⟨pd_16_0_3_0_1,?_⟩
  refine List.forall_mem_cons.2 ⟨pd_16_0_3_0_2,?_⟩
  refine List.forall_mem_cons.2 ⟨pd_16_0_3_0_3,?_⟩
  refine List.forall_mem_cons.2 ⟨pd_16_0_3_1_0,?_⟩
  refine List.forall_mem_cons.2 ⟨pd_16_0_3_1_1,?_⟩
  refine List.forall_mem_cons.2 ⟨pd_16_0_3_1_2,?_⟩
  refine List.forall_mem_cons.2 ⟨pd_16_0_3_1_3,?_⟩
  refine List.forall_mem_cons.2 ⟨pd_16_1_0_0_0,?_⟩
  refine List.forall_mem_cons.2 ⟨pd_16_1_0_0_1,?_⟩
  refine List.forall_mem_cons.2 ⟨pd_16_1_0_0_2,?_⟩
  refine List.forall_mem_cons.2 ⟨pd_16_1_0_0_3,?_⟩
  refine List.forall_mem_cons.2 ⟨pd_16_1_0_1_0,?_⟩
  refine List.forall_mem_cons.2 ⟨pd_16_1_0_1_1,?_⟩
  refine List.forall_mem_cons.2 ⟨pd_16_1_0_1_2,?_⟩
  refine List.forall_mem_cons.2 ⟨pd_16_1_0_1_3,?_⟩
  refine List.forall_mem_cons.2 ⟨pd_16_1_1_0_0,?_⟩
  refine List.forall_mem_cons.2 ⟨pd_16_1_1_0_1,?_⟩
  refine List.forall_mem_cons.2 ⟨pd_16_1_1_0_2,?_⟩
  refine List.forall_mem_cons.2 ⟨pd_16_1_1_0_3,?_⟩
  refine List.forall_mem_cons.2 ⟨pd_16_1_1_1_0,?_⟩
  refine List.forall_mem_cons.2 ⟨pd_16_1_1_1_1,?_⟩
  refine List.forall_mem_cons.2 ⟨pd_16_1_1_1_2,?_⟩
  refine List.forall_mem_cons.2 ⟨pd_16_1_1_1_3,?_⟩
  refine List.forall_mem_cons.2 ⟨pd_16_1_2_0_0,?_⟩
  refine List.forall_mem_cons.2 ⟨pd_16_1_2_0_1,?_⟩
  refine List.forall_mem_cons.2 ⟨pd_16_1_2_0_2,?_⟩
  refine List.forall_mem_cons.2 ⟨pd_16_1_2_0_3,?_⟩
  refine List.forall_mem_cons.2 ⟨pd_16_1_2_1_0,?_⟩
  refine List.forall_mem_cons.2 ⟨pd_16_1_2_1_1,?_⟩
  refine List.forall_mem_cons.2 ⟨pd_16_1_2_1_2,?_⟩
  refine List.forall_mem_cons.2 ⟨pd_16_1_2_1_3,?_⟩
  refine List.forall_mem_cons.2 ⟨pd_16_1_3_0_0,?_⟩
  refine List.forall_mem_cons.2 ⟨pd_16_1_3_0_1,?_⟩
  refine List.forall_mem_cons.2 ⟨pd_16_1_3_0_2,?_⟩
  refine List.forall_mem_cons.2 ⟨pd_16_1_3_0_3,?_⟩
  refine List.forall_mem_cons.2 ⟨pd_16_1_3_1_0,?_⟩
  refine List.forall_mem_cons.2 ⟨pd_16_1_3_1_1,?_⟩
  refine List.forall_mem_cons.2 ⟨pd_16_1_3_1_2,?_⟩
  refine List.forall_mem_cons.2 ⟨pd_16_1_3_1_3,?_⟩
  exact fun p hp => nomatch hp
theorem pd_n17 : ∀ p ∈ pj 17,chkPd 17 p.1 p.2 = true := fun p hp => nomatch (show p ∈ ([] : List (List Nat × List Nat)) from hp)
theorem pd_n18 : ∀ p ∈ pj 18,chkPd 18 p.1 p.2 = true :=
 show ∀ p ∈ [([0],[0]),([0],[1]),([0],[2]),([0],[3]),([0],[4]),([0],[5]),([1],[0]),([1],[1]),([1],[2]),([1],[3]),([1],[4]),([1],[5]),([2],[0]),([2],[1]),([2],[2]),([2],[3]),([2],[4]),([2],[5]),([3],[0]),([3],[1]),([3],[2]),([3],[3]),([3],[4]),([3],[5]),([4],[0]),([4],[1]),([4],[2]),([4],[3]),([4],[4]),([4],[5]),([5],[0]),([5],[1]),([5],[2]),([5],[3]),([5],[4]),([5],[5])],chkPd 18 p.1 p.2 = true by
  refine List.forall_mem_cons.2 ⟨pd_18_0_0,?_⟩
  refine List.forall_mem_cons.2 ⟨pd_18_0_1,?_⟩
  refine List.forall_mem_cons.2 ⟨pd_18_0_2,?_⟩
  refine List.forall_mem_cons.2 ⟨pd_18_0_3,?_⟩
  refine List.forall_mem_cons.2 ⟨pd_18_0_4,?_⟩
  refine List.forall_mem_cons.2 ⟨pd_18_0_5,?_⟩
  refine List.forall_mem_cons.2 ⟨pd_18_1_0,?_⟩
  refine List.forall_mem_cons.2 ⟨pd_18_1_1,?_⟩
  refine List.forall_mem_cons.2 ⟨pd_18_1_2,?_⟩
  refine List.forall_mem_cons.2 ⟨pd_18_1_3,?_⟩
  refine List.forall_mem_cons.2 ⟨pd_18_1_4,?_⟩
  refine List.forall_mem_cons.2 ⟨pd_18_1_5,?_⟩
  refine List.forall_mem_cons.2 ⟨pd_18_2_0,?_⟩
  refine List.forall_mem_cons.2 ⟨pd_18_2_1,?_⟩
  refine List.forall_mem_cons.2 ⟨pd_18_2_2,?_⟩
  refine List.forall_mem_cons.2 ⟨pd_18_2_3,?_⟩
  refine List.forall_mem_cons.2 ⟨pd_18_2_4,?_⟩
  refine List.forall_mem_cons.2 ⟨pd_18_2_5,?_⟩
  refine List.forall_mem_cons.2 ⟨pd_18_3_0,?_⟩
  refine List.forall_mem_cons.2 ⟨pd_18_3_1,?_⟩
  refine List.forall_mem_cons.2 ⟨pd_18_3_2,?_⟩
  refine List.forall_mem_cons.2 ⟨pd_18_3_3,?_⟩
  refine List.forall_mem_cons.2 ⟨pd_18_3_4,?_⟩
  refine List.forall_mem_cons.2 ⟨pd_18_3_5,?_⟩
  refine List.forall_mem_cons.2 ⟨pd_18_4_0,?_⟩
  refine List.forall_mem_cons.2 ⟨pd_18_4_1,?_⟩
  refine List.forall_mem_cons.2 ⟨pd_18_4_2,?_⟩
  refine List.forall_mem_cons.2 ⟨pd_18_4_3,?_⟩
  refine List.forall_mem_cons.2 ⟨pd_18_4_4,?_⟩
  refine List.forall_mem_cons.2 ⟨pd_18_4_5,?_⟩
  refine List.forall_mem_cons.2 ⟨pd_18_5_0,?_⟩
  refine List.forall_mem_cons.2 ⟨pd_18_5_1,?_⟩
  refine List.forall_mem_cons.2 ⟨pd_18_5_2,?_⟩
  refine List.forall_mem_cons.2 ⟨pd_18_5_3,?_⟩
  refine List.forall_mem_cons.2 ⟨pd_18_5_4,?_⟩
  refine List.forall_mem_cons.2 ⟨pd_18_5_5,?_⟩
  exact fun p hp => nomatch hp
theorem pd_n19 : ∀ p ∈ pj 19,chkPd 19 p.1 p.2 = true := fun p hp => nomatch (show p ∈ ([] : List (List Nat × List Nat)) from hp)
theorem pd_n20 : ∀ p ∈ pj 20,chkPd 20 p.1 p.2 = true :=
 show ∀ p ∈ [([0,0],[0,0]),([0,0],[0,1]),([0,0],[0,2]),([0,0],[0,3]),([0,0],[1,0]),([0,0],[1,1]),([0,0],[1,2]),([0,0],[1,3]),([0,1],[0,0]),([0,1],[0,1]),([0,1],[0,2]),([0,1],[0,3]),([0,1],[1,0]),([0,1],[1,1]),([0,1],[1,2]),([0,1],[1,3]),([0,2],[0,0]),([0,2],[0,1]),([0,2],[0,2]),([0,2],[0,3]),([0,2],[1,0]),([0,2],[1,1]),([0,2],[1,2]),([0,2],[1,3]),([0,3],[0,0]),([0,3],[0,1]),([0,3],[0,2]),([0,3],[0,3]),([0,3],[1,0]),([0,3],[1,1]),([0,3],[1,2]),([0,3],[1,3]),([1,0],[0,0]),([1,0],[0,1]),([1,0],[0,2]),([1,0],[0,3]),([1,0],[1,0]),([1,0],[1,1]),([1,0],[1,2]),([1,0],[1,3]),([1,1],[0,0]),([1,1],[0,1]),([1,1],[0,2]),([1,1],[0,3]),([1,1],[1,0]),([1,1],[1,1]),([1,1],[1,2]),([1,1],[1,3]),([1,2],[0,0]),([1,2],[0,1]),([1,2],[0,2]),([1,2],[0,3]),([1,2],[1,0]),([1,2],[1,1]),([1,2],[1,2]),([1,2],[1,3]),([1,3],[0,0]),([1,3],[0,1]),([1,3],[0,2]),([1,3],[0,3]),([1,3],[1,0]),([1,3],[1,1]),([1,3],[1,2]),([1,3],[1,3])],chkPd 20 p.1 p.2 = true by
  refine List.forall_mem_cons.2 ⟨pd_20_0_0_0_0,?_⟩
  refine List.forall_mem_cons.2 ⟨pd_20_0_0_0_1,?_⟩
  refine List.forall_mem_cons.2 ⟨pd_20_0_0_0_2,?_⟩
  refine List.forall_mem_cons.2 ⟨pd_20_0_0_0_3,?_⟩
  refine List.forall_mem_cons.2 ⟨pd_20_0_0_1_0,?_⟩
  refine List.forall_mem_cons.2 ⟨pd_20_0_0_1_1,?_⟩
  refine List.forall_mem_cons.2 ⟨pd_20_0_0_1_2,?_⟩
  refine List.forall_mem_cons.2 ⟨pd_20_0_0_1_3,?_⟩
  refine List.forall_mem_cons.2 ⟨pd_20_0_1_0_0,?_⟩
  refine List.forall_mem_cons.2 ⟨pd_20_0_1_0_1,?_⟩
  refine List.forall_mem_cons.2 ⟨pd_20_0_1_0_2,?_⟩
  refine List.forall_mem_cons.2 ⟨pd_20_0_1_0_3,?_⟩
  refine List.forall_mem_cons.2 ⟨pd_20_0_1_1_0,?_⟩
  refine List.forall_mem_cons.2 ⟨pd_20_0_1_1_1,?_⟩
  refine List.forall_mem_cons.2 ⟨pd_20_0_1_1_2,?_⟩
  refine List.forall_mem_cons.2 ⟨pd_20_0_1_1_3,?_⟩
  refine List.forall_mem_cons.2 ⟨pd_20_0_2_0_0,?_⟩
  refine List.forall_mem_cons.2 ⟨pd_20_0_2_0_1,?_⟩
  refine List.forall_mem_cons.2 ⟨pd_20_0_2_0_2,?_⟩
  refine List.forall_mem_cons.2 ⟨pd_20_0_2_0_3,?_⟩
  refine List.forall_mem_cons.2 ⟨pd_20_0_2_1_0,?_⟩
  refine List.forall_mem_cons.2 ⟨pd_20_0_2_1_1,?_⟩
  refine List.forall_mem_cons.2 ⟨pd_20_0_2_1_2,?_⟩
  refine List.forall_mem_cons.2 ⟨pd_20_0_2_1_3,?_⟩
  refine List.forall_mem_cons.2 ⟨pd_20_0_3_0_0,?_⟩
  refine List.forall_mem_cons.2 ⟨pd_20_0_3_0_1,?_⟩
  refine List.forall_mem_cons.2 ⟨pd_20_0_3_0_2,?_⟩
  refine List.forall_mem_cons.2 ⟨pd_20_0_3_0_3,?_⟩
  refine List.forall_mem_cons.2 ⟨pd_20_0_3_1_0,?_⟩
  refine List.forall_mem_cons.2 ⟨pd_20_0_3_1_1,?_⟩
  refine List.forall_mem_cons.2 ⟨pd_20_0_3_1_2,?_⟩
  refine List.forall_mem_cons.2 ⟨pd_20_0_3_1_3,?_⟩
  refine List.forall_mem_cons.2 ⟨pd_20_1_0_0_0,?_⟩
  refine List.forall_mem_cons.2 ⟨pd_20_1_0_0_1,?_⟩
  refine List.forall_mem_cons.2 ⟨pd_20_1_0_0_2,?_⟩
  refine List.forall_mem_cons.2 ⟨pd_20_1_0_0_3,?_⟩
  refine List.forall_mem_cons.2 ⟨pd_20_1_0_1_0,?_⟩
  refine List.forall_mem_cons.2 ⟨pd_20_1_0_1_1,?_⟩
  refine List.forall_mem_cons.2 ⟨pd_20_1_0_1_2,?_⟩
  refine List.forall_mem_cons.2 ⟨pd_20_1_0_1_3,?_⟩
  refine List.forall_mem_cons.2 ⟨pd_20_1_1_0_0,?_⟩
  refine List.forall_mem_cons.2 ⟨pd_20_1_1_0_1,?_⟩
  refine List.forall_mem_cons.2 ⟨pd_20_1_1_0_2,?_⟩
  refine List.forall_mem_cons.2 ⟨pd_20_1_1_0_3,?_⟩
  refine List.forall_mem_cons.2 ⟨pd_20_1_1_1_0,?_⟩
  refine List.forall_mem_cons.2 ⟨pd_20_1_1_1_1,?_⟩
  refine List.forall_mem_cons.2 ⟨pd_20_1_1_1_2,?_⟩
  refine List.forall_mem_cons.2 ⟨pd_20_1_1_1_3,?_⟩
  refine List.forall_mem_cons.2 ⟨pd_20_1_2_0_0,?_⟩
  refine List.forall_mem_cons.2 ⟨pd_20_1_2_0_1,?_⟩
  refine List.forall_mem_cons.2 ⟨pd_20_1_2_0_2,?_⟩
  refine List.forall_mem_cons.2 ⟨pd_20_1_2_0_3,?_⟩
  refine List.forall_mem_cons.2 ⟨pd_20_1_2_1_0,?_⟩
  refine List.forall_mem_cons.2 ⟨pd_20_1_2_1_1,?_⟩
  refine List.forall_mem_cons.2 ⟨pd_20_1_2_1_2,?_⟩
  refine List.forall_mem_cons.2 ⟨pd_20_1_2_1_3,?_⟩
  refine List.forall_mem_cons.2 ⟨pd_20_1_3_0_0,?_⟩
  refine List.forall_mem_cons.2 ⟨pd_20_1_3_0_1,?_⟩
  refine List.forall_mem_cons.2 ⟨pd_20_1_3_0_2,?_⟩
  refine List.forall_mem_cons.2 ⟨pd_20_1_3_0_3,?_⟩
  refine List.forall_mem_cons.2 ⟨pd_20_1_3_1_0,?_⟩
  refine List.forall_mem_cons.2 ⟨pd_20_1_3_1_1,?_⟩
  refine List.forall_mem_cons.2 ⟨pd_20_1_3_1_2,?_⟩
  refine List.forall_mem_cons.2 ⟨pd_20_1_3_1_3,?_⟩
  exact fun p hp => nomatch hp
theorem pd_n21 : ∀ p ∈ pj 21,chkPd 21 p.1 p.2 = true :=
 show ∀ p ∈ [([0,0],[0,0]),([0,0],[0,1]),([0,0],[0,2]),([0,0],[0,3]),([0,0],[0,4]),([0,0],[0,5]),([0,0],[1,0]),([0,0],[1,1]),([0,0],[1,2]),([0,0],[1,3]),([0,0],[1,4]),([0,0],[1,5]),([0,1],[0,0]),([0,1],[0,1]),([0,1],[0,2]),([0,1],[0,3]),([0,1],[0,4]),([0,1],[0,5]),([0,1],[1,0]),([0,1],[1,1]),([0,1],[1,2]),([0,1],[1,3]),([0,1],[1,4]),([0,1],[1,5]),([0,2],[0,0]),([0,2],[0,1]),([0,2],[0,2]),([0,2],[0,3]),([0,2],[0,4]),([0,2],[0,5]),([0,2],[1,0]),([0,2],[1,1]),([0,2],[1,2]),([0,2],[1,3]),([0,2],[1,4]),([0,2],[1,5]),([0,3],[0,0]),([0,3],[0,1]),([0,3],[0,2]),([0,3],[0,3]),([0,3],[0,4]),([0,3],[0,5]),([0,3],[1,0]),([0,3],[1,1]),([0,3],[1,2]),([0,3],[1,3]),([0,3],[1,4]),([0,3],[1,5]),([0,4],[0,0]),([0,4],[0,1]),([0,4],[0,2]),([0,4],[0,3]),([0,4],[0,4]),([0,4],[0,5]),([0,4],[1,0]),([0,4],[1,1]),([0,4],[1,2]),([0,4],[1,3]),([0,4],[1,4]),([0,4],[1,5]),([0,5],[0,0]),([0,5],[0,1]),([0,5],[0,2]),([0,5],[0,3]),([0,5],[0,4]),([0,5],[0,5]),([0,5],[1,0]),([0,5],[1,1]),([0,5],[1,2]),([0,5],[1,3]),([0,5],[1,4]),([0,5],[1,5]),([1,0],[0,0]),([1,0],[0,1]),([1,0],[0,2]),([1,0],[0,3]),([1,0],[0,4]),([1,0],[0,5]),([1,0],[1,0]),([1,0],[1,1]),([1,0],[1,2]),([1,0],[1,3]),([1,0],[1,4]),([1,0],[1,5]),([1,1],[0,0]),([1,1],[0,1]),([1,1],[0,2]),([1,1],[0,3]),([1,1],[0,4]),([1,1],[0,5]),([1,1],[1,0]),([1,1],[1,1]),([1,1],[1,2]),([1,1],[1,3]),([1,1],[1,4]),([1,1],[1,5]),([1,2],[0,0]),([1,2],[0,1]),([1,2],[0,2]),([1,2],[0,3]),([1,2],[0,4]),([1,2],[0,5]),([1,2],[1,0]),([1,2],[1,1]),([1,2],[1,2]),([1,2],[1,3]),([1,2],[1,4]),([1,2],[1,5]),([1,3],[0,0]),([1,3],[0,1]),([1,3],[0,2]),([1,3],[0,3]),([1,3],[0,4]),([1,3],[0,5]),([1,3],[1,0]),([1,3],[1,1]),([1,3],[1,2]),([1,3],[1,3]),([1,3],[1,4]),([1,3],[1,5]),([1,4],[0,0]),([1,4],[0,1]),([1,4],[0,2]),([1,4],[0,3]),([1,4],[0,4]),([1,4],[0,5]),([1,4],[1,0]),([1,4],[1,1]),([1,4],[1,2]),([1,4],[1,3]),([1,4],[1,4]),([1,4],[1,5]),([1,5],[0,0]),([1,5],[0,1]),([1,5],[0,2]),([1,5],[0,3]),([1,5],[0,4]),([1,5],[0,5]),([1,5],[1,0]),([1,5],[1,1]),([1,5],[1,2]),([1,5],[1,3]),([1,5],[1,4]),([1,5],[1,5])],chkPd 21 p.1 p.2 = true by
  refine List.forall_mem_cons.2 ⟨pd_21_0_0_0_0,?_⟩
  refine List.forall_mem_cons.2 ⟨pd_21_0_0_0_1,?_⟩
  refine List.forall_mem_cons.2 ⟨pd_21_0_0_0_2,?_⟩
  refine List.forall_mem_cons.2 ⟨pd_21_0_0_0_3,?_⟩
  refine List.forall_mem_cons.2 ⟨pd_21_0_0_0_4,?_⟩
  refine List.forall_mem_cons.2 ⟨pd_21_0_0_0_5,?_⟩
  refine List.forall_mem_cons.2 ⟨pd_21_0_0_1_0,?_⟩
  refine List.forall_mem_cons.2 ⟨pd_21_0_0_1_1,?_⟩
  refine List.forall_mem_cons.2 ⟨pd_21_0_0_1_2,?_⟩
  refine List.forall_mem_cons.2 ⟨pd_21_0_0_1_3,?_⟩
  refine List.forall_mem_cons.2 ⟨pd_21_0_0_1_4,?_⟩
  refine List.forall_mem_cons.2 ⟨pd_21_0_0_1_5,?_⟩
  refine List.forall_mem_cons.2 ⟨pd_21_0_1_0_0,?_⟩
  refine List.forall_mem_cons.2 ⟨pd_21_0_1_0_1,?_⟩
  refine List.forall_mem_cons.2 ⟨pd_21_0_1_0_2,?_⟩
  refine List.forall_mem_cons.2 ⟨pd_21_0_1_0_3,?_⟩
  refine List.forall_mem_cons.2 ⟨pd_21_0_1_0_4,?_⟩
  refine List.forall_mem_cons.2 ⟨pd_21_0_1_0_5,?_⟩
  refine List.forall_mem_cons.2 ⟨pd_21_0_1_1_0,?_⟩
  refine List.forall_mem_cons.2 ⟨pd_21_0_1_1_1,?_⟩
  refine List.forall_mem_cons.2 ⟨pd_21_0_1_1_2,?_⟩
  refine List.forall_mem_cons.2 ⟨pd_21_0_1_1_3,?_⟩
  refine List.forall_mem_cons.2 ⟨pd_21_0_1_1_4,?_⟩
  refine List.forall_mem_cons.2 ⟨pd_21_0_1_1_5,?_⟩
  refine List.forall_mem_cons.2 ⟨pd_21_0_2_0_0,?_⟩
  refine List.forall_mem_cons.2 ⟨pd_21_0_2_0_1,?_⟩
  refine List.forall_mem_cons.2 ⟨pd_21_0_2_0_2,?_⟩
  refine List.forall_mem_cons.2 ⟨pd_21_0_2_0_3,?_⟩
  refine List.forall_mem_cons.2 ⟨pd_21_0_2_0_4,?_⟩
  refine List.forall_mem_cons.2 ⟨pd_21_0_2_0_5,?_⟩
  refine List.forall_mem_cons.2 ⟨pd_21_0_2_1_0,?_⟩
  refine List.forall_mem_cons.2 ⟨pd_21_0_2_1_1,?_⟩
  refine List.forall_mem_cons.2 ⟨pd_21_0_2_1_2,?_⟩
  refine List.forall_mem_cons.2 ⟨pd_21_0_2_1_3,?_⟩
  refine List.forall_mem_cons.2 ⟨pd_21_0_2_1_4,?_⟩
  refine List.forall_mem_cons.2 ⟨pd_21_0_2_1_5,?_⟩
  refine List.forall_mem_cons.2 ⟨pd_21_0_3_0_0,?_⟩
  refine List.forall_mem_cons.2 ⟨pd_21_0_3_0_1,?_⟩
  refine List.forall_mem_cons.2 ⟨pd_21_0_3_0_2,?_⟩
  refine List.forall_mem_cons.2 ⟨pd_21_0_3_0_3,?_⟩
  refine List.forall_mem_cons.2 ⟨pd_21_0_3_0_4,?_⟩
  refine List.forall_mem_cons.2 ⟨pd_21_0_3_0_5,?_⟩
  refine List.forall_mem_cons.2 ⟨pd_21_0_3_1_0,?_⟩
  refine List.forall_mem_cons.2 ⟨pd_21_0_3_1_1,?_⟩
  refine List.forall_mem_cons.2 ⟨pd_21_0_3_1_2,?_⟩
  refine List.forall_mem_cons.2 ⟨pd_21_0_3_1_3,?_⟩
  refine List.forall_mem_cons.2 ⟨pd_21_0_3_1_4,?_⟩
  refine List.forall_mem_cons.2 ⟨pd_21_0_3_1_5,?_⟩
  refine List.forall_mem_cons.2 ⟨pd_21_0_4_0_0,?_⟩
  refine List.forall_mem_cons.2 ⟨pd_21_0_4_0_1,?_⟩
  refine List.forall_mem_cons.2 ⟨pd_21_0_4_0_2,?_⟩
  refine List.forall_mem_cons.2 ⟨pd_21_0_4_0_3,?_⟩
  refine List.forall_mem_cons.2 ⟨pd_21_0_4_0_4,?_⟩
  refine List.forall_mem_cons.2 ⟨pd_21_0_4_0_5,?_⟩
  refine List.forall_mem_cons.2 ⟨pd_21_0_4_1_0,?_⟩
  refine List.forall_mem_cons.2 ⟨pd_21_0_4_1_1,?_⟩
  refine List.forall_mem_cons.2 ⟨pd_21_0_4_1_2,?_⟩
  refine List.forall_mem_cons.2 ⟨pd_21_0_4_1_3,?_⟩
  refine List.forall_mem_cons.2 ⟨pd_21_0_4_1_4,?_⟩
  refine List.forall_mem_cons.2 ⟨pd_21_0_4_1_5,?_⟩
  refine List.forall_mem_cons.2 ⟨pd_21_0_5_0_0,?_⟩
  refine List.forall_mem_cons.2 ⟨pd_21_0_5_0_1,?_⟩
  refine List.forall_mem_cons.2 ⟨pd_21_0_5_0_2,?_⟩
  refine List.forall_mem_cons.2 ⟨pd_21_0_5_0_3,?_⟩
  refine List.forall_mem_cons.2 ⟨pd_21_0_5_0_4,?_⟩
  refine List.forall_mem_cons.2 ⟨pd_21_0_5_0_5,?_⟩
  refine List.forall_mem_cons.2 ⟨pd_21_0_5_1_0,?_⟩
  refine List.forall_mem_cons.2 ⟨pd_21_0_5_1_1,?_⟩
  refine List.forall_mem_cons.2 ⟨pd_21_0_5_1_2,?_⟩
  refine List.forall_mem_cons.2 ⟨pd_21_0_5_1_3,?_⟩
  refine List.forall_mem_cons.2 ⟨pd_21_0_5_1_4,?_⟩
  refine List.forall_mem_cons.2 ⟨pd_21_0_5_1_5,?_⟩
  refine List.forall_mem_cons.2 ⟨pd_21_1_0_0_0,?_⟩
  refine List.forall_mem_cons.2 ⟨pd_21_1_0_0_1,?_⟩
  refine List.forall_mem_cons.2 ⟨pd_21_1_0_0_2,?_⟩
  refine List.forall_mem_cons.2 ⟨pd_21_1_0_0_3,?_⟩
  refine List.forall_mem_cons.2 ⟨pd_21_1_0_0_4,?_⟩
  refine List.forall_mem_cons.2 ⟨pd_21_1_0_0_5,?_⟩
  refine List.forall_mem_cons.2 ⟨pd_21_1_0_1_0,?_⟩
  refine List.forall_mem_cons.2 ⟨pd_21_1_0_1_1,?_⟩
  refine List.forall_mem_cons.2 ⟨pd_21_1_0_1_2,?_⟩
  refine List.forall_mem_cons.2 ⟨pd_21_1_0_1_3,?_⟩
  refine List.forall_mem_cons.2 ⟨pd_21_1_0_1_4,?_⟩
  refine List.forall_mem_cons.2 ⟨pd_21_1_0_1_5,?_⟩
  refine List.forall_mem_cons.2 ⟨pd_21_1_1_0_0,?_⟩
  refine List.forall_mem_cons.2 ⟨pd_21_1_1_0_1,?_⟩
  refine List.forall_mem_cons.2 ⟨pd_21_1_1_0_2,?_⟩
  refine List.forall_mem_cons.2 ⟨pd_21_1_1_0_3,?_⟩
  refine List.forall_mem_cons.2 ⟨pd_21_1_1_0_4,?_⟩
  refine List.forall_mem_cons.2 ⟨pd_21_1_1_0_5,?_⟩
  refine List.forall_mem_cons.2 ⟨pd_21_1_1_1_0,?_⟩
  refine List.forall_mem_cons.2 ⟨pd_21_1_1_1_1,?_⟩
  refine List.forall_mem_cons.2 ⟨pd_21_1_1_1_2,?_⟩
  refine List.forall_mem_cons.2 ⟨pd_21_1_1_1_3,?_⟩
  refine List.forall_mem_cons.2 ⟨pd_21_1_1_1_4,?_⟩
  refine List.forall_mem_cons.2 ⟨pd_21_1_1_1_5,?_⟩
  refine List.forall_mem_cons.2 ⟨pd_21_1_2_0_0,?_⟩
  refine List.forall_mem_cons.2 ⟨pd_21_1_2_0_1,?_⟩
  refine List.forall_mem_cons.2 ⟨pd_21_1_2_0_2,?_⟩
  refine List.forall_mem_cons.2 ⟨pd_21_1_2_0_3,?_⟩
  refine List.forall_mem_cons.2 ⟨pd_21_1_2_0_4,?_⟩
  refine List.forall_mem_cons.2 ⟨pd_21_1_2_0_5,?_⟩
  refine List.forall_mem_cons.2 ⟨pd_21_1_2_1_0,?_⟩
  refine List.forall_mem_cons.2 ⟨pd_21_1_2_1_1,?_⟩
  refine List.forall_mem_cons.2 ⟨pd_21_1_2_1_2,?_⟩
  refine List.forall_mem_cons.2 ⟨pd_21_1_2_1_3,?_⟩
  refine List.forall_mem_cons.2 ⟨pd_21_1_2_1_4,?_⟩
  refine List.forall_mem_cons.2 ⟨pd_21_1_2_1_5,?_⟩
  refine List.forall_mem_cons.2 ⟨pd_21_1_3_0_0,?_⟩
  refine List.forall_mem_cons.2 ⟨pd_21_1_3_0_1,?_⟩
  refine List.forall_mem_cons.2 ⟨pd_21_1_3_0_2,?_⟩
  refine List.forall_mem_cons.2 ⟨pd_21_1_3_0_3,?_⟩
  refine List.forall_mem_cons.2 ⟨pd_21_1_3_0_4,?_⟩
  refine List.forall_mem_cons.2 ⟨pd_21_1_3_0_5,?_⟩
  refine List.forall_mem_cons.2 ⟨pd_21_1_3_1_0,?_⟩
  refine List.forall_mem_cons.2 ⟨pd_21_1_3_1_1,?_⟩
  refine List.forall_mem_cons.2 ⟨pd_21_1_3_1_2,?_⟩
  refine List.forall_mem_cons.2 ⟨pd_21_1_3_1_3,?_⟩
  refine List.forall_mem_cons.2 ⟨pd_21_1_3_1_4,?_⟩
  refine List.forall_mem_cons.2 ⟨pd_21_1_3_1_5,?_⟩
  refine List.forall_mem_cons.2 ⟨pd_21_1_4_0_0,?_⟩
  refine List.forall_mem_cons.2 ⟨pd_21_1_4_0_1,?_⟩
  refine List.forall_mem_cons.2 ⟨pd_21_1_4_0_2,?_⟩
  refine List.forall_mem_cons.2 ⟨pd_21_1_4_0_3,?_⟩
  refine List.forall_mem_cons.2 ⟨pd_21_1_4_0_4,?_⟩
  refine List.forall_mem_cons.2 ⟨pd_21_1_4_0_5,?_⟩
  refine List.forall_mem_cons.2 ⟨pd_21_1_4_1_0,?_⟩
  refine List.forall_mem_cons.2 ⟨pd_21_1_4_1_1,?_⟩
  refine List.forall_mem_cons.2 ⟨pd_21_1_4_1_2,?_⟩
  refine List.forall_mem_cons.2 ⟨pd_21_1_4_1_3,?_⟩
  refine List.forall_mem_cons.2 ⟨pd_21_1_4_1_4,?_⟩
  refine List.forall_mem_cons.2 ⟨pd_21_1_4_1_5,?_⟩
  refine List.forall_mem_cons.2 ⟨pd_21_1_5_0_0,?_⟩
  refine List.forall_mem_cons.2 ⟨pd_21_1_5_0_1,?_⟩
  refine List.forall_mem_cons.2 ⟨pd_21_1_5_0_2,?_⟩
  refine List.forall_mem_cons.2 ⟨pd_21_1_5_0_3,?_⟩
  refine List.forall_mem_cons.2 ⟨pd_21_1_5_0_4,?_⟩
  refine List.forall_mem_cons.2 ⟨pd_21_1_5_0_5,?_⟩
  refine List.forall_mem_cons.2 ⟨pd_21_1_5_1_0,?_⟩
  refine List.forall_mem_cons.2 ⟨pd_21_1_5_1_1,?_⟩
  refine List.forall_mem_cons.2 ⟨pd_21_1_5_1_2,?_⟩
  refine List.forall_mem_cons.2 ⟨pd_21_1_5_1_3,?_⟩
  refine List.forall_mem_cons.2 ⟨pd_21_1_5_1_4,?_⟩
  refine List.forall_mem_cons.2 ⟨pd_21_1_5_1_5,?_⟩
  exact fun p hp => nomatch hp
theorem pd_n22 : ∀ p ∈ pj 22,chkPd 22 p.1 p.2 = true :=
 show ∀ p ∈ [([0],[0]),([0],[5]),([5],[0]),([5],[5])],chkPd 22 p.1 p.2 = true by
  refine List.forall_mem_cons.2 ⟨pd_22_0_0,?_⟩
  refine List.forall_mem_cons.2 ⟨pd_22_0_5,?_⟩
  refine List.forall_mem_cons.2 ⟨pd_22_5_0,?_⟩
  refine List.forall_mem_cons.2 ⟨pd_22_5_5,?_⟩
  exact fun p hp => nomatch hp
theorem pd_n23 : ∀ p ∈ pj 23,chkPd 23 p.1 p.2 = true := fun p hp => nomatch (show p ∈ ([] : List (List Nat × List Nat)) from hp)
theorem pd_n24 : ∀ p ∈ pj 24,chkPd 24 p.1 p.2 = true :=
 show ∀ p ∈ [([0,0,0],[0,0,0]),([0,0,0],[0,0,1]),([0,0,0],[0,1,0]),([0,0,0],[0,1,1]),([0,0,0],[1,0,0]),([0,0,0],[1,0,1]),([0,0,0],[1,1,0]),([0,0,0],[1,1,1]),([0,0,1],[0,0,0]),([0,0,1],[0,0,1]),([0,0,1],[0,1,0]),([0,0,1],[0,1,1]),([0,0,1],[1,0,0]),([0,0,1],[1,0,1]),([0,0,1],[1,1,0]),([0,0,1],[1,1,1]),([0,1,0],[0,0,0]),([0,1,0],[0,0,1]),([0,1,0],[0,1,0]),([0,1,0],[0,1,1]),([0,1,0],[1,0,0]),([0,1,0],[1,0,1]),([0,1,0],[1,1,0]),([0,1,0],[1,1,1]),([0,1,1],[0,0,0]),([0,1,1],[0,0,1]),([0,1,1],[0,1,0]),([0,1,1],[0,1,1]),([0,1,1],[1,0,0]),([0,1,1],[1,0,1]),([0,1,1],[1,1,0]),([0,1,1],[1,1,1]),([1,0,0],[0,0,0]),([1,0,0],[0,0,1]),([1,0,0],[0,1,0]),([1,0,0],[0,1,1]),([1,0,0],[1,0,0]),([1,0,0],[1,0,1]),([1,0,0],[1,1,0]),([1,0,0],[1,1,1]),([1,0,1],[0,0,0]),([1,0,1],[0,0,1]),([1,0,1],[0,1,0]),([1,0,1],[0,1,1]),([1,0,1],[1,0,0]),([1,0,1],[1,0,1]),([1,0,1],[1,1,0]),([1,0,1],[1,1,1]),([1,1,0],[0,0,0]),([1,1,0],[0,0,1]),([1,1,0],[0,1,0]),([1,1,0],[0,1,1]),([1,1,0],[1,0,0]),([1,1,0],[1,0,1]),([1,1,0],[1,1,0]),([1,1,0],[1,1,1]),([1,1,1],[0,0,0]),([1,1,1],[0,0,1]),([1,1,1],[0,1,0]),([1,1,1],[0,1,1]),([1,1,1],[1,0,0]),([1,1,1],[1,0,1]),([1,1,1],[1,1,0]),([1,1,1],[1,1,1])],chkPd 24 p.1 p.2 = true by
  refine List.forall_mem_cons.2 ⟨pd_24_0_0_0_0_0_0,?_⟩
  refine List.forall_mem_cons.2 ⟨pd_24_0_0_0_0_0_1,?_⟩
  refine List.forall_mem_cons.2 ⟨pd_24_0_0_0_0_1_0,?_⟩
  refine List.forall_mem_cons.2 ⟨pd_24_0_0_0_0_1_1,?_⟩
  refine List.forall_mem_cons.2 ⟨pd_24_0_0_0_1_0_0,?_⟩
  refine List.forall_mem_cons.2 ⟨pd_24_0_0_0_1_0_1,?_⟩
  refine List.forall_mem_cons.2 ⟨pd_24_0_0_0_1_1_0,?_⟩
  refine List.forall_mem_cons.2 ⟨pd_24_0_0_0_1_1_1,?_⟩
  refine List.forall_mem_cons.2 ⟨pd_24_0_0_1_0_0_0,?_⟩
  refine List.forall_mem_cons.2 ⟨pd_24_0_0_1_0_0_1,?_⟩
  refine List.forall_mem_cons.2 ⟨pd_24_0_0_1_0_1_0,?_⟩
  refine List.forall_mem_cons.2 ⟨pd_24_0_0_1_0_1_1,?_⟩
  refine List.forall_mem_cons.2 ⟨pd_24_0_0_1_1_0_0,?_⟩
  refine List.forall_mem_cons.2 ⟨pd_24_0_0_1_1_0_1,?_⟩
  refine List.forall_mem_cons.2 ⟨pd_24_0_0_1_1_1_0,?_⟩
  refine List.forall_mem_cons.2 ⟨pd_24_0_0_1_1_1_1,?_⟩
  refine List.forall_mem_cons.2 ⟨pd_24_0_1_0_0_0_0,?_⟩
  refine List.forall_mem_cons.2 ⟨pd_24_0_1_0_0_0_1,?_⟩
  refine List.forall_mem_cons.2 ⟨pd_24_0_1_0_0_1_0,?_⟩
  refine List.forall_mem_cons.2 ⟨pd_24_0_1_0_0_1_1,?_⟩
  refine List.forall_mem_cons.2 ⟨pd_24_0_1_0_1_0_0,?_⟩
  refine List.forall_mem_cons.2 ⟨pd_24_0_1_0_1_0_1,?_⟩
  refine List.forall_mem_cons.2 ⟨pd_24_0_1_0_1_1_0,?_⟩
  refine List.forall_mem_cons.2 ⟨pd_24_0_1_0_1_1_1,?_⟩
  refine List.forall_mem_cons.2 ⟨pd_24_0_1_1_0_0_0,?_⟩
  refine List.forall_mem_cons.2 ⟨pd_24_0_1_1_0_0_1,?_⟩
  refine List.forall_mem_cons.2 ⟨pd_24_0_1_1_0_1_0,?_⟩
  refine List.forall_mem_cons.2 ⟨pd_24_0_1_1_0_1_1,?_⟩
  refine List.forall_mem_cons.2 ⟨pd_24_0_1_1_1_0_0,?_⟩
  refine List.forall_mem_cons.2 ⟨pd_24_0_1_1_1_0_1,?_⟩
  refine List.forall_mem_cons.2 ⟨pd_24_0_1_1_1_1_0,?_⟩
  refine List.forall_mem_cons.2 ⟨pd_24_0_1_1_1_1_1,?_⟩
  refine List.forall_mem_cons.2 ⟨pd_24_1_0_0_0_0_0,?_⟩
  refine List.forall_mem_cons.2 ⟨pd_24_1_0_0_0_0_1,?_⟩
  refine List.forall_mem_cons.2 ⟨pd_24_1_0_0_0_1_0,?_⟩
  refine List.forall_mem_cons.2 ⟨pd_24_1_0_0_0_1_1,?_⟩
  refine List.forall_mem_cons.2 ⟨pd_24_1_0_0_1_0_0,?_⟩
  refine List.forall_mem_cons.2 ⟨pd_24_1_0_0_1_0_1,?_⟩
  refine List.forall_mem_cons.2 ⟨pd_24_1_0_0_1_1_0,?_⟩
  refine List.forall_mem_cons.2 ⟨pd_24_1_0_0_1_1_1,?_⟩
  refine List.forall_mem_cons.2 ⟨pd_24_1_0_1_0_0_0,?_⟩
  refine List.forall_mem_cons.2 ⟨pd_24_1_0_1_0_0_1,?_⟩
  refine List.forall_mem_cons.2 ⟨pd_24_1_0_1_0_1_0,?_⟩
  refine List.forall_mem_cons.2 ⟨pd_24_1_0_1_0_1_1,?_⟩
  refine List.forall_mem_cons.2 ⟨pd_24_1_0_1_1_0_0,?_⟩
  refine List.forall_mem_cons.2 ⟨pd_24_1_0_1_1_0_1,?_⟩
  refine List.forall_mem_cons.2 ⟨pd_24_1_0_1_1_1_0,?_⟩
  refine List.forall_mem_cons.2 ⟨pd_24_1_0_1_1_1_1,?_⟩
  refine List.forall_mem_cons.2 ⟨pd_24_1_1_0_0_0_0,?_⟩
  refine List.forall_mem_cons.2 ⟨pd_24_1_1_0_0_0_1,?_⟩
  refine List.forall_mem_cons.2 ⟨pd_24_1_1_0_0_1_0,?_⟩
  refine List.forall_mem_cons.2 ⟨pd_24_1_1_0_0_1_1,?_⟩
  refine List.forall_mem_cons.2 ⟨pd_24_1_1_0_1_0_0,?_⟩
  refine List.forall_mem_cons.2 ⟨pd_24_1_1_0_1_0_1,?_⟩
  refine List.forall_mem_cons.2 ⟨pd_24_1_1_0_1_1_0,?_⟩
  refine List.forall_mem_cons.2 ⟨pd_24_1_1_0_1_1_1,?_⟩
  refine List.forall_mem_cons.2 ⟨pd_24_1_1_1_0_0_0,?_⟩
  refine List.forall_mem_cons.2 ⟨pd_24_1_1_1_0_0_1,?_⟩
  refine List.forall_mem_cons.2 ⟨pd_24_1_1_1_0_1_0,?_⟩
  refine List.forall_mem_cons.2 ⟨pd_24_1_1_1_0_1_1,?_⟩
  refine List.forall_mem_cons.2 ⟨pd_24_1_1_1_1_0_0,?_⟩
  refine List.forall_mem_cons.2 ⟨pd_24_1_1_1_1_0_1,?_⟩
  refine List.forall_mem_cons.2 ⟨pd_24_1_1_1_1_1_0,?_⟩
  refine List.forall_mem_cons.2 ⟨pd_24_1_1_1_1_1_1,?_⟩
  exact fun p hp => nomatch hp
theorem pd_n25 : ∀ p ∈ pj 25,chkPd 25 p.1 p.2 = true := fun p hp => nomatch (show p ∈ ([] : List (List Nat × List Nat)) from hp)
theorem pd_n26 : ∀ p ∈ pj 26,chkPd 26 p.1 p.2 = true :=
 show ∀ p ∈ [([0],[0]),([0],[6]),([6],[0]),([6],[6])],chkPd 26 p.1 p.2 = true by
  refine List.forall_mem_cons.2 ⟨pd_26_0_0,?_⟩
  refine List.forall_mem_cons.2 ⟨pd_26_0_6,?_⟩
  refine List.forall_mem_cons.2 ⟨pd_26_6_0,?_⟩
  refine List.forall_mem_cons.2 ⟨pd_26_6_6,?_⟩
  exact fun p hp => nomatch hp
theorem pd_n27 : ∀ p ∈ pj 27,chkPd 27 p.1 p.2 = true := fun p hp => nomatch (show p ∈ ([] : List (List Nat × List Nat)) from hp)
theorem pd_n28 : ∀ p ∈ pj 28,chkPd 28 p.1 p.2 = true :=
 show ∀ p ∈ [([0,0],[0,0]),([0,0],[0,3]),([0,0],[1,0]),([0,0],[1,3]),([0,3],[0,0]),([0,3],[0,3]),([0,3],[1,0]),([0,3],[1,3]),([1,0],[0,0]),([1,0],[0,3]),([1,0],[1,0]),([1,0],[1,3]),([1,3],[0,0]),([1,3],[0,3]),([1,3],[1,0]),([1,3],[1,3])],chkPd 28 p.1 p.2 = true by
  refine List.forall_mem_cons.2 ⟨pd_28_0_0_0_0,?_⟩
  refine List.forall_mem_cons.2 ⟨pd_28_0_0_0_3,?_⟩
  refine List.forall_mem_cons.2 ⟨pd_28_0_0_1_0,?_⟩
  refine List.forall_mem_cons.2 ⟨pd_28_0_0_1_3,?_⟩
  refine List.forall_mem_cons.2 ⟨pd_28_0_3_0_0,?_⟩
  refine List.forall_mem_cons.2 ⟨pd_28_0_3_0_3,?_⟩
  refine List.forall_mem_cons.2 ⟨pd_28_0_3_1_0,?_⟩
  refine List.forall_mem_cons.2 ⟨pd_28_0_3_1_3,?_⟩
  refine List.forall_mem_cons.2 ⟨pd_28_1_0_0_0,?_⟩
  refine List.forall_mem_cons.2 ⟨pd_28_1_0_0_3,?_⟩
  refine List.forall_mem_cons.2 ⟨pd_28_1_0_1_0,?_⟩
  refine List.forall_mem_cons.2 ⟨pd_28_1_0_1_3,?_⟩
  refine List.forall_mem_cons.2 ⟨pd_28_1_3_0_0,?_⟩
  refine List.forall_mem_cons.2 ⟨pd_28_1_3_0_3,?_⟩
  refine List.forall_mem_cons.2 ⟨pd_28_1_3_1_0,?_⟩
  refine List.forall_mem_cons.2 ⟨pd_28_1_3_1_3,?_⟩
  exact fun p hp => nomatch hp
theorem pd_n29 : ∀ p ∈ pj 29,chkPd 29 p.1 p.2 = true := fun p hp => nomatch (show p ∈ ([] : List (List Nat × List Nat)) from hp)
theorem pd_n30 : ∀ p ∈ pj 30,chkPd 30 p.1 p.2 = true :=
 show ∀ p ∈ [([0,0],[0,0]),([0,0],[0,2]),([0,0],[1,0]),([0,0],[1,2]),([0,2],[0,0]),([0,2],[0,2]),([0,2],[1,0]),([0,2],[1,2]),([1,0],[0,0]),([1,0],[0,2]),([1,0],[1,0]),([1,0],[1,2]),([1,2],[0,0]),([1,2],[0,2]),([1,2],[1,0]),([1,2],[1,2])],chkPd 30 p.1 p.2 = true by
  refine List.forall_mem_cons.2 ⟨pd_30_0_0_0_0,?_⟩
  refine List.forall_mem_cons.2 ⟨pd_30_0_0_0_2,?_⟩
  refine List.forall_mem_cons.2 ⟨pd_30_0_0_1_0,?_⟩
  refine List.forall_mem_cons.2 ⟨pd_30_0_0_1_2,?_⟩
  refine List.forall_mem_cons.2 ⟨pd_30_0_2_0_0,?_⟩
  refine List.forall_mem_cons.2 ⟨pd_30_0_2_0_2,?_⟩
  refine List.forall_mem_cons.2 ⟨pd_30_0_2_1_0,?_⟩
  refine List.forall_mem_cons.2 ⟨pd_30_0_2_1_2,?_⟩
  refine List.forall_mem_cons.2 ⟨pd_30_1_0_0_0,?_⟩
  refine List.forall_mem_cons.2 ⟨pd_30_1_0_0_2,?_⟩
  refine List.forall_mem_cons.2 ⟨pd_30_1_0_1_0,?_⟩
  refine List.forall_mem_cons.2 ⟨pd_30_1_0_1_2,?_⟩
  refine List.forall_mem_cons.2 ⟨pd_30_1_2_0_0,?_⟩
  refine List.forall_mem_cons.2 ⟨pd_30_1_2_0_2,?_⟩
  refine List.forall_mem_cons.2 ⟨pd_30_1_2_1_0,?_⟩
  refine List.forall_mem_cons.2 ⟨pd_30_1_2_1_2,?_⟩
  exact fun p hp => nomatch hp
theorem pd_n31 : ∀ p ∈ pj 31,chkPd 31 p.1 p.2 = true := fun p hp => nomatch (show p ∈ ([] : List (List Nat × List Nat)) from hp)
theorem pd_n32 : ∀ p ∈ pj 32,chkPd 32 p.1 p.2 = true := fun p hp => nomatch (show p ∈ ([] : List (List Nat × List Nat)) from hp)
theorem pd_n33 : ∀ p ∈ pj 33,chkPd 33 p.1 p.2 = true := fun p hp => nomatch (show p ∈ ([] : List (List Nat × List Nat)) from hp)
theorem pd_n34 : ∀ p ∈ pj 34,chkPd 34 p.1 p.2 = true := fun p hp => nomatch (show p ∈ ([] : List (List Nat × List Nat)) from hp)
theorem pd_n35 : ∀ p ∈ pj 35,chkPd 35 p.1 p.2 = true := fun p hp => nomatch (show p ∈ ([] : List (List Nat × List Nat)) from hp)
theorem pd_n36 : ∀ p ∈ pj 36,chkPd 36 p.1 p.2 = true :=
 show ∀ p ∈ [([0,0],[0,0]),([0,0],[0,1]),([0,0],[0,2]),([0,0],[0,3]),([0,0],[0,4]),([0,0],[0,5]),([0,0],[1,0]),([0,0],[1,1]),([0,0],[1,2]),([0,0],[1,3]),([0,0],[1,4]),([0,0],[1,5]),([0,1],[0,0]),([0,1],[0,1]),([0,1],[0,2]),([0,1],[0,3]),([0,1],[0,4]),([0,1],[0,5]),([0,1],[1,0]),([0,1],[1,1]),([0,1],[1,2]),([0,1],[1,3]),([0,1],[1,4]),([0,1],[1,5]),([0,2],[0,0]),([0,2],[0,1]),([0,2],[0,2]),([0,2],[0,3]),([0,2],[0,4]),([0,2],[0,5]),([0,2],[1,0]),([0,2],[1,1]),([0,2],[1,2]),([0,2],[1,3]),([0,2],[1,4]),([0,2],[1,5]),([0,3],[0,0]),([0,3],[0,1]),([0,3],[0,2]),([0,3],[0,3]),([0,3],[0,4]),([0,3],[0,5]),([0,3],[1,0]),([0,3],[1,1]),([0,3],[1,2]),([0,3],[1,3]),([0,3],[1,4]),([0,3],[1,5]),([0,4],[0,0]),([0,4],[0,1]),([0,4],[0,2]),([0,4],[0,3]),([0,4],[0,4]),([0,4],[0,5]),([0,4],[1,0]),([0,4],[1,1]),([0,4],[1,2]),([0,4],[1,3]),([0,4],[1,4]),([0,4],[1,5]),([0,5],[0,0]),([0,5],[0,1]),([0,5],[0,2]),([0,5],[0,3]),([0,5],[0,4]),([0,5],[0,5]),([0,5],[1,0]),([0,5],[1,1]),([0,5],[1,2]),([0,5],[1,3]),([0,5],[1,4]),([0,5],[1,5]),([1,0],[0,0]),([1,0],[0,1]),([1,0],[0,2]),([1,0],[0,3]),([1,0],[0,4]),([1,0],[0,5]),([1,0],[1,0]),([1,0],[1,1]),([1,0],[1,2]),([1,0],[1,3]),([1,0],[1,4]),([1,0],[1,5]),([1,1],[0,0]),([1,1],[0,1]),([1,1],[0,2]),([1,1],[0,3]),([1,1],[0,4]),([1,1],[0,5]),([1,1],[1,0]),([1,1],[1,1]),([1,1],[1,2]),([1,1],[1,3]),([1,1],[1,4]),([1,1],[1,5]),([1,2],[0,0]),([1,2],[0,1]),([1,2],[0,2]),([1,2],[0,3]),([1,2],[0,4]),([1,2],[0,5]),([1,2],[1,0]),([1,2],[1,1]),([1,2],[1,2]),([1,2],[1,3]),([1,2],[1,4]),([1,2],[1,5]),([1,3],[0,0]),([1,3],[0,1]),([1,3],[0,2]),([1,3],[0,3]),([1,3],[0,4]),([1,3],[0,5]),([1,3],[1,0]),([1,3],[1,1]),([1,3],[1,2]),([1,3],[1,3]),([1,3],[1,4]),([1,3],[1,5]),([1,4],[0,0]),([1,4],[0,1]),([1,4],[0,2]),([1,4],[0,3]),([1,4],[0,4]),([1,4],[0,5]),([1,4],[1,0]),([1,4],[1,1]),([1,4],[1,2]),([1,4],[1,3]),([1,4],[1,4]),([1,4],[1,5]),([1,5],[0,0]),([1,5],[0,1]),([1,5],[0,2]),([1,5],[0,3]),([1,5],[0,4]),([1,5],[0,5]),([1,5],[1,0]),([1,5],[1,1]),([1,5],[1,2]),([1,5],[1,3]),([1,5],[1,4]),([1,5],[1,5])],chkPd 36 p.1 p.2 = true by
  refine List.forall_mem_cons.2 ⟨pd_36_0_0_0_0,?_⟩
  refine List.forall_mem_cons.2 ⟨pd_36_0_0_0_1,?_⟩
  refine List.forall_mem_cons.2 ⟨pd_36_0_0_0_2,?_⟩
  refine List.forall_mem_cons.2 ⟨pd_36_0_0_0_3,?_⟩
  refine List.forall_mem_cons.2 ⟨pd_36_0_0_0_4,?_⟩
  refine List.forall_mem_cons.2 ⟨pd_36_0_0_0_5,?_⟩
  refine List.forall_mem_cons.2 ⟨pd_36_0_0_1_0,?_⟩
  refine List.forall_mem_cons.2 ⟨pd_36_0_0_1_1,?_⟩
  refine List.forall_mem_cons.2 ⟨pd_36_0_0_1_2,?_⟩
  refine List.forall_mem_cons.2 ⟨pd_36_0_0_1_3,?_⟩
  refine List.forall_mem_cons.2 ⟨pd_36_0_0_1_4,?_⟩
  refine List.forall_mem_cons.2 ⟨pd_36_0_0_1_5,?_⟩
  refine List.forall_mem_cons.2 ⟨pd_36_0_1_0_0,?_⟩
  refine List.forall_mem_cons.2 ⟨pd_36_0_1_0_1,?_⟩
  refine List.forall_mem_cons.2 ⟨pd_36_0_1_0_2,?_⟩
  refine List.forall_mem_cons.2 ⟨pd_36_0_1_0_3,?_⟩
  refine List.forall_mem_cons.2 ⟨pd_36_0_1_0_4,?_⟩
  refine List.forall_mem_cons.2 ⟨pd_36_0_1_0_5,?_⟩
  refine List.forall_mem_cons.2 ⟨pd_36_0_1_1_0,?_⟩
  refine List.forall_mem_cons.2 ⟨pd_36_0_1_1_1,?_⟩
  refine List.forall_mem_cons.2 ⟨pd_36_0_1_1_2,?_⟩
  refine List.forall_mem_cons.2 ⟨pd_36_0_1_1_3,?_⟩
  refine List.forall_mem_cons.2 ⟨pd_36_0_1_1_4,?_⟩
  refine List.forall_mem_cons.2 ⟨pd_36_0_1_1_5,?_⟩
  refine List.forall_mem_cons.2 ⟨pd_36_0_2_0_0,?_⟩
  refine List.forall_mem_cons.2 ⟨pd_36_0_2_0_1,?_⟩
  refine List.forall_mem_cons.2 ⟨pd_36_0_2_0_2,?_⟩
  refine List.forall_mem_cons.2 ⟨pd_36_0_2_0_3,?_⟩
  refine List.forall_mem_cons.2 ⟨pd_36_0_2_0_4,?_⟩
  refine List.forall_mem_cons.2 ⟨pd_36_0_2_0_5,?_⟩
  refine List.forall_mem_cons.2 ⟨pd_36_0_2_1_0,?_⟩
  refine List.forall_mem_cons.2 ⟨pd_36_0_2_1_1,?_⟩
  refine List.forall_mem_cons.2 ⟨pd_36_0_2_1_2,?_⟩
  refine List.forall_mem_cons.2 ⟨pd_36_0_2_1_3,?_⟩
  refine List.forall_mem_cons.2 ⟨pd_36_0_2_1_4,?_⟩
  refine List.forall_mem_cons.2 ⟨pd_36_0_2_1_5,?_⟩
  refine List.forall_mem_cons.2 ⟨pd_36_0_3_0_0,?_⟩
  refine List.forall_mem_cons.2 ⟨pd_36_0_3_0_1,?_⟩
  refine List.forall_mem_cons.2 ⟨pd_36_0_3_0_2,?_⟩
  refine List.forall_mem_cons.2 ⟨pd_36_0_3_0_3,?_⟩
  refine List.forall_mem_cons.2 ⟨pd_36_0_3_0_4,?_⟩
  refine List.forall_mem_cons.2 ⟨pd_36_0_3_0_5,?_⟩
  refine List.forall_mem_cons.2 ⟨pd_36_0_3_1_0,?_⟩
  refine List.forall_mem_cons.2 ⟨pd_36_0_3_1_1,?_⟩
  refine List.forall_mem_cons.2 ⟨pd_36_0_3_1_2,?_⟩
  refine List.forall_mem_cons.2 ⟨pd_36_0_3_1_3,?_⟩
  refine List.forall_mem_cons.2 ⟨pd_36_0_3_1_4,?_⟩
  refine List.forall_mem_cons.2 ⟨pd_36_0_3_1_5,?_⟩
  refine List.forall_mem_cons.2 ⟨pd_36_0_4_0_0,?_⟩
  refine List.forall_mem_cons.2 ⟨pd_36_0_4_0_1,?_⟩
  refine List.forall_mem_cons.2 ⟨pd_36_0_4_0_2,?_⟩
  refine List.forall_mem_cons.2 ⟨pd_36_0_4_0_3,?_⟩
  refine List.forall_mem_cons.2 ⟨pd_36_0_4_0_4,?_⟩
  refine List.forall_mem_cons.2 ⟨pd_36_0_4_0_5,?_⟩
  refine List.forall_mem_cons.2 ⟨pd_36_0_4_1_0,?_⟩
  refine List.forall_mem_cons.2 ⟨pd_36_0_4_1_1,?_⟩
  refine List.forall_mem_cons.2 ⟨pd_36_0_4_1_2,?_⟩
  refine List.forall_mem_cons.2 ⟨pd_36_0_4_1_3,?_⟩
  refine List.forall_mem_cons.2 ⟨pd_36_0_4_1_4,?_⟩
  refine List.forall_mem_cons.2 ⟨pd_36_0_4_1_5,?_⟩
  refine List.forall_mem_cons.2 ⟨pd_36_0_5_0_0,?_⟩
  refine List.forall_mem_cons.2 ⟨pd_36_0_5_0_1,?_⟩
  refine List.forall_mem_cons.2 ⟨pd_36_0_5_0_2,?_⟩
  refine List.forall_mem_cons.2 ⟨pd_36_0_5_0_3,?_⟩
  refine List.forall_mem_cons.2 ⟨pd_36_0_5_0_4,?_⟩
  refine List.forall_mem_cons.2 ⟨pd_36_0_5_0_5,?_⟩
  refine List.forall_mem_cons.2 ⟨pd_36_0_5_1_0,?_⟩
  refine List.forall_mem_cons.2 ⟨pd_36_0_5_1_1,?_⟩
  refine List.forall_mem_cons.2 ⟨pd_36_0_5_1_2,?_⟩
  refine List.forall_mem_cons.2 ⟨pd_36_0_5_1_3,?_⟩
  refine List.forall_mem_cons.2 ⟨pd_36_0_5_1_4,?_⟩
  refine List.forall_mem_cons.2 ⟨pd_36_0_5_1_5,?_⟩
  refine List.forall_mem_cons.2 ⟨pd_36_1_0_0_0,?_⟩
  refine List.forall_mem_cons.2 ⟨pd_36_1_0_0_1,?_⟩
  refine List.forall_mem_cons.2 ⟨pd_36_1_0_0_2,?_⟩
  refine List.forall_mem_cons.2 ⟨pd_36_1_0_0_3,?_⟩
  refine List.forall_mem_cons.2 ⟨pd_36_1_0_0_4,?_⟩
  refine List.forall_mem_cons.2 ⟨pd_36_1_0_0_5,?_⟩
  refine List.forall_mem_cons.2 ⟨pd_36_1_0_1_0,?_⟩
  refine List.forall_mem_cons.2 ⟨pd_36_1_0_1_1,?_⟩
  refine List.forall_mem_cons.2 ⟨pd_36_1_0_1_2,?_⟩
  refine List.forall_mem_cons.2 ⟨pd_36_1_0_1_3,?_⟩
  refine List.forall_mem_cons.2 ⟨pd_36_1_0_1_4,?_⟩
  refine List.forall_mem_cons.2 ⟨pd_36_1_0_1_5,?_⟩
  refine List.forall_mem_cons.2 ⟨pd_36_1_1_0_0,?_⟩
  refine List.forall_mem_cons.2 ⟨pd_36_1_1_0_1,?_⟩
  refine List.forall_mem_cons.2 ⟨pd_36_1_1_0_2,?_⟩
  refine List.forall_mem_cons.2 ⟨pd_36_1_1_0_3,?_⟩
  refine List.forall_mem_cons.2 ⟨pd_36_1_1_0_4,?_⟩
  refine List.forall_mem_cons.2 ⟨pd_36_1_1_0_5,?_⟩
  refine List.forall_mem_cons.2 ⟨pd_36_1_1_1_0,?_⟩
  refine List.forall_mem_cons.2 ⟨pd_36_1_1_1_1,?_⟩
  refine List.forall_mem_cons.2 ⟨pd_36_1_1_1_2,?_⟩
  refine List.forall_mem_cons.2 ⟨pd_36_1_1_1_3,?_⟩
  refine List.forall_mem_cons.2 ⟨pd_36_1_1_1_4,?_⟩
  refine List.forall_mem_cons.2 ⟨pd_36_1_1_1_5,?_⟩
  refine List.forall_mem_cons.2 ⟨pd_36_1_2_0_0,?_⟩
  refine List.forall_mem_cons.2 ⟨pd_36_1_2_0_1,?_⟩
  refine List.forall_mem_cons.2 ⟨pd_36_1_2_0_2,?_⟩
  refine List.forall_mem_cons.2 ⟨pd_36_1_2_0_3,?_⟩
  refine List.forall_mem_cons.2 ⟨pd_36_1_2_0_4,?_⟩
  refine List.forall_mem_cons.2 ⟨pd_36_1_2_0_5,?_⟩
  refine List.forall_mem_cons.2 ⟨pd_36_1_2_1_0,?_⟩
  refine List.forall_mem_cons.2 ⟨pd_36_1_2_1_1,?_⟩
  refine List.forall_mem_cons.2 ⟨pd_36_1_2_1_2,?_⟩
  refine List.forall_mem_cons.2 ⟨pd_36_1_2_1_3,?_⟩
  refine List.forall_mem_cons.2 ⟨pd_36_1_2_1_4,?_⟩
  refine List.forall_mem_cons.2 ⟨pd_36_1_2_1_5,?_⟩
  refine List.forall_mem_cons.2 ⟨pd_36_1_3_0_0,?_⟩
  refine List.forall_mem_cons.2 ⟨pd_36_1_3_0_1,?_⟩
  refine List.forall_mem_cons.2 ⟨pd_36_1_3_0_2,?_⟩
  refine List.forall_mem_cons.2 ⟨pd_36_1_3_0_3,?_⟩
  refine List.forall_mem_cons.2 ⟨pd_36_1_3_0_4,?_⟩
  refine List.forall_mem_cons.2 ⟨pd_36_1_3_0_5,?_⟩
  refine List.forall_mem_cons.2 ⟨pd_36_1_3_1_0,?_⟩
  refine List.forall_mem_cons.2 ⟨pd_36_1_3_1_1,?_⟩
  refine List.forall_mem_cons.2 ⟨pd_36_1_3_1_2,?_⟩
  refine List.forall_mem_cons.2 ⟨pd_36_1_3_1_3,?_⟩
  refine List.forall_mem_cons.2 ⟨pd_36_1_3_1_4,?_⟩
  refine List.forall_mem_cons.2 ⟨pd_36_1_3_1_5,?_⟩
  refine List.forall_mem_cons.2 ⟨pd_36_1_4_0_0,?_⟩
  refine List.forall_mem_cons.2 ⟨pd_36_1_4_0_1,?_⟩
  refine List.forall_mem_cons.2 ⟨pd_36_1_4_0_2,?_⟩
  refine List.forall_mem_cons.2 ⟨pd_36_1_4_0_3,?_⟩
  refine List.forall_mem_cons.2 ⟨pd_36_1_4_0_4,?_⟩
  refine List.forall_mem_cons.2 ⟨pd_36_1_4_0_5,?_⟩
  refine List.forall_mem_cons.2 ⟨pd_36_1_4_1_0,?_⟩
  refine List.forall_mem_cons.2 ⟨pd_36_1_4_1_1,?_⟩
  refine List.forall_mem_cons.2 ⟨pd_36_1_4_1_2,?_⟩
  refine List.forall_mem_cons.2 ⟨pd_36_1_4_1_3,?_⟩
  refine List.forall_mem_cons.2 ⟨pd_36_1_4_1_4,?_⟩
  refine List.forall_mem_cons.2 ⟨pd_36_1_4_1_5,?_⟩
  refine List.forall_mem_cons.2 ⟨pd_36_1_5_0_0,?_⟩
  refine List.forall_mem_cons.2 ⟨pd_36_1_5_0_1,?_⟩
  refine List.forall_mem_cons.2 ⟨pd_36_1_5_0_2,?_⟩
  refine List.forall_mem_cons.2 ⟨pd_36_1_5_0_3,?_⟩
  refine List.forall_mem_cons.2 ⟨pd_36_1_5_0_4,?_⟩
  refine List.forall_mem_cons.2 ⟨pd_36_1_5_0_5,?_⟩
  refine List.forall_mem_cons.2 ⟨pd_36_1_5_1_0,?_⟩
  refine List.forall_mem_cons.2 ⟨pd_36_1_5_1_1,?_⟩
  refine List.forall_mem_cons.2 ⟨pd_36_1_5_1_2,?_⟩
  refine List.forall_mem_cons.2 ⟨pd_36_1_5_1_3,?_⟩
  refine List.forall_mem_cons.2 ⟨pd_36_1_5_1_4,?_⟩
  refine List.forall_mem_cons.2 ⟨pd_36_1_5_1_5,?_⟩
  exact fun p hp => nomatch hp
theorem pd_n37 : ∀ p ∈ pj 37,chkPd 37 p.1 p.2 = true := fun p hp => nomatch (show p ∈ ([] : List (List Nat × List Nat)) from hp)
theorem pd_n38 : ∀ p ∈ pj 38,chkPd 38 p.1 p.2 = true := fun p hp => nomatch (show p ∈ ([] : List (List Nat × List Nat)) from hp)
theorem pd_n39 : ∀ p ∈ pj 39,chkPd 39 p.1 p.2 = true := fun p hp => nomatch (show p ∈ ([] : List (List Nat × List Nat)) from hp)
theorem pd_n40 : ∀ p ∈ pj 40,chkPd 40 p.1 p.2 = true := fun p hp => nomatch (show p ∈ ([] : List (List Nat × List Nat)) from hp)
theorem pd_n41 : ∀ p ∈ pj 41,chkPd 41 p.1 p.2 = true := fun p hp => nomatch (show p ∈ ([] : List (List Nat × List Nat)) from hp)
theorem pd_n42 : ∀ p ∈ pj 42,chkPd 42 p.1 p.2 = true :=
 show ∀ p ∈ [([0,0],[0,0]),([0,0],[0,1]),([0,0],[0,2]),([0,0],[0,3]),([0,0],[0,4]),([0,0],[0,5]),([0,0],[1,0]),([0,0],[1,1]),([0,0],[1,2]),([0,0],[1,3]),([0,0],[1,4]),([0,0],[1,5]),([0,1],[0,0]),([0,1],[0,1]),([0,1],[0,2]),([0,1],[0,3]),([0,1],[0,4]),([0,1],[0,5]),([0,1],[1,0]),([0,1],[1,1]),([0,1],[1,2]),([0,1],[1,3]),([0,1],[1,4]),([0,1],[1,5]),([0,2],[0,0]),([0,2],[0,1]),([0,2],[0,2]),([0,2],[0,3]),([0,2],[0,4]),([0,2],[0,5]),([0,2],[1,0]),([0,2],[1,1]),([0,2],[1,2]),([0,2],[1,3]),([0,2],[1,4]),([0,2],[1,5]),([0,3],[0,0]),([0,3],[0,1]),([0,3],[0,2]),([0,3],[0,3]),([0,3],[0,4]),([0,3],[0,5]),([0,3],[1,0]),([0,3],[1,1]),([0,3],[1,2]),([0,3],[1,3]),([0,3],[1,4]),([0,3],[1,5]),([0,4],[0,0]),([0,4],[0,1]),([0,4],[0,2]),([0,4],[0,3]),([0,4],[0,4]),([0,4],[0,5]),([0,4],[1,0]),([0,4],[1,1]),([0,4],[1,2]),([0,4],[1,3]),([0,4],[1,4]),([0,4],[1,5]),([0,5],[0,0]),([0,5],[0,1]),([0,5],[0,2]),([0,5],[0,3]),([0,5],[0,4]),([0,5],[0,5]),([0,5],[1,0]),([0,5],[1,1]),([0,5],[1,2]),([0,5],[1,3]),([0,5],[1,4]),([0,5],[1,5]),([1,0],[0,0]),([1,0],[0,1]),([1,0],[0,2]),([1,0],[0,3]),([1,0],[0,4]),([1,0],[0,5]),([1,0],[1,0]),([1,0],[1,1]),([1,0],[1,2]),([1,0],[1,3]),([1,0],[1,4]),([1,0],[1,5]),([1,1],[0,0]),([1,1],[0,1]),([1,1],[0,2]),([1,1],[0,3]),([1,1],[0,4]),([1,1],[0,5]),([1,1],[1,0]),([1,1],[1,1]),([1,1],[1,2]),([1,1],[1,3]),([1,1],[1,4]),([1,1],[1,5]),([1,2],[0,0]),([1,2],[0,1]),([1,2],[0,2]),([1,2],[0,3]),([1,2],[0,4]),([1,2],[0,5]),([1,2],[1,0]),([1,2],[1,1]),([1,2],[1,2]),([1,2],[1,3]),([1,2],[1,4]),([1,2],[1,5]),([1,3],[0,0]),([1,3],[0,1]),([1,3],[0,2]),([1,3],[0,3]),([1,3],[0,4]),([1,3],[0,5]),([1,3],[1,0]),([1,3],[1,1]),([1,3],[1,2]),([1,3],[1,3]),([1,3],[1,4]),([1,3],[1,5]),([1,4],[0,0]),([1,4],[0,1]),([1,4],[0,2]),([1,4],[0,3]),([1,4],[0,4]),([1,4],[0,5]),([1,4],[1,0]),([1,4],[1,1]),([1,4],[1,2]),([1,4],[1,3]),([1,4],[1,4]),([1,4],[1,5]),([1,5],[0,0]),([1,5],[0,1]),([1,5],[0,2]),([1,5],[0,3]),([1,5],[0,4]),([1,5],[0,5]),([1,5],[1,0]),([1,5],[1,1]),([1,5],[1,2]),([1,5],[1,3]),([1,5],[1,4]),([1,5],[1,5])],chkPd 42 p.1 p.2 = true by
  refine List.forall_mem_cons.2 ⟨pd_42_0_0_0_0,?_⟩
  refine List.forall_mem_cons.2 ⟨pd_42_0_0_0_1,?_⟩
  refine List.forall_mem_cons.2 ⟨pd_42_0_0_0_2,?_⟩
  refine List.forall_mem_cons.2 ⟨pd_42_0_0_0_3,?_⟩
  refine List.forall_mem_cons.2 ⟨pd_42_0_0_0_4,?_⟩
  refine List.forall_mem_cons.2 ⟨pd_42_0_0_0_5,?_⟩
  refine List.forall_mem_cons.2 ⟨pd_42_0_0_1_0,?_⟩
  refine List.forall_mem_cons.2 ⟨pd_42_0_0_1_1,?_⟩
  refine List.forall_mem_cons.2 ⟨pd_42_0_0_1_2,?_⟩
  refine List.forall_mem_cons.2 ⟨pd_42_0_0_1_3,?_⟩
  refine List.forall_mem_cons.2 ⟨pd_42_0_0_1_4,?_⟩
  refine List.forall_mem_cons.2 ⟨pd_42_0_0_1_5,?_⟩
  refine List.forall_mem_cons.2 ⟨pd_42_0_1_0_0,?_⟩
  refine List.forall_mem_cons.2 ⟨pd_42_0_1_0_1,?_⟩
  refine List.forall_mem_cons.2 ⟨pd_42_0_1_0_2,?_⟩
  refine List.forall_mem_cons.2 ⟨pd_42_0_1_0_3,?_⟩
  refine List.forall_mem_cons.2 ⟨pd_42_0_1_0_4,?_⟩
  refine List.forall_mem_cons.2 ⟨pd_42_0_1_0_5,?_⟩
  refine List.forall_mem_cons.2 ⟨pd_42_0_1_1_0,?_⟩
  refine List.forall_mem_cons.2 ⟨pd_42_0_1_1_1,?_⟩
  refine List.forall_mem_cons.2 ⟨pd_42_0_1_1_2,?_⟩
  refine List.forall_mem_cons.2 ⟨pd_42_0_1_1_3,?_⟩
  refine List.forall_mem_cons.2 ⟨pd_42_0_1_1_4,?_⟩
  refine List.forall_mem_cons.2 ⟨pd_42_0_1_1_5,?_⟩
  refine List.forall_mem_cons.2 ⟨pd_42_0_2_0_0,?_⟩
  refine List.forall_mem_cons.2 ⟨pd_42_0_2_0_1,?_⟩
  refine List.forall_mem_cons.2 ⟨pd_42_0_2_0_2,?_⟩
  refine List.forall_mem_cons.2 ⟨pd_42_0_2_0_3,?_⟩
  refine List.forall_mem_cons.2 ⟨pd_42_0_2_0_4,?_⟩
  refine List.forall_mem_cons.2 ⟨pd_42_0_2_0_5,?_⟩
  refine List.forall_mem_cons.2 ⟨pd_42_0_2_1_0,?_⟩
  refine List.forall_mem_cons.2 ⟨pd_42_0_2_1_1,?_⟩
  refine List.forall_mem_cons.2 ⟨pd_42_0_2_1_2,?_⟩
  refine List.forall_mem_cons.2 ⟨pd_42_0_2_1_3,?_⟩
  refine List.forall_mem_cons.2 ⟨pd_42_0_2_1_4,?_⟩
  refine List.forall_mem_cons.2 ⟨pd_42_0_2_1_5,?_⟩
  refine List.forall_mem_cons.2 ⟨pd_42_0_3_0_0,?_⟩
  refine List.forall_mem_cons.2 ⟨pd_42_0_3_0_1,?_⟩
  refine List.forall_mem_cons.2 ⟨pd_42_0_3_0_2,?_⟩
  refine List.forall_mem_cons.2 ⟨pd_42_0_3_0_3,?_⟩
  refine List.forall_mem_cons.2 ⟨pd_42_0_3_0_4,?_⟩
  refine List.forall_mem_cons.2 ⟨pd_42_0_3_0_5,?_⟩
  refine List.forall_mem_cons.2 ⟨pd_42_0_3_1_0,?_⟩
  refine List.forall_mem_cons.2 ⟨pd_42_0_3_1_1,?_⟩
  refine List.forall_mem_cons.2 ⟨pd_42_0_3_1_2,?_⟩
  refine List.forall_mem_cons.2 ⟨pd_42_0_3_1_3,?_⟩
  refine List.forall_mem_cons.2 ⟨pd_42_0_3_1_4,?_⟩
  refine List.forall_mem_cons.2 ⟨pd_42_0_3_1_5,?_⟩
  refine List.forall_mem_cons.2 ⟨pd_42_0_4_0_0,?_⟩
  refine List.forall_mem_cons.2 ⟨pd_42_0_4_0_1,?_⟩
  refine List.forall_mem_cons.2 ⟨pd_42_0_4_0_2,?_⟩
  refine List.forall_mem_cons.2 ⟨pd_42_0_4_0_3,?_⟩
  refine List.forall_mem_cons.2 ⟨pd_42_0_4_0_4,?_⟩
  refine List.forall_mem_cons.2 ⟨pd_42_0_4_0_5,?_⟩
  refine List.forall_mem_cons.2 ⟨pd_42_0_4_1_0,?_⟩
  refine List.forall_mem_cons.2 ⟨pd_42_0_4_1_1,?_⟩
  refine List.forall_mem_cons.2 ⟨pd_42_0_4_1_2,?_⟩
  refine List.forall_mem_cons.2 ⟨pd_42_0_4_1_3,?_⟩
  refine List.forall_mem_cons.2 ⟨pd_42_0_4_1_4,?_⟩
  refine List.forall_mem_cons.2 ⟨pd_42_0_4_1_5,?_⟩
  refine List.forall_mem_cons.2 ⟨pd_42_0_5_0_0,?_⟩
  refine List.forall_mem_cons.2 ⟨pd_42_0_5_0_1,?_⟩
  refine List.forall_mem_cons.2 ⟨pd_42_0_5_0_2,?_⟩
  refine List.forall_mem_cons.2 ⟨pd_42_0_5_0_3,?_⟩
  refine List.forall_mem_cons.2 ⟨pd_42_0_5_0_4,?_⟩
  refine List.forall_mem_cons.2 ⟨pd_42_0_5_0_5,?_⟩
  refine List.forall_mem_cons.2 ⟨pd_42_0_5_1_0,?_⟩
  refine List.forall_mem_cons.2 ⟨pd_42_0_5_1_1,?_⟩
  refine List.forall_mem_cons.2 ⟨pd_42_0_5_1_2,?_⟩
  refine List.forall_mem_cons.2 ⟨pd_42_0_5_1_3,?_⟩
  refine List.forall_mem_cons.2 ⟨pd_42_0_5_1_4,?_⟩
  refine List.forall_mem_cons.2 ⟨pd_42_0_5_1_5,?_⟩
  refine List.forall_mem_cons.2 ⟨pd_42_1_0_0_0,?_⟩
  refine List.forall_mem_cons.2 ⟨pd_42_1_0_0_1,?_⟩
  refine List.forall_mem_cons.2 ⟨pd_42_1_0_0_2,?_⟩
  refine List.forall_mem_cons.2 ⟨pd_42_1_0_0_3,?_⟩
  refine List.forall_mem_cons.2 ⟨pd_42_1_0_0_4,?_⟩
  refine List.forall_mem_cons.2 ⟨pd_42_1_0_0_5,?_⟩
  refine List.forall_mem_cons.2 ⟨pd_42_1_0_1_0,?_⟩
  refine List.forall_mem_cons.2 ⟨pd_42_1_0_1_1,?_⟩
  refine List.forall_mem_cons.2 ⟨pd_42_1_0_1_2,?_⟩
  refine List.forall_mem_cons.2 ⟨pd_42_1_0_1_3,?_⟩
  refine List.forall_mem_cons.2 ⟨pd_42_1_0_1_4,?_⟩
  refine List.forall_mem_cons.2 ⟨pd_42_1_0_1_5,?_⟩
  refine List.forall_mem_cons.2 ⟨pd_42_1_1_0_0,?_⟩
  refine List.forall_mem_cons.2 ⟨pd_42_1_1_0_1,?_⟩
  refine List.forall_mem_cons.2 ⟨pd_42_1_1_0_2,?_⟩
  refine List.forall_mem_cons.2 ⟨pd_42_1_1_0_3,?_⟩
  refine List.forall_mem_cons.2 ⟨pd_42_1_1_0_4,?_⟩
  refine List.forall_mem_cons.2 ⟨pd_42_1_1_0_5,?_⟩
  refine List.forall_mem_cons.2 ⟨pd_42_1_1_1_0,?_⟩
  refine List.forall_mem_cons.2 ⟨pd_42_1_1_1_1,?_⟩
  refine List.forall_mem_cons.2 ⟨pd_42_1_1_1_2,?_⟩
  refine List.forall_mem_cons.2 ⟨pd_42_1_1_1_3,?_⟩
  refine List.forall_mem_cons.2 ⟨pd_42_1_1_1_4,?_⟩
  refine List.forall_mem_cons.2 ⟨pd_42_1_1_1_5,?_⟩
  refine List.forall_mem_cons.2 ⟨pd_42_1_2_0_0,?_⟩
  refine List.forall_mem_cons.2 ⟨pd_42_1_2_0_1,?_⟩
  refine List.forall_mem_cons.2 ⟨pd_42_1_2_0_2,?_⟩
  refine List.forall_mem_cons.2 ⟨pd_42_1_2_0_3,?_⟩
  refine List.forall_mem_cons.2 ⟨pd_42_1_2_0_4,?_⟩
  refine List.forall_mem_cons.2 ⟨pd_42_1_2_0_5,?_⟩
  refine List.forall_mem_cons.2 ⟨pd_42_1_2_1_0,?_⟩
  refine List.forall_mem_cons.2 ⟨pd_42_1_2_1_1,?_⟩
  refine List.forall_mem_cons.2 ⟨pd_42_1_2_1_2,?_⟩
  refine List.forall_mem_cons.2 ⟨pd_42_1_2_1_3,?_⟩
  refine List.forall_mem_cons.2 ⟨pd_42_1_2_1_4,?_⟩
  refine List.forall_mem_cons.2 ⟨pd_42_1_2_1_5,?_⟩
  refine List.forall_mem_cons.2 ⟨pd_42_1_3_0_0,?_⟩
  refine List.forall_mem_cons.2 ⟨pd_42_1_3_0_1,?_⟩
  refine List.forall_mem_cons.2 ⟨pd_42_1_3_0_2,?_⟩
  refine List.forall_mem_cons.2 ⟨pd_42_1_3_0_3,?_⟩
  refine List.forall_mem_cons.2 ⟨pd_42_1_3_0_4,?_⟩
  refine List.forall_mem_cons.2 ⟨pd_42_1_3_0_5,?_⟩
  refine List.forall_mem_cons.2 ⟨pd_42_1_3_1_0,?_⟩
  refine List.forall_mem_cons.2 ⟨pd_42_1_3_1_1,?_⟩
  refine List.forall_mem_cons.2 ⟨pd_42_1_3_1_2,?_⟩
  refine List.forall_mem_cons.2 ⟨pd_42_1_3_1_3,?_⟩
  refine List.forall_mem_cons.2 ⟨pd_42_1_3_1_4,?_⟩
  refine List.forall_mem_cons.2 ⟨pd_42_1_3_1_5,?_⟩
  refine List.forall_mem_cons.2 ⟨pd_42_1_4_0_0,?_⟩
  refine List.forall_mem_cons.2 ⟨pd_42_1_4_0_1,?_⟩
  refine List.forall_mem_cons.2 ⟨pd_42_1_4_0_2,?_⟩
  refine List.forall_mem_cons.2 ⟨pd_42_1_4_0_3,?_⟩
  refine List.forall_mem_cons.2 ⟨pd_42_1_4_0_4,?_⟩
  refine List.forall_mem_cons.2 ⟨pd_42_1_4_0_5,?_⟩
  refine List.forall_mem_cons.2 ⟨pd_42_1_4_1_0,?_⟩
  refine List.forall_mem_cons.2 ⟨pd_42_1_4_1_1,?_⟩
  refine List.forall_mem_cons.2 ⟨pd_42_1_4_1_2,?_⟩
  refine List.forall_mem_cons.2 ⟨pd_42_1_4_1_3,?_⟩
  refine List.forall_mem_cons.2 ⟨pd_42_1_4_1_4,?_⟩
  refine List.forall_mem_cons.2 ⟨pd_42_1_4_1_5,?_⟩
  refine List.forall_mem_cons.2 ⟨pd_42_1_5_0_0,?_⟩
  refine List.forall_mem_cons.2 ⟨pd_42_1_5_0_1,?_⟩
  refine List.forall_mem_cons.2 ⟨pd_42_1_5_0_2,?_⟩
  refine List.forall_mem_cons.2 ⟨pd_42_1_5_0_3,?_⟩
  refine List.forall_mem_cons.2 ⟨pd_42_1_5_0_4,?_⟩
  refine List.forall_mem_cons.2 ⟨pd_42_1_5_0_5,?_⟩
  refine List.forall_mem_cons.2 ⟨pd_42_1_5_1_0,?_⟩
  refine List.forall_mem_cons.2 ⟨pd_42_1_5_1_1,?_⟩
  refine List.forall_mem_cons.2 ⟨pd_42_1_5_1_2,?_⟩
  refine List.forall_mem_cons.2 ⟨pd_42_1_5_1_3,?_⟩
  refine List.forall_mem_cons.2 ⟨pd_42_1_5_1_4,?_⟩
  refine List.forall_mem_cons.2 ⟨pd_42_1_5_1_5,?_⟩
  exact fun p hp => nomatch hp
theorem pd_n43 : ∀ p ∈ pj 43,chkPd 43 p.1 p.2 = true := fun p hp => nomatch (show p ∈ ([] : List (List Nat × List Nat)) from hp)
theorem pd_n44 : ∀ p ∈ pj 44,chkPd 44 p.1 p.2 = true := fun p hp => nomatch (show p ∈ ([] : List (List Nat × List Nat)) from hp)
theorem pd_n45 : ∀ p ∈ pj 45,chkPd 45 p.1 p.2 = true := fun p hp => nomatch (show p ∈ ([] : List (List Nat × List Nat)) from hp)
theorem pd_n46 : ∀ p ∈ pj 46,chkPd 46 p.1 p.2 = true := fun p hp => nomatch (show p ∈ ([] : List (List Nat × List Nat)) from hp)
theorem pd_n47 : ∀ p ∈ pj 47,chkPd 47 p.1 p.2 = true := fun p hp => nomatch (show p ∈ ([] : List (List Nat × List Nat)) from hp)
theorem pd_n48 : ∀ p ∈ pj 48,chkPd 48 p.1 p.2 = true := fun p hp => nomatch (show p ∈ ([] : List (List Nat × List Nat)) from hp)
theorem pd_n49 : ∀ p ∈ pj 49,chkPd 49 p.1 p.2 = true := fun p hp => nomatch (show p ∈ ([] : List (List Nat × List Nat)) from hp)
theorem pd_n50 : ∀ p ∈ pj 50,chkPd 50 p.1 p.2 = true := fun p hp => nomatch (show p ∈ ([] : List (List Nat × List Nat)) from hp)
theorem pd_n51 : ∀ p ∈ pj 51,chkPd 51 p.1 p.2 = true := fun p hp => nomatch (show p ∈ ([] : List (List Nat × List Nat)) from hp)
theorem pd_n52 : ∀ p ∈ pj 52,chkPd 52 p.1 p.2 = true := fun p hp => nomatch (show p ∈ ([] : List (List Nat × List Nat)) from hp)
theorem pd_n53 : ∀ p ∈ pj 53,chkPd 53 p.1 p.2 = true := fun p hp => nomatch (show p ∈ ([] : List (List Nat × List Nat)) from hp)
theorem pd_n54 : ∀ p ∈ pj 54,chkPd 54 p.1 p.2 = true := fun p hp => nomatch (show p ∈ ([] : List (List Nat × List Nat)) from hp)
theorem pd_n55 : ∀ p ∈ pj 55,chkPd 55 p.1 p.2 = true := fun p hp => nomatch (show p ∈ ([] : List (List Nat × List Nat)) from hp)
theorem pd_n56 : ∀ p ∈ pj 56,chkPd 56 p.1 p.2 = true := fun p hp => nomatch (show p ∈ ([] : List (List Nat × List Nat)) from hp)
theorem pd_n57 : ∀ p ∈ pj 57,chkPd 57 p.1 p.2 = true := fun p hp => nomatch (show p ∈ ([] : List (List Nat × List Nat)) from hp)
theorem pd_n58 : ∀ p ∈ pj 58,chkPd 58 p.1 p.2 = true := fun p hp => nomatch (show p ∈ ([] : List (List Nat × List Nat)) from hp)
theorem pd_n59 : ∀ p ∈ pj 59,chkPd 59 p.1 p.2 = true := fun p hp => nomatch (show p ∈ ([] : List (List Nat × List Nat)) from hp)
theorem pd_n60 : ∀ p ∈ pj 60,chkPd 60 p.1 p.2 = true := fun p hp => nomatch (show p ∈ ([] : List (List Nat × List Nat)) from hp)
theorem pd_mem : ∀ n ∈ [0,1,2,3,4,5,6,7,8,9,10,11,12,13,14,15,16,17,18,19,20,21,22,23,24,25,26,27,28,29,30,31,32,33,34,35,36,37,38,39,40,41,42,43,44,45,46,47,48,49,50,51,52,53,54,55,56,57,58,59,60],∀ p ∈ pj n,chkPd n p.1 p.2 = true := by
 refine List.forall_mem_cons.2 ⟨pd_n0,?_⟩
 refine List.forall_mem_cons.2 ⟨pd_n1,?_⟩
 refine List.forall_mem_cons.2 ⟨pd_n2,?_⟩
 refine List.forall_mem_cons.2 ⟨pd_n3,?_⟩
 refine List.forall_mem_cons.2 ⟨pd_n4,?_⟩
 refine List.forall_mem_cons.2 ⟨pd_n5,?_⟩
 refine List.forall_mem_cons.2 ⟨pd_n6,?_⟩
 refine List.forall_mem_cons.2 ⟨pd_n7,?_⟩
 refine List.forall_mem_cons.2 ⟨pd_n8,?_⟩
 refine List.forall_mem_cons.2 ⟨pd_n9,?_⟩
 refine List.forall_mem_cons.2 ⟨pd_n10,?_⟩
 refine List.forall_mem_cons.2 ⟨pd_n11,?_⟩
 refine List.forall_mem_cons.2 ⟨pd_n12,?_⟩
 refine List.forall_mem_cons.2 ⟨pd_n13,?_⟩
 refine List.forall_mem_cons.2 ⟨pd_n14,?_⟩
 refine List.forall_mem_cons.2 ⟨pd_n15,?_⟩
 refine List.forall_mem_cons.2 ⟨pd_n16,?_⟩
 refine List.forall_mem_cons.2 ⟨pd_n17,?_⟩
 refine List.forall_mem_cons.2 ⟨pd_n18,?_⟩
 refine List.forall_mem_cons.2 ⟨pd_n19,?_⟩
 refine List.forall_mem_cons.2 ⟨pd_n20,?_⟩
 refine List.forall_mem_cons.2 ⟨pd_n21,?_⟩
 refine List.forall_mem_cons.2 ⟨pd_n22,?_⟩
 refine List.forall_mem_cons.2 ⟨pd_n23,?_⟩
 refine List.forall_mem_cons.2 ⟨pd_n24,?_⟩
 refine List.forall_mem_cons.2 ⟨pd_n25,?_⟩
 refine List.forall_mem_cons.2 ⟨pd_n26,?_⟩
 refine List.forall_mem_cons.2 ⟨pd_n27,?_⟩
 refine List.forall_mem_cons.2 ⟨pd_n28,?_⟩
 refine List.forall_mem_cons.2 ⟨pd_n29,?_⟩
 refine List.forall_mem_cons.2 ⟨pd_n30,?_⟩
 refine List.forall_mem_cons.2 ⟨pd_n31,?_⟩
 refine List.forall_mem_cons.2 ⟨pd_n32,?_⟩
 refine List.forall_mem_cons.2 ⟨pd_n33,?_⟩
 refine List.forall_mem_cons.2 ⟨pd_n34,?_⟩
 refine List.forall_mem_cons.2 ⟨pd_n35,?_⟩
 refine List.forall_mem_cons.2 ⟨pd_n36,?_⟩
 refine List.forall_mem_cons.2 ⟨pd_n37,?_⟩
 refine List.forall_mem_cons.2 ⟨pd_n38,?_⟩
 refine List.forall_mem_cons.2 ⟨pd_n39,?_⟩
 refine List.forall_mem_cons.2 ⟨pd_n40,?_⟩
 refine List.forall_mem_cons.2 ⟨pd_n41,?_⟩
 refine List.forall_mem_cons.2 ⟨pd_n42,?_⟩
 refine List.forall_mem_cons.2 ⟨pd_n43,?_⟩
 refine List.forall_mem_cons.2 ⟨pd_n44,?_⟩
 refine List.forall_mem_cons.2 ⟨pd_n45,?_⟩
 refine List.forall_mem_cons.2 ⟨pd_n46,?_⟩
 refine List.forall_mem_cons.2 ⟨pd_n47,?_⟩
 refine List.forall_mem_cons.2 ⟨pd_n48,?_⟩
 refine List.forall_mem_cons.2 ⟨pd_n49,?_⟩
 refine List.forall_mem_cons.2 ⟨pd_n50,?_⟩
 refine List.forall_mem_cons.2 ⟨pd_n51,?_⟩
 refine List.forall_mem_cons.2 ⟨pd_n52,?_⟩
 refine List.forall_mem_cons.2 ⟨pd_n53,?_⟩
 refine List.forall_mem_cons.2 ⟨pd_n54,?_⟩
 refine List.forall_mem_cons.2 ⟨pd_n55,?_⟩
 refine List.forall_mem_cons.2 ⟨pd_n56,?_⟩
 refine List.forall_mem_cons.2 ⟨pd_n57,?_⟩
 refine List.forall_mem_cons.2 ⟨pd_n58,?_⟩
 refine List.forall_mem_cons.2 ⟨pd_n59,?_⟩
 refine List.forall_mem_cons.2 ⟨pd_n60,?_⟩
 exact fun n hn => nomatch hn
theorem lawProducts_good (m1 : Int) (l1 : List Int) (h1 : -9223372036854775808 ≤ m1 ∧ m1 ≤ 9223372036854775807) (m2 : Int) (l2 : List Int) (h2 : -9223372036854775808 ≤ m2 ∧ m2 ≤ 9223372036854775807) : PureGood Tryz.prog 5 [.agg [i64 m1,.sl l1.length (ec l1)],.agg [i64 m2,.sl l2.length (ec l2)]] (.lit (.bool true)) := by
 by_cases hm : 100 < l1.length ∨ 100 < l2.length
 ·exact lawPd_many hm
 ·have n1 : ¬ 100 < l1.length := fun e => hm (.inl e)
  have n2 : ¬ 100 < l2.length := fun e => hm (.inr e)
  have b1 : ChB m1 l1 := ⟨h1,by omega⟩
  have b2 : ChB m2 l2 := ⟨h2,by omega⟩
  by_cases e1 : cerr m1 l1 = 0
  ·obtain ⟨n,rfl,a1,a2,v,hv,rfl⟩ := cerr_ok e1
   obtain ⟨p1,o1,r1⟩ := chkOr_ok (jo_all a1 a2 hv)
   by_cases e2 : cerr m2 l2 = 0
   ·obtain ⟨n',rfl,a3,a4,w,hw,rfl⟩ := cerr_ok e2
    obtain ⟨p2,o2,r2⟩ := chkOr_ok (jo_all a3 a4 hw)
    by_cases hn : n = n'
    ·subst hn
     have hs := List.all_eq_true.1 (List.all_eq_true.1 (sp_all a1 a2) v hv) w hw
     rw [fNat_eq,Bool.or_eq_true] at hs
     rcases hs with hs | hs
     ·have hN := List.elem_iff.1 hs
      obtain ⟨g1,g2⟩ := la_ok (List.all_eq_true.1 la_all _ hN)
      obtain ⟨zk,zl,zg⟩ := dmul_ok b1 b2 e1 e2 a1 a2
      refine lawPd_err n1 n2 (jac_e7 b1 b2 e1 e2 a1 a2 p1.1 p1.2 p2.1 p2.2 o1 o2 r1 r2 ?_ g1 g2).1 (by decide) zg
      unfold nJ
      simp only [fNat_eq]
     ·obtain ⟨p,hp,he⟩ := List.any_eq_true.1 hs
      rw [Bool.and_eq_true] at he
      have x1 := eqN_ok he.1
      have x2 := eqN_ok he.2
      have := pd_mem n (by
       have : n ∈ List.range 61 := List.mem_range.2 (by omega)
       exact this) p hp
      rw [x1,x2] at this
      exact chkPd_ok this
    ·exact lawPd_err n1 n2 (jac_e24 b1 b2 e1 e2 o1 o2 (by omega)).1 (by decide) (dmul_e24 b1 b2 e1 e2 (by omega))
   ·exact lawPd_err n1 n2 (jac_e2 b1 b2 e1 o1 e2).1 e2 (dmul_e2 b1 b2 e1 e2)
  ·exact lawPd_err n1 n2 (jac_e1 b1 b2 e1).1 e1 (dmul_e1 b1 b2 e1)
end Go.Proofs.YtpkjokknpbclhaaGreat
namespace Go.Proofs.YtpkjokknpbclhaaGreat
open Go Go.Lg Go.ChangeShapes Go.WideShapes Go.ChangeAt Go.RowKit
set_option maxRecDepth 100000
theorem own : ownKnob Tryz.prog.godebug = none := by kernel_rfl
theorem cChr : Tryz.prog.cellsOf 24 = 2 := by kernel_rfl
theorem cInt : Tryz.prog.cellsOf 3 = 1 := by kernel_rfl
theorem cInts : Tryz.prog.cellsOf 22 = 1 := by kernel_rfl
theorem tsChr : Tryz.prog.cellTypes Tryz.prog.depth 24 = some [3,22] := by kernel_rfl
theorem rep_ints {W : World} {a : Addr} {len cap : Nat} {zs : List Int} (hs : a.spot = none) (hl : len ≤ zs.length) (hc : len ≤ cap) (hm : cap ≤ maxLen) (hcell : ∀ i, i < zs.length → W.cell? (a.add i) = some (.int .i64 (zs.getD i 0))) :
  Rep (fun g => g < W.heap.size) W.heap (fun _ => none) (.sl (zs.take len).length (ec (zs.take len))) (.slice (some a) len cap) := by
 have e : (zs.take len).length = len := by rw [List.length_take,Nat.min_eq_left hl]
 rw [e]
 refine Rep.sl (us := (zs.take len).map fun z => Value.int .i64 z) hc hm hs (by simp [ec]) ?_ ?_ ?_
 ·intro j u hu
  rw [List.getElem?_map] at hu
  obtain ⟨z,hz,rfl⟩ := Option.map_eq_some_iff.1 hu
  have hj : j < (zs.take len).length := (List.getElem?_eq_some_iff.1 hz).1
  have hj2 : j < zs.length := by rw [e] at hj;omega
  have hzj : zs.getD j 0 = z := by
   rw [List.getElem?_take,if_pos (by rw [e] at hj;exact hj)] at hz
   simp [List.getD,hz]
  have h := hcell j hj2
  rw [cell?_eq' W a hs j,hzj] at h
  refine ⟨?_,h⟩
  unfold cellAt at h
  cases hh : W.heap[a.block]? with
  | none => rw [hh] at h;cases h
  | some o => exact (Array.getElem?_eq_some_iff.1 hh).1
 ·intro u hu
  obtain ⟨z,_,rfl⟩ := List.mem_map.1 hu
  rfl
 ·intro j c u hc hu
  rw [ec,List.getElem?_map] at hc
  rw [List.getElem?_map] at hu
  obtain ⟨z,hz,rfl⟩ := Option.map_eq_some_iff.1 hc
  rw [hz] at hu
  cases hu
  exact .lit _
theorem open_chr {H : Type} {enc : TypeId × Value → H} {W : World} {b0 : Nat} {v : Value} {d : DataW H} {ps : List MemPlace} (hval : Value.okWide Tryz.prog W .any b0 24 v) (hd : DataW.Trod enc Tryz.prog W 0 (fun _ => true) true 24 v d ps) :
  ∃ (lv : Int) (xs : List Int), (Lit.int .i64 lv).wf = true ∧ Rep (fun g => g < W.heap.size) W.heap (fun _ => none) (.agg [.lit (.int .i64 lv), .sl xs.length (ec xs)]) v ∧
    ∀ W' : World,(∀ i,i < W.heap.size → W'.heap[i]? = W.heap[i]?) → ∃ ps',DataW.Trod enc Tryz.prog W' 0 (fun b => decide (b < W.heap.size)) true 24 v d ps' := by
 simp only [Value.okWide,Tryz.underlying24] at hval
 obtain ⟨cs,rfl,h2,ts,hts,_,hrow⟩ := hval
 rw [tsChr] at hts
 cases hts
 rw [cChr] at h2
 obtain ⟨fuel,hf⟩ := hd
 obtain ⟨y0,y1,n,hx,hlen,e0,e1⟩ := trod_struct2 Tryz.underlying24 hf
 have hc0 : (Value.agg cs).cells = cs := rfl
 rw [hc0] at e0 e1 hlen
 obtain ⟨c0,c1,hcs⟩ : ∃ c0 c1,cs = #[c0,c1] := by
  obtain ⟨l⟩ := cs
  match l,h2 with
  | [c0,c1],_ => exact ⟨c0,c1,rfl⟩
 subst hcs
 simp only [cInt,cInts,List.drop_zero,List.drop_succ_cons,List.take_succ_cons,List.take_zero] at e0 e1
 obtain ⟨lv,a1,rfl,hw⟩ := DataW.trod_int Tryz.underlying3 e0
 simp only [List.cons.injEq,and_true] at a1
 subst a1
 have r1 := hrow 1 c1 rfl
 obtain ⟨u,hu,hcell⟩ := r1
 simp only [List.length_cons,List.length_nil,Nat.reduceAdd,Nat.reduceMod,List.getElem?_cons_succ,List.getElem?_cons_zero,Option.some.injEq] at hu
 subst hu
 obtain ⟨hx1,hx2⟩ := Prod.mk.inj hx
 rcases open_ints Tryz.underlying22 Tryz.underlying3 cInt e1 with ⟨b1,rfl⟩ | ⟨a,len,cap,zs,b1,hb,hl,hm,hz,rfl,hcl,hwf⟩
 ·simp only [List.cons.injEq,and_true] at b1
  subst b1
  refine ⟨lv,[],hw,?_,fun W' _ => ⟨ps,2,?_⟩⟩
  ·refine Rep.agg (us := [.int .i64 lv,.slice none 0 0]) rfl (by simp [Value.oneCell']) ?_
   intro j c u hc hu
   match j with
   | 0 => simp at hc hu;subst hc;subst hu;exact .lit _
   | 1 => simp at hc hu;subst hc;subst hu;exact .snil
   | j + 2 => simp at hc
  ·rw [hx1,hx2]
   refine trod_struct2_mk (y0 := (.lit (.int .i64 lv),[])) (y1 := (.nil,[])) Tryz.underlying24 hlen ?_ ?_
   ·rw [hc0]
    simp only [cInt,List.drop_zero,List.take_succ_cons,List.take_zero]
    exact trod_int_mk 0 Tryz.underlying3 hw
   ·rw [hc0]
    simp only [cInts,List.drop_zero,List.drop_succ_cons,List.take_succ_cons,List.take_zero]
    simp [DataW.trod,Tryz.underlying22]
 ·simp only [List.cons.injEq,and_true] at b1
  subst b1
  simp only [if_true] at hz
  have hspot : a.spot = none := by
   simp only [Cell.okWide,Cell.ok,Tryz.underlying22] at hcell
   exact hcell.2.2.2.1
  refine ⟨lv,zs.take len,hw,?_,fun W' hk => ⟨ps,3,?_⟩⟩
  ·refine Rep.agg (us := [.int .i64 lv,.slice (some a) len cap]) rfl (by simp [Value.oneCell']) ?_
   intro j c u hc hu
   match j with
   | 0 => simp at hc hu;subst hc;subst hu;exact .lit _
   | 1 => simp at hc hu;subst hc;subst hu;exact (by simpa using rep_ints hspot (by omega) hl hm hcl)
   | j + 2 => simp at hc
  ·rw [hx1,hx2]
   have hblk : ∀ i,i < zs.length → a.block < W.heap.size := fun i hi => by
    have h := hcl i hi
    rw [cell?_eq' W a hspot i] at h
    unfold cellAt at h
    cases hh : W.heap[a.block]? with
    | none => rw [hh] at h;cases h
    | some o => exact (Array.getElem?_eq_some_iff.1 hh).1
   refine trod_struct2_mk (y0 := (.lit (.int .i64 lv),[])) (y1 := (.slice (lits .i64 (zs.take len)) (lits .i64 (zs.drop len)),MemPlace.row a zs.length)) Tryz.underlying24 hlen ?_ ?_
   ·rw [hc0]
    simp only [cInt,List.drop_zero,List.take_succ_cons,List.take_zero]
    exact trod_int_mk 1 Tryz.underlying3 hw
   ·rw [hc0]
    simp only [cInts,List.drop_zero,List.drop_succ_cons,List.take_succ_cons,List.take_zero]
    refine shut_ints 0 Tryz.underlying22 Tryz.underlying3 cInt hb hl hm ?_ (fun i hi => ?_) hwf
    ·by_cases hbs : a.block < W.heap.size
     ·simp [hbs,hz]
     ·have : zs.length = 0 := by
       rcases Nat.eq_zero_or_pos zs.length with h | h
       ·exact h
       ·exact absurd (hblk 0 h) hbs
      simp [hbs];omega
    ·rw [cell?_eq' W' a hspot i,cellAt_same (hk _ (hblk i hi)),← cell?_eq' W a hspot i]
     exact hcl i hi
end Go.Proofs.YtpkjokknpbclhaaGreat