/- Contracts of functions of the program, and what proves them (texts: KP3). -/
import Derived.KernelRfl
import Derived.Test.YtbajpjjbaffnnaaGreatZBK
set_option linter.all false
namespace Go.Proofs.YtbajpjjbaffnnaaGreat
open Go Go.Lg Go.Num
set_option maxRecDepth 100000
theorem kp2x0 : ((List.range 15).all fun j => chkPsi (4 * (0 + j) + 3)) = true := by kernel_rfl
theorem kp2x1 : ((List.range 15).all fun j => chkPsi (4 * (15 + j) + 3)) = true := by kernel_rfl
theorem kp2x2 : ((List.range 15).all fun j => chkPsi (4 * (30 + j) + 3)) = true := by kernel_rfl
theorem kp2x3 : ((List.range 15).all fun j => chkPsi (4 * (45 + j) + 3)) = true := by kernel_rfl
theorem kp2x4 : ((List.range 15).all fun j => chkPsi (4 * (60 + j) + 3)) = true := by kernel_rfl
theorem kp2x5 : ((List.range 15).all fun j => chkPsi (4 * (75 + j) + 3)) = true := by kernel_rfl
theorem kp2x6 : ((List.range 15).all fun j => chkPsi (4 * (90 + j) + 3)) = true := by kernel_rfl
theorem kp2x7 : ((List.range 15).all fun j => chkPsi (4 * (105 + j) + 3)) = true := by kernel_rfl
theorem kp2x8 : ((List.range 15).all fun j => chkPsi (4 * (120 + j) + 3)) = true := by kernel_rfl
theorem kp2x9 : ((List.range 15).all fun j => chkPsi (4 * (135 + j) + 3)) = true := by kernel_rfl
theorem kp2 : ∀ j, j < 150 → chkPsi (4 * j + 3) = true := by
  intro j hj
  obtain ⟨b, k, hb, hk, rfl⟩ : ∃ b k, b < 10 ∧ k < 15 ∧ j = 15 * b + k := ⟨j / 15, j % 15, by omega, by omega, by omega⟩
  match b, hb with
  | 0, _ => exact List.all_eq_true.1 kp2x0 k (List.mem_range.2 hk)
  | 1, _ => exact List.all_eq_true.1 kp2x1 k (List.mem_range.2 hk)
  | 2, _ => exact List.all_eq_true.1 kp2x2 k (List.mem_range.2 hk)
  | 3, _ => exact List.all_eq_true.1 kp2x3 k (List.mem_range.2 hk)
  | 4, _ => exact List.all_eq_true.1 kp2x4 k (List.mem_range.2 hk)
  | 5, _ => exact List.all_eq_true.1 kp2x5 k (List.mem_range.2 hk)
  | 6, _ => exact List.all_eq_true.1 kp2x6 k (List.mem_range.2 hk)
  | 7, _ => exact List.all_eq_true.1 kp2x7 k (List.mem_range.2 hk)
  | 8, _ => exact List.all_eq_true.1 kp2x8 k (List.mem_range.2 hk)
  | 9, _ => exact List.all_eq_true.1 kp2x9 k (List.mem_range.2 hk)
end Go.Proofs.YtbajpjjbaffnnaaGreat
