/- Contracts of functions of the program, and what proves them (texts: KP1). -/
import Derived.KernelRfl
import Derived.Test.YtbajpjjbaffnnaaGreatZBK
set_option linter.all false
namespace Go.Proofs.YtbajpjjbaffnnaaGreat
open Go Go.Lg Go.Num
set_option maxRecDepth 100000
theorem kp0x0 : ((List.range 15).all fun j => chkPsi (4 * (0 + j) + 1)) = true := by kernel_rfl
theorem kp0x1 : ((List.range 15).all fun j => chkPsi (4 * (15 + j) + 1)) = true := by kernel_rfl
theorem kp0x2 : ((List.range 15).all fun j => chkPsi (4 * (30 + j) + 1)) = true := by kernel_rfl
theorem kp0x3 : ((List.range 15).all fun j => chkPsi (4 * (45 + j) + 1)) = true := by kernel_rfl
theorem kp0x4 : ((List.range 15).all fun j => chkPsi (4 * (60 + j) + 1)) = true := by kernel_rfl
theorem kp0x5 : ((List.range 15).all fun j => chkPsi (4 * (75 + j) + 1)) = true := by kernel_rfl
theorem kp0x6 : ((List.range 15).all fun j => chkPsi (4 * (90 + j) + 1)) = true := by kernel_rfl
theorem kp0x7 : ((List.range 15).all fun j => chkPsi (4 * (105 + j) + 1)) = true := by kernel_rfl
theorem kp0x8 : ((List.range 15).all fun j => chkPsi (4 * (120 + j) + 1)) = true := by kernel_rfl
theorem kp0x9 : ((List.range 15).all fun j => chkPsi (4 * (135 + j) + 1)) = true := by kernel_rfl
theorem kp0 : ∀ j, j < 150 → chkPsi (4 * j + 1) = true := by
  intro j hj
  obtain ⟨b, k, hb, hk, rfl⟩ : ∃ b k, b < 10 ∧ k < 15 ∧ j = 15 * b + k := ⟨j / 15, j % 15, by omega, by omega, by omega⟩
  match b, hb with
  | 0, _ => exact List.all_eq_true.1 kp0x0 k (List.mem_range.2 hk)
  | 1, _ => exact List.all_eq_true.1 kp0x1 k (List.mem_range.2 hk)
  | 2, _ => exact List.all_eq_true.1 kp0x2 k (List.mem_range.2 hk)
  | 3, _ => exact List.all_eq_true.1 kp0x3 k (List.mem_range.2 hk)
  | 4, _ => exact List.all_eq_true.1 kp0x4 k (List.mem_range.2 hk)
  | 5, _ => exact List.all_eq_true.1 kp0x5 k (List.mem_range.2 hk)
  | 6, _ => exact List.all_eq_true.1 kp0x6 k (List.mem_range.2 hk)
  | 7, _ => exact List.all_eq_true.1 kp0x7 k (List.mem_range.2 hk)
  | 8, _ => exact List.all_eq_true.1 kp0x8 k (List.mem_range.2 hk)
  | 9, _ => exact List.all_eq_true.1 kp0x9 k (List.mem_range.2 hk)
theorem kf0 : ((List.range 24).all fun j => chkPhi (j + 1)) = true := by kernel_rfl
end Go.Proofs.YtbajpjjbaffnnaaGreat
