/- Contracts of functions of the program, and what proves them (texts: KE6). -/
import Derived.KernelRfl
import Derived.Test.YtbajpjjbaffnnaaGreatZAT
set_option linter.all false
namespace Go.Proofs.YtbajpjjbaffnnaaGreat
open Go Go.Lg Go.Num
set_option maxRecDepth 100000
theorem ke5x0 : ((List.range 15).all fun j => chkN (8 * (0 + j) + 6)) = true := by kernel_rfl
theorem ke5x1 : ((List.range 15).all fun j => chkN (8 * (15 + j) + 6)) = true := by kernel_rfl
theorem ke5x2 : ((List.range 15).all fun j => chkN (8 * (30 + j) + 6)) = true := by kernel_rfl
theorem ke5x3 : ((List.range 15).all fun j => chkN (8 * (45 + j) + 6)) = true := by kernel_rfl
theorem ke5x4 : ((List.range 15).all fun j => chkN (8 * (60 + j) + 6)) = true := by kernel_rfl
theorem ke5 : ∀ j,j < 75 → chkN (8 * j + 6) = true := by
 intro j hj
 obtain ⟨b,k,hb,hk,rfl⟩ : ∃ b k,b < 5 ∧ k < 15 ∧ j = 15 * b + k := ⟨j / 15,j % 15,by omega,by omega,by omega⟩
 match b,hb with
 | 0,_ => exact List.all_eq_true.1 ke5x0 k (List.mem_range.2 hk)
 | 1,_ => exact List.all_eq_true.1 ke5x1 k (List.mem_range.2 hk)
 | 2,_ => exact List.all_eq_true.1 ke5x2 k (List.mem_range.2 hk)
 | 3,_ => exact List.all_eq_true.1 ke5x3 k (List.mem_range.2 hk)
 | 4,_ => exact List.all_eq_true.1 ke5x4 k (List.mem_range.2 hk)
end Go.Proofs.YtbajpjjbaffnnaaGreat