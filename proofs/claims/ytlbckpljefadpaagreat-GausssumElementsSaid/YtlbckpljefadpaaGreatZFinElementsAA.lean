/- Contracts of functions of the program, and what proves them (texts: G7). -/
import Derived.Test.YtlbckpljefadpaaGreatZAT
set_option linter.all false
namespace Go.Proofs.YtlbckpljefadpaaGreat
open Go Go.Lg Go.Num
set_option maxRecDepth 100000
noncomputable def chkPh (n : Nat) : Bool := match evo orcN 61 [.lit (.int .i64 (.ofNat n))] with
 | some (.tup [.lit (.int .i64 (.ofNat k)),.lit (.int .i64 (.ofNat e))]) => Nat.beq k (phK n) && Nat.beq e 0
 | _ => false
noncomputable def chkPhs (b i : Nat) : Bool := chkPh (Nat.add b i)
end Go.Proofs.YtlbckpljefadpaaGreat