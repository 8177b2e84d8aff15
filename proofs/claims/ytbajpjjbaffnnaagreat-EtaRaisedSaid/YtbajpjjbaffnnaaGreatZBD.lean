/- Contracts of functions of the program, and what proves them (texts: E3). -/
import Derived.Test.YtbajpjjbaffnnaaGreatZBC
set_option linter.all false
namespace Go.Proofs.YtbajpjjbaffnnaaGreat
open Go Go.Lg Go.Num
set_option maxRecDepth 100000
set_option maxHeartbeats 4000000
attribute [local irreducible] Go.Lg.lrun Go.Lg.lwp Go.Lg.exThen Go.Lg.exBlk Go.Lg.keep Go.Lg.goodPost ec
theorem psum_z (f : Nat → Int) : psum f 0 = 0 := rfl
theorem psum_s (f : Nat → Int) (k : Nat) : psum f (k + 1) = psum f k + f k := rfl
end Go.Proofs.YtbajpjjbaffnnaaGreat