/- Contracts of functions of the program, and what proves them (texts: Awk3). -/
import Derived.Test.YtpkjokknpbclhaaGreatZAN
set_option linter.all false
namespace Go.Proofs.YtpkjokknpbclhaaGreat
open Go Go.Lg Go.Num
set_option maxRecDepth 100000
set_option maxHeartbeats 2000000
attribute [local irreducible] Go.Lg.lrun Go.Lg.lwp Go.Lg.exThen Go.Lg.exBlk Go.Lg.keep Go.Lg.goodPost sg mg bq
end Go.Proofs.YtpkjokknpbclhaaGreat