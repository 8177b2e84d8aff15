/- Contracts of functions of the program, and what proves them (texts: GC0). -/
import Derived.Test.YtpkjokknpbclhaaGreatZAZ
import Derived.Test.YtpkjokknpbclhaaGreatZBA
set_option linter.all false
namespace Go.Proofs.YtpkjokknpbclhaaGreat
open Go Go.Lg Go.Num
set_option maxRecDepth 100000
end Go.Proofs.YtpkjokknpbclhaaGreat