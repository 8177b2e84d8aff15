/- Contracts of functions of the program, and what proves them (texts: NumO). -/
import Derived.Test.YtbajpjjbaffnnaaGreatZBF
set_option linter.all false
namespace Go.Num
end Go.Num