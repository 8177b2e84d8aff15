/- Contracts of functions of the program, and what proves them (texts: OP). -/
import Derived.Test.YtbajpjjbaffnnaaGreatZBQ
import Derived.Test.YtbajpjjbaffnnaaGreatZCA
import Derived.Test.YtbajpjjbaffnnaaGreatZCB
set_option linter.all false
namespace Go.Proofs.YtbajpjjbaffnnaaGreat
open Go Go.Lg Go.Num
theorem lawOperations_good (la : Int) (xs : List Int) (hla : -9223372036854775808 ≤ la ∧ la ≤ 9223372036854775807) (lb : Int) (ys : List Int) (hlb : -9223372036854775808 ≤ lb ∧ lb ≤ 9223372036854775807) (n : Int) (hn : -9223372036854775808 ≤ n ∧ n ≤ 9223372036854775807) : PureGood Tryz.prog 9 [.agg [i64 la,.sl xs.length (ec xs)],.agg [i64 lb,.sl ys.length (ec ys)],i64 n] (.lit (.bool true)) :=
 lawOps_of awake_good la xs lb ys n (fun h1 h2 => times_both la xs lb ys hla hlb (by omega) (by omega)) (fun h => power_both la xs n hla (by omega) hn) (fun h => replace_both la xs n hla (by omega) hn) (fun h => raise_both la xs n hla (by omega) hn)
end Go.Proofs.YtbajpjjbaffnnaaGreat