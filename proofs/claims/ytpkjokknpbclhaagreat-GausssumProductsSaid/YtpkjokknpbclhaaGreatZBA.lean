/- Contracts of functions of the program, and what proves them (texts: GB0). -/
import Derived.Test.YtpkjokknpbclhaaGreatZAX
set_option linter.all false
namespace Go.Proofs.YtpkjokknpbclhaaGreat
open Go Go.Lg Go.Num
set_option maxRecDepth 100000
def eqN : List Nat → List Nat → Bool
 | [],[] => true
 | a :: l,b :: m => Nat.beq a b && eqN l m
 | _,_ => false
theorem eqN_ok : ∀ {l m : List Nat},eqN l m = true → l = m
 | [],[],_ => rfl
 | [],_ :: _,h => by cases h
 | _ :: _,[],h => by cases h
 | a :: l,b :: m,h => by
   unfold eqN at h
   rw [Bool.and_eq_true] at h
   rw [Nat.eq_of_beq_eq_true h.1,eqN_ok h.2]
end Go.Proofs.YtpkjokknpbclhaaGreat