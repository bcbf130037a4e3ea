-- The seat's words (laid by the kit's print), those alone that are used.
import Derived.Test.YtfmbophennepdaaWTab
namespace Go.Proofs.YtfmbophennepdaaW.PrintLast
/-- Number i is listed too. -/
def up (b : Nat → Bool) (i : Nat) : Nat → Bool := fun j => if j = i then true else b j
end Go.Proofs.YtfmbophennepdaaW.PrintLast
