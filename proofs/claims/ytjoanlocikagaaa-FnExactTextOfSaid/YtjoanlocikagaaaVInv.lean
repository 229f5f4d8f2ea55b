import Derived.Test.YtjoanlocikagaaaVTab
/- Words of the printed proofs, as far as these texts use them. -/
namespace Go.Proofs.YtjoanlocikagaaaV.PrintLast
def up (b : Nat → Bool) (i : Nat) : Nat → Bool := fun j => if j = i then true else b j
end Go.Proofs.YtjoanlocikagaaaV.PrintLast
