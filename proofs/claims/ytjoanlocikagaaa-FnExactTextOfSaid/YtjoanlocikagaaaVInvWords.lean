import Derived.Test.YtjoanlocikagaaaVInv
import Derived.Test.YtjoanlocikagaaaVFootNe
/- Words of the printed proofs, as far as these texts use them. -/
