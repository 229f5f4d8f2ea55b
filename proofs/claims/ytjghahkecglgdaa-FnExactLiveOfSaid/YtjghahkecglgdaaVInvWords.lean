import Derived.Test.YtjghahkecglgdaaVInv
import Derived.Test.YtjghahkecglgdaaVFootNe
/- Words of the printed proofs, as far as these texts use them. -/
