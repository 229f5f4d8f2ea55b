import Derived.Test.YtjghahkecglgdaaVN
/- Words of the printed proofs, as far as these texts use them. -/
