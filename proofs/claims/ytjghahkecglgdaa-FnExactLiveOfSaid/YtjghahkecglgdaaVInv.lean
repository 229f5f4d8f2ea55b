import Derived.Test.YtjghahkecglgdaaVTab
/- Words of the printed proofs, as far as these texts use them. -/
