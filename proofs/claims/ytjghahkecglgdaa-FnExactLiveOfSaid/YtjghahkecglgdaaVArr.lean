import Derived.Test.YtjghahkecglgdaaVWords
/- Words of the printed proofs, as far as these texts use them. -/
