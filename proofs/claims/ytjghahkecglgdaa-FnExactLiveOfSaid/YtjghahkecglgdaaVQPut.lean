import Derived.Test.YtjghahkecglgdaaVWords
import Derived.Test.YtjghahkecglgdaaVLast
/- Words of the printed proofs, as far as these texts use them. -/
