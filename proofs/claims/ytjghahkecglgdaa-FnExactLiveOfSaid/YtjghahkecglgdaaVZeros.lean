import Derived.Test.YtjghahkecglgdaaVApart
import Derived.Test.YtjghahkecglgdaaVArr
/- Words of the printed proofs, as far as these texts use them. -/
