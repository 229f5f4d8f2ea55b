import Derived.Test.YtjoanlocikagaaaVApart
import Derived.Test.YtjoanlocikagaaaVArr
/- Words of the printed proofs, as far as these texts use them. -/
