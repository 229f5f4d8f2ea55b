import Derived.Test.YtjoanlocikagaaaVWords
import Derived.Test.YtjoanlocikagaaaVLast
/- Words of the printed proofs, as far as these texts use them. -/
