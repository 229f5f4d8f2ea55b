import Derived.Test.YtjoanlocikagaaaVN
/- Words of the printed proofs, as far as these texts use them. -/
