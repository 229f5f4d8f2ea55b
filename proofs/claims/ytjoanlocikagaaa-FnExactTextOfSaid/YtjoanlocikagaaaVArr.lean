import Derived.Test.YtjoanlocikagaaaVWords
/- Words of the printed proofs, as far as these texts use them. -/
