import Derived.Test.YtjoanlocikagaaaVTab
/- Words of the printed proofs, as far as these texts use them. -/
