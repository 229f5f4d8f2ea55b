import Derived.Test.YtiinihponcojkaaVInv
import Derived.Test.YtiinihponcojkaaVFootNe
/- Words of the printed proofs, as far as these texts use them. -/
