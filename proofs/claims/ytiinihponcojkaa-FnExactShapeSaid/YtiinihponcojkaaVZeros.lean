import Derived.Test.YtiinihponcojkaaVApart
import Derived.Test.YtiinihponcojkaaVArr
/- Words of the printed proofs, as far as these texts use them. -/
