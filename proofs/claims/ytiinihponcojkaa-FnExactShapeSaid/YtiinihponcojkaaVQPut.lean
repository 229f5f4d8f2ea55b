import Derived.Test.YtiinihponcojkaaVWords
import Derived.Test.YtiinihponcojkaaVLast
/- Words of the printed proofs, as far as these texts use them. -/
