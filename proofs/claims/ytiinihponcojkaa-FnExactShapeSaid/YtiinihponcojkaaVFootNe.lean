import Derived.Test.YtiinihponcojkaaVN
/- Words of the printed proofs, as far as these texts use them. -/
