import Derived.Test.YtiinihponcojkaaVTab
/- Words of the printed proofs, as far as these texts use them. -/
