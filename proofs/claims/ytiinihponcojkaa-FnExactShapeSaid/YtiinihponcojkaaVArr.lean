import Derived.Test.YtiinihponcojkaaVWords
/- Words of the printed proofs, as far as these texts use them. -/
