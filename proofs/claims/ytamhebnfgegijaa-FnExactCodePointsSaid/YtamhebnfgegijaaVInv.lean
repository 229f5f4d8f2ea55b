import Derived.Test.YtamhebnfgegijaaVTab
/- Words of the printed proofs, as far as these texts use them. -/
