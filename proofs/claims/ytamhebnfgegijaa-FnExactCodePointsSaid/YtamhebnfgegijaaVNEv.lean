import Derived.Test.YtamhebnfgegijaaVN
/- Words of the printed proofs, as far as these texts use them. -/
