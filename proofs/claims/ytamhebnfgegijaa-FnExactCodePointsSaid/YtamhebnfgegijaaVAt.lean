import Derived.Test.YtamhebnfgegijaaVFootNe
/- Words of the printed proofs, as far as these texts use them. -/
