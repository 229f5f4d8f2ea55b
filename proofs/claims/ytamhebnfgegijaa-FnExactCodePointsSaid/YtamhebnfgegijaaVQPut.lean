import Derived.Test.YtamhebnfgegijaaVWords
import Derived.Test.YtamhebnfgegijaaVLast
/- Words of the printed proofs, as far as these texts use them. -/
