import Derived.Test.YtamhebnfgegijaaVLast
import Derived.Test.YtamhebnfgegijaaVWords
/- Words of the printed proofs, as far as these texts use them. -/
