import Derived.Test.YtamhebnfgegijaaVApart
import Derived.Test.YtamhebnfgegijaaVArr
/- Words of the printed proofs, as far as these texts use them. -/
