import Derived.Test.YtkhgmjmfgbpenaaVApart
import Derived.Test.YtkhgmjmfgbpenaaVArr
/- Words of the printed proofs, as far as these texts use them. -/
