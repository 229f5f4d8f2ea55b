import Derived.Test.YtkhgmjmfgbpenaaVWords
import Derived.Test.YtkhgmjmfgbpenaaVLast
/- Words of the printed proofs, as far as these texts use them. -/
