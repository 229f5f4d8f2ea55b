import Derived.Test.YtkhgmjmfgbpenaaVLast
import Derived.Test.YtkhgmjmfgbpenaaVWords
/- Words of the printed proofs, as far as these texts use them. -/
