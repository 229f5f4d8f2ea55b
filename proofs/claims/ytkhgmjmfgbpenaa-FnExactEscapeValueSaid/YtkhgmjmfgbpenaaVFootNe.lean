import Derived.Test.YtkhgmjmfgbpenaaVN
/- Words of the printed proofs, as far as these texts use them. -/
