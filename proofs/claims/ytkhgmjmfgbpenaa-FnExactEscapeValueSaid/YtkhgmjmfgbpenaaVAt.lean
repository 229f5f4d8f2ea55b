import Derived.Test.YtkhgmjmfgbpenaaVFootNe
/- Words of the printed proofs, as far as these texts use them. -/
