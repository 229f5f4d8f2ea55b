import Derived.Test.YtkhgmjmfgbpenaaVTab
/- Words of the printed proofs, as far as these texts use them. -/
