import Derived.Test.YtkhgmjmfgbpenaaVWords
import Derived.Laws.StructEq
/- Words of the printed proofs, as far as these texts use them. -/
