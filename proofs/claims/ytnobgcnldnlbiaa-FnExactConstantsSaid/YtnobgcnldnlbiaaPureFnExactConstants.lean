import Derived.Test.YtnobgcnldnlbiaaPFnExactConstantsx1
namespace Go.Proofs.Ytnobgcnldnlbiaa.Pure
open Go.RowKit Go.Proofs.Ytnobgcnldnlbiaa.PFnExactConstants Go.Proofs.YtnobgcnldnlbiaaW.PrintWords Go.Proofs.YtnobgcnldnlbiaaW.PrintLast

/-- YOURS: laws_FnExactConstants.f  = some true
What it reaches (each with k first where it has rounds; `.mono`: more rounds tell the same; `.l0`, ..: its loops, with `.mono_l`): laws_FnExactConstants.f -/
theorem FnExactConstants : laws_FnExactConstants.Pure := by
  rfl

end Go.Proofs.Ytnobgcnldnlbiaa.Pure
