/- FnExactBaseText, the plain side: one text on both sides. -/
import Derived.Test.YtnobgcnldnlbiaaQFnExactBaseTextx1
namespace Go.Proofs.Ytnobgcnldnlbiaa.QFnExactBaseText

theorem FnExactBaseText : laws_FnExactBaseText.Pure := by
  unfold laws_FnExactBaseText.Pure laws_FnExactBaseText.f spec_BaseText.f impl_BaseText.f
  simp

end Go.Proofs.Ytnobgcnldnlbiaa.QFnExactBaseText
