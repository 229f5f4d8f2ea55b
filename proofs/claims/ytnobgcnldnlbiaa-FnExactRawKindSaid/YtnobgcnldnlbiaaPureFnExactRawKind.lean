import Derived.Test.YtnobgcnldnlbiaaPFnExactRawKindx1
namespace Go.Proofs.Ytnobgcnldnlbiaa.Pure
open Go.RowKit Go.Proofs.Ytnobgcnldnlbiaa.PFnExactRawKind Go.Proofs.YtnobgcnldnlbiaaW.PrintWords Go.Proofs.YtnobgcnldnlbiaaW.PrintLast

/-- YOURS: ∀ (a0 : ByteArray), a0.size ≤ 140737488351232 → ∃ k, laws_FnExactRawKind.f k a0 = some true
What it reaches (each with k first where it has rounds; `.mono`: more rounds tell the same; `.l0`, ..: its loops, with `.mono_l`): spec_RawKind.f, impl_RawKind.f, laws_FnExactRawKind.f -/
theorem FnExactRawKind : laws_FnExactRawKind.Pure := by
  intro s _
  refine ⟨1, ?_⟩
  unfold laws_FnExactRawKind.f spec_RawKind.f impl_RawKind.f
  simp only [spec_RawKind.j0, impl_RawKind.j0]
  repeat (first | rfl | split)

end Go.Proofs.Ytnobgcnldnlbiaa.Pure
