/- FnExactSizeOk, the plain side. -/
import Derived.Test.YtnobgcnldnlbiaaSizeOkA
namespace Go.Proofs.Ytnobgcnldnlbiaa.PFnExactSizeOk
open Go Go.RowKit Go.Proofs.YtnobgcnldnlbiaaW.PrintWords Go.Proofs.Ytnobgcnldnlbiaa.Val
set_option linter.unusedVariables false

theorem FnExactSizeOk_pure (x : Int × Int × Int × Int) (_ : (Lit.int .i64 x.1).wf = true ∧ (Lit.int .i64 x.2.1).wf = true ∧ (Lit.int .i64 x.2.2.1).wf = true ∧ (Lit.int .i64 x.2.2.2).wf = true) :
    ∃ _k : Nat, laws_FnExactSizeOk.f (x.1) (x.2.1) (x.2.2.1) (x.2.2.2) = some true := by
  refine ⟨0, ?_⟩
  unfold laws_FnExactSizeOk.f laws_toSize.f
  obtain ⟨r, h1, h2⟩ := size_ok x.1 x.2.1 x.2.2.1 x.2.2.2
  simp only [Option.bind_some, h1, h2, bne_self_eq_false, Bool.false_eq_true, if_false]

end Go.Proofs.Ytnobgcnldnlbiaa.PFnExactSizeOk
