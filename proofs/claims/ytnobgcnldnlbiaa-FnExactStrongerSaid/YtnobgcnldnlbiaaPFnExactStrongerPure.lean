/- FnExactStronger, the plain side. -/
import Derived.Test.YtnobgcnldnlbiaaStrongA
namespace Go.Proofs.Ytnobgcnldnlbiaa.PFnExactStronger
open Go Go.RowKit Go.Proofs.YtnobgcnldnlbiaaW.PrintWords Go.Proofs.YtnobgcnldnlbiaaW.PrintLast Go.Proofs.YtnobgcnldnlbiaaW.PrintMore Go.Proofs.Ytnobgcnldnlbiaa.Val
set_option linter.unusedVariables false
set_option linter.unusedSimpArgs false

theorem FnExactStronger_pure (x y : Int × Bool × Bool × Int × Int × Int)
    (_ : (Lit.int .i64 x.1).wf = true ∧ True ∧ True ∧ (Lit.int .i64 x.2.2.2.1).wf = true ∧ (Lit.int .i64 x.2.2.2.2.1).wf = true ∧ (Lit.int .i64 x.2.2.2.2.2).wf = true)
    (_ : (Lit.int .i64 y.1).wf = true ∧ True ∧ True ∧ (Lit.int .i64 y.2.2.2.1).wf = true ∧ (Lit.int .i64 y.2.2.2.2.1).wf = true ∧ (Lit.int .i64 y.2.2.2.2.2).wf = true) :
    ∃ k, laws_FnExactStronger.f k (x.1) (x.2.1) (x.2.2.1) (x.2.2.2.1) (x.2.2.2.2.1) (x.2.2.2.2.2) (y.1) (y.2.1) (y.2.2.1) (y.2.2.2.1) (y.2.2.2.2.1) (y.2.2.2.2.2) = some true := by
  apply val_rounds (g := fun k => laws_FnExactStronger.f k (x.1) (x.2.1) (x.2.2.1) (x.2.2.2.1) (x.2.2.2.2.1) (x.2.2.2.2.2) (y.1) (y.2.1) (y.2.2.1) (y.2.2.2.1) (y.2.2.2.2.1) (y.2.2.2.2.2))
  show laws_FnExactStronger.F (x.1) (x.2.1) (x.2.2.1) (x.2.2.2.1) (x.2.2.2.2.1) (x.2.2.2.2.2) (y.1) (y.2.1) (y.2.2.1) (y.2.2.2.1) (y.2.2.2.2.1) (y.2.2.2.2.2) = some true
  rw [laws_FnExactStronger.F_eq]
  unfold laws_toClaim.f
  simp only [Option.bind_some, impl_str, spec_str]
  simp

end Go.Proofs.Ytnobgcnldnlbiaa.PFnExactStronger
