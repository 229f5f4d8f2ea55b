/- FnExactSelectorOk, the plain side. -/
import Derived.Test.YtjoanlocikagaaaSelOkA
import Derived.Test.YtjoanlocikagaaaConvFnExactSelectorOk
namespace Go.Proofs.Ytjoanlocikagaaa.QFnExactSelectorOk
open Go Go.RowKit Go.Proofs.YtjoanlocikagaaaW.PrintWords Go.Proofs.YtjoanlocikagaaaW.PrintLast Go.Proofs.YtjoanlocikagaaaW.PrintMore Go.Proofs.Ytjoanlocikagaaa.Val
set_option linter.unusedVariables false
set_option linter.unusedSimpArgs false

theorem FnExactSelectorOk_pure (l : List S224) (h : l.length ≤ maxLen ∧ ∀ x ∈ l, wf_Compound x) : ∃ k, laws_FnExactSelectorOk.f k l = some true := by
  apply val_rounds (g := fun k => laws_FnExactSelectorOk.f k l)
  show laws_FnExactSelectorOk.F l = some true
  rw [laws_FnExactSelectorOk.F_eq]
  obtain ⟨r, e, _, hr⟩ := sz_Selector l h 1048576 (by omega) (by omega)
  rw [e, Option.bind_some]
  by_cases c : r < 0
  · rw [if_pos c]
  · rw [if_neg c]
    have hb := hr (by omega)
    have hl : bulk_CompoundS l ≤ 1048576 := by omega
    obtain ⟨q, h1, h2⟩ := selector_both (l.map of_Compound)
    simp only [to_Selector l hl, Option.bind_some, h1, h2, eq_Selector l hl, bne_self_eq_false, Bool.false_eq_true, if_false, if_true]

end Go.Proofs.Ytjoanlocikagaaa.QFnExactSelectorOk
