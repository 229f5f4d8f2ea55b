/- FnExactTreeOk, the plain side. -/
import Derived.Test.YtjoanlocikagaaaTreeSmall
namespace Go.Proofs.Ytjoanlocikagaaa.QFnExactTreeOk
open Go Go.RowKit Go.Proofs.YtjoanlocikagaaaW.PrintWords Go.Proofs.YtjoanlocikagaaaW.PrintLast Go.Proofs.YtjoanlocikagaaaW.PrintMore Go.Proofs.Ytjoanlocikagaaa.Val
set_option linter.unusedVariables false
set_option linter.unusedSimpArgs false

theorem FnExactTreeOk_pure (l : List S193) (h : l.length ≤ maxLen ∧ ∀ x ∈ l, wf_Node x) : ∃ k, laws_FnExactTreeOk.f k l = some true := by
  apply val_rounds (g := fun k => laws_FnExactTreeOk.f k l)
  show laws_FnExactTreeOk.F l = some true
  rw [laws_FnExactTreeOk.F_eq]
  obtain ⟨r, e, _, hr⟩ := sz_Tree l h 1048576 (by omega) (by omega)
  rw [e, Option.bind_some]
  by_cases c : r < 0
  · rw [if_pos c]
  · rw [if_neg c]
    have hb := hr (by omega)
    have hl : bulk_NodeS l ≤ 1048576 := by omega
    obtain ⟨q, h1, h2⟩ := tree_both (l.map of_Node) (tree_small l h hl)
    simp only [to_Tree l hl, Option.bind_some, h1, h2, eq_Tree l hl, bne_self_eq_false, Bool.false_eq_true, if_false, if_true]

end Go.Proofs.Ytjoanlocikagaaa.QFnExactTreeOk
