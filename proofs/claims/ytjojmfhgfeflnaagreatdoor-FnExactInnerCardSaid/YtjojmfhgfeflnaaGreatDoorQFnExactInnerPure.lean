/- FnExactInner, the plain side, joined. -/
import Derived.Test.YtjojmfhgfeflnaaGreatDoorVriteP
import Derived.Test.YtjojmfhgfeflnaaGreatDoorConvFnExactInner
namespace Go.Proofs.YtjojmfhgfeflnaaGreatDoor.QFnExactInner
open Go Go.RowKit Go.Proofs.YtjojmfhgfeflnaaGreatDoorV.PrintWords Go.Proofs.YtjojmfhgfeflnaaGreatDoorV.PrintLast Go.Proofs.YtjojmfhgfeflnaaGreatDoorV.PrintMore Go.Proofs.YtjojmfhgfeflnaaGreatDoor.Val
set_option linter.unusedVariables false
set_option linter.unusedSimpArgs false

theorem inner_both (l : List S63) (id : Int) (h : l.length ≤ maxLen ∧ ∀ x ∈ l, wf_Node x) (hb : bulk_NodeS l ≤ 1048576) : ∃ r, spec_Inner.F (l.map of_Node) id = some r ∧ impl_Inner.F (l.map of_Node) id = some r := by
  obtain ⟨t, h1, h2, h3⟩ := tree_right (l.map of_Node) (tree_small l h hb)
  rw [spec_Inner.F_eq, impl_Inner.F_eq, h1, h2, Option.bind_some]
  cases t with
  | false => exact ⟨⟨#[]⟩, by simp, by simp⟩
  | true =>
    obtain ⟨R, hn⟩ := h3 rfl
    have e := outJ_is R (fine_of l hb hn) id
    exact ⟨outI (l.map of_Node) id, by simpa using e, by simpa using e⟩
theorem FnExactInner_pure (l : List S63) (id : Int) (h : l.length ≤ maxLen ∧ ∀ x ∈ l, wf_Node x) (_ : (Lit.int .i64 id).wf = true) : ∃ k, laws_FnExactInner.f k l id = some true := by
  apply val_rounds (g := fun k => laws_FnExactInner.f k l id)
  show laws_FnExactInner.F l id = some true
  rw [laws_FnExactInner.F_eq]
  obtain ⟨r, e, _, hr⟩ := sz_Tree l h 1048576 (by omega) (by omega)
  rw [e, Option.bind_some]
  by_cases c : r < 0
  · rw [if_pos c]
  · rw [if_neg c]
    have hb := hr (by omega)
    have hl : bulk_NodeS l ≤ 1048576 := by omega
    obtain ⟨q, h1, h2⟩ := inner_both l id h hl
    simp only [to_Tree l hl, Option.bind_some, h1, h2, eq_Tree l hl, if_true]

end Go.Proofs.YtjojmfhgfeflnaaGreatDoor.QFnExactInner
