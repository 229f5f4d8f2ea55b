/- FnExactWrite, the plain side, joined. -/
import Derived.Test.YtjojmfhgfeflnaaGreatDoorVriteP
import Derived.Test.YtjojmfhgfeflnaaGreatDoorConvFnExactWrite
namespace Go.Proofs.YtjojmfhgfeflnaaGreatDoor.QFnExactWrite
open Go Go.RowKit Go.Proofs.YtjojmfhgfeflnaaGreatDoorV.PrintWords Go.Proofs.YtjojmfhgfeflnaaGreatDoorV.PrintLast Go.Proofs.YtjojmfhgfeflnaaGreatDoorV.PrintMore Go.Proofs.YtjojmfhgfeflnaaGreatDoor.Val
set_option linter.unusedVariables false
set_option linter.unusedSimpArgs false

theorem write_both (l : List S63) (h : l.length ≤ maxLen ∧ ∀ x ∈ l, wf_Node x) (hb : bulk_NodeS l ≤ 1048576) : ∃ r, spec_Write.F (l.map of_Node) = some r ∧ impl_Write.F (l.map of_Node) = some r := by
  obtain ⟨t, h1, h2, h3⟩ := tree_right (l.map of_Node) (tree_small l h hb)
  rw [spec_Write.F_eq, impl_Write.F_eq, h1, h2, Option.bind_some]
  cases t with
  | false => exact ⟨⟨#[]⟩, by simp, by simp⟩
  | true =>
    obtain ⟨R, hn⟩ := h3 rfl
    have e := outT_is R (fine_of l hb hn)
    exact ⟨treeT (l.map of_Node), by simpa using e, by simpa using e⟩
theorem FnExactWrite_pure (l : List S63) (h : l.length ≤ maxLen ∧ ∀ x ∈ l, wf_Node x) : ∃ k, laws_FnExactWrite.f k l = some true := by
  apply val_rounds (g := fun k => laws_FnExactWrite.f k l)
  show laws_FnExactWrite.F l = some true
  rw [laws_FnExactWrite.F_eq]
  obtain ⟨r, e, _, hr⟩ := sz_Tree l h 1048576 (by omega) (by omega)
  rw [e, Option.bind_some]
  by_cases c : r < 0
  · rw [if_pos c]
  · rw [if_neg c]
    have hb := hr (by omega)
    have hl : bulk_NodeS l ≤ 1048576 := by omega
    obtain ⟨q, h1, h2⟩ := write_both l h hl
    simp only [to_Tree l hl, Option.bind_some, h1, h2, eq_Tree l hl, if_true]

end Go.Proofs.YtjojmfhgfeflnaaGreatDoor.QFnExactWrite
