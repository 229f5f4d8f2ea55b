/- A tree within the law's size is small. -/
import Derived.Test.YtjojmfhgfeflnaaGreatDoorOkAll
import Derived.Test.YtjojmfhgfeflnaaGreatDoorConvFnExactInner
namespace Go.Proofs.YtjojmfhgfeflnaaGreatDoor.QFnExactInner
open Go Go.RowKit Go.Proofs.YtjojmfhgfeflnaaGreatDoorV.PrintWords Go.Proofs.YtjojmfhgfeflnaaGreatDoorV.PrintLast Go.Proofs.YtjojmfhgfeflnaaGreatDoorV.PrintMore Go.Proofs.YtjojmfhgfeflnaaGreatDoor.Val
set_option linter.unusedVariables false
set_option linter.unusedSimpArgs false

theorem tree_small (l : List S63) (h : l.length ≤ maxLen ∧ ∀ x ∈ l, wf_Node x) (hb : bulk_NodeS l ≤ 1048576) : Small (l.map of_Node) := by
  have key : ∀ i : Nat, rd_T57 (l.map of_Node) i = z57 ∨ ∃ x ∈ l, rd_T57 (l.map of_Node) i = of_Node x := by
    intro i
    unfold rd_T57
    rw [Int.toNat_natCast, List.getD_eq_getElem?_getD, List.getElem?_map]
    cases e : l[i]? with
    | none => exact .inl rfl
    | some x => exact .inr ⟨x, List.mem_of_getElem? e, rfl⟩
  have hm := mem_Node hb
  refine ⟨by rw [List.length_map]; exact hm.1, fun i => ?_, fun i => ?_⟩
  · rcases key i with e | ⟨x, hx, e⟩
    · rw [e]; simp [z57]
    · rw [e]
      have h1 := hm.2 x hx
      unfold bulk_Node at h1
      have h2 := (mem_Attr (l := x.f3) (n := 1048576) (by omega)).1
      show (x.f3.map of_Attr).length ≤ _
      rw [List.length_map]
      exact h2
  · rcases key i with e | ⟨x, hx, e⟩
    · rw [e]; simp [z57]
    · rw [e]
      have h1 := (h.2 x hx).2.2.2.2.2
      exact (wf_i64 h1).2

end Go.Proofs.YtjojmfhgfeflnaaGreatDoor.QFnExactInner
