import Derived.Test.YtjojmfhgfeflnaaGreatDoorTreeSmall
import Derived.Test.YtjojmfhgfeflnaaGreatDoorOkAll
import Derived.Test.YtjojmfhgfeflnaaGreatDoorEmit
/- Words of the printed proofs, as far as these texts use them. -/
namespace Go.Proofs.YtjojmfhgfeflnaaGreatDoor.QFnExactInner
open Go Go.RowKit Go.Proofs.YtjojmfhgfeflnaaGreatDoorV.PrintWords Go.Proofs.YtjojmfhgfeflnaaGreatDoorV.PrintLast Go.Proofs.YtjojmfhgfeflnaaGreatDoorV.PrintMore Go.Proofs.YtjojmfhgfeflnaaGreatDoor.Val Go.Proofs.YtjojmfhgfeflnaaGreatDoor.TreeIx
set_option linter.unusedVariables false
set_option linter.unusedSimpArgs false
theorem rd_map (l : List S63) (j : Nat) (h : j < l.length) : rd_T57 (l.map of_Node) (j : Nat) = of_Node (l[j]'h) := by
  unfold rd_T57
  rw [Int.toNat_natCast, List.getD_eq_getElem?_getD, List.getElem?_map, List.getElem?_eq_getElem h]
  rfl
theorem attW_sum (l : List S91) : ((l.map of_Attr).map attW).sum ≤ 10 * bulk_AttrS l := by
  unfold bulk_AttrS
  induction l with
  | nil => exact Nat.zero_le _
  | cons a l ih =>
    simp only [List.map_cons, List.sum_cons, List.length_cons] at ih ⊢
    have h : attW (of_Attr a) ≤ 10 * (1 + bulk_Attr a) := by
      unfold attW of_Attr bulk_Attr
      dsimp only
      omega
    omega
theorem nodeW_le (x : S63) : nodeW (of_Node x) ≤ 40 * (1 + bulk_Node x) := by
  have h := attW_sum x.f3
  have e : nodeW (of_Node x) = 6 * x.f4.size + 2 * x.f2.size + ((x.f3.map of_Attr).map attW).sum + 40 := rfl
  rw [e]
  unfold bulk_Node
  omega
theorem sumW_le (l : List S63) : ∀ n, n ≤ l.length → sumW (l.map of_Node) 0 n ≤ 40 * (n + ((l.take n).map bulk_Node).sum) := by
  intro n
  induction n with
  | zero => intro _; exact Nat.zero_le _
  | succ n ih =>
    intro h
    have e : l.take (n + 1) = l.take n ++ [l[n]'h] := by rw [List.take_add_one, List.getElem?_eq_getElem h]; rfl
    have a := ih (by omega)
    have b := nodeW_le (l[n]'h)
    rw [e, List.map_append, List.sum_append]
    show sumW (l.map of_Node) 0 n + nodeW (rd_T57 (l.map of_Node) ((0 + n : Nat) : Int)) ≤ _
    rw [Nat.zero_add, rd_map l n h]
    simp only [List.map_cons, List.map_nil, List.sum_cons, List.sum_nil]
    omega
theorem fine_of (l : List S63) (hb : bulk_NodeS l ≤ 1048576) (hn : ∀ j : Nat, j < (l.map of_Node).length → NodeP (rd_T57 (l.map of_Node) j) (j == 0)) : Fine (l.map of_Node) := by
  have hm := mem_Node hb
  have key : ∀ j : Nat, (h : j < l.length) → bulk_Node (l[j]'h) ≤ 1048576 := fun j h => hm.2 _ (List.getElem_mem h)
  refine { t4 := fun j hj => ?_, t2 := fun j hj => ?_, len := fun j hj => ?_, at_ := fun j hj a ha => ?_, kind := fun j h0 hj => ?_, sum := ?_ }
  · rw [List.length_map] at hj
    rw [rd_map l j hj]
    have := key j hj
    unfold bulk_Node at this
    unfold of_Node
    dsimp only
    omega
  · rw [List.length_map] at hj
    rw [rd_map l j hj]
    have := key j hj
    unfold bulk_Node at this
    unfold of_Node
    dsimp only
    omega
  · rw [List.length_map] at hj
    rw [rd_map l j hj]
    have := key j hj
    unfold bulk_Node bulk_AttrS at this
    unfold of_Node
    dsimp only
    rw [List.length_map]
    omega
  · rw [List.length_map] at hj
    rw [rd_map l j hj] at ha
    have h1 := key j hj
    unfold bulk_Node at h1
    have ha' : a ∈ (l[j]'hj).f3.map of_Attr := ha
    obtain ⟨y, hy, rfl⟩ := List.mem_map.1 ha'
    have h2 := (mem_Attr (n := 1048576) (l := (l[j]'hj).f3) (by omega)).2 y hy
    unfold bulk_Attr at h2
    unfold of_Attr
    dsimp only
    omega
  · have h := hn j hj
    have h1 : (j == 0) = false := beq_eq_false_iff_ne.mpr (by omega)
    rw [h1] at h
    unfold NodeP at h
    obtain ⟨_, _, h2, h3⟩ := h
    rcases h3 with h3 | h3 | h3 | h3 | h3
    · exact absurd (h2.1 h3.1) (by decide)
    · exact .inl h3.1
    · exact .inr ⟨.inl h3.1, by unfold kdOf; rw [h3.2.2.2.2]; rfl⟩
    · exact .inr ⟨.inr (.inl h3.1), by unfold kdOf; rw [h3.2.2.2]; rfl⟩
    · exact .inr ⟨.inr (.inr h3.1), by unfold kdOf; rw [h3.2.2.2]; rfl⟩
  · have h := sumW_le l l.length (Nat.le_refl _)
    rw [List.take_length] at h
    rw [List.length_map]
    unfold bulk_NodeS at hb
    omega
end Go.Proofs.YtjojmfhgfeflnaaGreatDoor.QFnExactInner
