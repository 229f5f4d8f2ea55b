/- FnExactFindId, the plain side. -/
import Derived.Test.YtjoanlocikagaaaTreeNodes
namespace Go.Proofs.Ytjoanlocikagaaa.QFnExactFindId
open Go Go.RowKit Go.Proofs.YtjoanlocikagaaaV.PrintWords Go.Proofs.YtjoanlocikagaaaV.PrintLast Go.Proofs.YtjoanlocikagaaaV.PrintMore Go.Proofs.Ytjoanlocikagaaa.Val
set_option linter.unusedVariables false
set_option linter.unusedSimpArgs false

/-- Where the attribute stands: both programs tell the same place, which is one of the list, or -1. -/
theorem attr_both (l : List S143) (s : ByteArray) (hl : l.length ≤ 1048576) (a0 a1 : Int) (a2 : ByteArray) (a4 : ByteArray) (a5 : Int) : ∀ (d i : Nat), i + d = l.length →
    ∃ t : Int, spec_l5Attr.L0 s i a0 a1 a2 l a4 a5 = some t ∧ impl_Attr.L0 l s l.length i = some t ∧ -1 ≤ t ∧ t < l.length
  | 0, i, h => by
    rw [spec_l5Attr.L0_eq, impl_Attr.L0_eq, if_neg (by omega), if_neg (by omega)]
    exact ⟨-1, rfl, rfl, by omega, by omega⟩
  | d + 1, i, h => by
    have hw : wrap64 ((i : Int) + 1) = ((i + 1 : Nat) : Int) := by rw [w64 (by omega) (by omega)]; rfl
    have es : spec_l5Attr.L0 s i a0 a1 a2 l a4 a5 = if (rd_T143 l i).f0.toList = s.toList then some (i : Int) else spec_l5Attr.L0 s ((i + 1 : Nat) : Int) a0 a1 a2 l a4 a5 := by
      rw [spec_l5Attr.L0_eq, if_pos (by omega), if_pos (by omega), hw]
    have ei : impl_Attr.L0 l s l.length i = if (rd_T143 l i).f0.toList = s.toList then some (i : Int) else impl_Attr.L0 l s l.length ((i + 1 : Nat) : Int) := by
      rw [impl_Attr.L0_eq, if_pos (by omega), if_pos (by omega), if_pos (by omega), hw]
      unfold impl_attrAt_c1.f
      rw [Option.bind_some]
      simp only [beq_iff_eq]
    rw [es, ei]
    by_cases e : (rd_T143 l i).f0.toList = s.toList
    · rw [if_pos e, if_pos e]
      exact ⟨i, rfl, rfl, by omega, by omega⟩
    · rw [if_neg e, if_neg e]
      exact attr_both l s hl a0 a1 a2 a4 a5 d (i + 1) (by omega)
theorem find_both (l : List S134) (S : Small l) (v : ByteArray) (hn : ∀ j : Nat, j < l.length → NodeP (rd_T134 l j) (j == 0)) : ∀ (d i : Nat), i + d = l.length →
    ∃ t : Int, spec_FindId.L0 v i l = some t ∧ impl_FindId.L0 v l l.length i = some t
  | 0, i, h => by
    rw [spec_FindId.L0_eq, impl_FindId.L0_eq, if_neg (by omega), if_neg (by omega)]
    exact ⟨-1, rfl, rfl⟩
  | d + 1, i, h => by
    have hl := S.len
    have hw : wrap64 ((i : Int) + 1) = ((i + 1 : Nat) : Int) := by rw [w64 (by omega) (by omega)]; rfl
    obtain ⟨t, e1, e2, h1, h2⟩ := attr_both (rd_T134 l i).f3 (⟨#[105, 100]⟩ : ByteArray) (S.attrs i) (rd_T134 l i).f0 (rd_T134 l i).f1 (rd_T134 l i).f2 (rd_T134 l i).f4 (rd_T134 l i).f5 _ 0 (Nat.zero_add _)
    rw [show (((0 : Nat) : Int)) = 0 from rfl] at e1 e2
    have es : spec_FindId.L0 v i l = if t ≥ 0 then (if 0 ≤ t then (if t < ((rd_T134 l i).f3.length : Int) then (if (rd_T143 (rd_T134 l i).f3 t).f1.toList = v.toList then some (rd_T134 l i).f0 else spec_FindId.L0 v ((i + 1 : Nat) : Int) l) else none) else none) else spec_FindId.L0 v ((i + 1 : Nat) : Int) l := by
      rw [spec_FindId.L0_eq, if_pos (by omega), if_pos (by omega), spec_l5Attr.F_eq, e1, Option.bind_some, hw]
    have ei : impl_FindId.L0 v l l.length i = if (rd_T134 l i).f1 = 2 then (if t ≥ 0 then (if 0 ≤ t then (if t < ((rd_T134 l i).f3.length : Int) then (if (rd_T143 (rd_T134 l i).f3 t).f1.toList = v.toList then some (rd_T134 l i).f0 else impl_FindId.L0 v l l.length ((i + 1 : Nat) : Int)) else none) else none) else impl_FindId.L0 v l l.length ((i + 1 : Nat) : Int)) else impl_FindId.L0 v l l.length ((i + 1 : Nat) : Int) := by
      rw [impl_FindId.L0_eq, if_pos (by omega), if_pos (by omega), if_pos (by omega), impl_attrAt.F_eq, impl_Attr.F_eq, e2, Option.bind_some, Option.bind_some, hw]
    rw [es, ei]
    have ih := find_both l S v hn d (i + 1) (by omega)
    by_cases ht : t ≥ 0
    · have hk : (rd_T134 l i).f1 = 2 := Decidable.byContradiction fun c => by
        have := (hn i (by omega)).attrs c
        rw [this] at h2
        simp at h2
        omega
      have ht2 : 0 ≤ t := ht
      simp only [ht, ht2, h2, hk, if_true]
      by_cases c : (rd_T143 (rd_T134 l i).f3 t).f1.toList = v.toList
      · simp only [c, if_true]
        exact ⟨_, rfl, rfl⟩
      · simp only [c, if_false]
        exact ih
    · simp only [ht, if_false, ite_self]
      exact ih
theorem FnExactFindId_pure (l : List S193) (v : ByteArray) (h : l.length ≤ maxLen ∧ ∀ x ∈ l, wf_Node x) (hv : v.size ≤ maxLen) : ∃ k, laws_FnExactFindId.f k l v = some true := by
  apply val_rounds (g := fun k => laws_FnExactFindId.f k l v)
  show laws_FnExactFindId.F l v = some true
  rw [laws_FnExactFindId.F_eq]
  by_cases c0 : (v.size : Int) > 1048576
  · rw [if_pos c0]
  rw [if_neg c0]
  obtain ⟨r, e, _, hr⟩ := sz_Tree l h 1048576 (by omega) (by omega)
  rw [e, Option.bind_some]
  by_cases c : r < 0
  · rw [if_pos c]
  · rw [if_neg c]
    have hb := hr (by omega)
    have hl : bulk_NodeS l ≤ 1048576 := by omega
    have S := tree_small l h hl
    obtain ⟨q, h1, h2, h3⟩ := tree_is (l.map of_Node) S
    have key : ∃ t, spec_FindId.F (l.map of_Node) v = some t ∧ impl_FindId.F (l.map of_Node) v = some t := by
      rw [spec_FindId.F_eq, impl_FindId.F_eq, h1, h2, Option.bind_some, Option.bind_some]
      cases q with
      | false => exact ⟨-1, rfl, rfl⟩
      | true =>
        rw [if_pos rfl, if_pos rfl]
        exact find_both (l.map of_Node) S v (h3 rfl).2 _ 0 (Nat.zero_add _)
    obtain ⟨t, k1, k2⟩ := key
    simp only [to_Tree l hl, Option.bind_some, k1, k2, eq_Tree l hl, if_true]

end Go.Proofs.Ytjoanlocikagaaa.QFnExactFindId
