/- FnExactSpotOk, the plain side. -/
import Derived.Test.YtjoanlocikagaaaTreeRight
namespace Go.Proofs.Ytjoanlocikagaaa.QFnExactSpotOk
open Go Go.RowKit Go.Proofs.YtjoanlocikagaaaV.PrintWords Go.Proofs.YtjoanlocikagaaaV.PrintLast Go.Proofs.YtjoanlocikagaaaV.PrintMore Go.Proofs.Ytjoanlocikagaaa.Val Go.Proofs.Ytjoanlocikagaaa.TreeIx
set_option linter.unusedVariables false
set_option linter.unusedSimpArgs false

theorem spot_spec (l : List S134) (R : Right l) (id at' : Int) (h : spec_TreeOk.F l = some true) : spec_SpotOk.F l id at' = some (spotB l id at') := by
  rw [spec_SpotOk.F_eq, h, Option.bind_some, if_pos rfl, l4At_is l R, Option.bind_some]
  cases ha : atI l id with
  | none =>
    rw [placeOf_none ha, if_neg (by omega)]
    unfold spotB
    rw [ha]
  | some j =>
    obtain ⟨hj, hid⟩ := at__lt ha
    have hk : (rd_T134 l (j : Nat)).f5 = (kdOf l j : Int) := by unfold kdOf; rw [Int.toNat_of_nonneg (R.kids j hj)]
    have hs : spotB l id at' = (decide (0 ≤ at') && decide (at' ≤ most l j)) := by unfold spotB; rw [ha]
    rw [placeOf_some ha, hs, if_pos (by omega)]
    by_cases h0 : at' ≥ 0
    · rw [if_pos h0, if_pos (by omega), if_pos (by omega)]
      unfold spec_l5Most.f most
      rw [decide_eq_true (show 0 ≤ at' from h0), Bool.true_and]
      by_cases h3 : (rd_T134 l (j : Nat)).f1 = 3
      · rw [if_pos h3, if_pos h3]
        rfl
      · rw [if_neg h3, if_neg h3, hk]
        rfl
    · rw [if_neg h0, decide_eq_false (show ¬ 0 ≤ at' from h0)]
      rfl
theorem FnExactSpotOk_pure (l : List S193) (s : Int × Int) (h : l.length ≤ maxLen ∧ ∀ x ∈ l, wf_Node x) (hs : (Lit.int .i64 s.1).wf = true ∧ (Lit.int .i64 s.2).wf = true) : ∃ k, laws_FnExactSpotOk.f k l s.1 s.2 = some true := by
  obtain ⟨s0, s1⟩ := s
  show ∃ k, laws_FnExactSpotOk.f k l s0 s1 = some true
  apply val_rounds (g := fun k => laws_FnExactSpotOk.f k l s0 s1)
  show laws_FnExactSpotOk.F l s0 s1 = some true
  rw [laws_FnExactSpotOk.F_eq]
  obtain ⟨r, e, _, hr⟩ := sz_Tree l h 1048576 (by omega) (by omega)
  rw [e, Option.bind_some]
  by_cases c : r < 0
  · rw [if_pos c]
  · rw [if_neg c]
    have hb := hr (by omega)
    have hl : bulk_NodeS l ≤ 1048576 := by omega
    have S := tree_small l h hl
    obtain ⟨q, h1, h2, h3⟩ := tree_right (l.map of_Node) S
    have key : ∃ t, spec_SpotOk.F (l.map of_Node) s0 s1 = some t ∧ impl_SpotOk.F (l.map of_Node) s0 s1 = some t := by
      rw [impl_SpotOk.F_eq, h2, Option.bind_some]
      cases q with
      | false =>
        refine ⟨false, ?_, if_neg (by simp)⟩
        rw [spec_SpotOk.F_eq, h1, Option.bind_some, if_neg (by simp)]
      | true =>
        have R := (h3 rfl).1
        refine ⟨_, spot_spec _ R s0 s1 h1, ?_⟩
        rw [if_pos rfl]
        unfold rightSpot
        rw [if_pos R]
    obtain ⟨t, k1, k2⟩ := key
    unfold laws_toSpot.f
    simp only [to_Tree l hl, Option.bind_some, k1, k2, eq_Tree l hl, bne_self_eq_false, Bool.false_eq_true, if_false, if_true]
end Go.Proofs.Ytjoanlocikagaaa.QFnExactSpotOk
