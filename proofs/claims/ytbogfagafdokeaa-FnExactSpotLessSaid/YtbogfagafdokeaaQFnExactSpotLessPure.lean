/- FnExactSpotLess, the plain side. -/
import Derived.Test.YtbogfagafdokeaaPathP
import Derived.Test.YtbogfagafdokeaaCmpP
namespace Go.Proofs.Ytbogfagafdokeaa.QFnExactSpotLess
open Go Go.RowKit Go.Proofs.YtbogfagafdokeaaV.PrintWords Go.Proofs.YtbogfagafdokeaaV.PrintLast Go.Proofs.YtbogfagafdokeaaV.PrintMore Go.Proofs.Ytbogfagafdokeaa.Val Go.Proofs.Ytbogfagafdokeaa.TreeIx
set_option linter.unusedVariables false
set_option linter.unusedSimpArgs false

theorem spot_spec (l : List S59) (R : Right l) (id at' : Int) (h : spec_TreeOk.F l = some true) : spec_SpotOk.F l id at' = some (spotB l id at') := by
  rw [spec_SpotOk.F_eq, h, Option.bind_some, if_pos rfl, l4At_is l R, Option.bind_some]
  cases ha : atI l id with
  | none =>
    rw [placeOf_none ha, if_neg (by omega)]
    unfold spotB
    rw [ha]
  | some j =>
    obtain ⟨hj, hid⟩ := at__lt ha
    have hk : (rd_T59 l (j : Nat)).f5 = (kdOf l j : Int) := by unfold kdOf; rw [Int.toNat_of_nonneg (R.kids j hj)]
    have hs : spotB l id at' = (decide (0 ≤ at') && decide (at' ≤ most l j)) := by unfold spotB; rw [ha]
    rw [placeOf_some ha, hs, if_pos (by omega)]
    by_cases h0 : at' ≥ 0
    · rw [if_pos h0, if_pos (by omega), if_pos (by omega)]
      unfold spec_l5Most.f most
      rw [decide_eq_true (show 0 ≤ at' from h0), Bool.true_and]
      by_cases h3 : (rd_T59 l (j : Nat)).f1 = 3
      · rw [if_pos h3, if_pos h3]
        rfl
      · rw [if_neg h3, if_neg h3, hk]
        rfl
    · rw [if_neg h0, decide_eq_false (show ¬ 0 ≤ at' from h0)]
      rfl
theorem text_small (l : List S64) (hb : bulk_NodeS l ≤ 1048576) (j : Nat) : (rd_T59 (l.map of_Node) (j : Nat)).f4.size ≤ 1048576 := by
  have hm := mem_Node hb
  unfold rd_T59
  rw [Int.toNat_natCast, List.getD_eq_getElem?_getD, List.getElem?_map]
  cases e : l[j]? with
  | none => exact Nat.zero_le _
  | some x =>
    have h1 := hm.2 x (List.mem_of_getElem? e)
    unfold bulk_Node at h1
    show x.f4.size ≤ _
    omega
/-- A spot that is one: where, and how far. -/
theorem spot_in (l : List S59) (R : Right l) (hz : ∀ j : Nat, (rd_T59 l (j : Nat)).f4.size ≤ 1048576) {id at' : Int} (h : spotB l id at' = true) : ∃ j, atI l id = some j ∧ j < l.length ∧ 0 ≤ at' ∧ at' ≤ 1048576 := by
  unfold spotB at h
  cases ha : atI l id with
  | none =>
    rw [ha] at h
    cases h
  | some j =>
    obtain ⟨hj, hid⟩ := at__lt ha
    rw [ha] at h
    have h : (decide (0 ≤ at') && decide (at' ≤ most l j)) = true := h
    rw [Bool.and_eq_true, decide_eq_true_iff, decide_eq_true_iff] at h
    refine ⟨j, rfl, hj, h.1, ?_⟩
    have h2 := h.2
    have := hz j
    obtain ⟨e, fe, _⟩ := R.fits.inner (Nat.zero_le j) hj
    have := fe.count
    have := fe.le
    have := R.len4
    unfold most at h2
    split at h2 <;> omega
theorem pathR_is (l : List S59) {id at' : Int} {j : Nat} (ha : atI l id = some j) (hj : j ≤ 4000) (h0 : 0 ≤ at') (h1 : at' ≤ 1048576) : impl_pathR.F l id at' = some (wayI (ways l j).reverse at') := by
  rw [impl_pathR.F_eq, ha, Option.bind_some, w64 (by omega) (by omega), rev_is _ (by have := chain_len l j; simp only [List.length_cons]; omega), chain_ways l j j (Nat.le_refl _), List.reverse_cons, ← List.map_reverse]
  rfl
theorem less_is (l : List S59) (R : Right l) (hz : ∀ j : Nat, (rd_T59 l (j : Nat)).f4.size ≤ 1048576) {a0 a1 b0 b1 : Int} (ha : spotB l a0 a1 = true) (hb : spotB l b0 b1 = true) : ∃ b, impl_lessR.F l a0 a1 b0 b1 = some b ∧ spec_l5Less.F l a0 a1 b0 b1 = some b := by
  obtain ⟨i, i1, i2, i3, i4⟩ := spot_in l R hz ha
  obtain ⟨j, j1, j2, j3, j4⟩ := spot_in l R hz hb
  have hl := R.len4
  have w1 := ways_len l i
  have w2 := ways_len l j
  obtain ⟨c, h1, h2⟩ := cmp_same (ways l i).reverse (ways l j).reverse a1 b1 (by rw [List.length_reverse]; omega) (by rw [List.length_reverse]; omega)
  refine ⟨decide (c < 0), ?_, ?_⟩
  · rw [impl_lessR.F_eq, pathR_is l i1 (by omega) i3 i4, Option.bind_some, pathR_is l j1 (by omega) j3 j4, Option.bind_some, h1]
    rfl
  · rw [spec_l5Less.F_eq, path_is l R i1, Option.bind_some, path_is l R j1, Option.bind_some]
    exact h2
theorem FnExactSpotLess_pure (l : List S64) (a b : Int × Int) (h : l.length ≤ maxLen ∧ ∀ x ∈ l, wf_Node x) (ha : (Lit.int .i64 a.1).wf = true ∧ (Lit.int .i64 a.2).wf = true) (hb : (Lit.int .i64 b.1).wf = true ∧ (Lit.int .i64 b.2).wf = true) : ∃ k, laws_FnExactSpotLess.f k l a.1 a.2 b.1 b.2 = some true := by
  obtain ⟨a0, a1⟩ := a
  obtain ⟨b0, b1⟩ := b
  show ∃ k, laws_FnExactSpotLess.f k l a0 a1 b0 b1 = some true
  apply val_rounds (g := fun k => laws_FnExactSpotLess.f k l a0 a1 b0 b1)
  show laws_FnExactSpotLess.F l a0 a1 b0 b1 = some true
  rw [laws_FnExactSpotLess.F_eq]
  obtain ⟨r, e, _, hr⟩ := sz_Tree l h 1048576 (by omega) (by omega)
  rw [e, Option.bind_some]
  by_cases c : r < 0
  · rw [if_pos c]
  · rw [if_neg c]
    have hb' := hr (by omega)
    have hl : bulk_NodeS l ≤ 1048576 := by omega
    have S := tree_small l h hl
    have hz := text_small l hl
    obtain ⟨q, h1, h2, h3⟩ := tree_right (l.map of_Node) S
    have key : ∃ t, spec_SpotLess.F (l.map of_Node) a0 a1 b0 b1 = some t ∧ impl_SpotLess.F (l.map of_Node) a0 a1 b0 b1 = some t := by
      rw [impl_SpotLess.F_eq, spec_SpotLess.F_eq, h2, Option.bind_some]
      cases q with
      | false =>
        refine ⟨false, ?_, if_neg (by simp)⟩
        rw [spec_SpotOk.F_eq, h1, Option.bind_some, if_neg (by simp), Option.bind_some, if_neg (by simp)]
      | true =>
        have R := (h3 rfl).1
        have hro : rightO (l.map of_Node) = some () := by unfold rightO; rw [if_pos R]
        rw [if_pos rfl, hro, Option.bind_some, spot_spec _ R a0 a1 h1, Option.bind_some, spot_spec _ R b0 b1 h1, Option.bind_some]
        by_cases ca : spotB (l.map of_Node) a0 a1 = true
        · rw [if_pos ca, if_pos ca]
          by_cases cb : spotB (l.map of_Node) b0 b1 = true
          · rw [if_pos cb, if_pos cb]
            obtain ⟨t, k1, k2⟩ := less_is _ R hz ca cb
            exact ⟨t, by rw [k2]; rfl, k1⟩
          · rw [if_neg cb, if_neg cb]
            exact ⟨false, rfl, rfl⟩
        · rw [if_neg ca, if_neg ca]
          exact ⟨false, rfl, rfl⟩
    obtain ⟨t, k1, k2⟩ := key
    unfold laws_toSpot.f
    simp only [to_Tree l hl, Option.bind_some, k1, k2, eq_Tree l hl, bne_self_eq_false, Bool.false_eq_true, if_false, if_true]
end Go.Proofs.Ytbogfagafdokeaa.QFnExactSpotLess
