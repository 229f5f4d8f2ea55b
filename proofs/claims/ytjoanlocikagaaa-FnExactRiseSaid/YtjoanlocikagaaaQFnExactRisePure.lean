/- FnExactRise, the plain side. -/
import Derived.Test.YtjoanlocikagaaaFontPR
import Derived.Test.YtjoanlocikagaaaConvFnExactRise
namespace Go.Proofs.Ytjoanlocikagaaa.QFnExactRise
open Go Go.RowKit Go.Proofs.YtjoanlocikagaaaV.PrintWords Go.Proofs.YtjoanlocikagaaaV.PrintLast Go.Proofs.YtjoanlocikagaaaV.PrintMore Go.Proofs.Ytjoanlocikagaaa.Val
set_option linter.unusedVariables false
set_option linter.unusedSimpArgs false

theorem floor_some (a b : Int) (h : b ≠ 0) : ∃ r, spec_l9Floor.f a b = some r ∧ impl_down.f a b = some r := by
  have e : impl_down.f = spec_l9Floor.f := rfl
  rw [e]
  unfold spec_l9Floor.f
  rw [if_neg h]
  split
  · exact ⟨_, rfl, rfl⟩
  · split
    · exact ⟨_, rfl, rfl⟩
    · exact ⟨_, rfl, rfl⟩
theorem rise_both (a b c d : Int) (g : List S108) (k : List S110) (l : List S113) (n : Int) (hg : g.length ≤ 1048576) (hk : k.length ≤ 1048576) (hl : l.length ≤ 1048576) : ∃ t, spec_Rise.F a b c d g k l n = some t ∧ impl_Rise.F a b c d g k l n = some t := by
  rw [spec_Rise.F_eq, impl_Rise.F_eq]
  obtain ⟨r, e1, hr⟩ := font_spec a b c d g k l hg hk hl
  obtain ⟨r', e2, hr'⟩ := font_impl a b c d g k l hg hk hl
  have : r = r' := Bool.eq_iff_iff.2 (hr.trans hr'.symm)
  subst this
  rw [e1, e2, Option.bind_some, Option.bind_some]
  have hJ : ∀ f : Bool, (f = false → FontP a b c d g k l) → ∃ t, spec_Rise.J0 n f a b c d g k l = some t ∧ impl_Rise.J0 n f a b c d g k l = some t := by
    intro f hf
    rw [spec_Rise.J0_eq, impl_Rise.J0_eq]
    cases f with
    | true => exact ⟨_, by rw [if_pos rfl], by rw [if_pos rfl]⟩
    | false =>
      have ha : a ≠ 0 := by have := (hf rfl).1.1.1; omega
      obtain ⟨x, h1, h2⟩ := floor_some (wrap64 (b * n)) a ha
      obtain ⟨y, h3, h4⟩ := floor_some (wrap64 (c * n)) a ha
      rw [if_neg (by simp), if_neg (by simp), h1, h2, h3, h4]
      exact ⟨_, rfl, rfl⟩
  cases r with
  | false => exact hJ true (by simp)
  | true =>
    rw [if_pos rfl, if_pos rfl]
    by_cases c0 : n < 0
    · rw [if_pos c0, if_pos c0]
      exact hJ true (by simp)
    · rw [if_neg c0, if_neg c0]
      exact hJ _ (fun _ => hr.1 rfl)
theorem FnExactRise_pure (x : Int × Int × Int × Int × (List S182) × (List S184) × (List S186)) (n : Int)
    (h : (Lit.int .i64 x.1).wf = true ∧ (Lit.int .i64 x.2.1).wf = true ∧ (Lit.int .i64 x.2.2.1).wf = true ∧ (Lit.int .i64 x.2.2.2.1).wf = true ∧ (x.2.2.2.2.1.length ≤ maxLen ∧ ∀ y ∈ x.2.2.2.2.1, wf_Glyph y) ∧ (x.2.2.2.2.2.1.length ≤ maxLen ∧ ∀ y ∈ x.2.2.2.2.2.1, wf_Kern y) ∧ (x.2.2.2.2.2.2.length ≤ maxLen ∧ ∀ y ∈ x.2.2.2.2.2.2, wf_Lig y))
    (hn : (Lit.int .i64 n).wf = true) :
    ∃ k, laws_FnExactRise.f k (x.1) (x.2.1) (x.2.2.1) (x.2.2.2.1) (x.2.2.2.2.1) (x.2.2.2.2.2.1) (x.2.2.2.2.2.2) n = some true := by
  obtain ⟨a, b, c, d, g, k, l⟩ := x
  obtain ⟨h1, h2, h3, h4, h5, h6, h7⟩ := h
  dsimp only at *
  apply val_rounds (g := fun q => laws_FnExactRise.f q a b c d g k l n)
  show laws_FnExactRise.F a b c d g k l n = some true
  rw [laws_FnExactRise.F_eq]
  obtain ⟨r, e, _, hr⟩ := sz_Font a b c d g k l h1 h2 h3 h4 h5 h6 h7 1048576 (by omega) (by omega)
  rw [e, Option.bind_some]
  by_cases q : r < 0
  · rw [if_pos q]
  · rw [if_neg q]
    have hb := hr (by omega)
    have hl : bulk_GlyphS g + bulk_KernS k + bulk_LigS l ≤ 1048576 := by omega
    have hl' := hl
    unfold bulk_GlyphS bulk_KernS bulk_LigS at hl'
    obtain ⟨t, e1, e2⟩ := rise_both a b c d (g.map of_Glyph) (k.map of_Kern) (l.map of_Lig) n (by rw [List.length_map]; omega) (by rw [List.length_map]; omega) (by rw [List.length_map]; omega)
    simp only [to_Font a b c d g k l hl, Option.bind_some, e1, e2, laws_FnExactRise.J0_eq, eq_Font a b c d g k l hl, bne_self_eq_false, Bool.false_eq_true, if_false, if_true, eq_self]

end Go.Proofs.Ytjoanlocikagaaa.QFnExactRise
