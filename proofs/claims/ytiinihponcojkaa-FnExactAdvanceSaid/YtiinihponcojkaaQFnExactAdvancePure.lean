/- FnExactAdvance, the plain side. -/
import Derived.Test.YtiinihponcojkaaAdvP
import Derived.Test.YtiinihponcojkaaFontWf
import Derived.Test.YtiinihponcojkaaIntsQ
namespace Go.Proofs.Ytiinihponcojkaa.QFnExactAdvance
open Go Go.RowKit Go.Proofs.YtiinihponcojkaaV.PrintWords Go.Proofs.YtiinihponcojkaaV.PrintLast Go.Proofs.YtiinihponcojkaaV.PrintMore Go.Proofs.Ytiinihponcojkaa.Val
set_option linter.unusedVariables false
set_option linter.unusedSimpArgs false

theorem FnExactAdvance_pure (x : Int × Int × Int × Int × (List S86) × (List S88) × (List S90)) (xs : List Int) (size : Int)
    (h : (Lit.int .i64 x.1).wf = true ∧ (Lit.int .i64 x.2.1).wf = true ∧ (Lit.int .i64 x.2.2.1).wf = true ∧ (Lit.int .i64 x.2.2.2.1).wf = true ∧ (x.2.2.2.2.1.length ≤ maxLen ∧ ∀ y ∈ x.2.2.2.2.1, wf_Glyph y) ∧ (x.2.2.2.2.2.1.length ≤ maxLen ∧ ∀ y ∈ x.2.2.2.2.2.1, wf_Kern y) ∧ (x.2.2.2.2.2.2.length ≤ maxLen ∧ ∀ y ∈ x.2.2.2.2.2.2, wf_Lig y))
    (hx : xs.length ≤ maxLen ∧ ∀ y ∈ xs, (Lit.int .i64 y).wf = true) (_hz : (Lit.int .i64 size).wf = true) :
    ∃ k, laws_FnExactAdvance.f k (x.1) (x.2.1) (x.2.2.1) (x.2.2.2.1) (x.2.2.2.2.1) (x.2.2.2.2.2.1) (x.2.2.2.2.2.2) xs size = some true := by
  obtain ⟨a, b, c, d, g, k, l⟩ := x
  obtain ⟨h1, h2, h3, h4, h5, h6, h7⟩ := h
  dsimp only at *
  apply val_rounds (g := fun n => laws_FnExactAdvance.f n a b c d g k l xs size)
  show laws_FnExactAdvance.F a b c d g k l xs size = some true
  rw [laws_FnExactAdvance.F_eq]
  by_cases q0 : (xs.length : Int) > 1048576
  · rw [if_pos q0]
  · rw [if_neg q0]
    have hxs : xs.length ≤ 1048576 := by omega
    obtain ⟨r, e, _, hr⟩ := sz_Font a b c d g k l h1 h2 h3 h4 h5 h6 h7 1048576 (by omega) (by omega)
    rw [e, Option.bind_some]
    by_cases q : r < 0
    · rw [if_pos q]
    · rw [if_neg q]
      have hb := hr (by omega)
      have hl : bulk_GlyphS g + bulk_KernS k + bulk_LigS l ≤ 1048576 := by omega
      have hl' := hl
      unfold bulk_GlyphS bulk_KernS bulk_LigS at hl'
      obtain ⟨s, e1, e2⟩ := advances a b c d (g.map of_Glyph) (k.map of_Kern) (l.map of_Lig) xs size (by rw [List.length_map]; omega) (by rw [List.length_map]; omega) (by rw [List.length_map]; omega) hxs (wf_kerns k h6.2) (wf_ligs l h7.2) hx.2
      simp only [to_Font a b c d g k l hl, to_ints xs hxs, Option.bind_some, e1, e2, eq_Font a b c d g k l hl, eq_ints xs hxs, if_true]
end Go.Proofs.Ytiinihponcojkaa.QFnExactAdvance
