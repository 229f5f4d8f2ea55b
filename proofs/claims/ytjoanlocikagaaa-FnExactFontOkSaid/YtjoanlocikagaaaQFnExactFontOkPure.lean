/- FnExactFontOk, the plain side. -/
import Derived.Test.YtjoanlocikagaaaFontP
import Derived.Test.YtjoanlocikagaaaConvFnExactFontOk
namespace Go.Proofs.Ytjoanlocikagaaa.QFnExactFontOk
open Go Go.RowKit Go.Proofs.YtjoanlocikagaaaV.PrintWords Go.Proofs.YtjoanlocikagaaaV.PrintLast Go.Proofs.YtjoanlocikagaaaV.PrintMore Go.Proofs.Ytjoanlocikagaaa.Val
set_option linter.unusedVariables false
set_option linter.unusedSimpArgs false

theorem FnExactFontOk_pure (x : Int × Int × Int × Int × (List S182) × (List S184) × (List S186))
    (h : (Lit.int .i64 x.1).wf = true ∧ (Lit.int .i64 x.2.1).wf = true ∧ (Lit.int .i64 x.2.2.1).wf = true ∧ (Lit.int .i64 x.2.2.2.1).wf = true ∧ (x.2.2.2.2.1.length ≤ maxLen ∧ ∀ y ∈ x.2.2.2.2.1, wf_Glyph y) ∧ (x.2.2.2.2.2.1.length ≤ maxLen ∧ ∀ y ∈ x.2.2.2.2.2.1, wf_Kern y) ∧ (x.2.2.2.2.2.2.length ≤ maxLen ∧ ∀ y ∈ x.2.2.2.2.2.2, wf_Lig y)) :
    ∃ k, laws_FnExactFontOk.f k (x.1) (x.2.1) (x.2.2.1) (x.2.2.2.1) (x.2.2.2.2.1) (x.2.2.2.2.2.1) (x.2.2.2.2.2.2) = some true := by
  obtain ⟨a, b, c, d, g, k, l⟩ := x
  obtain ⟨h1, h2, h3, h4, h5, h6, h7⟩ := h
  dsimp only at *
  apply val_rounds (g := fun n => laws_FnExactFontOk.f n a b c d g k l)
  show laws_FnExactFontOk.F a b c d g k l = some true
  rw [laws_FnExactFontOk.F_eq]
  obtain ⟨r, e, _, hr⟩ := sz_Font a b c d g k l h1 h2 h3 h4 h5 h6 h7 1048576 (by omega) (by omega)
  rw [e, Option.bind_some]
  by_cases q : r < 0
  · rw [if_pos q]
  · rw [if_neg q]
    have hb := hr (by omega)
    have hl : bulk_GlyphS g + bulk_KernS k + bulk_LigS l ≤ 1048576 := by omega
    have hl' := hl
    unfold bulk_GlyphS bulk_KernS bulk_LigS at hl'
    obtain ⟨t, e1, e2⟩ := (font_spec a b c d (g.map of_Glyph) (k.map of_Kern) (l.map of_Lig) (by rw [List.length_map]; omega) (by rw [List.length_map]; omega) (by rw [List.length_map]; omega)).same
      (font_impl a b c d (g.map of_Glyph) (k.map of_Kern) (l.map of_Lig) (by rw [List.length_map]; omega) (by rw [List.length_map]; omega) (by rw [List.length_map]; omega))
    simp only [to_Font a b c d g k l hl, Option.bind_some, e1, e2, eq_Font a b c d g k l hl, bne_self_eq_false, Bool.false_eq_true, if_false, if_true]

end Go.Proofs.Ytjoanlocikagaaa.QFnExactFontOk
