/- FnExactShape, the plain side. -/
import Derived.Test.YtiinihponcojkaaFontMark
namespace Go.Proofs.Ytiinihponcojkaa.QFnExactShape
open Go Go.RowKit Go.Proofs.YtiinihponcojkaaV.PrintWords Go.Proofs.YtiinihponcojkaaV.PrintLast Go.Proofs.YtiinihponcojkaaV.PrintMore Go.Proofs.Ytiinihponcojkaa.Val
set_option linter.unusedVariables false
set_option linter.unusedSimpArgs false

theorem FnExactShape_pure (x : Int × Int × Int × Int × (List S86) × (List S88) × (List S90)) (xs : List Int)
    (h : (Lit.int .i64 x.1).wf = true ∧ (Lit.int .i64 x.2.1).wf = true ∧ (Lit.int .i64 x.2.2.1).wf = true ∧ (Lit.int .i64 x.2.2.2.1).wf = true ∧ (x.2.2.2.2.1.length ≤ maxLen ∧ ∀ y ∈ x.2.2.2.2.1, wf_Glyph y) ∧ (x.2.2.2.2.2.1.length ≤ maxLen ∧ ∀ y ∈ x.2.2.2.2.2.1, wf_Kern y) ∧ (x.2.2.2.2.2.2.length ≤ maxLen ∧ ∀ y ∈ x.2.2.2.2.2.2, wf_Lig y))
    (hx : xs.length ≤ maxLen ∧ ∀ y ∈ xs, (Lit.int .i64 y).wf = true) :
    ∃ k, laws_FnExactShape.f k (x.1) (x.2.1) (x.2.2.1) (x.2.2.2.1) (x.2.2.2.2.1) (x.2.2.2.2.2.1) (x.2.2.2.2.2.2) xs = some true := by
  obtain ⟨a, b, c, d, g, k, l⟩ := x
  obtain ⟨h1, h2, h3, h4, h5, h6, h7⟩ := h
  dsimp only at *
  apply val_rounds (g := fun n => laws_FnExactShape.f n a b c d g k l xs)
  show laws_FnExactShape.F a b c d g k l xs = some true
  rw [laws_FnExactShape.F_eq]
  by_cases q0 : (xs.length : Int) > 1048576
  · rw [if_pos q0]
  · rw [if_neg q0]
    have hxs : xs.length ≤ 1048576 := by omega
    obtain ⟨r, e, _, hr⟩ := sz_Font a b c d g k l h1 h2 h3 h4 h5 h6 h7 1048576 (by omega) (by omega)
    rw [e, Option.bind_some]
    by_cases q : r < 0
    · rw [if_pos q]
    · rw [if_neg q]
      have hb := hr (by omega)
      have hl : bulk_GlyphS g + bulk_KernS k + bulk_LigS l ≤ 1048576 := by omega
      have hl' := hl
      unfold bulk_GlyphS bulk_KernS bulk_LigS at hl'
      obtain ⟨s, e1, e2, hs⟩ := shapes a b c d (g.map of_Glyph) (k.map of_Kern) (l.map of_Lig) xs (by rw [List.length_map]; omega) (by rw [List.length_map]; omega) (by rw [List.length_map]; omega) hxs (wf_kerns k h6.2) (wf_ligs l h7.2) hx.2
      obtain ⟨q1, x1, x2, x3, m1, m2, m3⟩ := mark_font a b c d (g.map of_Glyph) (k.map of_Kern) (l.map of_Lig) (by rw [List.length_map]; omega) (by rw [List.length_map]; omega) (by rw [List.length_map]; omega)
      obtain ⟨y1, n1, _⟩ := mark_ints xs q1 hxs (by omega) (by omega)
      obtain ⟨y2, n2, hc⟩ := mark_ints s 1 (by omega) (by omega) (by omega)
      have n3 := held_ints hc (by omega) (by omega) (by omega)
      have hq : ¬ (q1 + (xs.length : Int) < 0) := by omega
      have hq2 : ¬ (1 + (s.length : Int) < 0) := by omega
      simp only [to_Font a b c d g k l hl, to_ints xs hxs, Option.bind_some, e1, e2, eq_ints s (by omega), eq_Font a b c d g k l hl, eq_ints xs hxs, m1, n1, if_neg hq, if_true, Bool.not_true]
      rw [laws_FnExactShape.J0_eq]
      simp only [n2, n3, to_Font a b c d g k l hl, to_ints xs hxs, Option.bind_some, e2, eq_ints s (by omega), if_neg hq2, if_true, Bool.false_eq_true, if_false]
end Go.Proofs.Ytiinihponcojkaa.QFnExactShape
