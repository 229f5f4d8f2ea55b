/- FnExactParseNumber, the plain side. -/
import Derived.Test.YtnobgcnldnlbiaaWordSA
import Derived.Test.YtnobgcnldnlbiaaWTrimA
namespace Go.Proofs.Ytnobgcnldnlbiaa.PFnExactParseNumber
open Go Go.RowKit Go.Proofs.YtnobgcnldnlbiaaW.PrintWords Go.Proofs.YtnobgcnldnlbiaaW.PrintLast Go.Proofs.YtnobgcnldnlbiaaW.PrintMore Go.Proofs.Ytnobgcnldnlbiaa.Val
set_option linter.unusedVariables false
set_option linter.unusedSimpArgs false

theorem both (l : List S63) (hl : l.length ≤ 1048576) : ∃ r, spec_ParseNumber.F l = some r ∧ impl_ParseNumber.F l = some r := by
  rw [spec_ParseNumber.F_eq, impl_ParseNumber.F_eq, trim_F l hl, trimmed_F l (by omega)]
  simp only [Option.bind_some]
  generalize trimW l = t
  by_cases h : (t.length : Int) = 1
  · rw [if_pos h, if_pos (by omega)]
    split
    · split
      · exact ⟨_, rfl, rfl⟩
      · exact ⟨_, rfl, rfl⟩
    · exact ⟨_, rfl, rfl⟩
  · rw [if_neg h]
    exact ⟨_, rfl, rfl⟩

theorem FnExactParseNumber_pure (l : List S60) (h : l.length ≤ maxLen ∧ ∀ x ∈ l, (Lit.int .i64 x.f0).wf = true ∧ x.f1.size ≤ maxLen ∧ (Lit.int .i64 x.f2).wf = true ∧ x.f3.size ≤ maxLen) :
    ∃ k, laws_FnExactParseNumber.f k l = some true := by
  apply val_rounds (g := fun k => laws_FnExactParseNumber.f k l)
  show laws_FnExactParseNumber.F l = some true
  rw [laws_FnExactParseNumber.F_eq]
  obtain ⟨r, e, _, hr⟩ := sz_words l h.1 (fun x hx => ⟨(h.2 x hx).2.1, (h.2 x hx).2.2.2⟩) 1048576 (by omega) (by omega)
  rw [e, Option.bind_some]
  by_cases c : r < 0
  · rw [if_pos c]
  · rw [if_neg c]
    have hb := hr (by omega)
    have hl : l.length ≤ 1048576 := by omega
    obtain ⟨q, h1, h2⟩ := both (l.map wordOf) (by simpa using hl)
    simp only [toWordS_F l hl, Option.bind_some, h1, h2, if_true, laws_FnExactParseNumber.J0_eq, eqWordS_self _ (by simp; omega : (l.map wordOf).length ≤ 9223372036854775806), bne_self_eq_false, Bool.false_eq_true, if_false]

end Go.Proofs.Ytnobgcnldnlbiaa.PFnExactParseNumber
