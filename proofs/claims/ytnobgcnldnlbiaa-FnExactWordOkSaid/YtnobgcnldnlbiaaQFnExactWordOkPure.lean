/- FnExactWordOk, the plain side. -/
import Derived.Test.YtnobgcnldnlbiaaWordOkPA
namespace Go.Proofs.Ytnobgcnldnlbiaa.QFnExactWordOk
open Go Go.RowKit Go.Proofs.YtnobgcnldnlbiaaW.PrintWords Go.Proofs.YtnobgcnldnlbiaaW.PrintLast Go.Proofs.YtnobgcnldnlbiaaW.PrintMore Go.Proofs.Ytnobgcnldnlbiaa.Val
set_option linter.unusedVariables false
set_option linter.unusedSimpArgs false

theorem FnExactWordOk_pure (x : Int × ByteArray × Int × ByteArray) (h : (Lit.int .i64 x.1).wf = true ∧ x.2.1.size ≤ maxLen ∧ (Lit.int .i64 x.2.2.1).wf = true ∧ x.2.2.2.size ≤ maxLen) :
    ∃ k, laws_FnExactWordOk.f k (x.1) (x.2.1) (x.2.2.1) (x.2.2.2) = some true := by
  obtain ⟨_, ha, _, hb⟩ := h
  unfold maxLen at ha hb
  apply val_rounds (g := fun k => laws_FnExactWordOk.f k (x.1) (x.2.1) (x.2.2.1) (x.2.2.2))
  show laws_FnExactWordOk.F (x.1) (x.2.1) (x.2.2.1) (x.2.2.2) = some true
  rw [laws_FnExactWordOk.F_eq]
  unfold laws_szWord.f laws_toWord.f
  rw [w64 (by omega : -9223372036854775808 ≤ (1048576 : Int) - (x.2.1.size : Int)) (by omega)]
  by_cases c1 : (1048576 : Int) - (x.2.1.size : Int) < 0
  · rw [if_pos c1]
    rfl
  rw [if_neg c1, w64 (by omega : -9223372036854775808 ≤ (1048576 : Int) - (x.2.1.size : Int) - (x.2.2.2.size : Int)) (by omega)]
  by_cases c2 : (1048576 : Int) - (x.2.1.size : Int) - (x.2.2.2.size : Int) < 0
  · rw [if_pos c2]
    rfl
  rw [if_neg c2]
  obtain ⟨r, h1, h2⟩ := word_both x.1 x.2.1 x.2.2.1 x.2.2.2 (by omega) (by omega)
  simp only [Option.bind_some, h1, h2, bne_self_eq_false, Bool.false_eq_true, if_false]
  rw [if_neg c2]

end Go.Proofs.Ytnobgcnldnlbiaa.QFnExactWordOk
