/- FnExactEncode: the two ways to make bytes of code points agree at every list. -/
import Derived.Test.YtnobgcnldnlbiaaEncRuneEncode
import Derived.Test.YtnobgcnldnlbiaaToIntSEncode
namespace Go.Proofs.Ytnobgcnldnlbiaa.QFnExactEncode
open Go.RowKit Go.Proofs.YtnobgcnldnlbiaaW.PrintWords Go.Proofs.YtnobgcnldnlbiaaW.PrintLast Go.Proofs.YtnobgcnldnlbiaaW.PrintMore Go.Proofs.Ytnobgcnldnlbiaa.Val
set_option linter.unusedVariables false
set_option linter.unusedSimpArgs false

theorem bad_bytes : bytesOf (⟨#[239, 191, 189]⟩ : ByteArray) = [239, 191, 189] := by rfl

theorem loops (l : List Int) (hw : ∀ x ∈ l, (Lit.int .i64 x).wf = true) (hl : l.length ≤ 1048576) (d : Nat) : ∀ (i : Int) (out : List Int), 0 ≤ i → i + d = l.length → (out.length : Int) ≤ 4 * i →
    ∃ r, spec_Encode.L0 l out i = some r ∧ impl_Encode.L0 out l l.length i = some r := by
  induction d with
  | zero =>
    intro i out h0 hd ho
    rw [spec_Encode.L0_eq, impl_Encode.L0_eq, if_neg (by omega), if_neg (by omega)]
    exact ⟨_, rfl, rfl⟩
  | succ d ih =>
    intro i out h0 hd ho
    have hlt : i < (l.length : Int) := by omega
    have w1 : wrap64 (i + 1) = i + 1 := w64 (by omega) (by omega)
    have hb : out.length + 4 < 140737488355328 := by omega
    have hb3 : out.length + 3 < 140737488355328 := by omega
    have hr := rd_wf hw i
    have hn := encB_len (rd l i)
    obtain ⟨r, h1, h2⟩ := ih (i + 1) (out ++ encB (rd l i)) (by omega) (by omega) (by rw [List.length_append]; omega)
    refine ⟨r, ?_, ?_⟩
    · rw [spec_Encode.L0_eq, if_pos hlt, if_pos h0, put_F _ _ hb, Option.bind_some, w1, h1]
    · rw [impl_Encode.L0_eq, if_pos hlt, if_pos h0, if_pos hlt]
      simp only [w1, if_pos hb3, bad_bytes]
      by_cases a : rd l i < 0
      · rw [if_pos a, ← h2]; unfold encB; rw [if_pos (by omega)]
      rw [if_neg a]
      by_cases b : rd l i > 1114111
      · rw [if_pos b, ← h2]; unfold encB; rw [if_pos (by omega)]
      rw [if_neg b]
      have w3 : wrap32 (rd l i) = rd l i := by unfold wrap32; omega
      rw [w3]
      by_cases c : rd l i ≥ 55296
      · rw [if_pos c]
        by_cases e : rd l i ≤ 57343
        · rw [if_pos e, ← h2]; unfold encB; rw [if_pos (by omega)]
        · rw [if_neg e, rune_F _ _ (by omega) (by omega) (by omega) hb, Option.bind_some, h2]
      · rw [if_neg c, rune_F _ _ (by omega) (by omega) (by omega) hb, Option.bind_some, h2]

theorem FnExactEncode : laws_FnExactEncode.Pure := by
  intro l _ _ hw
  apply val_rounds (g := fun k => laws_FnExactEncode.f k l)
  show laws_FnExactEncode.F l = some true
  rw [laws_FnExactEncode.F_eq]
  by_cases hb : (l.length : Int) > 1048576
  · rw [if_pos hb]
  · rw [if_neg hb]
    obtain ⟨r, h1, h2⟩ := loops l hw (by omega) l.length 0 [] (by omega) (by omega) (by simp)
    simp only [toIntS_F l (by omega), Option.bind_some, spec_Encode.F_eq, impl_Encode.F_eq, h1, h2, eqIntS_self l (by omega), if_true]

end Go.Proofs.Ytnobgcnldnlbiaa.QFnExactEncode
