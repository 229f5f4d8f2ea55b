/- The two readings of line ends agree at every string: the plain side of FnExactNewlines. -/
import Derived.Test.YtnobgcnldnlbiaaFFnExactNewlines
namespace Go.Proofs.Ytnobgcnldnlbiaa.QFnExactNewlines
open Go.RowKit Go.Proofs.YtnobgcnldnlbiaaW.PrintWords Go.Proofs.YtnobgcnldnlbiaaW.PrintLast Go.Proofs.YtnobgcnldnlbiaaW.PrintMore Go.Proofs.Ytnobgcnldnlbiaa.Val
set_option linter.unusedVariables false
set_option linter.unusedSimpArgs false

theorem put_bad (l : List Int) (h : l.length + 3 < 140737488355328) : spec_l1Put.F l 65533 = some (l ++ [239, 191, 189]) := by
  rw [spec_l1Put.F_eq]
  rw [if_neg (by omega), if_neg (by omega), if_pos (by omega), spec_l1Put.J0_eq]
  simp only [spec_l1Put.J1_eq]
  have e : (([(wrap64 (224 + (wrap64 (Int.tdiv 65533 4096)))) % 256, (wrap64 (128 + (Int.tmod (wrap64 (Int.tdiv 65533 64)) 64))) % 256, (wrap64 (128 + (Int.tmod 65533 64))) % 256] : List Int)) = [239, 191, 189] := by decide +kernel
  simp only [e, Option.bind_some, List.length_cons, List.length_nil]
  simp [h]

theorem bad_bytes : bytesOf (⟨#[239, 191, 189]⟩ : ByteArray) = [239, 191, 189] := by rfl

theorem loops (s : ByteArray) (hs : s.size ≤ 1048576) (d : Nat) : ∀ (i : Int) (out : List Int), 0 ≤ i → i + d = s.size → (out.length : Int) ≤ 3 * i →
    ∃ r, spec_Newlines.L0 s out i = some r ∧ impl_Newlines.L0 s out i = some r := by
  induction d using Nat.strongRecOn with
  | _ d ih =>
  intro i out h0 hd hl
  rw [spec_Newlines.L0_eq, impl_Newlines.L0_eq]
  by_cases hlt : i < (s.size : Int)
  · have w1 : wrap64 (i + 1) = i + 1 := w64 (by omega) (by omega)
    have w2 : wrap64 (i + 1 + 1) = i + 1 + 1 := w64 (by omega) (by omega)
    have p1 : (0 : Int) ≤ i + 1 := by omega
    have hb : out.length < 140737488355328 := by omega
    have hb3 : out.length + 3 < 140737488355328 := by omega
    simp only [w1, w2, if_pos hlt, if_pos h0, if_pos p1, if_pos hb, if_pos hb3]
    by_cases h13 : bt s i = 13
    · simp only [if_pos h13]
      by_cases he : i + 1 = (s.size : Int)
      · have hn : ¬ (i + 1 < (s.size : Int)) := by omega
        simp only [if_pos he, if_neg hn]
        exact ih (d - 1) (by omega) (i + 1) _ (by omega) (by omega) (by simp; omega)
      · have hn : i + 1 < (s.size : Int) := by omega
        simp only [if_neg he, if_pos hn]
        by_cases h10 : bt s (i + 1) = 10
        · simp only [if_pos h10]
          obtain ⟨r, h1, h2⟩ := ih (d - 2) (by omega) (i + 1 + 1) (out ++ [10]) (by omega) (by omega) (by simp; omega)
          refine ⟨r, ?_, h2⟩
          rw [spec_Newlines.L0_eq]
          have n13 : ¬ (bt s (i + 1) = 13) := by omega
          have n0 : ¬ (bt s (i + 1) = 0) := by omega
          simp only [if_pos hn, if_pos p1, if_neg n13, if_neg n0, if_pos hb, w2, h10]
          exact h1
        · simp only [if_neg h10]
          exact ih (d - 1) (by omega) (i + 1) _ (by omega) (by omega) (by simp; omega)
    · simp only [if_neg h13]
      by_cases hz : bt s i = 0
      · simp only [if_pos hz, put_bad out hb3, Option.bind_some, bad_bytes]
        exact ih (d - 1) (by omega) (i + 1) _ (by omega) (by omega) (by simp; omega)
      · simp only [if_neg hz]
        exact ih (d - 1) (by omega) (i + 1) _ (by omega) (by omega) (by simp; omega)
  · simp only [if_neg hlt]
    exact ⟨_, rfl, rfl⟩

theorem FnExactNewlines : laws_FnExactNewlines.Pure := by
  intro s hs
  apply val_rounds (g := fun k => laws_FnExactNewlines.f k s)
  show laws_FnExactNewlines.F s = some true
  rw [laws_FnExactNewlines.F_eq]
  by_cases hb : (s.size : Int) > 1048576
  · rw [if_pos hb]
  · rw [if_neg hb]
    obtain ⟨r, h1, h2⟩ := loops s (by omega) s.size 0 [] (by omega) (by omega) (by simp)
    simp only [spec_Newlines.F_eq, impl_Newlines.F_eq, h1, h2, Option.bind_some, if_true]

end Go.Proofs.Ytnobgcnldnlbiaa.QFnExactNewlines
