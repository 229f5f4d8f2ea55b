/- What 'spec_l1Put' and 'utf8_AppendRune' put behind a row: one sequence a code point. -/
import Derived.Test.YtalljfmgpicdaaaDoorFFnExactReference
import Derived.Test.YtalljfmgpicdaaaDoorLoops
import Derived.Laws.BitsLemmas
namespace Go.Proofs.YtalljfmgpicdaaaDoor.QFnExactReference
open Go.RowKit Go.Proofs.YtalljfmgpicdaaaDoorW.PrintWords Go.Proofs.YtalljfmgpicdaaaDoorW.PrintLast Go.Proofs.YtalljfmgpicdaaaDoorW.PrintMore Go.Proofs.YtalljfmgpicdaaaDoor.Val
set_option linter.unusedVariables false
set_option linter.unusedSimpArgs false

/-- The bytes of a code point (of what is none: U+FFFD's). -/
def encB (c : Int) : List Int :=
  if c < 0 ∨ c > 1114111 ∨ (c ≥ 55296 ∧ c ≤ 57343) then [239, 191, 189]
  else if c < 128 then [c]
  else if c < 2048 then [192 + c / 64, 128 + c % 64]
  else if c < 65536 then [224 + c / 4096, 128 + c / 64 % 64, 128 + c % 64]
  else [240 + c / 262144, 128 + c / 4096 % 64, 128 + c / 64 % 64, 128 + c % 64]

theorem encB_len (c : Int) : (encB c).length ≤ 4 := by
  unfold encB
  split
  · exact of_decide_eq_true rfl
  split
  · exact of_decide_eq_true rfl
  split
  · exact of_decide_eq_true rfl
  split
  · exact of_decide_eq_true rfl
  · exact of_decide_eq_true rfl

theorem tdivmod {c : Int} (h0 : 0 ≤ c) (h1 : c ≤ 1114111) (d : Int) (hd : 0 < d) : Int.tdiv c d = c / d ∧ Int.tmod c d = c % d := by
  exact ⟨Int.tdiv_eq_ediv_of_nonneg h0, Int.tmod_eq_emod_of_nonneg h0⟩

theorem put_J1 (l : List Int) (c : Int) (h0 : 0 ≤ c) (h1 : c ≤ 1114111) (hs : ¬ (c ≥ 55296 ∧ c ≤ 57343)) (h : l.length + 4 < 140737488355328) : spec_l1Put.J1 l c = some (l ++ encB c) := by
  rw [spec_l1Put.J1_eq]
  have hn : ¬ (c < 0 ∨ c > 1114111 ∨ (c ≥ 55296 ∧ c ≤ 57343)) := by omega
  obtain ⟨d1, m1⟩ := tdivmod h0 h1 64 (by omega)
  obtain ⟨d2, _⟩ := tdivmod h0 h1 4096 (by omega)
  obtain ⟨d3, _⟩ := tdivmod h0 h1 262144 (by omega)
  have a1 : 0 ≤ c / 64 := by omega
  have a2 : 0 ≤ c / 4096 := by omega
  have a3 : 0 ≤ c / 262144 := by omega
  have w1 : wrap64 (c / 64) = c / 64 := w64 (by omega) (by omega)
  have w2 : wrap64 (c / 4096) = c / 4096 := w64 (by omega) (by omega)
  have w3 : wrap64 (c / 262144) = c / 262144 := w64 (by omega) (by omega)
  have e1 : Int.tmod (c / 64) 64 = c / 64 % 64 := Int.tmod_eq_emod_of_nonneg a1
  have e2 : Int.tmod (c / 4096) 64 = c / 4096 % 64 := Int.tmod_eq_emod_of_nonneg a2
  unfold encB
  rw [if_neg hn]
  simp only [d1, m1, d2, d3, w1, w2, w3, e1, e2]
  by_cases b1 : c < 128
  · rw [if_pos b1, if_pos b1, if_pos (by omega)]
    have : c % 256 = c := by omega
    rw [this]
  · rw [if_neg b1, if_neg b1]
    by_cases b2 : c < 2048
    · rw [if_pos b2, if_pos b2]
      have x1 : wrap64 (192 + c / 64) % 256 = 192 + c / 64 := by rw [w64 (by omega) (by omega)]; omega
      have x2 : wrap64 (128 + c % 64) % 256 = 128 + c % 64 := by rw [w64 (by omega) (by omega)]; omega
      rw [x1, x2, Option.bind_some, if_pos (by simp; omega)]
    · rw [if_neg b2, if_neg b2]
      by_cases b3 : c < 65536
      · rw [if_pos b3, if_pos b3]
        have x1 : wrap64 (224 + c / 4096) % 256 = 224 + c / 4096 := by rw [w64 (by omega) (by omega)]; omega
        have x2 : wrap64 (128 + c / 64 % 64) % 256 = 128 + c / 64 % 64 := by rw [w64 (by omega) (by omega)]; omega
        have x3 : wrap64 (128 + c % 64) % 256 = 128 + c % 64 := by rw [w64 (by omega) (by omega)]; omega
        rw [x1, x2, x3, Option.bind_some, if_pos (by simp; omega)]
      · rw [if_neg b3, if_neg b3]
        have x1 : wrap64 (240 + c / 262144) % 256 = 240 + c / 262144 := by rw [w64 (by omega) (by omega)]; omega
        have x2 : wrap64 (128 + c / 4096 % 64) % 256 = 128 + c / 4096 % 64 := by rw [w64 (by omega) (by omega)]; omega
        have x3 : wrap64 (128 + c / 64 % 64) % 256 = 128 + c / 64 % 64 := by rw [w64 (by omega) (by omega)]; omega
        have x4 : wrap64 (128 + c % 64) % 256 = 128 + c % 64 := by rw [w64 (by omega) (by omega)]; omega
        rw [x1, x2, x3, x4, Option.bind_some, if_pos (by simp; omega)]

theorem put_bad (l : List Int) (h : l.length + 4 < 140737488355328) : spec_l1Put.J1 l 65533 = some (l ++ [239, 191, 189]) :=
  put_J1 l 65533 (by omega) (by omega) (by omega) h

theorem put_F (l : List Int) (c : Int) (h : l.length + 4 < 140737488355328) : spec_l1Put.F l c = some (l ++ encB c) := by
  rw [spec_l1Put.F_eq]
  simp only [spec_l1Put.J0_eq, if_true]
  by_cases a : c < 0
  · rw [if_pos a, put_bad l h]; unfold encB; rw [if_pos (by omega)]
  rw [if_neg a]
  by_cases b : c > 1114111
  · rw [if_pos b, put_bad l h]; unfold encB; rw [if_pos (by omega)]
  rw [if_neg b]
  by_cases d : c ≥ 55296
  · rw [if_pos d]
    by_cases e : c ≤ 57343
    · rw [if_pos (decide_eq_true e), put_bad l h]; unfold encB; rw [if_pos (by omega)]
    · have : ¬ (decide (c ≤ 57343) = true) := by simpa using e
      rw [if_neg this, put_J1 l c (by omega) (by omega) (by omega) h]
  · rw [if_neg d, if_neg (by decide), put_J1 l c (by omega) (by omega) (by omega) h]

end Go.Proofs.YtalljfmgpicdaaaDoor.QFnExactReference
