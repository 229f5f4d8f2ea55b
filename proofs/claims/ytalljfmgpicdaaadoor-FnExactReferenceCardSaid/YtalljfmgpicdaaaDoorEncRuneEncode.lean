/- What 'utf8_AppendRune' puts behind a row: one sequence a code point. -/
import Derived.Test.YtalljfmgpicdaaaDoorEncReference
namespace Go.Proofs.YtalljfmgpicdaaaDoor.QFnExactReference
open Go.RowKit Go.Proofs.YtalljfmgpicdaaaDoorW.PrintWords Go.Proofs.YtalljfmgpicdaaaDoorW.PrintLast Go.Proofs.YtalljfmgpicdaaaDoorW.PrintMore Go.Proofs.YtalljfmgpicdaaaDoor.Val
set_option linter.unusedVariables false
set_option linter.unusedSimpArgs false

theorem rune_F (l : List Int) (c : Int) (h0 : 0 ≤ c) (h1 : c ≤ 1114111) (hs : ¬ (c ≥ 55296 ∧ c ≤ 57343)) (h : l.length + 4 < 140737488355328) : utf8_AppendRune.F l c = some (l ++ encB c) := by
  have hn : ¬ (c < 0 ∨ c > 1114111 ∨ (c ≥ 55296 ∧ c ≤ 57343)) := by omega
  have hm : c % 4294967296 = c := by omega
  rw [utf8_AppendRune.F_eq, hm]
  unfold encB
  rw [if_neg hn]
  by_cases b1 : c < 128
  · have : c % 256 = c := by omega
    rw [if_pos b1, if_pos (by omega), if_pos (by omega), this]
  · rw [if_neg b1, if_neg (by omega), utf8_appendRuneNonASCII.F_eq, hm]
    by_cases b2 : c < 2048
    · have q : c / 64 % 256 = c / 64 := by omega
      rw [if_pos b2, if_pos (by omega), q, (u8_or192 _ (by omega) (by omega) : Go.bits .or .u8 192 (c / 64) = 192 + c / 64)]
      simp only [Option.bind_some]
      rw [if_pos (by simp; omega)]
      rfl
    · rw [if_neg b2, if_neg (by omega)]
      by_cases b3 : c < 65536
      · have q : c / 4096 % 256 = c / 4096 := by omega
        rw [if_pos b3]
        have hj : utf8_appendRuneNonASCII.J0 l c c true = some (l ++ [224 + c / 4096, 128 + c / 64 % 64, 128 + c % 64]) := by
          rw [utf8_appendRuneNonASCII.J0_eq, if_pos rfl, q, (u8_or224 _ (by omega) (by omega) : Go.bits .or .u8 224 (c / 4096) = 224 + c / 4096), Option.bind_some, if_pos (by simp; omega)]
        by_cases b4 : c < 55296
        · rw [if_pos b4, decide_eq_true b4, hj]; rfl
        · have b5 : c ≤ 65535 := by omega
          rw [if_neg b4, if_pos (by omega), decide_eq_true b5, hj]; rfl
      · have q : c / 262144 % 256 = c / 262144 := by omega
        rw [if_neg b3, if_neg (by omega), if_pos (by omega), decide_eq_false (by omega), utf8_appendRuneNonASCII.J0_eq, if_neg (by decide), if_pos (by omega), if_pos (by omega), q, (u8_or240 _ (by omega) (by omega) : Go.bits .or .u8 240 (c / 262144) = 240 + c / 262144)]
        simp only [Option.bind_some]
        rw [if_pos (by simp; omega)]
        rfl

end Go.Proofs.YtalljfmgpicdaaaDoor.QFnExactReference
