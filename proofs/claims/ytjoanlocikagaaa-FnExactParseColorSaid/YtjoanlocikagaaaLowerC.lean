/- Both ways to make letters small. -/
import Derived.Test.YtjoanlocikagaaaFFnExactParseColor
import Derived.Test.YtjoanlocikagaaaLoops
import Derived.Test.YtjoanlocikagaaaBytes
namespace Go.Proofs.Ytjoanlocikagaaa.QFnExactParseColor
open Go Go.RowKit Go.Proofs.YtjoanlocikagaaaW.PrintWords Go.Proofs.YtjoanlocikagaaaW.PrintLast Go.Proofs.YtjoanlocikagaaaW.PrintMore Go.Proofs.Ytjoanlocikagaaa.Val
set_option linter.unusedVariables false
set_option linter.unusedSimpArgs false

theorem lower_byte (c : Int) (h : 0 ≤ c ∧ c ≤ 255) : spec_l1LowerByte.f c = some (lowI c) := by
  unfold spec_l1LowerByte.f lowI
  by_cases h1 : c ≥ 65
  · rw [if_pos h1]
    by_cases h2 : c ≤ 90
    · rw [if_pos h2, if_pos ⟨h1, h2⟩]
      congr 1
      omega
    · rw [if_neg h2, if_neg (by omega)]
  · rw [if_neg h1, if_neg (by omega)]

theorem lower_s (s : ByteArray) (hs : s.size ≤ 1048576) : spec_l1Lower.F s = some (lowB s) := by
  have key : ∀ (d i : Nat) (out : List Int), i + d = s.size → out.length = i → spec_l1Lower.L0 s out i = some (strOfNums (out ++ ((bytesOf s).drop i).map lowI)) := by
    intro d
    induction d with
    | zero =>
      intro i out h ho
      rw [spec_l1Lower.L0_eq, if_neg (by omega), List.drop_of_length_le (by rw [bytesOf_length]; omega)]
      simp
    | succ d ih =>
      intro i out h ho
      have hlt : i < s.size := by omega
      rw [spec_l1Lower.L0_eq, if_pos (by omega), if_pos (by omega), lower_byte _ (Go.Proofs.Ytjoanlocikagaaa.Val.bt_range s i), Option.bind_some, if_pos (by omega), w64 (by omega : -9223372036854775808 ≤ (i : Int) + 1) (by omega)]
      have := ih (i + 1) (out ++ [lowI (bt s i)]) (by omega) (by simp [ho])
      have e : ((i + 1 : Nat) : Int) = (i : Int) + 1 := by omega
      rw [e] at this
      rw [this]
      have hl : i < (bytesOf s).length := by rw [bytesOf_length]; exact hlt
      rw [List.drop_eq_getElem_cons hl, List.map_cons, bytesOf_get s i hlt, List.append_assoc]
      rfl
  rw [spec_l1Lower.F_eq]
  have := key s.size 0 [] (by omega) rfl
  exact this

theorem lower_i (s : ByteArray) (hs : s.size ≤ 1048576) : impl_lower.F s = some (lowB s) := by
  rw [impl_lower.F_eq, if_pos (by omega)]


end Go.Proofs.Ytjoanlocikagaaa.QFnExactParseColor
