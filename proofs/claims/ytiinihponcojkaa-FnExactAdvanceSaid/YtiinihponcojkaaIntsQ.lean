/- Rows of numbers: their copy and their likeness. -/
import Derived.Test.YtiinihponcojkaaFFnExactAdvance
import Derived.Test.YtiinihponcojkaaRdP
namespace Go.Proofs.Ytiinihponcojkaa.QFnExactAdvance
open Go Go.RowKit Go.Proofs.YtiinihponcojkaaV.PrintWords Go.Proofs.YtiinihponcojkaaV.PrintLast Go.Proofs.YtiinihponcojkaaV.PrintMore Go.Proofs.Ytiinihponcojkaa.Val
set_option linter.unusedVariables false
set_option linter.unusedSimpArgs false

theorem to_ints (l : List Int) (h : l.length ≤ 1048576) : laws_toIntS.F l = some l := by
  rw [laws_toIntS.F_eq, if_pos (by omega), if_pos (by omega)]
  have key := fill l (id : Int → Int) 0 (fun ys i => laws_toIntS.L0 l ys i) (fun ys i h0 h1 hy => ?_) (fun ys hy => ?_) (List.replicate ((l.length : Int)).toNat 0) (by simp)
  · rw [List.map_id] at key
    exact key
  · show laws_toIntS.L0 l ys i = laws_toIntS.L0 l _ (i + 1)
    rw [laws_toIntS.L0_eq, if_pos h1, if_pos h0, if_pos (by omega), w64 (by omega) (by omega)]
    rfl
  · show laws_toIntS.L0 l ys l.length = _
    rw [laws_toIntS.L0_eq, if_neg (by omega)]
theorem eq_ints (l : List Int) (h : l.length ≤ 1048576) : laws_eqIntS.F l l = some true := by
  rw [laws_eqIntS.F_eq, if_pos rfl]
  rw [upTo (fun i => laws_eqIntS.L0 l l i) l.length (fun i h0 h1 => by
    show laws_eqIntS.L0 l l i = laws_eqIntS.L0 l l (i + 1)
    rw [laws_eqIntS.L0_eq, if_pos h1, if_pos h0, if_pos h1, if_pos rfl, w64 (by omega) (by omega)])]
  show laws_eqIntS.L0 l l l.length = _
  rw [laws_eqIntS.L0_eq, if_neg (by omega)]
end Go.Proofs.Ytiinihponcojkaa.QFnExactAdvance
