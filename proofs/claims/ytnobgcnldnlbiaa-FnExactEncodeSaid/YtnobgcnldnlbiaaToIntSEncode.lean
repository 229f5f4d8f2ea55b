/- 'laws_toIntS' copies; 'laws_eqIntS' of two that are alike. -/
import Derived.Test.YtnobgcnldnlbiaaFFnExactEncode
import Derived.Test.YtnobgcnldnlbiaaLoops
namespace Go.Proofs.Ytnobgcnldnlbiaa.QFnExactEncode
open Go.RowKit Go.Proofs.YtnobgcnldnlbiaaW.PrintWords Go.Proofs.YtnobgcnldnlbiaaW.PrintLast Go.Proofs.YtnobgcnldnlbiaaW.PrintMore Go.Proofs.Ytnobgcnldnlbiaa.Val
set_option linter.unusedVariables false
set_option linter.unusedSimpArgs false

theorem toIntS_F (l : List Int) (hl : l.length ≤ 1048576) : laws_toIntS.F l = some l := by
  rw [laws_toIntS.F_eq, if_pos (by omega), if_pos (by omega)]
  have h := fill l (fun x => x) 0 (fun ys i => laws_toIntS.L0 l ys i) ?_ ?_ (List.replicate ((l.length : Int) : Int).toNat 0) (by simp)
  · simpa using h
  · intro ys i h0 h1 hy
    show laws_toIntS.L0 l ys i = _
    rw [laws_toIntS.L0_eq, if_pos h1, if_pos h0, if_pos (by omega), w64 (by omega) (by omega)]
    rfl
  · intro ys hy
    show laws_toIntS.L0 l ys l.length = _
    rw [laws_toIntS.L0_eq, if_neg (by omega)]

theorem eqIntS_self (l : List Int) (hl : l.length ≤ 9223372036854775807) : laws_eqIntS.F l l = some true := by
  rw [laws_eqIntS.F_eq, if_pos rfl]
  have h := upTo (fun i => laws_eqIntS.L0 l l i) l.length ?_
  · rw [h]
    show laws_eqIntS.L0 l l l.length = _
    rw [laws_eqIntS.L0_eq, if_neg (by omega)]
  · intro i h0 h1
    show laws_eqIntS.L0 l l i = _
    rw [laws_eqIntS.L0_eq, if_pos h1, if_pos h0, if_pos h1, if_pos rfl, w64 (by omega) (by omega)]

end Go.Proofs.Ytnobgcnldnlbiaa.QFnExactEncode
