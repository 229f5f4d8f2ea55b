/- Rows of numbers, by their places. -/
import Derived.Test.YtiinihponcojkaaFFnExactAdvance
import Derived.Test.YtiinihponcojkaaLoops
namespace Go.Proofs.Ytiinihponcojkaa.QFnExactAdvance
open Go Go.RowKit Go.Proofs.YtiinihponcojkaaV.PrintWords Go.Proofs.YtiinihponcojkaaV.PrintLast Go.Proofs.YtiinihponcojkaaV.PrintMore Go.Proofs.Ytiinihponcojkaa.Val
set_option linter.unusedVariables false
set_option linter.unusedSimpArgs false

theorem rd_at {l : List Int} {i : Nat} (h : i < l.length) : rd l (i : Int) = l[i] := rd_lt (by omega) (by omega)
theorem rd_get {l : List Int} {i : Nat} (h : i < l.length) : l[i]? = some (rd l (i : Int)) := by rw [rd_at h, List.getElem?_eq_getElem h]
theorem drop_rd {l : List Int} {i : Nat} (h : i < l.length) : l.drop i = rd l (i : Int) :: l.drop (i + 1) := by rw [rd_at h]; exact List.drop_eq_getElem_cons h
theorem set_rd {l : List Int} {i j : Nat} {a : Int} (hi : i < l.length) : rd (l.set i a) (j : Int) = if j = i then a else rd l (j : Int) := by
  unfold rd
  rw [Int.toNat_natCast, List.getD_eq_getElem?_getD, List.getD_eq_getElem?_getD, List.getElem?_set]
  by_cases e : i = j
  · subst e
    rw [if_pos rfl, if_pos hi, if_pos rfl]
    rfl
  · rw [if_neg e, if_neg (fun x => e x.symm)]
end Go.Proofs.Ytiinihponcojkaa.QFnExactAdvance
