/- What is in range of a font's lists, as the program's own. -/
import Derived.Test.YtiinihponcojkaaLigP
import Derived.Test.YtiinihponcojkaaConvFnExactAdvance
namespace Go.Proofs.Ytiinihponcojkaa.QFnExactAdvance
open Go Go.RowKit Go.Proofs.YtiinihponcojkaaV.PrintWords Go.Proofs.YtiinihponcojkaaV.PrintLast Go.Proofs.YtiinihponcojkaaV.PrintMore Go.Proofs.Ytiinihponcojkaa.Val Go.Proofs.Ytiinihponcojkaa.MapObj Go.Proofs.Ytiinihponcojkaa.MapKey
set_option linter.unusedVariables false
set_option linter.unusedSimpArgs false
theorem wf_ligs (l : List S90) (h : ∀ x ∈ l, wf_Lig x) : ∀ j : Nat, j < (l.map of_Lig).length → ok64 (rd_T84 (l.map of_Lig) (j : Nat)).f0 ∧ ok64 (rd_T84 (l.map of_Lig) (j : Nat)).f1 ∧ ok64 (rd_T84 (l.map of_Lig) (j : Nat)).f2 := by
  intro j hj
  rw [List.length_map] at hj
  have e : rd_T84 (l.map of_Lig) (j : Nat) = of_Lig l[j] := by
    unfold rd_T84
    rw [Int.toNat_natCast, List.getD_eq_getElem?_getD, List.getElem?_map, List.getElem?_eq_getElem hj]
    rfl
  rw [e]
  exact h _ (List.getElem_mem hj)
theorem wf_kerns (l : List S88) (h : ∀ x ∈ l, wf_Kern x) : ∀ j : Nat, j < (l.map of_Kern).length → ok64 (rd_T81 (l.map of_Kern) (j : Nat)).f0 ∧ ok64 (rd_T81 (l.map of_Kern) (j : Nat)).f1 := by
  intro j hj
  rw [List.length_map] at hj
  have e : rd_T81 (l.map of_Kern) (j : Nat) = of_Kern l[j] := by
    unfold rd_T81
    rw [Int.toNat_natCast, List.getD_eq_getElem?_getD, List.getElem?_map, List.getElem?_eq_getElem hj]
    rfl
  rw [e]
  have := h _ (List.getElem_mem hj)
  exact ⟨this.1, this.2.1⟩
end Go.Proofs.Ytiinihponcojkaa.QFnExactAdvance
