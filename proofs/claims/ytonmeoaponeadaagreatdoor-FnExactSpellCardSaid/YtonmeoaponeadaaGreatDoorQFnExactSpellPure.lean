/- FnExactSpell, the plain side, joined. -/
import Derived.Test.YtonmeoaponeadaaGreatDoorSpellP
namespace Go.Proofs.YtonmeoaponeadaaGreatDoor.QFnExactSpell
open Go Go.RowKit Go.Proofs.YtonmeoaponeadaaGreatDoorV.PrintWords Go.Proofs.YtonmeoaponeadaaGreatDoorV.PrintLast Go.Proofs.YtonmeoaponeadaaGreatDoorV.PrintMore Go.Proofs.YtonmeoaponeadaaGreatDoor.Val
set_option linter.unusedVariables false
set_option linter.unusedSimpArgs false

theorem FnExactSpell_pure (l : List S31) (h : l.length ≤ maxLen ∧ ∀ x ∈ l, wf_Word x) : ∃ k, laws_FnExactSpell.f k l = some true := by
  apply val_rounds (g := fun k => laws_FnExactSpell.f k l)
  show laws_FnExactSpell.F l = some true
  rw [laws_FnExactSpell.F_eq]
  obtain ⟨r, e, _, hr⟩ := sz_WordS l h 1048576 (by omega) (by omega)
  rw [e, Option.bind_some]
  by_cases c : r < 0
  · rw [if_pos c]
  · rw [if_neg c]
    have hb := hr (by omega)
    have hl : bulk_WordS l ≤ 1048576 := by omega
    obtain ⟨q, h1, h2⟩ := spell_both (l.map of_Word) (by
      intro i hi
      rw [List.length_map] at hi
      have hm := (mem_Word hl).2 (l[i]'hi) (List.getElem_mem hi)
      unfold bulk_Word at hm
      have e2 : rd_T34 (l.map of_Word) (i : Int) = of_Word (l[i]'hi) := by
        unfold rd_T34
        rw [Int.toNat_natCast, List.getD_eq_getElem?_getD, List.getElem?_map, List.getElem?_eq_getElem hi]
        rfl
      rw [e2]
      unfold of_Word
      dsimp only
      omega)
    simp only [to_WordS l hl, Option.bind_some, h1, h2, eq_WordS l hl, bne_self_eq_false, Bool.false_eq_true, if_false, if_true]

end Go.Proofs.YtonmeoaponeadaaGreatDoor.QFnExactSpell
