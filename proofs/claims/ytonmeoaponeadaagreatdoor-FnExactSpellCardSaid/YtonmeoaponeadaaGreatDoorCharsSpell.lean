/- The kinds of bytes, on both sides. -/
import Derived.Test.YtonmeoaponeadaaGreatDoorFFnExactSpell
import Derived.Test.YtonmeoaponeadaaGreatDoorBytes
namespace Go.Proofs.YtonmeoaponeadaaGreatDoor.QFnExactSpell
open Go Go.RowKit Go.Proofs.YtonmeoaponeadaaGreatDoorV.PrintWords Go.Proofs.YtonmeoaponeadaaGreatDoorV.PrintLast Go.Proofs.YtonmeoaponeadaaGreatDoorV.PrintMore Go.Proofs.YtonmeoaponeadaaGreatDoor.Val
set_option linter.unusedVariables false
set_option linter.unusedSimpArgs false

def letterB (c : Int) : Bool := decide ((97 ≤ c ∧ c ≤ 122) ∨ (65 ≤ c ∧ c ≤ 90))
def digitB (c : Int) : Bool := decide (48 ≤ c ∧ c ≤ 57)
def whiteB (c : Int) : Bool := decide (c = 32 ∨ c = 9 ∨ c = 10 ∨ c = 12 ∨ c = 13)
def beginB (c : Int) : Bool := letterB c || (decide (c = 95) || decide (c ≥ 128))
def innerB (c : Int) : Bool := beginB c || (digitB c || decide (c = 45))

theorem letter_s (c : Int) : spec_l1Letter.f c = some (letterB c) := by
  unfold spec_l1Letter.f letterB
  repeat' split
  all_goals (congr 1; rw [Bool.eq_iff_iff]; simp; try omega)
theorem letter_i (c : Int) : impl_isLetter.f c = some (letterB c) := letter_s c
theorem digit_s (c : Int) : spec_l1Digit.f c = some (digitB c) := by
  unfold spec_l1Digit.f digitB
  repeat' split
  all_goals (congr 1; rw [Bool.eq_iff_iff]; simp; try omega)
theorem digit_i (c : Int) : impl_isDigit.f c = some (digitB c) := digit_s c
theorem white_s (c : Int) : spec_l1White.f c = some (whiteB c) := by
  unfold spec_l1White.f whiteB
  repeat' split
  all_goals (congr 1; rw [Bool.eq_iff_iff]; simp; try omega)
theorem white_i (c : Int) : impl_isWhite.f c = some (whiteB c) := white_s c
theorem begin_s (c : Int) : spec_l6Begin.f c = some (beginB c) := by
  unfold spec_l6Begin.f beginB
  rw [letter_s, Option.bind_some]
  cases letterB c
  · simp only [Bool.false_eq_true, if_false, Bool.false_or]
    split
    · rename_i h
      rw [decide_eq_true h]; rfl
    · rename_i h
      rw [decide_eq_false h]; rfl
  · rfl
theorem begin_i (c : Int) : impl_beginsName.f c = some (beginB c) := begin_s c
theorem inner_s (c : Int) : spec_l6Inner.f c = some (innerB c) := by
  unfold spec_l6Inner.f innerB
  rw [begin_s, Option.bind_some]
  cases beginB c
  · simp only [Bool.false_eq_true, if_false, Bool.false_or, digit_s, Option.bind_some]
    cases digitB c
    · simp only [Bool.false_eq_true, if_false, Bool.false_or]
      congr 1
    · rfl
  · rfl
theorem inner_i (c : Int) : impl_isNameByte.f c = some (innerB c) := by
  unfold impl_isNameByte.f innerB beginB
  rw [letter_i, Option.bind_some]
  cases letterB c
  · simp only [Bool.false_eq_true, if_false, Bool.false_or, digit_i, Option.bind_some]
    cases digitB c
    · simp only [Bool.false_eq_true, if_false, Bool.false_or, Bool.or_assoc]
      by_cases h1 : c = 45
      · rw [if_pos h1]; simp [h1]
      · rw [if_neg h1]
        by_cases h2 : c = 95
        · rw [if_pos h2]; simp [h2]
        · rw [if_neg h2]; simp [h1, h2]
    · simp
  · rfl

theorem begin_dash : beginB 45 = false := by decide

end Go.Proofs.YtonmeoaponeadaaGreatDoor.QFnExactSpell
