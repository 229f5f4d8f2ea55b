/- Two ways held against each other: as numbers, and as the reference does it. -/
import Derived.Test.YtbogfagafdokeaaRevP
namespace Go.Proofs.Ytbogfagafdokeaa.QFnExactSpotLess
open Go Go.RowKit Go.Proofs.YtbogfagafdokeaaV.PrintWords Go.Proofs.YtbogfagafdokeaaV.PrintLast Go.Proofs.YtbogfagafdokeaaV.PrintMore Go.Proofs.Ytbogfagafdokeaa.Val
set_option linter.unusedVariables false
set_option linter.unusedSimpArgs false

def cmpI (x y : Int) : Int := if x < y then -1 else if x > y then 1 else 0
theorem cmp_is (x y : Int) : cmp_Compare_int.f x y = some (cmpI x y) := by
  unfold cmp_Compare_int.f cmp_isNaN_int.f cmpI
  simp only [bne_self_eq_false, Option.bind_some, Bool.false_eq_true, if_false]
  split
  · rfl
  · split <;> rfl
/-- A way with its last place. -/
def wayX (A : List Int) (a : Int) : List Int := A ++ [a]
def wayI (A : List Int) (a : Int) : List Int := (A.map fun x => 2 * x + 1) ++ [2 * a]
theorem wayX_len (A : List Int) (a : Int) : (wayX A a).length = A.length + 1 := by simp [wayX]
theorem wayI_len (A : List Int) (a : Int) : (wayI A a).length = A.length + 1 := by simp [wayI]
theorem way_last (A : List Int) (a : Int) : rd (wayI A a) (A.length : Nat) = 2 * rd (wayX A a) (A.length : Nat) := by
  unfold wayI wayX rd
  simp [List.getD_eq_getElem?_getD]
theorem way_at (A : List Int) (a : Int) (i : Nat) (h : i < A.length) : rd (wayI A a) (i : Nat) = 2 * rd (wayX A a) (i : Nat) + 1 := by
  unfold wayI wayX rd
  rw [Int.toNat_natCast, List.getD_eq_getElem?_getD, List.getD_eq_getElem?_getD, List.getElem?_append_left (by rw [List.length_map]; exact h), List.getElem?_append_left h, List.getElem?_map, List.getElem?_eq_getElem h]
  rfl
theorem less_step (A B : List Int) (a b : Int) (hA : A.length ≤ 100000) (hB : B.length ≤ 100000) (i : Nat) (h1 : i ≤ A.length) (h2 : i ≤ B.length) :
    spec_l5Less.L0 (wayX A a) (wayX B b) (i : Nat) = if i = A.length then (if i = B.length then some (decide (rd (wayX A a) (i : Nat) < rd (wayX B b) (i : Nat))) else some (decide (rd (wayX A a) (i : Nat) ≤ rd (wayX B b) (i : Nat)))) else if rd (wayX A a) (i : Nat) = rd (wayX B b) (i : Nat) then (if i = B.length then some false else spec_l5Less.L0 (wayX A a) (wayX B b) ((i + 1 : Nat) : Int)) else some (decide (rd (wayX A a) (i : Nat) < rd (wayX B b) (i : Nat))) := by
  have w1 : wrap64 (((A.length + 1 : Nat) : Int) - 1) = (A.length : Int) := by rw [w64 (by omega) (by omega)]; omega
  have w2 : wrap64 (((B.length + 1 : Nat) : Int) - 1) = (B.length : Int) := by rw [w64 (by omega) (by omega)]; omega
  have w3 : wrap64 ((i : Int) + 1) = ((i + 1 : Nat) : Int) := by rw [w64 (by omega) (by omega)]; omega
  rw [spec_l5Less.L0_eq, wayX_len, wayX_len, if_pos (by omega), decide_eq_true (by omega), spec_l5Less.J1_eq, if_pos rfl, wayX_len, wayX_len, w1, w2]
  simp only [spec_l5Less.J2_eq, wayX_len, w3, if_pos (show (0 : Int) ≤ (i : Int) by omega), if_pos (show (i : Int) < ((A.length + 1 : Nat) : Int) by omega), if_pos (show (i : Int) < ((B.length + 1 : Nat) : Int) by omega)]
  by_cases cA : i = A.length
  · rw [if_pos (show (i : Int) = (A.length : Int) by omega), show ((i : Int) == (A.length : Int)) = true from beq_iff_eq.2 (by omega), if_pos (c := i = A.length) cA]
    by_cases cB : i = B.length
    · rw [show ((i : Int) == (B.length : Int)) = true from beq_iff_eq.2 (by omega), if_pos rfl, if_pos (c := i = B.length) cB]
    · rw [show ((i : Int) == (B.length : Int)) = false from beq_eq_false_iff_ne.2 (by omega), if_neg (c := false = true) (by simp), if_pos rfl, if_neg (c := i = B.length) cB]
  · rw [if_neg (show ¬ (i : Int) = (A.length : Int) by omega), show ((i : Int) == (A.length : Int)) = false from beq_eq_false_iff_ne.2 (by omega), if_neg (c := i = A.length) cA, if_neg (c := false = true) (by simp), if_neg (c := false = true) (by simp)]
    by_cases cB : i = B.length
    · rw [show ((i : Int) == (B.length : Int)) = true from beq_iff_eq.2 (by omega), if_pos (c := true = true) rfl, if_pos (c := i = B.length) cB]
    · rw [show ((i : Int) == (B.length : Int)) = false from beq_eq_false_iff_ne.2 (by omega), if_neg (c := false = true) (by simp), if_neg (c := i = B.length) cB]
theorem cmp_step (A B : List Int) (a b : Int) (hA : A.length ≤ 100000) (hB : B.length ≤ 100000) (i : Nat) (h1 : i ≤ A.length) (h2 : i ≤ B.length) :
    slices_Compare_int_int.L0 (wayI A a) (wayI B b) (wayI A a) ((wayI A a).length : Int) (i : Nat) = if cmpI (rd (wayI A a) (i : Nat)) (rd (wayI B b) (i : Nat)) = 0 then slices_Compare_int_int.L0 (wayI A a) (wayI B b) (wayI A a) ((wayI A a).length : Int) ((i + 1 : Nat) : Int) else some (cmpI (rd (wayI A a) (i : Nat)) (rd (wayI B b) (i : Nat))) := by
  have w3 : wrap64 ((i : Int) + 1) = ((i + 1 : Nat) : Int) := by rw [w64 (by omega) (by omega)]; omega
  have e1 := wayI_len A a
  have e2 := wayI_len B b
  rw [slices_Compare_int_int.L0_eq, if_pos (by omega), if_pos (by omega), if_pos (by omega), if_neg (by omega), if_pos (by omega), cmp_is, Option.bind_some, w3]
theorem cmpI_lt {x y : Int} (h : x < y) : cmpI x y = -1 := by unfold cmpI; rw [if_pos h]
theorem cmpI_gt {x y : Int} (h : y < x) : cmpI x y = 1 := by unfold cmpI; rw [if_neg (by omega), if_pos h]
theorem cmpI_eq {x y : Int} (h : x = y) : cmpI x y = 0 := by unfold cmpI; rw [if_neg (by omega), if_neg (by omega)]
theorem cmp_ways (A B : List Int) (a b : Int) (hA : A.length ≤ 100000) (hB : B.length ≤ 100000) : ∀ (d i : Nat), i + d = A.length → i ≤ B.length →
    ∃ c, slices_Compare_int_int.L0 (wayI A a) (wayI B b) (wayI A a) ((wayI A a).length : Int) (i : Nat) = some c ∧ spec_l5Less.L0 (wayX A a) (wayX B b) (i : Nat) = some (decide (c < 0))
  | d, i, hd, hi => by
    rw [less_step A B a b hA hB i (by omega) hi, cmp_step A B a b hA hB i (by omega) hi]
    have eA : rd (wayI A a) (i : Nat) = 2 * rd (wayX A a) (i : Nat) + if i = A.length then 0 else 1 := by
      by_cases c : i = A.length
      · rw [if_pos c, c, way_last]; omega
      · rw [if_neg c, way_at A a i (by omega)]
    have eB : rd (wayI B b) (i : Nat) = 2 * rd (wayX B b) (i : Nat) + if i = B.length then 0 else 1 := by
      by_cases c : i = B.length
      · rw [if_pos c, c, way_last]; omega
      · rw [if_neg c, way_at B b i (by omega)]
    rw [eA, eB]
    generalize rd (wayX A a) (i : Nat) = x
    generalize rd (wayX B b) (i : Nat) = y
    by_cases cA : i = A.length
    · rw [if_pos cA, if_pos cA]
      by_cases cB : i = B.length
      · rw [if_pos cB, if_pos cB]
        rcases Int.lt_trichotomy x y with c | c | c
        · rw [cmpI_lt (by omega), if_neg (by omega), decide_eq_true c]
          exact ⟨_, rfl, rfl⟩
        · rw [cmpI_eq (by omega), if_pos rfl, decide_eq_false (by omega)]
          have e1 := wayI_len A a
          have e2 := wayI_len B b
          rw [slices_Compare_int_int.L0_eq, if_neg (by omega), if_neg (by omega)]
          exact ⟨_, rfl, rfl⟩
        · rw [cmpI_gt (by omega), if_neg (by omega), decide_eq_false (by omega)]
          exact ⟨_, rfl, rfl⟩
      · rw [if_neg cB, if_neg cB]
        by_cases c : x ≤ y
        · rw [cmpI_lt (by omega), if_neg (by omega), decide_eq_true c]
          exact ⟨_, rfl, rfl⟩
        · rw [cmpI_gt (by omega), if_neg (by omega), decide_eq_false c]
          exact ⟨_, rfl, rfl⟩
    · rw [if_neg cA, if_neg cA]
      by_cases cB : i = B.length
      · rw [if_pos cB, if_pos cB]
        by_cases c : x < y
        · rw [cmpI_lt (by omega), if_neg (by omega), if_neg (by omega), decide_eq_true c]
          exact ⟨_, rfl, rfl⟩
        · rw [cmpI_gt (by omega), if_neg (by omega), decide_eq_false c]
          refine ⟨_, rfl, ?_⟩
          split <;> rfl
      · rw [if_neg cB, if_neg cB]
        rcases Int.lt_trichotomy x y with c | c | c
        · rw [cmpI_lt (by omega), if_neg (by omega), if_neg (by omega), decide_eq_true c]
          exact ⟨_, rfl, rfl⟩
        · rw [cmpI_eq (by omega), if_pos rfl, if_pos c]
          cases d with
          | zero => omega
          | succ d => exact cmp_ways A B a b hA hB d (i + 1) (by omega) (by omega)
        · rw [cmpI_gt (by omega), if_neg (by omega), if_neg (by omega), decide_eq_false (by omega)]
          exact ⟨_, rfl, rfl⟩
theorem cmp_same (A B : List Int) (a b : Int) (hA : A.length ≤ 100000) (hB : B.length ≤ 100000) : ∃ c, slices_Compare_int_int.F (wayI A a) (wayI B b) = some c ∧ spec_l5Less.L0 (wayX A a) (wayX B b) 0 = some (decide (c < 0)) := by
  rw [slices_Compare_int_int.F_eq]
  exact cmp_ways A B a b hA hB A.length 0 (by omega) (by omega)
end Go.Proofs.Ytbogfagafdokeaa.QFnExactSpotLess
