/- slices.Reverse turns a list round. -/
import Derived.Test.YtbogfagafdokeaaFFnExactSpotLess
import Derived.Test.YtbogfagafdokeaaLoops
namespace Go.Proofs.Ytbogfagafdokeaa.QFnExactSpotLess
open Go Go.RowKit Go.Proofs.YtbogfagafdokeaaV.PrintWords Go.Proofs.YtbogfagafdokeaaV.PrintLast Go.Proofs.YtbogfagafdokeaaV.PrintMore Go.Proofs.Ytbogfagafdokeaa.Val
set_option linter.unusedVariables false
set_option linter.unusedSimpArgs false

/-- t exchanges have been made. -/
def revAt (xs : List Int) (t : Nat) : List Int := (List.range xs.length).map fun k => if k < t ∨ xs.length - 1 - t < k then rd xs ((xs.length - 1 - k : Nat) : Int) else rd xs (k : Int)
theorem revAt_len (xs : List Int) (t : Nat) : (revAt xs t).length = xs.length := by unfold revAt; simp
theorem revAt_rd (xs : List Int) (t k : Nat) (h : k < xs.length) : rd (revAt xs t) (k : Nat) = if k < t ∨ xs.length - 1 - t < k then rd xs ((xs.length - 1 - k : Nat) : Int) else rd xs (k : Int) := by
  unfold revAt
  unfold rd
  rw [Int.toNat_natCast, List.getD_eq_getElem?_getD, List.getElem?_map, List.getElem?_range h]
  rfl
theorem rd_ext {a b : List Int} (hl : a.length = b.length) (h : ∀ k : Nat, k < a.length → rd a (k : Nat) = rd b (k : Nat)) : a = b := by
  apply List.ext_getElem hl
  intro k h1 h2
  have := h k h1
  unfold rd at this
  rw [Int.toNat_natCast, List.getD_eq_getElem?_getD, List.getD_eq_getElem?_getD, List.getElem?_eq_getElem h1, List.getElem?_eq_getElem h2] at this
  exact this
theorem rd_set (xs : List Int) (i k : Nat) (v : Int) (hi : i < xs.length) : rd (xs.set i v) (k : Nat) = if k = i then v else rd xs (k : Nat) := by
  unfold rd
  rw [Int.toNat_natCast, List.getD_eq_getElem?_getD, List.getD_eq_getElem?_getD, List.getElem?_set]
  by_cases e : k = i
  · rw [if_pos e, if_pos e.symm, if_pos hi]
    rfl
  · rw [if_neg e, if_neg (fun x => e x.symm)]
theorem rev_loop (xs : List Int) (hx : xs.length ≤ 1000000) : ∀ (d t : Nat), xs.length ≤ 2 * t + d → 2 * t ≤ xs.length + 1 → slices_Reverse_int_int.L0 (revAt xs t) (t : Nat) ((xs.length : Int) - 1 - t) = some xs.reverse
  | d, t, hd, ht => by
    rw [slices_Reverse_int_int.L0_eq, revAt_len]
    by_cases c : (t : Int) < (xs.length : Int) - 1 - t
    · rw [if_pos c, if_pos (by omega), if_pos (by omega), if_pos (by omega), if_pos (by omega), w64 (by omega) (by omega), w64 (by omega) (by omega)]
      have e : ((revAt xs t).set (t : Int).toNat (rd (revAt xs t) ((xs.length : Int) - 1 - t))).set ((xs.length : Int) - 1 - t).toNat (rd (revAt xs t) (t : Nat)) = revAt xs (t + 1) := by
        have e1 : ((xs.length : Int) - 1 - t) = ((xs.length - 1 - t : Nat) : Int) := by omega
        rw [e1, Int.toNat_natCast, Int.toNat_natCast]
        apply rd_ext
        · rw [List.length_set, List.length_set, revAt_len, revAt_len]
        · intro k hk
          rw [List.length_set, List.length_set, revAt_len] at hk
          rw [rd_set _ _ _ _ (by rw [List.length_set, revAt_len]; omega), rd_set _ _ _ _ (by rw [revAt_len]; omega), revAt_rd _ _ _ (by omega), revAt_rd _ _ _ (by omega), revAt_rd _ _ _ hk, revAt_rd _ _ _ hk]
          by_cases k1 : k = xs.length - 1 - t
          · rw [if_pos k1, if_neg (by omega), if_pos (by omega)]
            congr 1
            omega
          · rw [if_neg k1]
            by_cases k2 : k = t
            · rw [if_pos k2, if_neg (by omega), if_pos (by omega)]
              congr 1
              omega
            · rw [if_neg k2]
              by_cases k3 : k < t ∨ xs.length - 1 - t < k
              · rw [if_pos k3, if_pos (by omega)]
              · rw [if_neg k3, if_neg (by omega)]
      rw [e, show (t : Int) + 1 = ((t + 1 : Nat) : Int) by omega, show (xs.length : Int) - 1 - t - 1 = (xs.length : Int) - 1 - ((t + 1 : Nat) : Int) by omega]
      cases d with
      | zero => omega
      | succ d =>
        cases d with
        | zero => exact absurd c (by omega)
        | succ d => exact rev_loop xs hx d (t + 1) (by omega) (by omega)
    · rw [if_neg c]
      congr 1
      apply rd_ext
      · rw [revAt_len, List.length_reverse]
      · intro k hk
        rw [revAt_len] at hk
        rw [revAt_rd _ _ _ hk]
        have hr : rd xs.reverse (k : Nat) = rd xs ((xs.length - 1 - k : Nat) : Int) := by
          unfold rd
          rw [Int.toNat_natCast, Int.toNat_natCast, List.getD_eq_getElem?_getD, List.getD_eq_getElem?_getD, List.getElem?_reverse hk]
        rw [hr]
        by_cases k3 : k < t ∨ xs.length - 1 - t < k
        · rw [if_pos k3]
        · rw [if_neg k3]
          congr 1
          omega
theorem rev_is (xs : List Int) (hx : xs.length ≤ 1000000) : slices_Reverse_int_int.F xs = some xs.reverse := by
  rw [slices_Reverse_int_int.F_eq, w64 (by omega) (by omega)]
  have e : revAt xs 0 = xs := by
    apply rd_ext (revAt_len _ _)
    intro k hk
    rw [revAt_len] at hk
    rw [revAt_rd _ _ _ hk, if_neg (by omega)]
  have := rev_loop xs hx xs.length 0 (by omega) (by omega)
  rw [e] at this
  rw [show ((0 : Nat) : Int) = 0 from rfl, Int.sub_zero] at this
  exact this
end Go.Proofs.Ytbogfagafdokeaa.QFnExactSpotLess
