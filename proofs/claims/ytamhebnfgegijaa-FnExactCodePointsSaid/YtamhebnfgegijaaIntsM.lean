/- Rows of numbers: their likeness, their marks, and whether the marks are held. -/
import Derived.Test.YtamhebnfgegijaaFFnExactCodePoints
import Derived.Test.YtamhebnfgegijaaLoops
namespace Go.Proofs.Ytamhebnfgegijaa.QFnExactCodePoints
open Go Go.RowKit Go.Proofs.YtamhebnfgegijaaV.PrintWords Go.Proofs.YtamhebnfgegijaaV.PrintLast Go.Proofs.YtamhebnfgegijaaV.PrintMore Go.Proofs.Ytamhebnfgegijaa.Val
set_option linter.unusedVariables false
set_option linter.unusedSimpArgs false

theorem rd_at {l : List Int} {i : Nat} (h : i < l.length) : rd l (i : Int) = l[i] := rd_lt (by omega) (by omega)
theorem rd_get {l : List Int} {i : Nat} (h : i < l.length) : l[i]? = some (rd l (i : Int)) := by rw [rd_at h, List.getElem?_eq_getElem h]
theorem drop_rd {l : List Int} {i : Nat} (h : i < l.length) : l.drop i = rd l (i : Int) :: l.drop (i + 1) := by rw [rd_at h]; exact List.drop_eq_getElem_cons h
theorem set_rd {l : List Int} {i j : Nat} {a : Int} (hi : i < l.length) : rd (l.set i a) (j : Int) = if j = i then a else rd l (j : Int) := by
  unfold rd
  rw [Int.toNat_natCast, List.getD_eq_getElem?_getD, List.getD_eq_getElem?_getD, List.getElem?_set]
  by_cases e : i = j
  · subst e
    rw [if_pos rfl, if_pos hi, if_pos rfl]
    rfl
  · rw [if_neg e, if_neg (fun x => e x.symm)]
theorem eq_ints (l : List Int) (h : l.length ≤ 1048576) : laws_eqIntS.F l l = some true := by
  rw [laws_eqIntS.F_eq, if_pos rfl]
  rw [upTo (fun i => laws_eqIntS.L0 l l i) l.length (fun i h0 h1 => by
    show laws_eqIntS.L0 l l i = laws_eqIntS.L0 l l (i + 1)
    rw [laws_eqIntS.L0_eq, if_pos h1, if_pos h0, if_pos h1, if_pos rfl, w64 (by omega) (by omega)])]
  show laws_eqIntS.L0 l l l.length = _
  rw [laws_eqIntS.L0_eq, if_neg (by omega)]
/-- A row that counts on from a. -/
def Count (l : List Int) (n : Nat) (a : Int) : Prop := l.length = n ∧ ∀ j : Nat, j < n → rd l (j : Int) = a + j
theorem mark_ints (l : List Int) (a : Int) (h : l.length ≤ 1048576) (h0 : 0 ≤ a) (h1 : a ≤ 4611686018427387904) : ∃ l', laws_markIntS.F l a = some (a + l.length, l') ∧ Count l' l.length a := by
  rw [laws_markIntS.F_eq]
  have key : ∀ (d i : Nat) (x : List Int), i + d = l.length → x.length = l.length → (∀ j : Nat, j < i → rd x (j : Int) = a + j) → ∃ l', laws_markIntS.L0 x (a + i) i = some (a + l.length, l') ∧ Count l' l.length a := by
    intro d
    induction d with
    | zero =>
      intro i x hi hx hc
      rw [laws_markIntS.L0_eq, if_neg (by omega)]
      refine ⟨x, ?_, hx, fun j hj => hc j (by omega)⟩
      rw [show (i : Int) = (l.length : Int) by omega]
    | succ d ih =>
      intro i x hi hx hc
      rw [laws_markIntS.L0_eq, if_pos (by omega), if_pos (by omega), w64 (by omega) (by omega), w64 (by omega) (by omega)]
      have := ih (i + 1) (x.set i (a + i)) (by omega) (by rw [List.length_set]; exact hx) (fun j hj => by
        rw [set_rd (by omega)]
        by_cases e : j = i
        · rw [if_pos e, e]
        · rw [if_neg e]
          exact hc j (by omega))
      rw [Int.toNat_natCast]
      rw [show a + (i : Int) + 1 = a + ((i + 1 : Nat) : Int) by omega, show ((i : Int) + 1) = ((i + 1 : Nat) : Int) by omega]
      exact this
  have := key l.length 0 l (by omega) rfl (fun j hj => by omega)
  rw [show a + ((0 : Nat) : Int) = a by omega] at this
  exact this
theorem held_ints {l : List Int} {n : Nat} {a : Int} (hc : Count l n a) (h : n ≤ 1048576) (h0 : 0 ≤ a) (h1 : a ≤ 4611686018427387904) : laws_heldIntS.F l a = some (a + n) := by
  rw [laws_heldIntS.F_eq]
  have key : ∀ (d i : Nat), i + d = n → laws_heldIntS.L0 l (a + i) i = some (a + n) := by
    intro d
    induction d with
    | zero =>
      intro i hi
      rw [laws_heldIntS.L0_eq, if_neg (by have := hc.1; omega), show (i : Int) = (n : Int) by omega]
    | succ d ih =>
      intro i hi
      rw [laws_heldIntS.L0_eq, if_pos (by have := hc.1; omega), if_pos (by omega), if_pos (hc.2 i (by omega)), w64 (by omega) (by omega), w64 (by omega) (by omega)]
      have := ih (i + 1) (by omega)
      rw [show a + (i : Int) + 1 = a + ((i + 1 : Nat) : Int) by omega, show ((i : Int) + 1) = ((i + 1 : Nat) : Int) by omega]
      exact this
  have := key n 0 (by omega)
  rw [show a + ((0 : Nat) : Int) = a by omega] at this
  exact this
end Go.Proofs.Ytamhebnfgegijaa.QFnExactCodePoints
