/- The reference's shaping of a row, with what the face's map says. -/
import Derived.Test.YtiinihponcojkaaFontP
import Derived.Test.YtiinihponcojkaaRdP
namespace Go.Proofs.Ytiinihponcojkaa.QFnExactAdvance
open Go Go.RowKit Go.Proofs.YtiinihponcojkaaV.PrintWords Go.Proofs.YtiinihponcojkaaV.PrintLast Go.Proofs.YtiinihponcojkaaV.PrintMore Go.Proofs.Ytiinihponcojkaa.Val Go.Proofs.Ytiinihponcojkaa.MapObj Go.Proofs.Ytiinihponcojkaa.MapKey
set_option linter.unusedVariables false
set_option linter.unusedSimpArgs false

def keyL (l : List S84) (j : Nat) : Int × Int := ((rd_T84 l (j : Nat)).f0, (rd_T84 l (j : Nat)).f1)
theorem ligs_less {l : List S84} (h : LigsP l) : ∀ (d i : Nat), i + d + 1 < l.length → LessP (keyL l i).1 (keyL l i).2 (keyL l (i + d + 1)).1 (keyL l (i + d + 1)).2
  | 0, i, hi => by
    have := h (i + 1) (by omega) hi
    rw [show (((i + 1 : Nat) : Int) - 1) = (i : Nat) by omega] at this
    exact this
  | d + 1, i, hi => by
    have h1 := ligs_less h d i (by omega)
    have h2 := h (i + d + 1 + 1) (by omega) hi
    rw [show (((i + d + 1 + 1 : Nat) : Int) - 1) = ((i + d + 1 : Nat) : Int) by omega] at h2
    have h2 : LessP (keyL l (i + d + 1)).1 (keyL l (i + d + 1)).2 (keyL l (i + (d + 1) + 1)).1 (keyL l (i + (d + 1) + 1)).2 := h2
    unfold LessP at *
    omega
theorem ligs_one {l : List S84} (h : LigsP l) {i j : Nat} (hi : i < l.length) (hj : j < l.length) (e : keyL l i = keyL l j) : i = j := by
  rcases Nat.lt_trichotomy i j with q | q | q
  · have := ligs_less h (j - i - 1) i (by omega)
    rw [show i + (j - i - 1) + 1 = j by omega, e] at this
    unfold LessP at this
    omega
  · exact q
  · have := ligs_less h (i - j - 1) j (by omega)
    rw [show j + (i - j - 1) + 1 = i by omega, e] at this
    unfold LessP at this
    omega
theorem hLig_hit {l : List S84} (h : LigsP l) {j : Nat} : ∀ n, n ≤ l.length → j < n → mget (hLig l n) (keyL l j) = some (rd_T84 l (j : Nat)).f2
  | 0, _, hj => by omega
  | n + 1, hn, hj => by
    show (if keyL l n = keyL l j then some (rd_T84 l (n : Nat)).f2 else mget (hLig l n) (keyL l j)) = _
    by_cases e : keyL l n = keyL l j
    · rw [if_pos e, ligs_one h (by omega) (by omega) e]
    · rw [if_neg e]
      exact hLig_hit h n (by omega) (by
        rcases Nat.lt_or_ge j n with q | q
        · exact q
        · exact absurd (by rw [show n = j by omega]) e)
theorem hLig_miss {l : List S84} {p : Int × Int} : ∀ n, (∀ j, j < n → keyL l j ≠ p) → mget (hLig l n) p = none
  | 0, _ => rfl
  | n + 1, h => by
    show (if keyL l n = p then some (rd_T84 l (n : Nat)).f2 else mget (hLig l n) p) = _
    rw [if_neg (h n (by omega))]
    exact hLig_miss n (fun j hj => h j (by omega))
def ligA (l : List S84) (p : Int × Int) : Int × Bool := match ligOf l p with
  | none => (0, false)
  | some z => (z, true)
theorem lig_spec (a b c d : Int) (g : List S79) (k : List S81) (l : List S84) (hl : l.length ≤ 1048576) (h : LigsP l) (x y : Int) : spec_l12Lig.F a b c d g k l x y = some (ligA l (x, y)) := by
  rw [spec_l12Lig.F_eq]
  have key : ∀ (n i : Nat), i + n = l.length → (∀ j, j < i → keyL l j ≠ (x, y)) → spec_l12Lig.L0 x y i a b c d g k l = some (ligA l (x, y)) := by
    intro n
    induction n with
    | zero =>
      intro i hi hm
      rw [spec_l12Lig.L0_eq, if_neg (by omega)]
      have : ligOf l (x, y) = none := hLig_miss l.length (fun j hj => hm j (by omega))
      unfold ligA
      rw [this]
    | succ n ih =>
      intro i hi hm
      have next : keyL l i ≠ (x, y) → spec_l12Lig.L0 x y (wrap64 ((i : Int) + 1)) a b c d g k l = some (ligA l (x, y)) := fun e => by
        rw [w64 (by omega) (by omega)]
        exact ih (i + 1) (by omega) (fun j hj => by
          rcases Nat.lt_or_ge j i with q | q
          · exact hm j q
          · rw [show j = i by omega]
            exact e)
      rw [spec_l12Lig.L0_eq, if_pos (by omega), if_pos (by omega)]
      by_cases e1 : (rd_T84 l (i : Nat)).f0 = x
      · rw [if_pos e1]
        by_cases e2 : (rd_T84 l (i : Nat)).f1 = y
        · rw [if_pos e2]
          have : ligOf l (x, y) = some (rd_T84 l (i : Nat)).f2 := by
            have := hLig_hit h (j := i) l.length (Nat.le_refl _) (by omega)
            unfold keyL at this
            rw [e1, e2] at this
            exact this
          unfold ligA
          rw [this]
        · rw [if_neg e2]
          exact next (fun e => e2 (by unfold keyL at e; injection e))
      · rw [if_neg e1]
        exact next (fun e => e1 (by unfold keyL at e; injection e))
  exact key l.length 0 (by omega) (fun j hj => by omega)
theorem shape_spec (a b c d : Int) (g : List S79) (k : List S81) (l : List S84) (hl : l.length ≤ 1048576) (h : LigsP l) (xs : List Int) (hx : xs.length ≤ 1048576) : spec_Shape.L0 xs [] 0 a b c d g k l = some (shapeL (ligOf l) xs) := by
  have key : ∀ (n i : Nat), i + n = xs.length → (∀ (out : List Int) (x : Int), out.length ≤ i → spec_Shape.L1 xs out i x a b c d g k l = some (out ++ shapeGo (ligOf l) x (xs.drop i))) ∧ (∀ out : List Int, out.length ≤ i → spec_Shape.L0 xs out i a b c d g k l = some (out ++ shapeL (ligOf l) (xs.drop i))) := by
    intro n
    induction n with
    | zero =>
      intro i hi
      have hB : ∀ out : List Int, spec_Shape.L0 xs out i a b c d g k l = some (out ++ shapeL (ligOf l) (xs.drop i)) := fun out => by
        rw [spec_Shape.L0_eq, if_neg (by omega), List.drop_of_length_le (by omega), shapeL, List.append_nil]
      refine ⟨fun out x ho => ?_, fun out _ => hB out⟩
      rw [spec_Shape.L1_eq, if_neg (by omega), if_pos (by omega), hB, List.drop_of_length_le (by omega), shapeL, shapeGo, List.append_nil]
    | succ n ih =>
      intro i hi
      obtain ⟨hA, _⟩ := ih (i + 1) (by omega)
      have hd := drop_rd (l := xs) (i := i) (by omega)
      have hB : ∀ out : List Int, out.length ≤ i + 1 → spec_Shape.L0 xs out i a b c d g k l = some (out ++ shapeL (ligOf l) (xs.drop i)) := fun out ho => by
        rw [spec_Shape.L0_eq, if_pos (by omega), if_pos (by omega), w64 (by omega) (by omega)]
        rw [show ((i : Int) + 1) = ((i + 1 : Nat) : Int) by omega, hA out _ ho, hd, shapeL]
      refine ⟨fun out x ho => ?_, fun out ho => hB out (by omega)⟩
      rw [spec_Shape.L1_eq, if_pos (by omega), if_pos (by omega), lig_spec a b c d g k l hl h, Option.bind_some, w64 (by omega) (by omega), hd, shapeGo]
      unfold ligA
      cases e : ligOf l (x, rd xs (i : Int)) with
      | none =>
        dsimp only
        rw [if_neg (by simp), if_pos (by omega), hB _ (by rw [List.length_append, List.length_cons, List.length_nil]; omega), hd, shapeL, List.append_assoc]
        rfl
      | some z =>
        dsimp only
        rw [if_pos rfl, show ((i : Int) + 1) = ((i + 1 : Nat) : Int) by omega]
        exact hA out z (by omega)
  have := (key xs.length 0 (by omega)).2 [] (Nat.le_refl _)
  rw [List.drop_zero, List.nil_append] at this
  exact this
end Go.Proofs.Ytiinihponcojkaa.QFnExactAdvance
