/- White at both ends of a list of words is taken off. -/
import Derived.Test.YtjoanlocikagaaaFFnExactParseColor
import Derived.Test.YtjoanlocikagaaaLoops
namespace Go.Proofs.Ytjoanlocikagaaa.QFnExactParseColor
open Go Go.RowKit Go.Proofs.YtjoanlocikagaaaW.PrintWords Go.Proofs.YtjoanlocikagaaaW.PrintLast Go.Proofs.YtjoanlocikagaaaW.PrintMore Go.Proofs.Ytjoanlocikagaaa.Val
set_option linter.unusedVariables false
set_option linter.unusedSimpArgs false

def isW (x : S96) : Bool := decide (x.f0 = 8)
def trimEnd (l : List S96) : List S96 := (l.reverse.dropWhile isW).reverse
def trimW (l : List S96) : List S96 := trimEnd (l.dropWhile isW)

theorem trimEnd_nil : trimEnd [] = [] := rfl
theorem trimEnd_snoc (l : List S96) (x : S96) : trimEnd (l ++ [x]) = if isW x = true then trimEnd l else l ++ [x] := by
  unfold trimEnd
  rw [List.reverse_append, List.reverse_singleton, List.singleton_append, List.dropWhile_cons]
  split
  · rfl
  · simp
theorem trimEnd_len (l : List S96) : (trimEnd l).length ≤ l.length := by
  unfold trimEnd
  rw [List.length_reverse]
  exact Nat.le_trans (List.Sublist.length_le (List.dropWhile_sublist _)) (by simp)
theorem trimW_len (l : List S96) : (trimW l).length ≤ l.length :=
  Nat.le_trans (trimEnd_len _) (List.Sublist.length_le (List.dropWhile_sublist _))

theorem isW_iff (x : S96) : isW x = true ↔ x.f0 = 8 := by unfold isW; exact decide_eq_true_iff

theorem rdT_get (l : List S96) (i : Int) (h : i.toNat < l.length) : rd_T96 l i = l[i.toNat] := by
  unfold rd_T96
  rw [List.getD_eq_getElem?_getD, List.getElem?_eq_getElem h]
  rfl

theorem snoc_of (l : List S96) (h : 0 < l.length) : l = l.take (l.length - 1) ++ [l[l.length - 1]'(by omega)] := by
  have := List.take_append_drop (l.length - 1) l
  rw [List.drop_eq_getElem_cons (by omega)] at this
  have e : l.drop (l.length - 1 + 1) = [] := List.drop_of_length_le (by omega)
  rw [e] at this
  exact this.symm

theorem trimmed_L1 (n : Nat) : ∀ (l : List S96), l.length = n → n ≤ 9223372036854775806 → impl_trimmed.L1 l = some (trimEnd l) := by
  induction n with
  | zero =>
    intro l hl _
    rw [impl_trimmed.L1_eq, if_neg (by omega)]
    have : l = [] := List.length_eq_zero_iff.1 hl
    subst this
    rfl
  | succ n ih =>
    intro l hl hn
    rw [impl_trimmed.L1_eq, if_pos (by omega), w64 (by omega : -9223372036854775808 ≤ (l.length : Int) - 1) (by omega), if_pos (by omega), if_pos (by omega)]
    have ht : ((l.length : Int) - 1).toNat = l.length - 1 := by omega
    have hg := rdT_get l ((l.length : Int) - 1) (by omega)
    have hs := snoc_of l (by omega)
    have ht' : trimEnd l = if isW (l[l.length - 1]'(by omega)) = true then trimEnd (l.take (l.length - 1)) else l := by
      have := trimEnd_snoc (l.take (l.length - 1)) (l[l.length - 1]'(by omega))
      rw [← hs] at this
      exact this
    simp only [ht] at hg ⊢
    rw [hg, ht']
    by_cases c : (l[l.length - 1]'(by omega)).f0 = 8
    · rw [if_pos c, if_pos ((isW_iff _).2 c), if_pos (by omega)]
      exact ih _ (by simp; omega) (by omega)
    · rw [if_neg c, if_neg (mt (isW_iff _).1 c)]

theorem trimmed_F (l : List S96) (hl : l.length ≤ 9223372036854775806) : impl_trimmed.F l = some (trimW l) := by
  rw [impl_trimmed.F_eq]
  induction l with
  | nil =>
    rw [impl_trimmed.L0_eq, if_neg (by simp), impl_trimmed.J1_eq, trimmed_L1 0 [] rfl (by omega)]
    rfl
  | cons x t ih =>
    rw [impl_trimmed.L0_eq, if_pos (by simp only [List.length_cons]; omega), if_pos (by simp only [List.length_cons]; omega)]
    have hg : rd_T96 (x :: t) 0 = x := rfl
    rw [hg]
    unfold trimW
    rw [List.dropWhile_cons]
    by_cases c : x.f0 = 8
    · rw [if_pos c, if_pos (by simp only [List.length_cons]; omega), if_pos ((isW_iff _).2 c)]
      exact ih (by simp only [List.length_cons] at hl; omega)
    · rw [if_neg c, if_neg (mt (isW_iff _).1 c), impl_trimmed.J1_eq]
      exact trimmed_L1 _ _ rfl hl

theorem white_L0 (l : List S96) (hl : l.length ≤ 9223372036854775806) (d : Nat) : ∀ (i : Nat), i + d = l.length →
    spec_l7White.L0 l i = some (((i + ((l.drop i).takeWhile isW).length : Nat)) : Int) := by
  induction d with
  | zero =>
    intro i hd
    rw [spec_l7White.L0_eq, if_neg (by omega), List.drop_of_length_le (by omega)]
    rfl
  | succ d ih =>
    intro i hd
    have hlt : i < l.length := by omega
    rw [spec_l7White.L0_eq, if_pos (by omega), if_pos (by omega), rdT_get l i (by omega)]
    rw [List.drop_eq_getElem_cons hlt, List.takeWhile_cons]
    have e : (i : Int).toNat = i := by omega
    simp only [e]
    by_cases c : l[i].f0 = 8
    · rw [if_pos c, if_pos ((isW_iff _).2 c), w64 (by omega : -9223372036854775808 ≤ (i : Int) + 1) (by omega)]
      have := ih (i + 1) (by omega)
      have e2 : ((i + 1 : Nat) : Int) = (i : Int) + 1 := by omega
      rw [e2] at this
      rw [this]
      congr 1
      rw [List.length_cons]
      omega
    · rw [if_neg c, if_neg (mt (isW_iff _).1 c)]
      rfl

theorem trim_L0 (l : List S96) (hl : l.length ≤ 1048576) (a : Nat) (d : Nat) : ∀ (e : Nat), a + d = e → e ≤ l.length →
    spec_l7Trim.L0 l a e = some (trimEnd ((l.take e).drop a)) := by
  have out : ∀ e : Nat, a ≤ e → e ≤ l.length → ((some (([] : List (S96)) : List (S96))).bind fun y107 => (if 0 ≤ (a : Int) then (if (a : Int) ≤ (e : Int) then (if (e : Int) ≤ (l.length : Int) then ((some ((l.take (e : Int).toNat).drop (a : Int).toNat : List (S96))).bind fun y110 => (if y107.length + y110.length < 2932031007402 then (some (y107 ++ y110)) else (none))) else (none)) else (none)) else (none))) = some ((l.take e).drop a) := by
    intro e h1 h2
    rw [Option.bind_some, if_pos (by omega), if_pos (by omega), if_pos (by omega), Option.bind_some]
    have e1 : (e : Int).toNat = e := by omega
    have e2 : (a : Int).toNat = a := by omega
    rw [e1, e2, if_pos (by simp; omega), List.nil_append]
  induction d with
  | zero =>
    intro e hd he
    rw [spec_l7Trim.L0_eq, if_neg (by omega), out e (by omega) he]
    have : (l.take e).drop a = [] := List.drop_of_length_le (by simp; omega)
    rw [this]
    rfl
  | succ d ih =>
    intro e hd he
    have hlt : e - 1 < l.length := by omega
    have w : wrap64 ((e : Int) - 1) = ((e - 1 : Nat) : Int) := by rw [w64 (by omega) (by omega)]; omega
    rw [spec_l7Trim.L0_eq, if_pos (by omega), w, if_pos (by omega), if_pos (by omega), rdT_get l _ (by omega)]
    have e1 : ((e - 1 : Nat) : Int).toNat = e - 1 := by omega
    simp only [e1]
    have hseg : (l.take e).drop a = (l.take (e - 1)).drop a ++ [l[e - 1]] := by
      have h1 : l.take e = l.take (e - 1) ++ [l[e - 1]] := by
        have := List.take_succ_eq_append_getElem hlt
        rw [show e - 1 + 1 = e by omega] at this
        exact this
      rw [h1, List.drop_append_of_le_length (by simp; omega)]
    by_cases c : l[e - 1].f0 = 8
    · rw [if_pos c, ih (e - 1) (by omega) (by omega), hseg, trimEnd_snoc, if_pos ((isW_iff _).2 c)]
    · rw [if_neg c, out e (by omega) he, hseg, trimEnd_snoc, if_neg (mt (isW_iff _).1 c)]

theorem trim_F (l : List S96) (hl : l.length ≤ 1048576) : spec_l7Trim.F l = some (trimW l) := by
  rw [spec_l7Trim.F_eq, spec_l7White.F_eq]
  have := white_L0 l (by omega) l.length 0 (by omega)
  have z : ((0 : Nat) : Int) = 0 := rfl
  rw [z] at this
  rw [this, Option.bind_some]
  have hle : (l.takeWhile isW).length ≤ l.length := List.Sublist.length_le (List.takeWhile_sublist _)
  rw [List.drop_zero, Nat.zero_add]
  rw [trim_L0 l hl _ (l.length - (l.takeWhile isW).length) l.length (by omega) (Nat.le_refl _)]
  rw [List.take_length]
  unfold trimW
  congr 2
  have := List.takeWhile_append_dropWhile (p := isW) (l := l)
  calc l.drop (l.takeWhile isW).length = (l.takeWhile isW ++ l.dropWhile isW).drop (l.takeWhile isW).length := by rw [this]
    _ = l.dropWhile isW := by rw [List.drop_left]

end Go.Proofs.Ytjoanlocikagaaa.QFnExactParseColor
