/- Lists of words: their bulk, their copy, their likeness. -/
import Derived.Test.YtjoanlocikagaaaFFnExactParseColor
import Derived.Test.YtjoanlocikagaaaLoops
namespace Go.Proofs.Ytjoanlocikagaaa.QFnExactParseColor
open Go Go.RowKit Go.Proofs.YtjoanlocikagaaaW.PrintWords Go.Proofs.YtjoanlocikagaaaW.PrintLast Go.Proofs.YtjoanlocikagaaaW.PrintMore Go.Proofs.Ytjoanlocikagaaa.Val
set_option linter.unusedVariables false
set_option linter.unusedSimpArgs false

/-- A law's word as the program's. -/
def wordOf (x : S94) : S96 := ⟨x.f0, x.f1, x.f2, x.f3⟩
/-- The bytes of a word. -/
def wordBulk (x : S94) : Nat := x.f1.size + x.f3.size
def wordsBulk (l : List S94) : Nat := (l.map wordBulk).sum

theorem toWordS_F (l : List S94) (hl : l.length ≤ 1048576) : laws_toWordS.F l = some (l.map wordOf) := by
  rw [laws_toWordS.F_eq, if_pos (by omega), if_pos (by omega)]
  refine fill l wordOf z94 (fun ys i => laws_toWordS.L0 l ys i) ?_ ?_ (List.replicate ((l.length : Int) : Int).toNat z96) (by simp)
  · intro ys i h0 h1 hy
    show laws_toWordS.L0 l ys i = _
    rw [laws_toWordS.L0_eq, if_pos h1, if_pos h0]
    unfold laws_toWord.f
    rw [Option.bind_some, if_pos (by omega), w64 (by omega) (by omega)]
    rfl
  · intro ys hy
    show laws_toWordS.L0 l ys l.length = _
    rw [laws_toWordS.L0_eq, if_neg (by omega)]

theorem eqWord_self (x : S96) : laws_eqWord.f x.f0 x.f1 x.f2 x.f3 x.f0 x.f1 x.f2 x.f3 = some true := by
  unfold laws_eqWord.f
  simp

theorem eqWordS_self (l : List S96) (hl : l.length ≤ 9223372036854775806) : laws_eqWordS.F l l = some true := by
  rw [laws_eqWordS.F_eq, if_pos rfl]
  have h := upTo (fun i => laws_eqWordS.L0 l l i) l.length ?_
  · rw [h]
    show laws_eqWordS.L0 l l l.length = _
    rw [laws_eqWordS.L0_eq, if_neg (by omega)]
  · intro i h0 h1
    show laws_eqWordS.L0 l l i = _
    rw [laws_eqWordS.L0_eq, if_pos h1, if_pos h0, if_pos h1, eqWord_self, Option.bind_some, if_pos rfl, w64 (by omega) (by omega)]

theorem sz_word (x : S94) (left : Int) (h0 : 0 ≤ left) (h1 : left ≤ 1048576) (hx : x.f1.size ≤ maxLen ∧ x.f3.size ≤ maxLen) :
    ∃ r : Int, laws_szWord.f x.f0 x.f1 x.f2 x.f3 left = some r ∧ (0 ≤ r → r = left - wordBulk x) ∧ r ≤ left := by
  unfold laws_szWord.f wordBulk
  obtain ⟨a, b⟩ := hx
  unfold maxLen at a b
  rw [w64 (by omega : -9223372036854775808 ≤ left - (x.f1.size : Int)) (by omega)]
  by_cases c : left - (x.f1.size : Int) < 0
  · rw [if_pos c]
    exact ⟨-1, rfl, by omega, by omega⟩
  · rw [if_neg c, w64 (by omega : -9223372036854775808 ≤ left - (x.f1.size : Int) - (x.f3.size : Int)) (by omega)]
    split
    · exact ⟨-1, rfl, by omega, by omega⟩
    · exact ⟨_, rfl, by omega, by omega⟩

theorem sz_words (l : List S94) (hl : l.length ≤ maxLen) (hw : ∀ x ∈ l, x.f1.size ≤ maxLen ∧ x.f3.size ≤ maxLen) (left : Int) (h0 : 0 ≤ left) (h1 : left ≤ 1048576) :
    ∃ r : Int, laws_szWordS.F l left = some r ∧ r ≤ left ∧ (0 ≤ r → r = left - l.length - wordsBulk l) := by
  have key : ∀ (d : Nat) (i : Int) (q : Int), 0 ≤ i → i + d = l.length → 0 ≤ q → q ≤ 1048576 →
      ∃ r : Int, laws_szWordS.L0 l q i = some r ∧ r ≤ q ∧ (0 ≤ r → r = q - wordsBulk (l.drop i.toNat)) := by
    intro d
    induction d with
    | zero =>
      intro i q hi hd hq hq1
      rw [laws_szWordS.L0_eq, if_neg (by omega), List.drop_of_length_le (by omega)]
      exact ⟨q, rfl, by omega, by simp [wordsBulk]⟩
    | succ d ih =>
      intro i q hi hd hq hq1
      rw [laws_szWordS.L0_eq, if_pos (by omega), if_pos hi]
      have hlt : i.toNat < l.length := by omega
      have hrd : rd_T94 l i = l[i.toNat] := by
        unfold rd_T94
        rw [List.getD_eq_getElem?_getD, List.getElem?_eq_getElem hlt]
        rfl
      obtain ⟨r, e, hr, hle⟩ := sz_word (rd_T94 l i) q hq hq1 (by rw [hrd]; exact hw _ (List.getElem_mem hlt))
      rw [e, Option.bind_some]
      by_cases c : r < 0
      · rw [if_pos c]
        exact ⟨-1, rfl, by omega, by omega⟩
      · unfold maxLen at hl
        rw [if_neg c, w64 (by omega : -9223372036854775808 ≤ i + 1) (by omega)]
        obtain ⟨r2, e2, hb, hr2⟩ := ih (i + 1) r (by omega) (by omega) (by omega) (by omega)
        refine ⟨r2, e2, by omega, fun h => ?_⟩
        have a := hr (by omega)
        have b := hr2 h
        have t : (i + 1).toNat = i.toNat + 1 := by omega
        rw [t] at b
        rw [List.drop_eq_getElem_cons hlt]
        rw [hrd] at a
        simp only [wordsBulk, List.map_cons, List.sum_cons] at b ⊢
        omega
  rw [laws_szWordS.F_eq]
  have hl' := hl
  unfold maxLen at hl'
  rw [w64 (by omega : -9223372036854775808 ≤ left - (l.length : Int)) (by omega)]
  by_cases c : left - (l.length : Int) < 0
  · rw [if_pos c]
    exact ⟨-1, rfl, by omega, by omega⟩
  · rw [if_neg c]
    obtain ⟨r, e, hb, hr⟩ := key l.length 0 (left - l.length) (by omega) (by omega) (by omega) (by omega)
    refine ⟨r, e, by omega, fun h => ?_⟩
    have := hr h
    simpa using this

end Go.Proofs.Ytjoanlocikagaaa.QFnExactParseColor
