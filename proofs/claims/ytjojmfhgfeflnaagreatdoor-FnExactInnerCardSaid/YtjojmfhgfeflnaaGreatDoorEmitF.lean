/- The small functions of both sides: raw text, void elements, escapes, the end of a node. -/
import Derived.Test.YtjojmfhgfeflnaaGreatDoorF0
import Derived.Test.YtjojmfhgfeflnaaGreatDoorLoops
import Derived.Test.YtjojmfhgfeflnaaGreatDoorEscPT
import Derived.Test.YtjojmfhgfeflnaaGreatDoorEscPVT
import Derived.Test.YtjojmfhgfeflnaaGreatDoorOkAll
import Derived.Test.YtjojmfhgfeflnaaGreatDoorEmit
namespace Go.Proofs.YtjojmfhgfeflnaaGreatDoor.QFnExactInner
open Go Go.RowKit Go.Proofs.YtjojmfhgfeflnaaGreatDoorV.PrintWords Go.Proofs.YtjojmfhgfeflnaaGreatDoorV.PrintLast Go.Proofs.YtjojmfhgfeflnaaGreatDoorV.PrintMore Go.Proofs.YtjojmfhgfeflnaaGreatDoor.Val Go.Proofs.YtjojmfhgfeflnaaGreatDoor.TreeIx Go.Proofs.YtjojmfhgfeflnaaGreatDoor.Trie
set_option linter.unusedVariables false
set_option linter.unusedSimpArgs false

theorem tl_lit (s : ByteArray) (l : List UInt8) : s.toList = l ↔ s = ⟨l.toArray⟩ := by
  rw [toList_data]
  constructor
  · intro h
    apply ByteArray.ext
    rw [← h]
  · rintro rfl
    rfl
theorem raw_spec (s : ByteArray) : ∃ z, spec_RawKind.F s = some z ∧ (z == 1) = raw1 s := by
  rw [spec_RawKind.F_eq]
  unfold raw1
  by_cases h1 : s.toList = ([115, 116, 121, 108, 101] : List UInt8)
  · rw [if_pos h1, spec_RawKind.J0_eq, if_pos (by rw [h1]; rfl)]
    exact ⟨1, rfl, by rw [decide_eq_true ((tl_lit s _).1 h1)]; rfl⟩
  · rw [if_neg h1, spec_RawKind.J0_eq]
    have n1 : decide (s = (⟨#[115, 116, 121, 108, 101]⟩ : ByteArray)) = false := decide_eq_false (fun e => h1 ((tl_lit s _).2 e))
    by_cases h2 : s.toList = ([115, 99, 114, 105, 112, 116] : List UInt8)
    · rw [if_pos (by rw [h2]; rfl)]
      exact ⟨1, rfl, by rw [decide_eq_true ((tl_lit s _).1 h2), n1]; rfl⟩
    · have n2 : decide (s = (⟨#[115, 99, 114, 105, 112, 116]⟩ : ByteArray)) = false := decide_eq_false (fun e => h2 ((tl_lit s _).2 e))
      rw [if_neg (by simpa using h2), n1, n2]
      by_cases h3 : s.toList = ([116, 105, 116, 108, 101] : List UInt8)
      · rw [if_pos h3]; exact ⟨2, rfl, rfl⟩
      · rw [if_neg h3]
        by_cases h4 : s.toList = ([116, 101, 120, 116, 97, 114, 101, 97] : List UInt8)
        · rw [if_pos h4]; exact ⟨2, rfl, rfl⟩
        · rw [if_neg h4]; exact ⟨0, rfl, rfl⟩
theorem raw_impl (s : ByteArray) : ∃ z, impl_RawKind.F s = some z ∧ (z == 1) = raw1 s := by
  rw [impl_RawKind.F_eq]
  unfold raw1
  by_cases h1 : s.toList = ([115, 116, 121, 108, 101] : List UInt8)
  · rw [if_pos h1, impl_RawKind.J0_eq, if_pos (by rw [h1]; rfl)]
    exact ⟨1, rfl, by rw [decide_eq_true ((tl_lit s _).1 h1)]; rfl⟩
  · rw [if_neg h1, impl_RawKind.J0_eq]
    have n1 : decide (s = (⟨#[115, 116, 121, 108, 101]⟩ : ByteArray)) = false := decide_eq_false (fun e => h1 ((tl_lit s _).2 e))
    by_cases h2 : s.toList = ([115, 99, 114, 105, 112, 116] : List UInt8)
    · rw [if_pos (by rw [h2]; rfl)]
      exact ⟨1, rfl, by rw [decide_eq_true ((tl_lit s _).1 h2), n1]; rfl⟩
    · have n2 : decide (s = (⟨#[115, 99, 114, 105, 112, 116]⟩ : ByteArray)) = false := decide_eq_false (fun e => h2 ((tl_lit s _).2 e))
      rw [if_neg (by simpa using h2), n1, n2]
      by_cases h3 : s.toList = ([116, 105, 116, 108, 101] : List UInt8)
      · rw [if_pos h3]; exact ⟨2, rfl, rfl⟩
      · rw [if_neg h3]
        by_cases h4 : s.toList = ([116, 101, 120, 116, 97, 114, 101, 97] : List UInt8)
        · rw [if_pos h4]; exact ⟨2, rfl, rfl⟩
        · rw [if_neg h4]; exact ⟨0, rfl, rfl⟩
theorem escT_spec (s : ByteArray) (h : s.size ≤ 1048576) : spec_EscapeText.F s = some (eT s) := by
  have hl : s.data.toList.length = s.size := Array.length_toList
  have e := ET.esc_lits s.data.toList (by omega) s.data.toList.length s.data.toList.length 0 [] (Nat.le_refl _) (Nat.zero_add _) (Nat.zero_le _)
  have e2 : lst s.data.toList = s := rfl
  rw [e2] at e
  rw [spec_EscapeText.F_eq, spec_l4Escape.F_eq, show (0 : Int) = ((0 : Nat) : Int) from rfl, e, Option.bind_some, List.nil_append, List.drop_zero, ET.str_B]
  rfl
theorem escV_spec (s : ByteArray) (h : s.size ≤ 1048576) : spec_EscapeValue.F s = some (eV s) := by
  have hl : s.data.toList.length = s.size := Array.length_toList
  have e := EU.esc_lits s.data.toList (by omega) s.data.toList.length s.data.toList.length 0 [] (Nat.le_refl _) (Nat.zero_add _) (Nat.zero_le _)
  have e2 : lst s.data.toList = s := rfl
  rw [e2] at e
  rw [spec_EscapeValue.F_eq, spec_l4Escape.F_eq, show (0 : Int) = ((0 : Nat) : Int) from rfl, e, Option.bind_some, List.nil_append, List.drop_zero, EU.str_B]
  rfl
def voidT : ByteArray := ⟨#[98, 114, 32, 104, 114, 32, 105, 109, 103, 32, 105, 110, 112, 117, 116, 32, 109, 101, 116, 97, 32, 108, 105, 110, 107, 32, 99, 111, 108]⟩
/-- Looked for from place i on, with the words' list that is left. -/
def voidFrom (s : ByteArray) : Nat → Nat → Nat → Bool
  | 0, _, _ => false
  | d + 1, f, i => if i = 29 ∨ bt voidT (i : Int) = 32 then (if s.toList ≠ [] ∧ (voidT.extract f i).toList = s.toList then true else voidFrom s d (i + 1) (i + 1)) else voidFrom s d f (i + 1)
theorem is_from (s : ByteArray) (d : Nat) : ∀ (f i : Nat), i + d = 30 → f ≤ i → spec_l3Is.L0 s voidT (f : Int) (i : Int) = some (voidFrom s d f i) := by
  have hz : voidT.size = 29 := rfl
  induction d with
  | zero =>
    intro f i hi hf
    rw [spec_l3Is.L0_eq, if_neg (by rw [hz]; omega)]
    rfl
  | succ d ih =>
    intro f i hi hf
    have w : wrap64 ((i : Int) + 1) = ((i + 1 : Nat) : Int) := by rw [w64 (by omega) (by omega)]; rfl
    have key : spec_l3Is.J1 s voidT (f : Int) (i : Int) (decide (i = 29 ∨ bt voidT (i : Int) = 32)) = some (voidFrom s (d + 1) f i) := by
      rw [spec_l3Is.J1_eq, w]
      unfold voidFrom
      by_cases c : i = 29 ∨ bt voidT (i : Int) = 32
      · rw [if_pos (decide_eq_true c), if_pos c]
        by_cases c1 : s.toList = ([] : List UInt8)
        · rw [if_pos c1, if_neg (fun h => h.1 c1)]
          exact ih (i + 1) (i + 1) (by omega) (Nat.le_refl _)
        · rw [if_neg c1, if_pos (by omega), if_pos (by omega), if_pos (by rw [hz]; omega), Int.toNat_natCast, Int.toNat_natCast]
          by_cases c2 : (voidT.extract f i).toList = s.toList
          · rw [if_pos c2, if_pos ⟨c1, c2⟩]
          · rw [if_neg c2, if_neg (fun h => c2 h.2)]
            exact ih (i + 1) (i + 1) (by omega) (Nat.le_refl _)
      · rw [if_neg (by simpa using c), if_neg c]
        exact ih f (i + 1) (by omega) (by omega)
    rw [spec_l3Is.L0_eq, if_pos (by rw [hz]; omega)]
    by_cases h29 : i = 29
    · rw [if_pos (by rw [hz]; omega)]
      rw [show decide (i = 29 ∨ bt voidT (i : Int) = 32) = true from decide_eq_true (.inl h29)] at key
      exact key
    · rw [if_neg (by rw [hz]; omega), if_pos (by omega), if_pos (by rw [hz]; omega)]
      rw [show decide (i = 29 ∨ bt voidT (i : Int) = 32) = (bt voidT (i : Int) == 32) from by by_cases c : bt voidT (i : Int) = 32 <;> simp [h29, c]] at key
      exact key
theorem ex_lit (s : ByteArray) (f i : Nat) (l : List UInt8) (h : (voidT.extract f i).data.toList = l) : ((voidT.extract f i).toList = s.toList) = (s.data.toList = l) := by
  rw [toList_data, toList_data, h]
  exact propext ⟨fun e => e.symm, fun e => e.symm⟩
theorem void_spec (s : ByteArray) : spec_l4Void.F s = some (voidB s) := by
  rw [spec_l4Void.F_eq, spec_l3Is.F_eq]
  have e := is_from s 30 0 0 rfl (Nat.le_refl _)
  have e2 : spec_l3Is.L0 s (⟨#[98, 114, 32, 104, 114, 32, 105, 109, 103, 32, 105, 110, 112, 117, 116, 32, 109, 101, 116, 97, 32, 108, 105, 110, 107, 32, 99, 111, 108]⟩ : ByteArray) 0 0 = some (voidFrom s 30 0 0) := e
  rw [e2, Option.bind_some]
  congr 1
  have b : ∀ i : Nat, i < 29 → (bt voidT (i : Int) = 32 ↔ i = 2 ∨ i = 5 ∨ i = 9 ∨ i = 15 ∨ i = 20 ∨ i = 25) := by decide +kernel
  have st : ∀ d f i : Nat, i < 29 → ¬ (i = 2 ∨ i = 5 ∨ i = 9 ∨ i = 15 ∨ i = 20 ∨ i = 25) → voidFrom s (d + 1) f i = voidFrom s d f (i + 1) := by
    intro d f i h1 h2
    show (if i = 29 ∨ bt voidT (i : Int) = 32 then _ else _) = _
    rw [if_neg]
    rintro (h | h)
    · omega
    · exact h2 ((b i h1).1 h)
  have hit : ∀ (d f i : Nat) (l : List UInt8), (i = 29 ∨ bt voidT (i : Int) = 32) → (voidT.extract f i).data.toList = l → l ≠ [] → voidFrom s (d + 1) f i = if s.data.toList = l then true else voidFrom s d (i + 1) (i + 1) := by
    intro d f i l h1 h2 h3
    show (if i = 29 ∨ bt voidT (i : Int) = 32 then _ else _) = _
    rw [if_pos h1]
    have e := ex_lit s f i l h2
    by_cases c : s.data.toList = l
    · rw [if_pos c, if_pos ⟨by rw [toList_data, c]; exact h3, e.mpr c⟩]
    · rw [if_neg c, if_neg (fun h => c (e.mp h.2))]
  rw [st 29 0 0 (by decide) (by decide), st 28 0 1 (by decide) (by decide), hit 27 0 2 [98, 114] (by decide +kernel) (by decide +kernel) (by decide),
    st 26 3 3 (by decide) (by decide), st 25 3 4 (by decide) (by decide), hit 24 3 5 [104, 114] (by decide +kernel) (by decide +kernel) (by decide),
    st 23 6 6 (by decide) (by decide), st 22 6 7 (by decide) (by decide), st 21 6 8 (by decide) (by decide), hit 20 6 9 [105, 109, 103] (by decide +kernel) (by decide +kernel) (by decide),
    st 19 10 10 (by decide) (by decide), st 18 10 11 (by decide) (by decide), st 17 10 12 (by decide) (by decide), st 16 10 13 (by decide) (by decide), st 15 10 14 (by decide) (by decide), hit 14 10 15 [105, 110, 112, 117, 116] (by decide +kernel) (by decide +kernel) (by decide),
    st 13 16 16 (by decide) (by decide), st 12 16 17 (by decide) (by decide), st 11 16 18 (by decide) (by decide), st 10 16 19 (by decide) (by decide), hit 9 16 20 [109, 101, 116, 97] (by decide +kernel) (by decide +kernel) (by decide),
    st 8 21 21 (by decide) (by decide), st 7 21 22 (by decide) (by decide), st 6 21 23 (by decide) (by decide), st 5 21 24 (by decide) (by decide), hit 4 21 25 [108, 105, 110, 107] (by decide +kernel) (by decide +kernel) (by decide),
    st 3 26 26 (by decide) (by decide), st 2 26 27 (by decide) (by decide), st 1 26 28 (by decide) (by decide), hit 0 26 29 [99, 111, 108] (by decide +kernel) (by decide +kernel) (by decide)]
  unfold voidB voids voidFrom
  simp only [List.contains_cons, List.contains_nil]
  repeat' split
  all_goals simp_all
end Go.Proofs.YtjojmfhgfeflnaaGreatDoor.QFnExactInner
