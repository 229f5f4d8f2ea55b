/- What a tree's text is: the nodes' texts, one behind the other. Plain Lean. -/
import Derived.Test.YtjojmfhgfeflnaaGreatDoorTwAll
import Derived.Test.YtjojmfhgfeflnaaGreatDoorEscAll
namespace Go.Proofs.YtjojmfhgfeflnaaGreatDoor.QFnExactInner
open Go Go.RowKit Go.Proofs.YtjojmfhgfeflnaaGreatDoorV.PrintWords Go.Proofs.YtjojmfhgfeflnaaGreatDoorV.PrintLast Go.Proofs.YtjojmfhgfeflnaaGreatDoorV.PrintMore Go.Proofs.YtjojmfhgfeflnaaGreatDoor.TreeIx Go.Proofs.YtjojmfhgfeflnaaGreatDoor.Trie
set_option linter.unusedVariables false
set_option linter.unusedSimpArgs false

def eT (s : ByteArray) : ByteArray := lst (esc pT (s.data.toList.length + 1) s.data.toList)
def eV (s : ByteArray) : ByteArray := lst (esc pV (s.data.toList.length + 1) s.data.toList)
def raw1 (s : ByteArray) : Bool := decide (s = ⟨#[115, 116, 121, 108, 101]⟩) || decide (s = ⟨#[115, 99, 114, 105, 112, 116]⟩)
def voids : List (List UInt8) := [[98, 114], [104, 114], [105, 109, 103], [105, 110, 112, 117, 116], [109, 101, 116, 97], [108, 105, 110, 107], [99, 111, 108]]
def voidB (s : ByteArray) : Bool := voids.contains s.data.toList
def attE (a : S77) : ByteArray := ((((⟨#[32]⟩ : ByteArray) ++ a.f0) ++ (⟨#[61, 34]⟩ : ByteArray)) ++ eV a.f1) ++ (⟨#[34]⟩ : ByteArray)
/-- The first n attributes. -/
def attN (l : List S77) : Nat → ByteArray
  | 0 => ⟨#[]⟩
  | n + 1 => attN l n ++ attE (rd_T77 l (n : Int))
def headS (x : S57) : ByteArray := (((⟨#[60]⟩ : ByteArray) ++ x.f2) ++ attN x.f3 x.f3.length) ++ (⟨#[62]⟩ : ByteArray)
def tailS (x : S57) : ByteArray := ((⟨#[60, 47]⟩ : ByteArray) ++ x.f2) ++ (⟨#[62]⟩ : ByteArray)
/-- One node: its kids' text is t. -/
def nodeS (x : S57) (ab : ByteArray) (t : ByteArray) : ByteArray :=
  if x.f1 = 3 then (if raw1 ab = true then x.f4 else eT x.f4)
  else if x.f1 = 4 then ((⟨#[60, 33, 45, 45]⟩ : ByteArray) ++ x.f4) ++ (⟨#[45, 45, 62]⟩ : ByteArray)
  else if x.f1 = 5 then ((⟨#[60, 33, 100, 111, 99, 116, 121, 112, 101, 32]⟩ : ByteArray) ++ x.f2) ++ (⟨#[62]⟩ : ByteArray)
  else if voidB x.f2 = true then headS x else (headS x ++ t) ++ tailS x
/-- From place i on, q nodes in a node of the name ab end at e, and their text is s. -/
inductive Em (l : List S57) : Nat → Nat → ByteArray → Nat → ByteArray → Prop
  | nil {i : Nat} {ab : ByteArray} : i ≤ l.length → Em l i 0 ab i ⟨#[]⟩
  | cons {i q m e : Nat} {ab t s : ByteArray} : i < l.length → Em l (i + 1) (kdOf l i) (rd_T57 l (i : Nat)).f2 m t → Em l m q ab e s → Em l i (q + 1) ab e (nodeS (rd_T57 l (i : Nat)) ab t ++ s)
theorem Em.fits {l : List S57} {i q e : Nat} {ab s : ByteArray} (h : Em l i q ab e s) : Fits (kdOf l) l.length i q e := by
  induction h with
  | nil h => exact .nil h
  | cons h1 h2 h3 ih1 ih2 => exact .cons h1 ih1 ih2
theorem em_of {l : List S57} {i q e : Nat} (h : Fits (kdOf l) l.length i q e) : ∀ ab, ∃ s, Em l i q ab e s := by
  induction h with
  | nil h => exact fun ab => ⟨_, .nil h⟩
  | @cons i q m e h1 h2 h3 ih1 ih2 =>
    intro ab
    obtain ⟨t, ht⟩ := ih1 (rd_T57 l (i : Nat)).f2
    obtain ⟨s, hs⟩ := ih2 ab
    exact ⟨_, .cons h1 ht hs⟩
theorem Em.det {l : List S57} {i q e : Nat} {ab s : ByteArray} (h : Em l i q ab e s) : ∀ {e' s'}, Em l i q ab e' s' → e = e' ∧ s = s' := by
  induction h with
  | nil h => intro e' s' h'; cases h' with | nil _ => exact ⟨rfl, rfl⟩
  | cons h1 h2 h3 ih1 ih2 =>
    intro e' s' h'
    cases h' with
    | cons k1 k2 k3 =>
      obtain ⟨rfl, rfl⟩ := ih1 k2
      obtain ⟨rfl, rfl⟩ := ih2 k3
      exact ⟨rfl, rfl⟩
/-! ### sizes -/
theorem look_mem {ps : Ps} {l : List UInt8} {v : ByteArray} {n : Nat} (h : Trie.look ps l = some (v, n)) : ∃ p, p ∈ ps ∧ p.2 = v := by
  cases l with
  | nil => cases h
  | cons c r =>
    simp only [Trie.look] at h
    split at h
    · cases h
    · rename_i q val e
      have hm := List.mem_of_find?_eq_some e
      cases h
      exact ⟨_, hm, rfl⟩
    · rename_i val e
      have hm := List.mem_of_find?_eq_some e
      split at h
      · cases h
      · split at h
        · cases h
          exact ⟨_, hm, rfl⟩
        · cases h
theorem esc_le (ps : Ps) (hp : ∀ p, p ∈ ps → p.2.size ≤ 6) : ∀ (k : Nat) (l : List UInt8), (esc ps k l).length ≤ 6 * k := by
  intro k
  induction k with
  | zero => intro l; exact Nat.le_refl _
  | succ k ih =>
    intro l
    unfold esc
    split
    · rename_i v n hv
      obtain ⟨p, hm, rfl⟩ := look_mem hv
      have h6 := hp p hm
      rw [List.length_append]
      have := ih (l.drop n)
      have : p.2.data.toList.length = p.2.size := Array.length_toList
      omega
    · cases l with
      | nil => exact Nat.zero_le _
      | cons c r =>
        show (c :: esc ps k r).length ≤ _
        rw [List.length_cons]
        have := ih r
        omega
theorem eT_size (s : ByteArray) : (eT s).size ≤ 6 * s.size + 6 := by
  have := esc_le pT (by decide) (s.data.toList.length + 1) s.data.toList
  have h : s.data.toList.length = s.size := Array.length_toList
  show (esc pT (s.data.toList.length + 1) s.data.toList).length ≤ _
  omega
theorem eV_size (s : ByteArray) : (eV s).size ≤ 6 * s.size + 6 := by
  have := esc_le pV (by decide) (s.data.toList.length + 1) s.data.toList
  have h : s.data.toList.length = s.size := Array.length_toList
  show (esc pV (s.data.toList.length + 1) s.data.toList).length ≤ _
  omega
def attW (a : S77) : Nat := a.f0.size + 6 * a.f1.size + 10
theorem attE_size (a : S77) : (attE a).size ≤ attW a := by
  have := eV_size a.f1
  unfold attE attW
  simp only [ByteArray.size_append]
  have z1 : (⟨#[32]⟩ : ByteArray).size = 1 := rfl
  have z2 : (⟨#[61, 34]⟩ : ByteArray).size = 2 := rfl
  have z3 : (⟨#[34]⟩ : ByteArray).size = 1 := rfl
  omega
theorem attN_size (l : List S77) : ∀ n, n ≤ l.length → (attN l n).size ≤ ((l.take n).map attW).sum := by
  intro n
  induction n with
  | zero => intro _; exact Nat.zero_le _
  | succ n ih =>
    intro h
    have e : l.take (n + 1) = l.take n ++ [l[n]'h] := by rw [List.take_add_one, List.getElem?_eq_getElem h]; rfl
    have e2 : rd_T77 l (n : Int) = l[n]'h := by unfold rd_T77; rw [Int.toNat_natCast, List.getD_eq_getElem?_getD, List.getElem?_eq_getElem h]; rfl
    rw [e, List.map_append, List.sum_append]
    show (attN l n ++ attE (rd_T77 l (n : Int))).size ≤ _
    rw [ByteArray.size_append, e2]
    have := ih (by omega)
    have := attE_size (l[n]'h)
    simp only [List.map_cons, List.map_nil, List.sum_cons, List.sum_nil]
    omega
def nodeW (x : S57) : Nat := 6 * x.f4.size + 2 * x.f2.size + (x.f3.map attW).sum + 40
theorem nodeS_size (x : S57) (ab t : ByteArray) : (nodeS x ab t).size ≤ nodeW x + t.size := by
  have ha := attN_size x.f3 x.f3.length (Nat.le_refl _)
  rw [List.take_length] at ha
  have he := eT_size x.f4
  have z1 : (⟨#[60]⟩ : ByteArray).size = 1 := rfl
  have z2 : (⟨#[62]⟩ : ByteArray).size = 1 := rfl
  have z3 : (⟨#[60, 47]⟩ : ByteArray).size = 2 := rfl
  have z4 : (⟨#[60, 33, 45, 45]⟩ : ByteArray).size = 4 := rfl
  have z5 : (⟨#[45, 45, 62]⟩ : ByteArray).size = 3 := rfl
  have z6 : (⟨#[60, 33, 100, 111, 99, 116, 121, 112, 101, 32]⟩ : ByteArray).size = 10 := rfl
  unfold nodeS nodeW headS tailS
  split
  · split <;> omega
  · split
    · simp only [ByteArray.size_append]; omega
    · split
      · simp only [ByteArray.size_append]; omega
      · split <;> (simp only [ByteArray.size_append]; omega)
/-- The weight of d nodes from i on. -/
def sumW (l : List S57) (i : Nat) : Nat → Nat
  | 0 => 0
  | d + 1 => sumW l i d + nodeW (rd_T57 l ((i + d : Nat) : Int))
theorem sumW_add (l : List S57) (i a : Nat) : ∀ b, sumW l i (a + b) = sumW l i a + sumW l (i + a) b
  | 0 => rfl
  | b + 1 => by
    show sumW l i (a + b) + nodeW (rd_T57 l ((i + (a + b) : Nat) : Int)) = sumW l i a + (sumW l (i + a) b + nodeW (rd_T57 l ((i + a + b : Nat) : Int)))
    rw [sumW_add l i a b, Nat.add_assoc i a b, Nat.add_assoc]
theorem Em.size {l : List S57} {i q e : Nat} {ab s : ByteArray} (h : Em l i q ab e s) : s.size ≤ sumW l i (e - i) := by
  induction h with
  | nil _ => exact Nat.zero_le _
  | @cons i q m e ab t s h1 h2 h3 ih1 ih2 =>
    rw [ByteArray.size_append]
    have hs := nodeS_size (rd_T57 l (i : Nat)) ab t
    have a := h2.fits.le
    have b := h3.fits.le
    have e1 : sumW l i (e - i) = sumW l i 1 + (sumW l (i + 1) (m - (i + 1)) + sumW l m (e - m)) := by
      rw [show e - i = 1 + ((m - (i + 1)) + (e - m)) by omega, sumW_add, sumW_add, show i + 1 + (m - (i + 1)) = m by omega]
    have e2 : sumW l i 1 = nodeW (rd_T57 l (i : Nat)) := Nat.zero_add _
    omega
/-- What the walks ask of a tree besides that it is right. -/
structure Fine (l : List S57) : Prop where
  t4 : ∀ j : Nat, j < l.length → (rd_T57 l j).f4.size ≤ 1048576
  t2 : ∀ j : Nat, j < l.length → (rd_T57 l j).f2.size ≤ 1048576
  len : ∀ j : Nat, j < l.length → (rd_T57 l j).f3.length ≤ 1048576
  at_ : ∀ j : Nat, j < l.length → ∀ a ∈ (rd_T57 l j).f3, a.f0.size ≤ 1048576 ∧ a.f1.size ≤ 1048576
  kind : ∀ j : Nat, 0 < j → j < l.length → (rd_T57 l j).f1 = 2 ∨ (((rd_T57 l j).f1 = 3 ∨ (rd_T57 l j).f1 = 4 ∨ (rd_T57 l j).f1 = 5) ∧ kdOf l j = 0)
  sum : sumW l 0 l.length ≤ 1000000000000
theorem Em.small {l : List S57} (F : Fine l) {i q e : Nat} {ab s : ByteArray} (h : Em l i q ab e s) : s.size ≤ 1000000000000 := by
  have a := h.size
  have b := h.fits.le
  have c := F.sum
  have e1 : sumW l 0 l.length = sumW l 0 i + (sumW l i (e - i) + sumW l e (l.length - e)) := by
    rw [show l.length = i + ((e - i) + (l.length - e)) by omega, sumW_add, sumW_add, Nat.zero_add, show i + (e - i) = e by omega]
    rw [show i + ((e - i) + (l.length - e)) = l.length by omega]
  omega
end Go.Proofs.YtjojmfhgfeflnaaGreatDoor.QFnExactInner
