/- Plain lemmas on strings: their list of bytes, parts of them. -/
import Derived.Test.YtjojmfhgfeflnaaGreatDoorLoops
namespace Go.Proofs.YtjojmfhgfeflnaaGreatDoor.Val
open Go.RowKit Go.Proofs.YtjojmfhgfeflnaaGreatDoorV.PrintWords Go.Proofs.YtjojmfhgfeflnaaGreatDoorV.PrintLast Go.Proofs.YtjojmfhgfeflnaaGreatDoorV.PrintMore
set_option linter.unusedVariables false
set_option linter.unusedSimpArgs false

theorem toList_loop (s : ByteArray) (d : Nat) : ∀ (i : Nat) (r : List UInt8), i + d = s.size → ByteArray.toList.loop s i r = r.reverse ++ s.data.toList.drop i := by
  have hl : s.data.toList.length = s.size := data_length s
  induction d with
  | zero =>
    intro i r h
    unfold ByteArray.toList.loop
    rw [if_neg (by omega), List.drop_of_length_le (by omega), List.append_nil]
  | succ d ih =>
    intro i r h
    unfold ByteArray.toList.loop
    rw [if_pos (by omega), ih (i + 1) _ (by omega), List.reverse_cons, List.append_assoc]
    congr 1
    rw [List.drop_eq_getElem_cons (show i < s.data.toList.length by omega)]
    have : s.get! i = s.data.toList[i]'(by omega) := by
      have hi : i < s.data.size := by
        show i < s.size
        omega
      show s.data[i]! = _
      rw [getElem!_pos s.data i hi]
      rfl
    rw [this]
    rfl

theorem toList_data (s : ByteArray) : s.toList = s.data.toList := by
  unfold ByteArray.toList
  rw [toList_loop s s.size 0 [] (by omega)]
  rfl

theorem toList_inj {a b : ByteArray} : a.toList = b.toList ↔ a = b := by
  rw [toList_data, toList_data]
  constructor
  · intro h
    cases a
    cases b
    congr 1
    exact Array.toList_inj.1 h
  · rintro rfl
    rfl

theorem toList_nil {s : ByteArray} : s.toList = [] ↔ s.size = 0 := by
  rw [toList_data]
  have := data_length s
  constructor
  · intro h
    rw [h] at this
    exact this.symm
  · intro h
    exact List.length_eq_zero_iff.1 (by omega)

theorem beq_toList (a b : ByteArray) : (a.toList == b.toList) = decide (a = b) := by
  rw [Bool.eq_iff_iff, beq_iff_eq, decide_eq_true_iff, toList_inj]

theorem extract_all (s : ByteArray) : s.extract 0 s.size = s := ByteArray.extract_zero_size

theorem extract_eq (s : ByteArray) (j : Nat) (hj : j ≤ s.size) : s.extract 0 j = s ↔ j = s.size := by
  constructor
  · intro h
    have := congrArg ByteArray.size h
    rw [ByteArray.size_extract] at this
    omega
  · rintro rfl
    exact extract_all s

theorem bytesOf_get (s : ByteArray) (i : Nat) (h : i < s.size) : (bytesOf s)[i]'(by rw [bytesOf_length]; exact h) = bt s i := by
  have e := rd_bytesOf s (i : Int)
  unfold rd at e
  have hl : i < (bytesOf s).length := by rw [bytesOf_length]; exact h
  rw [Int.toNat_natCast, List.getD_eq_getElem?_getD, List.getElem?_eq_getElem hl] at e
  exact e

theorem bytesOf_strOfNums (l : List Int) (h : ∀ x ∈ l, 0 ≤ x ∧ x ≤ 255) : bytesOf (strOfNums l) = l := by
  unfold bytesOf strOfNums
  simp only
  rw [List.map_map]
  have : ∀ x ∈ l, ((fun b : UInt8 => (b.toNat : Int)) ∘ fun n : Int => UInt8.ofNat n.toNat) x = x := by
    intro x hx
    obtain ⟨h0, h1⟩ := h x hx
    simp only [Function.comp]
    rw [UInt8.toNat_ofNat']
    omega
  rw [List.map_congr_left this, List.map_id']

end Go.Proofs.YtjojmfhgfeflnaaGreatDoor.Val
