/- The reference's escape is the replacer's. -/
import Derived.Test.YtjojmfhgfeflnaaGreatDoorF0
import Derived.Test.YtjojmfhgfeflnaaGreatDoorLoops
import Derived.Test.YtjojmfhgfeflnaaGreatDoorBytes
import Derived.Test.YtjojmfhgfeflnaaGreatDoorEscAll
namespace Go.Proofs.YtjojmfhgfeflnaaGreatDoor.QFnExactInner.EU
open Go Go.RowKit Go.Proofs.YtjojmfhgfeflnaaGreatDoorV.PrintWords Go.Proofs.YtjojmfhgfeflnaaGreatDoorV.PrintLast Go.Proofs.YtjojmfhgfeflnaaGreatDoorV.PrintMore Go.Proofs.YtjojmfhgfeflnaaGreatDoor.Val Go.Proofs.YtjojmfhgfeflnaaGreatDoor.Trie
set_option linter.unusedVariables false
set_option linter.unusedSimpArgs false

theorem str_B (l : List UInt8) : strOfNums (B l) = lst l := by
  apply WideShapes.bytes_inj
  unfold strOfNums B
  simp only [List.map_map]
  refine (List.map_congr_left (fun b _ => ?_)).trans (List.map_id l)
  simp
theorem bt_lst (l : List UInt8) (i : Nat) (h : i < l.length) : bt (lst l) (i : Int) = ((l[i]).toNat : Int) := by
  unfold bt
  rw [dif_pos (show ((i : Int)).toNat < (lst l).size from by rw [Int.toNat_natCast]; exact h)]
  rfl
theorem u8_eq {c d : UInt8} (h : c.toNat = d.toNat) : c = d := UInt8.toNat_inj.1 h
theorem look1 {c : UInt8} (r : List UInt8) (h : c.toNat = 38) : Trie.look pV (c :: r) = some (⟨#[38, 97, 109, 112, 59]⟩, 1) := by
  obtain rfl : c = 38 := u8_eq h
  rfl
theorem look2 {c : UInt8} (r : List UInt8) (h : c.toNat = 34) : Trie.look pV (c :: r) = some (⟨#[38, 113, 117, 111, 116, 59]⟩, 1) := by
  obtain rfl : c = 34 := u8_eq h
  rfl
theorem look4 {c d : UInt8} (r : List UInt8) (h : c.toNat = 194) (hd : d.toNat = 160) : Trie.look pV (c :: d :: r) = some (⟨#[38, 110, 98, 115, 112, 59]⟩, 2) := by
  obtain rfl : c = 194 := u8_eq h
  obtain rfl : d = 160 := u8_eq hd
  rfl
theorem look5 {c d : UInt8} (r : List UInt8) (h : c.toNat = 194) (hd : d.toNat ≠ 160) : Trie.look pV (c :: d :: r) = none := by
  obtain rfl : c = 194 := u8_eq h
  have : d ≠ 160 := fun e => hd (by rw [e]; rfl)
  show (if d = 160 then _ else none) = none
  rw [if_neg this]
theorem look6 {c : UInt8} (h : c.toNat = 194) : Trie.look pV [c] = none := by
  obtain rfl : c = 194 := u8_eq h
  rfl
theorem look7 {c : UInt8} (r : List UInt8) (h1 : c.toNat ≠ 38) (h2 : c.toNat ≠ 34) (h4 : c.toNat ≠ 194) : Trie.look pV (c :: r) = none := by
  apply look_none
  rw [List.find?_eq_none]
  intro p hp
  have : lead p.1 = 38 ∨ lead p.1 = 34 ∨ lead p.1 = 194 := by
    simp only [pV, List.mem_cons, List.not_mem_nil, or_false] at hp
    rcases hp with rfl | rfl | rfl
    · exact .inl rfl
    · exact .inr (.inr rfl)
    · exact .inr (.inl rfl)
  simp only [beq_iff_eq]
  omega
theorem esc_lits (l : List UInt8) (hl : l.length ≤ 1048576) : ∀ (n d i : Nat) (xs : List Int), d ≤ n → i + d = l.length → xs.length ≤ 6 * i → spec_l4Escape.L0 (lst l) true xs (i : Int) = some (strOfNums (xs ++ B (esc pV (d + 1) (l.drop i))))
  | _, 0, i, xs, _, hi, hx => by
    rw [spec_l4Escape.L0_eq, if_neg (by show ¬ ((i : Int) < (l.length : Int)); omega), List.drop_eq_nil_of_le (by omega)]
    show _ = some (strOfNums (xs ++ []))
    rw [List.append_nil]
  | 0, d + 1, i, xs, hn, _, _ => by omega
  | n + 1, d + 1, i, xs, hn, hi, hx => by
    have hil : i < l.length := by omega
    have hd : l.drop i = l[i] :: l.drop (i + 1) := List.drop_eq_getElem_cons hil
    have hsz : ((lst l).size : Int) = (l.length : Int) := rfl
    obtain ⟨c, ec⟩ : ∃ c, c = l[i] := ⟨_, rfl⟩
    have hb : bt (lst l) (i : Int) = (c.toNat : Int) := by rw [bt_lst l i hil, ec]
    rw [← ec] at hd
    have w1 : wrap64 ((i : Int) + 1) = ((i + 1 : Nat) : Int) := by unfold wrap64; omega
    have w2 : wrap64 (((i + 1 : Nat) : Int) + 1) = ((i + 2 : Nat) : Int) := by unfold wrap64; omega
    have ih1 := fun ys hy => esc_lits l hl n d (i + 1) ys (by omega) (by omega) hy
    have step : ∀ (v : ByteArray), Trie.look pV (c :: l.drop (i + 1)) = some (v, 1) → v.size ≤ 6 → spec_l4Escape.L0 (lst l) true (xs ++ bytesOf v) ((i + 1 : Nat) : Int) = some (strOfNums (xs ++ B (esc pV (d + 1 + 1) (l.drop i)))) := fun v hv hs => by
      rw [ih1 _ (by rw [List.length_append, bytesOf_length]; omega), hd, esc_some (d + 1) hv, B_app, List.append_assoc]
      rfl
    have one : Trie.look pV (c :: l.drop (i + 1)) = none → spec_l4Escape.L0 (lst l) true (xs ++ [(c.toNat : Int)]) ((i + 1 : Nat) : Int) = some (strOfNums (xs ++ B (esc pV (d + 1 + 1) (l.drop i)))) := fun hv => by
      rw [ih1 _ (by rw [List.length_append]; show _ + 1 ≤ _; omega), hd, esc_none (d + 1) hv, List.append_assoc]
      rfl
    rw [spec_l4Escape.L0_eq, hsz, if_pos (by omega), if_pos (by omega), hb, w1]
    by_cases c38 : c.toNat = 38
    · rw [if_pos (by omega), if_pos (by omega)]
      exact step _ (look1 _ c38) (by decide)
    rw [if_neg (by omega)]
    have J2 : (∀ z, spec_l4Escape.J3 (lst l) true xs (i : Int) (c.toNat : Int) false = z → spec_l4Escape.J2 (lst l) true xs (i : Int) (c.toNat : Int) false = z) := fun z hz => by
      rw [spec_l4Escape.J2_eq, if_neg (by simp)]
      by_cases h62 : (c.toNat : Int) = 62
      · rw [if_pos h62]
        exact hz
      · rw [if_neg h62]
        exact hz
    have J3 : c.toNat ≠ 34 → Trie.look pV (c :: l.drop (i + 1)) = none → spec_l4Escape.J3 (lst l) true xs (i : Int) (c.toNat : Int) false = some (strOfNums (xs ++ B (esc pV (d + 1 + 1) (l.drop i)))) := fun h34 hv => by
      rw [spec_l4Escape.J3_eq, if_neg (by simp), w1, if_neg (by omega), if_pos (by omega)]
      exact one hv
    by_cases c194 : c.toNat = 194
    · rw [if_pos (by omega)]
      have J1 : Trie.look pV (c :: l.drop (i + 1)) = none → spec_l4Escape.J1 (lst l) true xs (i : Int) (c.toNat : Int) false = some (strOfNums (xs ++ B (esc pV (d + 1 + 1) (l.drop i)))) := fun hv => by
        rw [spec_l4Escape.J1_eq, if_neg (by simp), if_neg (by omega)]
        exact J2 _ (J3 (by omega) hv)
      by_cases hi1 : i + 1 < l.length
      · have hd1 : l.drop (i + 1) = l[i + 1] :: l.drop (i + 2) := List.drop_eq_getElem_cons hi1
        rw [if_pos (by omega), if_pos (by omega), bt_lst l (i + 1) hi1]
        by_cases c160 : (l[i + 1]).toNat = 160
        · have e1 : (((l[i + 1]).toNat : Int) == 160) = true := beq_iff_eq.mpr (by omega)
          rw [e1, spec_l4Escape.J1_eq, if_pos rfl, if_pos (by omega), w1, w2]
          match d, hi, hn with
          | 0, hi, hn => omega
          | d + 1, hi, hn =>
            rw [esc_lits l hl n d (i + 2) _ (by omega) (by omega) (by rw [List.length_append, bytesOf_length]; show _ + 6 ≤ _; omega), hd, hd1, esc_some (d + 1 + 1) (look4 _ c194 c160), B_app, List.append_assoc]
            rw [esc_more pV (d + 1) (d + 1 + 1) (l.drop (i + 2)) (by rw [List.length_drop]; omega) (by rw [List.length_drop]; omega)]
            rfl
        · have e1 : (((l[i + 1]).toNat : Int) == 160) = false := beq_eq_false_iff_ne.mpr (by omega)
          rw [e1]
          exact J1 (by rw [hd1]; exact look5 _ c194 c160)
      · rw [if_neg (by omega)]
        exact J1 (by rw [List.drop_eq_nil_of_le (by omega)]; exact look6 c194)
    · rw [if_neg (by omega), spec_l4Escape.J1_eq, if_neg (by simp)]
      have fin : spec_l4Escape.J3 (lst l) true xs (i : Int) (c.toNat : Int) false = some (strOfNums (xs ++ B (esc pV (d + 1 + 1) (l.drop i)))) := by
        by_cases c34 : c.toNat = 34
        · rw [spec_l4Escape.J3_eq, if_neg (by simp), w1, if_pos (by omega), if_pos rfl, if_pos (by omega)]
          exact step _ (look2 _ c34) (by decide)
        · exact J3 c34 (look7 _ c38 c34 c194)
      by_cases c60 : (c.toNat : Int) = 60
      · rw [if_pos c60]
        exact J2 _ fin
      · rw [if_neg c60]
        exact J2 _ fin
end Go.Proofs.YtjojmfhgfeflnaaGreatDoor.QFnExactInner.EU
