/- The plain side of FnExactReference: names, numbers. -/
import Derived.Test.YtalljfmgpicdaaaDoorEncRuneEncode
import Derived.Test.YtalljfmgpicdaaaDoorBytes
namespace Go.Proofs.YtalljfmgpicdaaaDoor.QFnExactReference
open Go Go.RowKit Go.Proofs.YtalljfmgpicdaaaDoorW.PrintWords Go.Proofs.YtalljfmgpicdaaaDoorW.PrintLast Go.Proofs.YtalljfmgpicdaaaDoorW.PrintMore Go.Proofs.YtalljfmgpicdaaaDoor.Val
set_option linter.unusedVariables false
set_option linter.unusedSimpArgs false

def isLB (c : Int) : Bool := decide ((97 ≤ c ∧ c ≤ 122) ∨ (65 ≤ c ∧ c ≤ 90))
def isDB (c : Int) : Bool := decide (48 ≤ c ∧ c ≤ 57)
theorem lettS (c : Int) : spec_l1Letter.f c = some (isLB c) := by
  unfold spec_l1Letter.f isLB
  repeat' split
  all_goals first
    | (rw [decide_eq_true (by omega)]; done)
    | (rw [decide_eq_false (by omega)]; done)
    | (congr 1; rw [decide_eq_decide]; omega)
theorem lettI (c : Int) : impl_isLetter.f c = some (isLB c) := by
  unfold impl_isLetter.f isLB
  repeat' split
  all_goals first
    | (rw [decide_eq_true (by omega)]; done)
    | (rw [decide_eq_false (by omega)]; done)
    | (congr 1; rw [decide_eq_decide]; omega)
theorem digS (c : Int) : spec_l1Digit.f c = some (isDB c) := by
  unfold spec_l1Digit.f isDB
  repeat' split
  all_goals first
    | (rw [decide_eq_false (by omega)]; done)
    | (congr 1; rw [decide_eq_decide]; omega)
theorem digI (c : Int) : impl_isDigit.f c = some (isDB c) := by
  unfold impl_isDigit.f isDB
  repeat' split
  all_goals first
    | (rw [decide_eq_false (by omega)]; done)
    | (congr 1; rw [decide_eq_decide]; omega)

/-- What stands at a place. -/
def H (s : ByteArray) (p : Nat) (what : ByteArray) : Bool := decide (p + what.size ≤ s.size ∧ s.extract p (p + what.size) = what)
theorem stands_F (s : ByteArray) (p : Nat) (what : ByteArray) (hs : s.size ≤ 1048576) (hw : what.size ≤ 100) (hp : p ≤ s.size) : spec_l2Stands.f s p what = some (H s p what) := by
  unfold spec_l2Stands.f H
  have w : wrap64 ((p : Int) + (what.size : Int)) = ((p + what.size : Nat) : Int) := by rw [w64 (by omega) (by omega)]; omega
  rw [if_pos (by omega), if_pos (by omega), w]
  by_cases c : p + what.size ≤ s.size
  · rw [if_pos (by omega), if_pos (by omega), if_pos (by omega), beq_toList, Int.toNat_natCast, Int.toNat_natCast]
    congr 1
    rw [decide_eq_decide]
    exact ⟨fun h => ⟨c, h⟩, fun h => h.2⟩
  · rw [if_neg (by omega), decide_eq_false (fun h => c h.1)]
theorem ext_ext (s : ByteArray) (p k : Nat) : (s.extract p s.size).extract 0 k = s.extract p (min (p + k) s.size) := by
  rw [ByteArray.extract_extract]
  congr 1
theorem prefix_F (s : ByteArray) (p : Nat) (what : ByteArray) (hp : p ≤ s.size) : strings_HasPrefix.f (s.extract p s.size) what = some (H s p what) := by
  unfold strings_HasPrefix.f stringslite_HasPrefix.f H
  have z : (s.extract p s.size).size = s.size - p := by rw [ByteArray.size_extract]; omega
  rw [z]
  by_cases c : p + what.size ≤ s.size
  · rw [if_pos (by omega), if_pos (by omega), if_pos (by omega), Option.bind_some, beq_toList, Int.toNat_natCast, ext_ext]
    congr 1
    rw [decide_eq_decide, Nat.min_eq_left c]
    exact ⟨fun h => ⟨c, h⟩, fun h => h.2⟩
  · rw [if_neg (by omega), Option.bind_some, decide_eq_false (fun h => c h.1)]
theorem ext_toList (s : ByteArray) (p q : Nat) : (s.extract p q).data.toList = (s.data.toList.drop p).take (q - p) := by
  rw [ByteArray.data_extract]
  simp
theorem bt_get (s : ByteArray) (p : Nat) (h : p < s.size) : bt s p = ((s.data.toList[p]'(by rw [data_length]; exact h)).toNat : Int) := by
  rw [← bt_at s p h]
  rfl
theorem byte_eq {a b : UInt8} : a = b ↔ (a.toNat : Int) = (b.toNat : Int) := by
  rw [← UInt8.toNat_inj]
  omega
theorem ba_eq {a b : ByteArray} : a = b ↔ a.data.toList = b.data.toList := by
  rw [← toList_data, ← toList_data, toList_inj]
theorem H_one (s : ByteArray) (p : Nat) (c : UInt8) : H s p ⟨#[c]⟩ = decide (p < s.size ∧ bt s p = (c.toNat : Int)) := by
  unfold H
  rw [decide_eq_decide]
  have z : (⟨#[c]⟩ : ByteArray).size = 1 := rfl
  rw [z]
  by_cases h : p < s.size
  · have hl : p < s.data.toList.length := by rw [data_length]; exact h
    rw [ba_eq, ext_toList, bt_get s p h, show p + 1 - p = 1 by omega, List.drop_eq_getElem_cons hl, List.take_succ_cons, List.take_zero]
    constructor
    · rintro ⟨_, e⟩
      have e : [s.data.toList[p]] = [c] := e
      injection e with e _
      exact ⟨h, byte_eq.1 e⟩
    · rintro ⟨_, e⟩
      exact ⟨by omega, by rw [byte_eq.2 e]⟩
  · exact ⟨fun e => absurd e.1 (by omega), fun e => absurd e.1 h⟩
theorem H_two (s : ByteArray) (p : Nat) (c d : UInt8) : H s p ⟨#[c, d]⟩ = decide (p + 1 < s.size ∧ bt s p = (c.toNat : Int) ∧ bt s ((p + 1 : Nat) : Int) = (d.toNat : Int)) := by
  unfold H
  rw [decide_eq_decide]
  have z : (⟨#[c, d]⟩ : ByteArray).size = 2 := rfl
  rw [z]
  by_cases h : p + 1 < s.size
  · have hl : p < s.data.toList.length := by rw [data_length]; omega
    have hl2 : p + 1 < s.data.toList.length := by rw [data_length]; omega
    rw [ba_eq, ext_toList, bt_get s p (by omega), bt_get s (p + 1) h, show p + 2 - p = 2 by omega, List.drop_eq_getElem_cons hl, List.take_succ_cons, List.drop_eq_getElem_cons hl2, List.take_succ_cons, List.take_zero]
    constructor
    · rintro ⟨_, e⟩
      have e : [s.data.toList[p], s.data.toList[p + 1]] = [c, d] := e
      injection e with e1 e
      injection e with e2 _
      exact ⟨h, byte_eq.1 e1, byte_eq.1 e2⟩
    · rintro ⟨_, e1, e2⟩
      exact ⟨by omega, by rw [byte_eq.2 e1, byte_eq.2 e2]⟩
  · exact ⟨fun e => absurd e.1 (by omega), fun e => absurd e.1 h⟩
theorem bt_ext (s : ByteArray) (p j : Nat) (h : p + j < s.size) : bt (s.extract p s.size) (j : Int) = bt s ((p + j : Nat) : Int) := by
  have z : (s.extract p s.size).size = s.size - p := by rw [ByteArray.size_extract]; omega
  have hl : p + j < s.data.toList.length := by rw [data_length]; exact h
  rw [bt_get _ j (by omega), bt_get s (p + j) h]
  congr 2
  have e := ext_toList s p s.size
  have : ((s.extract p s.size).data.toList)[j]? = some (s.data.toList[p + j]) := by
    rw [e, List.getElem?_take, if_pos (by omega), List.getElem?_drop, List.getElem?_eq_getElem hl]
  obtain ⟨_, e2⟩ := List.getElem?_eq_some_iff.1 this
  exact e2

/-! ### one code point -/
theorem put_one (c : Int) : spec_l1Put.F ([] : List Int) c = some (encB c) := by
  have := put_F [] c (by simp)
  rwa [List.nil_append] at this
theorem bad_bytes : bytesOf (⟨#[239, 191, 189]⟩ : ByteArray) = [239, 191, 189] := by rfl
theorem enc_one (c : Int) (h0 : -1000000 ≤ c) (h1 : c ≤ 100000000) : impl_Encode.F [c] = some (strOfNums (encB c)) := by
  have stop : ∀ o : List Int, impl_Encode.L0 o [c] 1 1 = some (strOfNums o) := fun o => by rw [impl_Encode.L0_eq, if_neg (by omega)]
  rw [impl_Encode.F_eq]
  show impl_Encode.L0 [] [c] 1 0 = _
  rw [impl_Encode.L0_eq, if_pos (by omega), if_pos (by omega), if_pos (by show (0 : Int) < 1; omega)]
  have hr : rd [c] 0 = c := rfl
  have w1 : wrap64 (0 + 1) = 1 := (w64 (by omega) (by omega)).trans rfl
  have cap : ([] : List Int).length + 3 < 140737488355328 := by simp
  have e0 : ([] : List Int) ++ [239, 191, 189] = [239, 191, 189] := rfl
  rw [hr, w1, bad_bytes, e0, stop, if_pos cap]
  by_cases a : c < 0
  · rw [if_pos a]; unfold encB; rw [if_pos (by omega)]
  rw [if_neg a]
  by_cases b : c > 1114111
  · rw [if_pos b]; unfold encB; rw [if_pos (by omega)]
  rw [if_neg b]
  have w3 : wrap32 c = c := by unfold wrap32; omega
  rw [w3]
  by_cases d : c ≥ 55296
  · rw [if_pos d]
    by_cases e : c ≤ 57343
    · rw [if_pos e]; unfold encB; rw [if_pos (by omega)]
    · rw [if_neg e, rune_F _ _ (by omega) (by omega) (by omega) (by simp), Option.bind_some, List.nil_append, stop]
  · rw [if_neg d, rune_F _ _ (by omega) (by omega) (by omega) (by simp), Option.bind_some, List.nil_append, stop]
theorem enc_bad {c : Int} (h : c < 0 ∨ c > 1114111) : encB c = encB 65533 := by
  have e1 : encB c = [239, 191, 189] := by unfold encB; rw [if_pos (by omega)]
  have e2 : encB 65533 = [239, 191, 189] := by rfl
  rw [e1, e2]

/-! ### numbers -/
/-- A digit's value; 99: none. -/
def hx (c : Int) : Int := if 48 ≤ c ∧ c ≤ 57 then c - 48 else if 97 ≤ c ∧ c ≤ 102 then c - 87 else if 65 ≤ c ∧ c ≤ 70 then c - 55 else 99
theorem hexS (c : Int) (h : 0 ≤ c ∧ c ≤ 255) : spec_l2Hex.F c = some (hx c) := by
  rw [spec_l2Hex.F_eq, digS, Option.bind_some]
  simp only [spec_l2Hex.J0_eq, hx, isDB, decide_eq_true_eq, Bool.false_eq_true, if_false]
  repeat' split
  all_goals first | rfl | (exfalso; omega) | (congr 1; omega)
def dg (hex : Bool) (c : Int) : Int := if hx c < (if hex = true then 16 else 10) then hx c else -1
theorem digO (c : Int) (hex : Bool) (h : 0 ≤ c ∧ c ≤ 255) : impl_digitOf.F c hex = some (dg hex c) := by
  rw [impl_digitOf.F_eq, digI, Option.bind_some]
  cases hex <;> simp only [impl_digitOf.J0_eq, dg, hx, isDB, decide_eq_true_eq, if_true, Bool.false_eq_true, if_false]
  all_goals repeat' split
  all_goals first | rfl | (exfalso; omega) | (congr 1; omega)
theorem hx_range (c : Int) (h : 0 ≤ c ∧ c ≤ 255) : 0 ≤ hx c ∧ hx c ≤ 99 := by
  unfold hx
  split
  · omega
  split
  · omega
  split <;> omega

/-- The two sums: the reference's and the program's. -/
def SR (n m : Int) : Prop := (0 ≤ n ∧ n ≤ 1114111 ∧ m = n) ∨ (1114111 < n ∧ n ≤ 100000000 ∧ m = 1114112)
theorem end_eq (n m : Int) (h : SR n m) (e : Int) :
    ((if n = 0 then ((spec_l1Put.F (([] : List Int)) (-1)).bind fun t => (some (strOfNums t, e))) else ((spec_l1Put.F (([] : List Int)) n).bind fun t => (some (strOfNums t, e)))) : Option (ByteArray × Int)) =
    (if m = 0 then ((impl_Encode.F (([65533] : List Int))).bind fun t => (some (t, e))) else ((impl_Encode.F (([m] : List Int))).bind fun t => (some (t, e)))) := by
  rw [put_one, put_one, enc_one 65533 (by omega) (by omega), enc_one m (by rcases h with ⟨_, _, _⟩ | ⟨_, _, _⟩ <;> omega) (by rcases h with ⟨_, _, _⟩ | ⟨_, _, _⟩ <;> omega)]
  simp only [Option.bind_some]
  rcases h with ⟨h0, h1, rfl⟩ | ⟨h0, h1, rfl⟩
  · by_cases c : m = 0
    · rw [if_pos c, if_pos c, enc_bad (c := -1) (by omega)]
    · rw [if_neg c, if_neg c]
  · rw [if_neg (by omega), if_neg (by omega), enc_bad (c := n) (by omega), enc_bad (c := 1114112) (by omega)]
theorem end_some (m e : Int) (h0 : 0 ≤ m) (h1 : m ≤ 1114112) : ∃ r : ByteArray × Int, (if m = 0 then ((impl_Encode.F (([65533] : List Int))).bind fun t => (some (t, e))) else ((impl_Encode.F (([m] : List Int))).bind fun t => (some (t, e)))) = some r := by
  rw [enc_one 65533 (by omega) (by omega), enc_one m (by omega) (by omega)]
  split <;> exact ⟨_, rfl⟩
theorem digit_step (n m h B : Int) (hnm : SR n m) (h0 : 0 ≤ h) (h1 : 10 ≤ B) (h2 : B ≤ 16) (h3 : h < B) :
    ∃ n', (if n ≤ 1114111 then (some (wrap64 ((wrap64 (n * B)) + h)) : Option Int) else some n) = some n' ∧ SR n' (mn (wrap64 ((wrap64 (m * B)) + h)) 1114112) := by
  have hmb : 0 ≤ m ∧ m ≤ 1114112 := by rcases hnm with ⟨_, _, _⟩ | ⟨_, _, _⟩ <;> omega
  have pm1 : 10 * m ≤ m * B := by rw [Int.mul_comm m B]; exact Int.mul_le_mul_of_nonneg_right h1 hmb.1
  have pm2 : m * B ≤ 16 * m := by rw [Int.mul_comm m B]; exact Int.mul_le_mul_of_nonneg_right h2 hmb.1
  unfold mn SR
  rcases hnm with ⟨a1, a2, rfl⟩ | ⟨a1, a2, a3⟩
  · obtain ⟨q, hq⟩ : ∃ q, q = m * B := ⟨_, rfl⟩
    rw [← hq] at pm1 pm2 ⊢
    have v1 : wrap64 q = q := w64 (by omega) (by omega)
    have v2 : wrap64 (q + h) = q + h := w64 (by omega) (by omega)
    rw [if_pos a2, v1, v2]
    refine ⟨_, rfl, ?_⟩
    split <;> omega
  · obtain ⟨q, hq⟩ : ∃ q, q = m * B := ⟨_, rfl⟩
    rw [← hq] at pm1 pm2 ⊢
    have v1 : wrap64 q = q := w64 (by omega) (by omega)
    have v2 : wrap64 (q + h) = q + h := w64 (by omega) (by omega)
    rw [if_neg (by omega), v1, v2]
    refine ⟨_, rfl, Or.inr ⟨a1, a2, ?_⟩⟩
    split <;> omega
theorem numLoop (s : ByteArray) (p : Nat) (hex : Bool) (hs : s.size ≤ 1048576) (hp : p + 2 ≤ s.size) (fr : Nat) : ∀ (d i : Nat), p + 2 + i + d = s.size → ∀ n m : Int, SR n m →
    ∃ r, spec_l2Number.L0 s p ((p + 2 + i : Nat) : Int) (if hex = true then 16 else 10) ((p + 2 + fr : Nat) : Int) n = some r ∧ impl_numbered.L0 (s.extract (p + 2) s.size) (i : Int) hex (fr : Int) m = some r := by
  have z : (s.extract (p + 2) s.size).size = s.size - (p + 2) := by rw [ByteArray.size_extract]; omega
  -- where no digit stands
  have fin : ∀ (i : Nat), p + 2 + i ≤ s.size → ∀ n m : Int, SR n m →
      ∃ r, spec_l2Number.J3 s p ((p + 2 + i : Nat) : Int) (if hex = true then 16 else 10) ((p + 2 + fr : Nat) : Int) n false = some r ∧ impl_numbered.J3 (s.extract (p + 2) s.size) (i : Int) hex (fr : Int) m false = some r := by
    intro i hi n m hnm
    have hm : 0 ≤ m ∧ m ≤ 1114112 := by rcases hnm with ⟨_, _, _⟩ | ⟨_, _, _⟩ <;> omega
    rw [spec_l2Number.J3_eq, impl_numbered.J3_eq, if_neg (show ¬ (false = true) by decide), if_neg (show ¬ (false = true) by decide)]
    by_cases c : i = fr
    · rw [if_pos (show ((p + 2 + i : Nat) : Int) = ((p + 2 + fr : Nat) : Int) by omega), if_pos (show (i : Int) = (fr : Int) by omega)]
      exact ⟨_, rfl, rfl⟩
    · rw [if_neg (show ¬ ((p + 2 + i : Nat) : Int) = ((p + 2 + fr : Nat) : Int) by omega), if_neg (show ¬ (i : Int) = (fr : Int) by omega)]
      have w1 : wrap64 ((wrap64 (((p + 2 + i : Nat) : Int) + 1)) - (p : Int)) = (i : Int) + 3 := by rw [w64 (by omega : -9223372036854775808 ≤ ((p + 2 + i : Nat) : Int) + 1) (by omega), w64 (by omega) (by omega)]; omega
      have w2 : wrap64 ((wrap64 ((i : Int) + 1)) + 2) = (i : Int) + 3 := by rw [w64 (by omega : -9223372036854775808 ≤ (i : Int) + 1) (by omega), w64 (by omega) (by omega)]; omega
      have w3 : wrap64 (((p + 2 + i : Nat) : Int) - (p : Int)) = (i : Int) + 2 := by rw [w64 (by omega) (by omega)]; omega
      have w4 : wrap64 ((i : Int) + 2) = (i : Int) + 2 := w64 (by omega) (by omega)
      have key : ∀ b : Bool, ∃ r, spec_l2Number.J4 p ((p + 2 + i : Nat) : Int) n b = some r ∧ impl_numbered.J4 (i : Int) m b = some r := by
        intro b
        rw [spec_l2Number.J4_eq, impl_numbered.J4_eq, w1, w2, w3, w4, end_eq n m hnm, end_eq n m hnm]
        cases b with
        | true =>
          simp only [if_true]
          obtain ⟨r, e⟩ := end_some m ((i : Int) + 3) hm.1 hm.2
          exact ⟨r, e, e⟩
        | false =>
          simp only [Bool.false_eq_true, if_false]
          obtain ⟨r, e⟩ := end_some m ((i : Int) + 2) hm.1 hm.2
          exact ⟨r, e, e⟩
      by_cases c2 : p + 2 + i < s.size
      · rw [if_pos (show ((p + 2 + i : Nat) : Int) < (s.size : Int) by omega), if_pos (show 0 ≤ ((p + 2 + i : Nat) : Int) by omega), if_pos (show (i : Int) < ((s.extract (p + 2) s.size).size : Int) by omega), if_pos (show 0 ≤ (i : Int) by omega), bt_ext s (p + 2) i c2]
        exact key _
      · rw [if_neg (show ¬ ((p + 2 + i : Nat) : Int) < (s.size : Int) by omega), if_neg (show ¬ (i : Int) < ((s.extract (p + 2) s.size).size : Int) by omega)]
        exact key false
  intro d
  induction d with
  | zero =>
    intro i hd n m hnm
    rw [spec_l2Number.L0_eq, impl_numbered.L0_eq, if_neg (show ¬ ((p + 2 + i : Nat) : Int) < (s.size : Int) by omega), if_neg (show ¬ (i : Int) < ((s.extract (p + 2) s.size).size : Int) by omega)]
    exact fin i (by omega) n m hnm
  | succ d ih =>
    intro i hd n m hnm
    have w1 : wrap64 (((p + 2 + i : Nat) : Int) + 1) = ((p + 2 + (i + 1) : Nat) : Int) := by rw [w64 (by omega) (by omega)]; omega
    have w2 : wrap64 ((i : Int) + 1) = ((i + 1 : Nat) : Int) := by rw [w64 (by omega) (by omega)]; omega
    have g1 : ((p + 2 + i : Nat) : Int) < (s.size : Int) := by omega
    have g2 : 0 ≤ ((p + 2 + i : Nat) : Int) := by omega
    have g3 : (i : Int) < ((s.extract (p + 2) s.size).size : Int) := by omega
    have g4 : 0 ≤ (i : Int) := by omega
    have g5 : p + 2 + i < s.size := by omega
    have hb : 0 ≤ bt s ((p + 2 + i : Nat) : Int) ∧ bt s ((p + 2 + i : Nat) : Int) ≤ 255 := Go.Proofs.YtalljfmgpicdaaaDoor.Val.bt_range _ _
    have hr := hx_range _ hb
    rw [spec_l2Number.L0_eq, impl_numbered.L0_eq, if_pos g1, if_pos g2, if_pos g3, if_pos g4, bt_ext s (p + 2) i g5, hexS _ hb, digO _ _ hb, Option.bind_some, Option.bind_some]
    generalize hc : bt s ((p + 2 + i : Nat) : Int) = c at hb hr ⊢
    have hdg : decide (dg hex c ≥ 0) = decide (hx c < (if hex = true then 16 else 10)) := by
      rw [decide_eq_decide]
      unfold dg
      by_cases q : hx c < (if hex = true then 16 else 10)
      · rw [if_pos q]; exact ⟨fun _ => q, fun _ => hr.1⟩
      · rw [if_neg q]; exact ⟨fun h => absurd h (by omega), fun h => absurd h q⟩
    rw [hdg]
    by_cases q : hx c < (if hex = true then 16 else 10)
    · rw [decide_eq_true q, spec_l2Number.J3_eq, impl_numbered.J3_eq, if_pos rfl, if_pos rfl, if_pos g2, if_pos g1, if_pos g4, if_pos g3, bt_ext s (p + 2) i g5, hc, hexS _ hb, digO _ _ hb]
      simp only [Option.bind_some]
      have hdc : dg hex c = hx c := by unfold dg; rw [if_pos q]
      rw [hdc, w1, w2]
      have step := fun (B : Int) h1 h2 h3 => digit_step n m (hx c) B hnm hr.1 h1 h2 h3
      have go : ∀ B : Int, 10 ≤ B → B ≤ 16 → hx c < B → B = (if hex = true then 16 else 10) → ∃ r, (if n ≤ 1114111 then (spec_l2Number.L0 s p ((p + 2 + (i + 1) : Nat) : Int) B ((p + 2 + fr : Nat) : Int) (wrap64 ((wrap64 (n * B)) + hx c))) else (spec_l2Number.L0 s p ((p + 2 + (i + 1) : Nat) : Int) B ((p + 2 + fr : Nat) : Int) n)) = some r ∧ impl_numbered.L0 (s.extract (p + 2) s.size) ((i + 1 : Nat) : Int) hex (fr : Int) (mn (wrap64 ((wrap64 (m * B)) + hx c)) 1114112) = some r := by
        intro B h1 h2 h3 hB
        obtain ⟨n', e1, e2⟩ := step B h1 h2 h3
        obtain ⟨r, r1, r2⟩ := ih (i + 1) (by omega) n' _ e2
        refine ⟨r, ?_, r2⟩
        rw [← hB] at r1
        by_cases q : n ≤ 1114111
        · rw [if_pos q] at e1 ⊢
          rw [Option.some.inj e1]
          exact r1
        · rw [if_neg q] at e1 ⊢
          rw [Option.some.inj e1]
          exact r1
      cases hex with
      | true =>
        simp only [if_true] at q go ⊢
        exact go 16 (by omega) (by omega) q rfl
      | false =>
        simp only [Bool.false_eq_true, if_false] at q go ⊢
        rw [if_pos g4, if_pos g3]
        exact go 10 (by omega) (by omega) q rfl
    · rw [decide_eq_false q]
      exact fin i (by omega) n m hnm
theorem number_same (s : ByteArray) (p : Nat) (hs : s.size ≤ 1048576) (hp : p + 2 ≤ s.size) : ∃ r, spec_l2Number.F s p = some r ∧ impl_numbered.F (s.extract (p + 2) s.size) = some r := by
  have z : (s.extract (p + 2) s.size).size = s.size - (p + 2) := by rw [ByteArray.size_extract]; omega
  have w0 : wrap64 ((p : Int) + 2) = ((p + 2 : Nat) : Int) := by rw [w64 (by omega) (by omega)]; omega
  have w1 : wrap64 (((p + 2 : Nat) : Int) + 1) = ((p + 2 + 1 : Nat) : Int) := by rw [w64 (by omega) (by omega)]; omega
  have sr : SR 0 0 := Or.inl ⟨by omega, by omega, rfl⟩
  have ten : ∃ r, spec_l2Number.J0 s p ((p + 2 : Nat) : Int) 10 false = some r ∧ impl_numbered.J0 (s.extract (p + 2) s.size) 0 false = some r := by
    rw [spec_l2Number.J0_eq, impl_numbered.J0_eq, if_neg (show ¬ (false = true) by decide), if_neg (show ¬ (false = true) by decide), spec_l2Number.J1_eq, impl_numbered.J1_eq]
    exact numLoop s p false hs hp 0 (s.size - (p + 2)) 0 (by omega) 0 0 sr
  rw [spec_l2Number.F_eq, impl_numbered.F_eq, w0]
  by_cases c : p + 2 < s.size
  · have b0 : bt (s.extract (p + 2) s.size) 0 = bt s ((p + 2 : Nat) : Int) := bt_ext s (p + 2) 0 (by omega)
    have sixteen : ∃ r, spec_l2Number.J0 s p ((p + 2 : Nat) : Int) 10 true = some r ∧ impl_numbered.J0 (s.extract (p + 2) s.size) 0 true = some r := by
      rw [spec_l2Number.J0_eq, impl_numbered.J0_eq, if_pos rfl, if_pos rfl, spec_l2Number.J1_eq, impl_numbered.J1_eq, w1]
      exact numLoop s p true hs hp 1 (s.size - (p + 2) - 1) 1 (by omega) 0 0 sr
    rw [if_pos (show ((p + 2 : Nat) : Int) < (s.size : Int) by omega), if_pos (show 0 ≤ ((p + 2 : Nat) : Int) by omega), if_neg (show ¬ (s.extract (p + 2) s.size).toList = [] by rw [toList_nil]; omega), if_pos (show 0 < ((s.extract (p + 2) s.size).size : Int) by omega), b0]
    by_cases e : bt s ((p + 2 : Nat) : Int) = 120
    · rw [if_pos e, if_pos e]
      exact sixteen
    · rw [if_neg e, if_neg e]
      cases h : bt s ((p + 2 : Nat) : Int) == 88 with
      | true => exact sixteen
      | false => exact ten
  · rw [if_neg (show ¬ ((p + 2 : Nat) : Int) < (s.size : Int) by omega), if_pos (show (s.extract (p + 2) s.size).toList = [] by rw [toList_nil]; omega)]
    exact ten
end Go.Proofs.YtalljfmgpicdaaaDoor.QFnExactReference
