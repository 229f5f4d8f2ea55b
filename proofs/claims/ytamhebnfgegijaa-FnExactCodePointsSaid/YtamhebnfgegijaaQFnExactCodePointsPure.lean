/- FnExactCodePoints, the plain side: what the first counts is what the second's text decodes to. -/
import Derived.Test.YtamhebnfgegijaaCpP
namespace Go.Proofs.Ytamhebnfgegijaa.QFnExactCodePoints
open Go Go.RowKit Go.Proofs.YtamhebnfgegijaaV.PrintWords Go.Proofs.YtamhebnfgegijaaV.PrintLast Go.Proofs.YtamhebnfgegijaaV.PrintMore Go.Proofs.Ytamhebnfgegijaa.Val
set_option linter.unusedVariables false
set_option linter.unusedSimpArgs false

def pts : Nat → List UInt8 → List Int
  | 0, _ => []
  | k + 1, b => if 0 < b.length then (if (seq b).2 = true then (ptv (b.take (adv b)) : Int) else 65533) :: pts k (b.drop (adv b)) else []
def outs : Nat → List UInt8 → List UInt8
  | 0, _ => []
  | k + 1, b => if 0 < b.length then (if (seq b).2 = true then b.take (adv b) else badL) ++ outs k (b.drop (adv b)) else []
theorem adv_whole (b : List UInt8) (h : (seq b).2 = true) : adv b = (seq b).1 := by
  unfold adv
  rw [if_neg (fun e => by
    rw [seq_zero b (seq_pos b e)] at h
    cases h)]
theorem pts_len : ∀ (k : Nat) (b : List UInt8), (pts k b).length ≤ b.length
  | 0, b => Nat.zero_le _
  | k + 1, b => by
    unfold pts
    split
    · rename_i h
      have := pts_len k (b.drop (adv b))
      have := adv_pos b
      rw [List.length_drop] at *
      rw [List.length_cons]
      omega
    · exact Nat.zero_le _
theorem outs_len : ∀ (k : Nat) (b : List UInt8), (outs k b).length ≤ 3 * b.length
  | 0, b => Nat.zero_le _
  | k + 1, b => by
    unfold outs
    split
    · rename_i h
      have := outs_len k (b.drop (adv b))
      have := adv_pos b
      have := adv_le b h
      rw [List.length_drop] at *
      rw [List.length_append]
      split
      · rw [List.length_take]
        omega
      · show 3 + _ ≤ _
        omega
    · exact Nat.zero_le _
theorem read_outs : ∀ (k : Nat) (b acc : List UInt8), b.length ≤ k → b.length ≤ 1048576 → acc.length + 3 * b.length ≤ 35184372088832 → impl_read.L0 b acc = some (acc ++ outs k b)
  | 0, b, acc, hk, hb, ha => by
    rw [impl_read.L0_eq, if_neg (by omega)]
    unfold outs
    rw [List.append_nil]
  | k + 1, b, acc, hk, hb, ha => by
    rw [impl_read.L0_eq]
    unfold outs
    by_cases h : 0 < b.length
    · obtain ⟨x, e⟩ := seq_impl b hb h
      have h1 := adv_pos b
      have h2 := adv_le b h
      rw [if_pos h, if_pos h, e, Option.bind_some, if_pos (by omega), if_pos (by show (0 : Int) ≤ (adv b : Int); omega), if_pos (by show (adv b : Int) ≤ _; omega)]
      show (if (seq b).2 = true then impl_read.L0 (b.drop (adv b : Int).toNat) (acc ++ b.take (adv b : Int).toNat) else impl_read.L0 (b.drop (adv b : Int).toNat) (acc ++ badL)) = _
      rw [Int.toNat_natCast]
      by_cases c : (seq b).2 = true
      · rw [if_pos c, if_pos c, read_outs k (b.drop (adv b)) _ (by rw [List.length_drop]; omega) (by rw [List.length_drop]; omega) (by rw [List.length_append, List.length_take, List.length_drop]; omega), List.append_assoc]
      · rw [if_neg c, if_neg c, read_outs k (b.drop (adv b)) _ (by rw [List.length_drop]; omega) (by rw [List.length_drop]; omega) (by rw [List.length_append, List.length_drop]; show _ + 3 + _ ≤ _; omega), List.append_assoc]
    · rw [if_neg h, if_neg h, List.append_nil]
theorem spec_pts (f : List UInt8) (hf : f.length ≤ 1048576) : ∀ (k at_ : Nat) (out : List Int), f.length - at_ ≤ k → at_ ≤ f.length → out.length + (f.length - at_) ≤ 1048576 →
    spec_CodePoints.L0 (ints f) out at_ = some (out ++ pts k (f.drop at_))
  | 0, at_, out, hk, ha, ho => by
    rw [spec_CodePoints.L0_eq, ints_length, if_neg (by omega)]
    unfold pts
    rw [List.append_nil]
  | k + 1, at_, out, hk, ha, ho => by
    rw [spec_CodePoints.L0_eq, ints_length]
    unfold pts
    have hd : (f.drop at_).length = f.length - at_ := List.length_drop
    by_cases h : at_ < f.length
    · rw [if_pos (show (at_ : Int) < (f.length : Int) by omega), if_pos (show 0 < (f.drop at_).length by omega), seq_spec f at_ hf h, Option.bind_some]
      have h1 := adv_pos (f.drop at_)
      have h2 := adv_le (f.drop at_) (by omega)
      have ih := fun z : Int => spec_pts f hf k (at_ + adv (f.drop at_)) (out ++ [z]) (by omega) (by omega) (by rw [List.length_append]; show _ + 1 + _ ≤ _; omega)
      have hs := seq_four (f.drop at_)
      show (if (seq (f.drop at_)).2 = true then _ else _) = _
      by_cases c : (seq (f.drop at_)).2 = true
      · have e := adv_whole _ c
        rw [if_pos c, if_pos c]
        show (if (0 : Int) ≤ at_ then (if (at_ : Int) ≤ wrap64 ((at_ : Int) + ((seq (f.drop at_)).1 : Int)) then (if wrap64 ((at_ : Int) + ((seq (f.drop at_)).1 : Int)) ≤ (f.length : Int) then ((spec_l1Point.f (((ints f).take (wrap64 ((at_ : Int) + ((seq (f.drop at_)).1 : Int))).toNat).drop (at_ : Int).toNat)).bind fun t126 => (if out.length < 17592186044416 then (spec_CodePoints.L0 (ints f) (out ++ [t126]) (wrap64 ((at_ : Int) + ((seq (f.drop at_)).1 : Int)))) else none)) else none) else none) else none) = _
        rw [← e, w64 (by omega) (by omega), show ((at_ : Int) + (adv (f.drop at_) : Int)) = ((at_ + adv (f.drop at_) : Nat) : Int) by omega, Int.toNat_natCast, Int.toNat_natCast, if_pos (by omega), if_pos (by omega), if_pos (by omega), ← ints_take, ← ints_drop, List.drop_take, Nat.add_sub_cancel_left]
        have P := point_spec (f.drop at_) (by omega) c
        rw [← e] at P
        rw [P, Option.bind_some, if_pos (by omega), ih, List.append_assoc, List.drop_drop]
        rfl
      · rw [if_neg c, if_neg c]
        show (if ((seq (f.drop at_)).1 : Int) = 0 then (if out.length < 17592186044416 then (spec_CodePoints.L0 (ints f) (out ++ [65533]) (wrap64 ((at_ : Int) + 1))) else none) else (if out.length < 17592186044416 then (spec_CodePoints.L0 (ints f) (out ++ [65533]) (wrap64 ((at_ : Int) + ((seq (f.drop at_)).1 : Int)))) else none)) = _
        have q : spec_CodePoints.L0 (ints f) (out ++ [65533]) ((at_ + adv (f.drop at_) : Nat) : Int) = some (out ++ 65533 :: pts k (List.drop (adv (f.drop at_)) (f.drop at_))) := by
          rw [ih, List.append_assoc, List.drop_drop]
          rfl
        by_cases z : (seq (f.drop at_)).1 = 0
        · have e : adv (f.drop at_) = 1 := if_pos z
          rw [if_pos (by omega), if_pos (by omega), w64 (by omega) (by omega), ← q, e]
          rfl
        · have e : adv (f.drop at_) = (seq (f.drop at_)).1 := if_neg z
          rw [if_neg (by omega), if_pos (by omega), w64 (by omega) (by omega), ← q, e]
          rfl
    · rw [if_neg (by omega), if_neg (by omega), List.append_nil]
set_option maxRecDepth 100000 in
theorem decode_bad (N : Nat) (x : List UInt8) (h : 3 ≤ N) : Lib.decodeN N (g (badL ++ x) 0) (g (badL ++ x) 1) (g (badL ++ x) 2) (g (badL ++ x) 3) = (65533, 3) := by
  show Lib.decodeN N 239 191 189 _ = _
  unfold Lib.decodeN
  rw [if_neg (by omega), if_neg (by omega), if_pos (by omega), if_pos (by omega)]
theorem size_toList (s : ByteArray) : s.data.toList.length = s.size := Array.length_toList
theorem runes_pts (s : ByteArray) : ∀ (k : Nat) (b : List UInt8) (n pos : Nat), b.length ≤ k → s.data.toList.drop pos = outs k b → pos ≤ s.size → s.size - pos ≤ n → runesF n s pos = pts k b
  | 0, b, n, pos, hk, e, hp, hn => by
    have := congrArg List.length e
    rw [List.length_drop, size_toList] at this
    have q : s.size - pos = 0 := this
    rw [runesF_end s n pos (by omega)]
    rfl
  | k + 1, b, n, pos, hk, e, hp, hn => by
    have hlen := congrArg List.length e
    rw [List.length_drop, size_toList] at hlen
    unfold outs at e hlen
    unfold pts
    by_cases h : 0 < b.length
    · have h1 := adv_pos b
      have h2 := adv_le b h
      rw [if_pos h] at e hlen
      rw [if_pos h]
      have D : ∀ i, g (s.data.toList.drop pos) i = (s.data.toList.getD (pos + i) 0).toNat := fun i => g_drop _ _ _
      have Q : Utf8.decode s pos = Lib.decodeN (s.size - pos) (g (s.data.toList.drop pos) 0) (g (s.data.toList.drop pos) 1) (g (s.data.toList.drop pos) 2) (g (s.data.toList.drop pos) 3) := by
        rw [Lib.decode_N, D, D, D, D, size_toList]
        rfl
      rw [e] at Q
      by_cases c : (seq b).2 = true
      · rw [if_pos c] at Q e hlen
        rw [if_pos c]
        have ea := adv_whole b c
        rw [ea] at e Q hlen h1 h2 ⊢
        rw [List.length_append, List.length_take] at hlen
        rw [decode_whole b h c _ _ (by omega)] at Q
        match n, hn with
        | 0, hn => exact absurd hn (by omega)
        | n + 1, hn =>
          have hv := ptv_lt (b.take (seq b).1)
          have E2 : s.data.toList.drop (pos + (seq b).1) = outs k (b.drop (seq b).1) := by
            rw [← List.drop_drop, e, List.drop_append_of_le_length (by rw [List.length_take]; omega), List.drop_take, Nat.sub_self]
            rfl
          unfold runesF
          rw [if_pos (by omega), Q]
          show wrap64 (ptv _ : Int) :: runesF n s (pos + (seq b).1) = _
          rw [w64 (by omega) (by omega), runes_pts s k (b.drop (seq b).1) n (pos + (seq b).1) (by rw [List.length_drop]; omega) E2 (by omega) (by omega)]
      · rw [if_neg c] at Q e hlen
        rw [if_neg c]
        rw [List.length_append, show badL.length = 3 from rfl] at hlen
        rw [decode_bad _ _ (by omega)] at Q
        match n, hn with
        | 0, hn => exact absurd hn (by omega)
        | n + 1, hn =>
          have E2 : s.data.toList.drop (pos + 3) = outs k (b.drop (adv b)) := by
            rw [← List.drop_drop, e]
            rfl
          unfold runesF
          rw [if_pos (by omega), Q]
          show wrap64 ((65533 : Nat) : Int) :: runesF n s (pos + 3) = _
          rw [w64 (by omega) (by omega), runes_pts s k (b.drop (adv b)) n (pos + 3) (by rw [List.length_drop]; omega) E2 (by omega) (by omega)]
          rfl
    · rw [if_neg h] at e hlen
      rw [if_neg h, runesF_end s n pos (by simp at hlen; omega)]

theorem FnExactCodePoints_pure (a0 : ByteArray) (h : a0.size ≤ maxLen) : ∃ k, laws_FnExactCodePoints.f k a0 = some true := by
  apply val_rounds
  show laws_FnExactCodePoints.F a0 = some true
  rw [laws_FnExactCodePoints.F_eq]
  by_cases c : (a0.size : Int) > 1048576
  · rw [if_pos c]
  have hs : a0.size ≤ 1048576 := by omega
  have hl : a0.data.toList.length ≤ 1048576 := by rw [size_toList]; exact hs
  obtain ⟨k, hk⟩ : ∃ k, k = a0.data.toList.length := ⟨_, rfl⟩
  have S : spec_CodePoints.F a0 = some (pts k a0.data.toList) := by
    rw [spec_CodePoints.F_eq, if_pos hs]
    have := spec_pts a0.data.toList hl k 0 [] (by omega) (by omega) (by show 0 + _ ≤ _; omega)
    rw [List.drop_zero, List.nil_append] at this
    exact this
  have ho := outs_len k a0.data.toList
  have I : impl_CodePoints.F a0 = some (pts k a0.data.toList) := by
    rw [impl_CodePoints.F_eq, if_pos hs, read_outs k a0.data.toList [] (by omega) hl (by show 0 + _ ≤ _; omega), List.nil_append, Option.bind_some, if_pos (by omega)]
    congr 1
    exact runes_pts _ k a0.data.toList _ 0 (by omega) rfl (Nat.zero_le _) (by show (outs k a0.data.toList).toArray.size - 0 ≤ _; simp)
  have hp := pts_len k a0.data.toList
  rw [if_neg c, S, I, Option.bind_some, Option.bind_some, eq_ints _ (by omega), Option.bind_some, if_pos rfl]
  obtain ⟨l', em, hc⟩ := mark_ints (pts k a0.data.toList) 1 (by omega) (by omega) (by omega)
  rw [em, Option.bind_some]
  show ((laws_heldIntS.F l' 1).bind _) = _
  rw [held_ints hc (by omega) (by omega) (by omega), Option.bind_some, if_neg (by omega), if_pos rfl, Option.bind_some, eq_ints _ (by omega), Option.bind_some, if_pos rfl]
  rw [Option.bind_some, if_neg (by omega), if_pos rfl]
end Go.Proofs.Ytamhebnfgegijaa.QFnExactCodePoints
