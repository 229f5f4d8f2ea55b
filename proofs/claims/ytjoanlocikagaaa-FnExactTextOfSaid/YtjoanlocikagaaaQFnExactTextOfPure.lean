/- FnExactTextOf, the plain side. -/
import Derived.Test.YtjoanlocikagaaaSkipFits
import Derived.Test.YtjoanlocikagaaaQFnExactTextOfx10
namespace Go.Proofs.Ytjoanlocikagaaa.QFnExactTextOf
open Go Go.RowKit Go.Proofs.YtjoanlocikagaaaV.PrintWords Go.Proofs.YtjoanlocikagaaaV.PrintLast Go.Proofs.YtjoanlocikagaaaV.PrintMore Go.Proofs.Ytjoanlocikagaaa.Val Go.Proofs.Ytjoanlocikagaaa.TreeIx
set_option linter.unusedVariables false
set_option linter.unusedSimpArgs false

theorem bytesOf_append (a b : ByteArray) : bytesOf (a ++ b) = bytesOf a ++ bytesOf b := by
  unfold bytesOf
  rw [ByteArray.data_append, Array.toList_append, List.map_append]
theorem strOfNums_bytesOf (s : ByteArray) : strOfNums (bytesOf s) = s := by
  unfold strOfNums bytesOf
  rw [List.map_map]
  have h : s.data.toList.map ((fun n : Int => UInt8.ofNat n.toNat) ∘ fun b : UInt8 => (b.toNat : Int)) = s.data.toList := by
    have : ∀ b : UInt8, ((fun n : Int => UInt8.ofNat n.toNat) ∘ fun b : UInt8 => (b.toNat : Int)) b = b := by
      intro b
      simp
    rw [List.map_congr_left (fun b _ => this b), List.map_id']
  rw [h]
theorem text_loop {l : List S134} (R : Right l) (hz : (catN l 0 l.length).size ≤ 1048576) {j e : Nat} (hj : j < l.length) (h : Fits (kdOf l) l.length (j + 1) (kdOf l j) e) : ∀ d k : Nat, k + d = e → j ≤ k → spec_TextOf.L0 (j : Nat) (bytesOf (catN l j (k - j))) (k : Nat) l = some (catN l j (e - j))
  | 0, k, hk, hjk => by
    have hs := skip_is R (Fits.mk1 hj h)
    rw [spec_TextOf.L0_eq, hs, Option.bind_some, if_neg (by omega), strOfNums_bytesOf, show k = e by omega]
  | d + 1, k, hk, hjk => by
    have hs := skip_is R (Fits.mk1 hj h)
    have he := h.le
    have hl := R.len4
    have step : catN l j (k + 1 - j) = catN l j (k - j) ++ txt l k := by
      rw [show k + 1 - j = (k - j) + 1 by omega]
      show catN l j (k - j) ++ txt l (j + (k - j)) = _
      rw [show j + (k - j) = k by omega]
    have ih := text_loop R hz hj h d (k + 1) (by omega) (by omega)
    have hp := cat_part (l := l) (i := j) (e := k) (n := l.length) (by omega) (by omega)
    have hp2 := cat_part (l := l) (i := k) (e := k + 1) (n := l.length) (by omega) (by omega)
    rw [cat_one] at hp2
    rw [spec_TextOf.L0_eq, hs, Option.bind_some, if_pos (by omega), if_pos (by omega), if_pos (by omega), w64 (by omega) (by omega), show (k : Int) + 1 = ((k + 1 : Nat) : Int) by omega]
    by_cases h3 : (rd_T134 l (k : Nat)).f1 = 3
    · have ht : txt l k = (rd_T134 l (k : Nat)).f4 := if_pos h3
      rw [if_pos h3, ← ht, if_pos (by rw [bytesOf_length]; omega), ← bytesOf_append, ← step]
      exact ih
    · have ht : txt l k = (⟨#[]⟩ : ByteArray) := if_neg h3
      rw [if_neg h3]
      rw [ht] at step
      have e0 : catN l j (k - j) ++ (⟨#[]⟩ : ByteArray) = catN l j (k - j) := ByteArray.append_empty
      rw [e0] at step
      rw [← step]
      exact ih
theorem cat_bulk (l : List S193) : ∀ d : Nat, d ≤ l.length → (catN (l.map of_Node) 0 d).size ≤ ((l.take d).map bulk_Node).sum
  | 0, _ => Nat.zero_le _
  | d + 1, hd => by
    have ih := cat_bulk l d (by omega)
    have hg : rd_T134 (l.map of_Node) (d : Nat) = of_Node l[d] := by
      unfold rd_T134
      rw [Int.toNat_natCast, List.getD_eq_getElem?_getD, List.getElem?_map, List.getElem?_eq_getElem (by omega)]
      rfl
    show (catN (l.map of_Node) 0 d ++ txt (l.map of_Node) (0 + d)).size ≤ _
    rw [ByteArray.size_append, Nat.zero_add, List.take_succ_eq_append_getElem (by omega), List.map_append, List.sum_append]
    have h2 : (txt (l.map of_Node) d).size ≤ bulk_Node l[d] := by
      unfold txt
      rw [hg]
      split
      · show l[d].f4.size ≤ _
        unfold bulk_Node
        omega
      · exact Nat.zero_le _
    have h3 : ([l[d]].map bulk_Node).sum = bulk_Node l[d] := by simp
    omega
theorem FnExactTextOf_pure (l : List S193) (id : Int) (h : l.length ≤ maxLen ∧ ∀ x ∈ l, wf_Node x) (hs : (Lit.int .i64 id).wf = true) : ∃ k, laws_FnExactTextOf.f k l id = some true := by
  apply val_rounds (g := fun k => laws_FnExactTextOf.f k l id)
  show laws_FnExactTextOf.F l id = some true
  rw [laws_FnExactTextOf.F_eq]
  obtain ⟨r, e, _, hr⟩ := sz_Tree l h 1048576 (by omega) (by omega)
  rw [e, Option.bind_some]
  by_cases c : r < 0
  · rw [if_pos c]
  · rw [if_neg c]
    have hb := hr (by omega)
    have hl : bulk_NodeS l ≤ 1048576 := by omega
    have S := tree_small l h hl
    have hz : (catN (l.map of_Node) 0 (l.map of_Node).length).size ≤ 1048576 := by
      have h1 := cat_bulk l l.length (Nat.le_refl _)
      rw [List.take_length] at h1
      rw [List.length_map]
      unfold bulk_NodeS at hl
      omega
    obtain ⟨q, h1, h2, h3⟩ := tree_right (l.map of_Node) S
    have key : ∃ t, spec_TextOf.F (l.map of_Node) id = some t ∧ impl_TextOf.F (l.map of_Node) id = some t := by
      rw [impl_TextOf.F_eq, spec_TextOf.F_eq, h1, h2, Option.bind_some, Option.bind_some]
      cases q with
      | false => exact ⟨_, if_neg (by simp), if_neg (by simp)⟩
      | true =>
        have R := (h3 rfl).1
        rw [if_pos rfl, if_pos rfl, l4At_is _ R, Option.bind_some]
        have ht : textR (l.map of_Node) id = some (textAt (l.map of_Node) id) := by unfold textR; exact if_pos ⟨R, hz⟩
        rw [ht]
        cases ha : atI (l.map of_Node) id with
        | none =>
          rw [placeOf_none ha, if_pos (by omega)]
          refine ⟨_, rfl, ?_⟩
          unfold textAt
          rw [ha]
        | some j =>
          obtain ⟨hj, _⟩ := at__lt ha
          obtain ⟨e, hfit, _⟩ := R.fits.inner (Nat.zero_le j) hj
          rw [placeOf_some ha, if_neg (by omega)]
          have hk := text_loop R hz hj hfit (e - j) j (by have := hfit.le; omega) (Nat.le_refl _)
          rw [Nat.sub_self] at hk
          refine ⟨_, hk, ?_⟩
          unfold textAt
          rw [ha, ← endOf_is hfit]
    obtain ⟨t, k1, k2⟩ := key
    simp only [to_Tree l hl, Option.bind_some, k1, k2, eq_Tree l hl, if_true]
end Go.Proofs.Ytjoanlocikagaaa.QFnExactTextOf
