/- FnExactLiveOf, the plain side. -/
import Derived.Test.YtjghahkecglgdaaTreeSmall
namespace Go.Proofs.Ytjghahkecglgdaa.QFnExactLiveOf
open Go Go.RowKit Go.Proofs.YtjghahkecglgdaaV.PrintWords Go.Proofs.YtjghahkecglgdaaV.PrintLast Go.Proofs.YtjghahkecglgdaaV.PrintMore Go.Proofs.Ytjghahkecglgdaa.Val
set_option linter.unusedVariables false
set_option linter.unusedSimpArgs false

theorem live_both (l : List S78) (hl : l.length ≤ 1048576) (s : ByteArray) : ∀ (d i : Nat) (out : List Int), i + d = l.length → out.length ≤ i →
    ∃ r, spec_LiveOf.L0 s out i l = some r ∧ impl_LiveOf.L0 s out l l.length i = some r ∧ r.length ≤ l.length
  | 0, i, out, h, ho => by
    rw [spec_LiveOf.L0_eq, impl_LiveOf.L0_eq, if_neg (by omega), if_neg (by omega)]
    exact ⟨out, rfl, rfl, by omega⟩
  | d + 1, i, out, h, ho => by
    have hw : wrap64 ((i : Int) + 1) = ((i + 1 : Nat) : Int) := by rw [w64 (by omega) (by omega)]; rfl
    have es : spec_LiveOf.L0 s out i l = if (rd_T78 l i).f1 = 2 then (if (rd_T78 l i).f2.toList = s.toList then spec_LiveOf.L0 s (out ++ [(rd_T78 l i).f0]) ((i + 1 : Nat) : Int) l else spec_LiveOf.L0 s out ((i + 1 : Nat) : Int) l) else spec_LiveOf.L0 s out ((i + 1 : Nat) : Int) l := by
      have h5 : out.length < 17592186044416 := by omega
      rw [spec_LiveOf.L0_eq, if_pos (by omega), if_pos (by omega), hw]
      simp only [h5, if_true]
    have ei : impl_LiveOf.L0 s out l l.length i = if (rd_T78 l i).f1 = 2 then (if (rd_T78 l i).f2.toList = s.toList then impl_LiveOf.L0 s (out ++ [(rd_T78 l i).f0]) l l.length ((i + 1 : Nat) : Int) else impl_LiveOf.L0 s out l l.length ((i + 1 : Nat) : Int)) else impl_LiveOf.L0 s out l l.length ((i + 1 : Nat) : Int) := by
      have h5 : out.length < 17592186044416 := by omega
      rw [impl_LiveOf.L0_eq, if_pos (by omega), if_pos (by omega), if_pos (by omega), hw]
      simp only [h5, if_true]
    rw [es, ei]
    by_cases c1 : (rd_T78 l i).f1 = 2
    · rw [if_pos c1, if_pos c1]
      by_cases c2 : (rd_T78 l i).f2.toList = s.toList
      · rw [if_pos c2, if_pos c2]
        exact live_both l hl s d (i + 1) _ (by omega) (by rw [List.length_append]; simp; omega)
      · rw [if_neg c2, if_neg c2]
        exact live_both l hl s d (i + 1) _ (by omega) (by omega)
    · rw [if_neg c1, if_neg c1]
      exact live_both l hl s d (i + 1) _ (by omega) (by omega)

theorem text_loop : ∀ (n : Nat) (x0 : Int) (x3 : ByteArray), 0 ≤ x0 → x0.toNat ≤ n → x3.size + x0.toNat ≤ 17592186044416 → ∃ t, laws_markText.L0 x0 x3 = some t
  | n, x0, x3, h0, hn, hs => by
    rw [laws_markText.L0_eq]
    by_cases c : x0 > 0
    · rw [if_pos c, Option.bind_some]
      have hz : (strOfNums [(wrap64 (48 + (Int.tmod x0 10))) % 256]).size = 1 := rfl
      rw [if_pos (by omega)]
      have e : Int.tdiv x0 10 = x0 / 10 := Int.tdiv_eq_ediv_of_nonneg h0
      rw [e, w64 (by omega) (by omega)]
      cases n with
      | zero => omega
      | succ n => exact text_loop n (x0 / 10) _ (by omega) (by omega) (by rw [ByteArray.size_append, hz]; omega)
    · rw [if_neg c, if_pos (by omega)]
      exact ⟨_, rfl⟩
theorem text_is (a : Int) (ha : a ≤ 8796093022208) : ∃ t, laws_markText.F a = some t := by
  rw [laws_markText.F_eq]
  by_cases c : a ≤ 0
  · rw [if_pos c]; exact ⟨_, rfl⟩
  · rw [if_neg c]; exact text_loop a.toNat a _ (by omega) (Nat.le_refl _) (by have : (⟨#[]⟩ : ByteArray).size = 0 := rfl; omega)
theorem attrs_is : ∀ (d : Nat) (x0 : List S166) (x1 x5 : Int), 0 ≤ x5 → x5 + d = x0.length → x0.length ≤ 1048576 → 0 ≤ x1 → x1 + 2 * d ≤ 8796093022207 → ∃ l', laws_markAttrS.L0 x0 x1 x5 = some (x1 + 2 * d, l')
  | 0, x0, x1, x5, h, hd, hl, h1, h2 => by
    rw [laws_markAttrS.L0_eq, if_neg (by omega)]
    exact ⟨x0, by simp⟩
  | d + 1, x0, x1, x5, h, hd, hl, h1, h2 => by
    obtain ⟨t1, e1⟩ := text_is x1 (by omega)
    obtain ⟨t2, e2⟩ := text_is (x1 + 1) (by omega)
    rw [laws_markAttrS.L0_eq, if_pos (by omega), e1, Option.bind_some, if_pos h, Option.bind_some, w64 (by omega : -9223372036854775808 ≤ x1 + 1) (by omega), e2, Option.bind_some,
      w64 (by omega : -9223372036854775808 ≤ x1 + 1 + 1) (by omega), w64 (by omega : -9223372036854775808 ≤ x5 + 1) (by omega)]
    obtain ⟨l', e⟩ := attrs_is d ((x0.set x5.toNat (⟨t1, (rd_T166 x0 x5).f1⟩ : S166)).set x5.toNat (⟨(rd_T166 (x0.set x5.toNat (⟨t1, (rd_T166 x0 x5).f1⟩ : S166)) x5).f0, t2⟩ : S166)) (x1 + 1 + 1) (x5 + 1) (by omega) (by rw [List.length_set, List.length_set]; omega) (by rw [List.length_set, List.length_set]; omega) (by omega) (by omega)
    exact ⟨l', by rw [e]; congr 2; omega⟩
theorem tree_mark : ∀ (l : List S78) (a : Int), (∀ x ∈ l, x.f3.length ≤ 1048576) → 0 ≤ a → a + l.length * 2097157 ≤ 8796093022207 → ∃ r, Ev (fun k => markF k l a) r ∧ a ≤ r
  | [], a, hx, h0, h1 => ⟨a, ⟨0, fun _ _ => rfl⟩, Int.le_refl _⟩
  | x :: t, a, hx, h0, h1 => by
    have hn : x.f3.length ≤ 1048576 := hx x List.mem_cons_self
    have h1' : a + (t.length + 1 : Int) * 2097157 ≤ 8796093022207 := by have := h1; simp only [List.length_cons] at this; push_cast at this; exact this
    obtain ⟨t1, e1⟩ := text_is (a + 1 + 1) (by omega)
    obtain ⟨l', e2⟩ := attrs_is x.f3.length x.f3 (a + 1 + 1 + 1) 0 (by omega) (by omega) hn (by omega) (by omega)
    obtain ⟨t2, e3⟩ := text_is (a + 1 + 1 + 1 + 2 * x.f3.length) (by omega)
    have e2' : laws_markAttrS.F x.f3 (a + 1 + 1 + 1) = some (a + 1 + 1 + 1 + 2 * x.f3.length, l') := by rw [laws_markAttrS.F_eq]; exact e2
    obtain ⟨r, ⟨K, hr⟩, hle⟩ := tree_mark t (a + 1 + 1 + 1 + 2 * x.f3.length + 1 + 1) (fun y hy => hx y (List.mem_cons_of_mem _ hy)) (by omega) (by omega)
    obtain ⟨K1, g1⟩ := val_ev e1
    obtain ⟨K2, g2⟩ := val_ev e2'
    obtain ⟨K3, g3⟩ := val_ev e3
    refine ⟨r, ⟨max (max K K1) (max K2 K3), fun n hn => ?_⟩, by omega⟩
    have a1 : wrap64 (a + 1) = a + 1 := w64 (by omega) (by omega)
    have a2 : wrap64 (a + 1 + 1) = a + 1 + 1 := w64 (by omega) (by omega)
    have a3 : wrap64 (a + 1 + 1 + 1) = a + 1 + 1 + 1 := w64 (by omega) (by omega)
    have a4 : wrap64 (a + 1 + 1 + 1 + 2 * x.f3.length + 1) = a + 1 + 1 + 1 + 2 * x.f3.length + 1 := w64 (by omega) (by omega)
    have a5 : wrap64 (a + 1 + 1 + 1 + 2 * x.f3.length + 1 + 1) = a + 1 + 1 + 1 + 2 * x.f3.length + 1 + 1 := w64 (by omega) (by omega)
    have b1 : laws_markText.f n (a + 1 + 1) = some t1 := g1 n (by omega)
    have b2 : laws_markAttrS.f n x.f3 (a + 1 + 1 + 1) = some (a + 1 + 1 + 1 + 2 * x.f3.length, l') := g2 n (by omega)
    have b3 : laws_markText.f n (a + 1 + 1 + 1 + 2 * x.f3.length) = some t2 := g3 n (by omega)
    have b4 := hr n (by omega)
    show markF n (x :: t) a = some r
    unfold markF
    rw [a1, a2, a3, b1, Option.bind_some, b2, Option.bind_some, b3, Option.bind_some]
    show markF n t (wrap64 (wrap64 (a + 1 + 1 + 1 + 2 * x.f3.length + 1) + 1)) = some r
    rw [a4, a5]
    exact b4

theorem ints_mark (N : Nat) (hN : N ≤ 1048576) : ∀ (d : Nat) (x0 : List Int) (x5 : Nat), x0.length = N → x5 + d = N → (∀ j : Nat, j < x5 → x0.getD j 0 = 1 + j) →
    ∃ l' : List Int, laws_markIntS.L0 x0 (1 + (x5 : Int)) (x5 : Int) = some (1 + (N : Int), l') ∧ l'.length = N ∧ ∀ j : Nat, j < N → l'.getD j 0 = 1 + j
  | 0, x0, x5, h, hd, hp => by
    rw [laws_markIntS.L0_eq, if_neg (by omega)]
    exact ⟨x0, by rw [show x5 = N by omega], h, fun j hj => hp j (by omega)⟩
  | d + 1, x0, x5, h, hd, hp => by
    rw [laws_markIntS.L0_eq, if_pos (by omega), if_pos (by omega), w64 (by omega : -9223372036854775808 ≤ 1 + (x5 : Int) + 1) (by omega), w64 (by omega : -9223372036854775808 ≤ (x5 : Int) + 1) (by omega)]
    obtain ⟨l', e, e2, e3⟩ := ints_mark N hN d (x0.set x5 (1 + (x5 : Int))) (x5 + 1) (by rw [List.length_set]; exact h) (by omega) (fun j hj => by
      rw [List.getD_eq_getElem?_getD, List.getElem?_set]
      by_cases c : x5 = j
      · subst c; rw [if_pos rfl, if_pos (by omega)]; rfl
      · rw [if_neg c, ← List.getD_eq_getElem?_getD]; exact hp j (by omega))
    refine ⟨l', ?_, e2, e3⟩
    rw [← e, Int.toNat_natCast]
    congr 1
theorem ints_held (N : Nat) (hN : N ≤ 1048576) (l : List Int) (hl : l.length = N) (hp : ∀ j : Nat, j < N → l.getD j 0 = 1 + j) : ∀ (d x5 : Nat), x5 + d = N → laws_heldIntS.L0 l (1 + (x5 : Int)) (x5 : Int) = some (1 + (N : Int))
  | 0, x5, hd => by
    rw [laws_heldIntS.L0_eq, if_neg (by omega), show x5 = N by omega]
  | d + 1, x5, hd => by
    have e : rd l (x5 : Int) = 1 + x5 := hp x5 (by omega)
    rw [laws_heldIntS.L0_eq, if_pos (by omega), if_pos (by omega), if_pos e, w64 (by omega : -9223372036854775808 ≤ 1 + (x5 : Int) + 1) (by omega), w64 (by omega : -9223372036854775808 ≤ (x5 : Int) + 1) (by omega)]
    have := ints_held N hN l hl hp d (x5 + 1) (by omega)
    rw [← this]
    congr 1
theorem eqIntS_self (l : List Int) (hl : l.length ≤ 9223372036854775807) : laws_eqIntS.F l l = some true := by
  rw [laws_eqIntS.F_eq, if_pos rfl]
  have h := upTo (fun i => laws_eqIntS.L0 l l i) l.length ?_
  · rw [h]
    show laws_eqIntS.L0 l l l.length = _
    rw [laws_eqIntS.L0_eq, if_neg (by omega)]
  · intro i h0 h1
    show laws_eqIntS.L0 l l i = _
    rw [laws_eqIntS.L0_eq, if_pos h1, if_pos h0, if_pos h1, if_pos rfl, w64 (by omega) (by omega)]

theorem FnExactLiveOf_pure (l : List S118) (v : ByteArray) (h : l.length ≤ maxLen ∧ ∀ x ∈ l, wf_Node x) (hv : v.size ≤ maxLen) : ∃ k, laws_FnExactLiveOf.f k l v = some true := by
  apply val_rounds (g := fun k => laws_FnExactLiveOf.f k l v)
  show laws_FnExactLiveOf.F l v = some true
  rw [laws_FnExactLiveOf.F_eq]
  by_cases c0 : (v.size : Int) > 1048576
  · rw [if_pos c0]
  rw [if_neg c0]
  obtain ⟨r, e, _, hr⟩ := sz_Tree l h 1048576 (by omega) (by omega)
  rw [e, Option.bind_some]
  by_cases c : r < 0
  · rw [if_pos c]
  · rw [if_neg c]
    have hb := hr (by omega)
    have hl : bulk_NodeS l ≤ 1048576 := by omega
    have S := tree_small l h hl
    obtain ⟨q, h1, h2⟩ := tree_both (l.map of_Node) S
    have key : ∃ t, spec_LiveOf.F (l.map of_Node) v = some t ∧ impl_LiveOf.F (l.map of_Node) v = some t ∧ t.length ≤ 1048576 := by
      rw [spec_LiveOf.F_eq, impl_LiveOf.F_eq, h1, h2, Option.bind_some, Option.bind_some, Option.bind_some, Option.bind_some]
      cases q with
      | false => exact ⟨[], rfl, rfl, by simp⟩
      | true =>
        rw [if_pos rfl, if_pos rfl]
        obtain ⟨t, a, b, c⟩ := live_both (l.map of_Node) S.len v (l.map of_Node).length 0 [] (Nat.zero_add _) (Nat.le_refl _)
        exact ⟨t, a, b, by have := S.len; omega⟩
    obtain ⟨t, k1, k2, ht⟩ := key
    obtain ⟨m, em, hm⟩ := tree_mark (l.map of_Node) 1 (fun x hx => by
      obtain ⟨i, hi, rfl⟩ := List.mem_iff_getElem.mp hx
      have := S.attrs i
      have e : rd_T78 (l.map of_Node) (i : Int) = (l.map of_Node)[i] := by
        show (l.map of_Node).getD (i : Int).toNat z78 = _
        rw [Int.toNat_natCast, List.getD_eq_getElem?_getD, List.getElem?_eq_getElem hi]; rfl
      rw [e] at this
      exact this) (by omega) (by have := S.len; omega)
    have em' : laws_markTree.F (l.map of_Node) 1 = some m := val_of em
    obtain ⟨g, eg, hg, hp⟩ := ints_mark t.length ht t.length t 0 rfl (Nat.zero_add _) (fun j hj => by omega)
    have eg' : laws_markIntS.F t 1 = some (1 + (t.length : Int), g) := by rw [laws_markIntS.F_eq]; exact eg
    have eh : laws_heldIntS.F g 1 = some (1 + (t.length : Int)) := by
      rw [laws_heldIntS.F_eq]
      exact ints_held t.length ht g hg hp t.length 0 (Nat.zero_add _)
    have ee : laws_eqIntS.F t t = some true := eqIntS_self t (by omega)
    have J : laws_FnExactLiveOf.J0 v t t (!true) l = some true := by
      rw [laws_FnExactLiveOf.J0_eq, if_neg (by decide), eg', Option.bind_some]
      simp only [eh, Option.bind_some, to_Tree l hl, k2, ee, if_true]
      rw [if_neg (by omega), if_neg (by omega)]
    simp only [to_Tree l hl, Option.bind_some, k1, k2, eq_Tree l hl, ee, em', if_true]
    rw [if_neg (by omega)]
    exact J

end Go.Proofs.Ytjghahkecglgdaa.QFnExactLiveOf
