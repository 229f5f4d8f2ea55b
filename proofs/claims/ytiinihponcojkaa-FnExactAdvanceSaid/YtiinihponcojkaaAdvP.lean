/- What the face makes of a row's width is what the reference makes of it. -/
import Derived.Test.YtiinihponcojkaaLigP
namespace Go.Proofs.Ytiinihponcojkaa.QFnExactAdvance
open Go Go.RowKit Go.Proofs.YtiinihponcojkaaV.PrintWords Go.Proofs.YtiinihponcojkaaV.PrintLast Go.Proofs.YtiinihponcojkaaV.PrintMore Go.Proofs.Ytiinihponcojkaa.Val Go.Proofs.Ytiinihponcojkaa.MapObj Go.Proofs.Ytiinihponcojkaa.MapKey
set_option linter.unusedVariables false
set_option linter.unusedSimpArgs false

def keyK (l : List S81) (j : Nat) : Int × Int := ((rd_T81 l (j : Nat)).f0, (rd_T81 l (j : Nat)).f1)
theorem kerns_less {l : List S81} (h : KernsP l) : ∀ (d i : Nat), i + d + 1 < l.length → LessP (keyK l i).1 (keyK l i).2 (keyK l (i + d + 1)).1 (keyK l (i + d + 1)).2
  | 0, i, hi => by
    have := h (i + 1) (by omega) hi
    rw [show (((i + 1 : Nat) : Int) - 1) = (i : Nat) by omega] at this
    exact this
  | d + 1, i, hi => by
    have h1 := kerns_less h d i (by omega)
    have h2 := h (i + d + 1 + 1) (by omega) hi
    rw [show (((i + d + 1 + 1 : Nat) : Int) - 1) = ((i + d + 1 : Nat) : Int) by omega] at h2
    have h2 : LessP (keyK l (i + d + 1)).1 (keyK l (i + d + 1)).2 (keyK l (i + (d + 1) + 1)).1 (keyK l (i + (d + 1) + 1)).2 := h2
    unfold LessP at *
    omega
theorem kerns_one {l : List S81} (h : KernsP l) {i j : Nat} (hi : i < l.length) (hj : j < l.length) (e : keyK l i = keyK l j) : i = j := by
  rcases Nat.lt_trichotomy i j with q | q | q
  · have := kerns_less h (j - i - 1) i (by omega)
    rw [show i + (j - i - 1) + 1 = j by omega, e] at this
    unfold LessP at this
    omega
  · exact q
  · have := kerns_less h (i - j - 1) j (by omega)
    rw [show j + (i - j - 1) + 1 = i by omega, e] at this
    unfold LessP at this
    omega
theorem hKern_hit {l : List S81} (h : KernsP l) {j : Nat} : ∀ n, n ≤ l.length → j < n → mget (hKern l n) (keyK l j) = some (rd_T81 l (j : Nat)).f2
  | 0, _, hj => by omega
  | n + 1, hn, hj => by
    show (if keyK l n = keyK l j then some (rd_T81 l (n : Nat)).f2 else mget (hKern l n) (keyK l j)) = _
    by_cases e : keyK l n = keyK l j
    · rw [if_pos e, kerns_one h (by omega) (by omega) e]
    · rw [if_neg e]
      exact hKern_hit h n (by omega) (by
        rcases Nat.lt_or_ge j n with q | q
        · exact q
        · exact absurd (by rw [show n = j by omega]) e)
theorem hKern_miss {l : List S81} {p : Int × Int} : ∀ n, (∀ j, j < n → keyK l j ≠ p) → mget (hKern l n) p = none
  | 0, _ => rfl
  | n + 1, h => by
    show (if keyK l n = p then some (rd_T81 l (n : Nat)).f2 else mget (hKern l n) p) = _
    rw [if_neg (h n (by omega))]
    exact hKern_miss n (fun j hj => h j (by omega))
theorem kern_spec (a b c d : Int) (g : List S79) (k : List S81) (l : List S84) (hl : k.length ≤ 1048576) (h : KernsP k) (x y : Int) : spec_l12Kern.F a b c d g k l x y = some (kernI k (x, y)) := by
  rw [spec_l12Kern.F_eq]
  have key : ∀ (n i : Nat), i + n = k.length → (∀ j, j < i → keyK k j ≠ (x, y)) → spec_l12Kern.L0 x y i a b c d g k l = some (kernI k (x, y)) := by
    intro n
    induction n with
    | zero =>
      intro i hi hm
      rw [spec_l12Kern.L0_eq, if_neg (by omega)]
      unfold kernI
      rw [hKern_miss k.length (fun j hj => hm j (by omega))]
      rfl
    | succ n ih =>
      intro i hi hm
      have next : keyK k i ≠ (x, y) → spec_l12Kern.L0 x y (wrap64 ((i : Int) + 1)) a b c d g k l = some (kernI k (x, y)) := fun e => by
        rw [w64 (by omega) (by omega)]
        exact ih (i + 1) (by omega) (fun j hj => by
          rcases Nat.lt_or_ge j i with q | q
          · exact hm j q
          · rw [show j = i by omega]
            exact e)
      rw [spec_l12Kern.L0_eq, if_pos (by omega), if_pos (by omega)]
      by_cases e1 : (rd_T81 k (i : Nat)).f0 = x
      · rw [if_pos e1]
        by_cases e2 : (rd_T81 k (i : Nat)).f1 = y
        · rw [if_pos e2]
          have : mget (hKern k k.length) (x, y) = some (rd_T81 k (i : Nat)).f2 := by
            have := hKern_hit h (j := i) k.length (Nat.le_refl _) (by omega)
            unfold keyK at this
            rw [e1, e2] at this
            exact this
          unfold kernI
          rw [this]
          rfl
        · rw [if_neg e2]
          exact next (fun e => e2 (by unfold keyK at e; injection e))
      · rw [if_neg e1]
        exact next (fun e => e1 (by unfold keyK at e; injection e))
  exact key k.length 0 (by omega) (fun j hj => by omega)
theorem rdG {g : List S79} {j : Nat} (h : j < g.length) : rd_T79 g (j : Nat) = g[j] := by
  unfold rd_T79
  rw [Int.toNat_natCast, List.getD_eq_getElem?_getD, List.getElem?_eq_getElem h]
  rfl
theorem glyphs_less {g : List S79} (h : GlyphsP g) : ∀ (d i : Nat), i + d + 1 < g.length → (rd_T79 g (i : Nat)).f0 < (rd_T79 g ((i + d + 1 : Nat) : Int)).f0
  | 0, i, hi => by
    have := h (i + 1) (by omega) hi
    rw [show (((i + 1 : Nat) : Int) - 1) = (i : Nat) by omega] at this
    exact this
  | d + 1, i, hi => by
    have h1 := glyphs_less h d i (by omega)
    have h2 := h (i + d + 1 + 1) (by omega) hi
    rw [show (((i + d + 1 + 1 : Nat) : Int) - 1) = ((i + d + 1 : Nat) : Int) by omega] at h2
    exact Int.lt_trans h1 h2
theorem glyphs_one {g : List S79} (h : GlyphsP g) {i j : Nat} (hi : i < g.length) (hj : j < g.length) (e : (rd_T79 g (i : Nat)).f0 = (rd_T79 g (j : Nat)).f0) : i = j := by
  rcases Nat.lt_trichotomy i j with q | q | q
  · have := glyphs_less h (j - i - 1) i (by omega)
    rw [show i + (j - i - 1) + 1 = j by omega] at this
    omega
  · exact q
  · have := glyphs_less h (i - j - 1) j (by omega)
    rw [show j + (i - j - 1) + 1 = i by omega] at this
    omega
theorem findG_cases (g : List S79) (d r : Int) : (∃ j, j < g.length ∧ (rd_T79 g (j : Nat)).f0 = r ∧ findG g d r = (rd_T79 g (j : Nat)).f1) ∨ ((∀ j, j < g.length → (rd_T79 g (j : Nat)).f0 ≠ r) ∧ findG g d r = d) := by
  unfold findG
  cases e : g.find? (fun x => decide (x.f0 = r)) with
  | none =>
    refine .inr ⟨fun j hj q => ?_, rfl⟩
    have := List.find?_eq_none.1 e g[j] (List.getElem_mem hj)
    rw [rdG hj] at q
    exact this (by simpa using q)
  | some x =>
    have h1 := List.find?_some e
    obtain ⟨j, hj, ej⟩ := List.getElem_of_mem (List.mem_of_find?_eq_some e)
    refine .inl ⟨j, hj, ?_, ?_⟩
    · rw [rdG hj, ej]
      simpa using h1
    · rw [rdG hj, ej]
      rfl
theorem hWide_hit {g : List S79} (h : GlyphsP g) {j : Nat} {r : Int} (hr : wrap64 (wrap32 r) = r) (hj : (rd_T79 g (j : Nat)).f0 = r) : ∀ n, n ≤ g.length → j < n → mget (hWide g n) (wrap32 r) = some (rd_T79 g (j : Nat)).f1
  | 0, _, hn => by omega
  | n + 1, hn, hjn => by
    show mget (if wrap64 (wrap32 (rd_T79 g (n : Nat)).f0) = (rd_T79 g (n : Nat)).f0 then (wrap32 (rd_T79 g (n : Nat)).f0, (rd_T79 g (n : Nat)).f1) :: hWide g n else hWide g n) (wrap32 r) = _
    by_cases e : n = j
    · subst e
      rw [if_pos (by rw [hj]; exact hr)]
      show (if wrap32 (rd_T79 g (n : Nat)).f0 = wrap32 r then some (rd_T79 g (n : Nat)).f1 else mget (hWide g n) (wrap32 r)) = _
      rw [if_pos (by rw [hj])]
    · have ih := hWide_hit h hr hj n (by omega) (by omega)
      by_cases c : wrap64 (wrap32 (rd_T79 g (n : Nat)).f0) = (rd_T79 g (n : Nat)).f0
      · rw [if_pos c]
        show (if wrap32 (rd_T79 g (n : Nat)).f0 = wrap32 r then some (rd_T79 g (n : Nat)).f1 else mget (hWide g n) (wrap32 r)) = _
        rw [if_neg (fun q => e (glyphs_one h (by omega) (by omega) (by rw [← c, q, hr, hj])))]
        exact ih
      · rw [if_neg c]
        exact ih
theorem hWide_miss {g : List S79} {r : Int} (hr : wrap64 (wrap32 r) = r) : ∀ n, (∀ j, j < n → (rd_T79 g (j : Nat)).f0 ≠ r) → mget (hWide g n) (wrap32 r) = none
  | 0, _ => rfl
  | n + 1, hm => by
    show mget (if wrap64 (wrap32 (rd_T79 g (n : Nat)).f0) = (rd_T79 g (n : Nat)).f0 then (wrap32 (rd_T79 g (n : Nat)).f0, (rd_T79 g (n : Nat)).f1) :: hWide g n else hWide g n) (wrap32 r) = _
    have ih := hWide_miss hr n (fun j hj => hm j (by omega))
    by_cases c : wrap64 (wrap32 (rd_T79 g (n : Nat)).f0) = (rd_T79 g (n : Nat)).f0
    · rw [if_pos c]
      show (if wrap32 (rd_T79 g (n : Nat)).f0 = wrap32 r then some (rd_T79 g (n : Nat)).f1 else mget (hWide g n) (wrap32 r)) = _
      rw [if_neg (fun q => hm n (by omega) (by rw [← c, q, hr]))]
      exact ih
    · rw [if_neg c]
      exact ih
theorem glyph_find {g : List S79} (h : GlyphsP g) (d r : Int) : glyphI g d r = findG g d r := by
  unfold glyphI
  split
  · rename_i hr
    rcases findG_cases g d r with ⟨j, hj, e1, e2⟩ | ⟨hm, e2⟩
    · rw [hWide_hit h hr e1 g.length (Nat.le_refl _) hj, e2]
      rfl
    · rw [hWide_miss hr g.length hm, e2]
      rfl
  · rfl
theorem glyph_spec (a b c d : Int) (g : List S79) (k : List S81) (l : List S84) (hl : g.length ≤ 1048576) (h : GlyphsP g) (r : Int) : spec_l12Advance.F a b c d g k l r = some (glyphI g d r) := by
  rw [glyph_find h, spec_l12Advance.F_eq]
  have key : ∀ (n i : Nat), i + n = g.length → spec_l12Advance.L0 r i a b c d g k l = some (findG (g.drop i) d r) := by
    intro n
    induction n with
    | zero =>
      intro i hi
      rw [spec_l12Advance.L0_eq, if_neg (by omega), List.drop_of_length_le (by omega)]
      rfl
    | succ n ih =>
      intro i hi
      rw [spec_l12Advance.L0_eq, if_pos (by omega), if_pos (by omega), w64 (by omega) (by omega), rdG (show i < g.length by omega), List.drop_eq_getElem_cons (show i < g.length by omega)]
      unfold findG
      rw [List.find?_cons]
      by_cases e : g[i].f0 = r
      · rw [if_pos e, decide_eq_true e]
        rfl
      · rw [if_neg e, decide_eq_false e]
        exact ih (i + 1) (by omega)
  exact key g.length 0 (by omega)
theorem down_some {x a : Int} (h : a ≠ 0) : ∃ t, impl_down.f x a = some t := by
  unfold impl_down.f
  rw [if_neg h]
  split
  · exact ⟨_, rfl⟩
  · split <;> exact ⟨_, rfl⟩
theorem floor_down (x a : Int) : spec_l9Floor.f x a = impl_down.f x a := rfl
theorem advL_some (g : List S79) (k : List S81) {a : Int} (d size : Int) (h : a ≠ 0) : ∀ (xs : List Int) (sum : Int) (prev : Option Int), ∃ s, advL g k a d size sum prev xs = some s
  | [], sum, _ => ⟨sum, rfl⟩
  | r :: xs, sum, prev => by
    unfold advL advStep
    obtain ⟨t, ht⟩ := down_some (x := wrap64 (glyphI g d r * size)) h
    rw [ht, Option.bind_some]
    cases prev with
    | none => exact advL_some g k d size h xs _ _
    | some p =>
      obtain ⟨u, hu⟩ := down_some (x := wrap64 (kernI k (p, r) * size)) h
      dsimp only
      rw [hu, Option.bind_some, Option.bind_some]
      exact advL_some g k d size h xs _ _
def fin (s : Int) : Option Int := if s < 0 then some 0 else ((spec_l9Clamp.f s).bind fun t => some t)
theorem fin_clamp (s : Int) : fin s = impl_clamp.f s 0 100000000 := by
  unfold fin impl_clamp.f spec_l9Clamp.f mx mn
  by_cases h0 : s < 0
  · rw [if_pos h0, if_neg (show ¬ (100000000 : Int) < s by omega), if_neg (by omega)]
  · rw [if_neg h0]
    by_cases h1 : s > 100000000
    · rw [if_pos h1, if_pos (show (100000000 : Int) < s from h1), Option.bind_some]
      rfl
    · rw [if_neg h1, if_neg (show ¬ s < -100000000 by omega), if_neg (show ¬ (100000000 : Int) < s by omega), Option.bind_some]
      by_cases h2 : 0 < s
      · rw [if_pos h2]
      · rw [if_neg h2]
        congr 1
        omega
theorem sum_spec (a b c d : Int) (g : List S79) (k : List S81) (l : List S84) (hg : g.length ≤ 1048576) (hk : k.length ≤ 1048576) (hG : GlyphsP g) (hK : KernsP k) (size : Int) (xs : List Int) (hx : xs.length ≤ 1048576) : spec_Advance.L1 size xs 0 0 a b c d g k l = (advL g k a d size 0 none xs).bind fin := by
  have key : ∀ (n i : Nat) (sum : Int), i + n = xs.length → spec_Advance.L1 size xs sum i a b c d g k l = (advL g k a d size sum (if i = 0 then none else xs[i - 1]?) (xs.drop i)).bind fin := by
    intro n
    induction n with
    | zero =>
      intro i sum hi
      rw [spec_Advance.L1_eq, if_neg (by omega), List.drop_of_length_le (by omega), advL]
      rfl
    | succ n ih =>
      intro i sum hi
      have hd := drop_rd (l := xs) (i := i) (by omega)
      rw [spec_Advance.L1_eq, if_pos (by omega), if_pos (by omega), glyph_spec a b c d g k l hg hG, Option.bind_some, floor_down, hd, advL, advStep]
      cases e : impl_down.f (wrap64 (glyphI g d (rd xs (i : Int)) * size)) a with
      | none => rfl
      | some t =>
        rw [Option.bind_some, Option.bind_some]
        by_cases h0 : i = 0
        · subst h0
          rw [if_neg (show ¬ (((0 : Nat) : Int) > 0) by omega), if_pos rfl]
          dsimp only
          rw [Option.bind_some, w64 (x := ((0 : Nat) : Int) + 1) (by omega) (by omega)]
          have := ih 1 (wrap64 (sum + t)) (by omega)
          rw [if_neg (by omega)] at this
          rw [show ((0 : Nat) : Int) + 1 = ((1 : Nat) : Int) by omega, this, rd_get (show 0 < xs.length by omega)]
        · have hi1 : i - 1 < xs.length := by omega
          rw [if_pos (show ((i : Int) > 0) by omega), if_neg h0, w64 (x := (i : Int) - 1) (by omega) (by omega), if_pos (by omega), if_pos (by omega), kern_spec a b c d g k l hk hK, Option.bind_some, floor_down]
          rw [show ((i : Int) - 1) = ((i - 1 : Nat) : Int) by omega, rd_get hi1]
          dsimp only
          cases e2 : impl_down.f (wrap64 (kernI k (rd xs ((i - 1 : Nat) : Int), rd xs (i : Int)) * size)) a with
          | none => rfl
          | some u =>
            rw [Option.bind_some, Option.bind_some, Option.bind_some, w64 (x := (i : Int) + 1) (by omega) (by omega)]
            have := ih (i + 1) (wrap64 (wrap64 (sum + t) + u)) (by omega)
            rw [if_neg (by omega), Nat.add_sub_cancel, rd_get (show i < xs.length by omega)] at this
            rw [show ((i : Int) + 1) = ((i + 1 : Nat) : Int) by omega, this]
  have := key xs.length 0 0 (by omega)
  rw [if_pos rfl, List.drop_zero] at this
  exact this
/-- The code points that nobody sees. -/
def sil (c : Int) : Bool := decide (c = 10 ∨ c = 173 ∨ c = 8203 ∨ c = 8205 ∨ c = 8206 ∨ c = 8207)
theorem silent_is (c : Int) : spec_l12Silent.f c = some (sil c) := by
  unfold spec_l12Silent.f sil
  repeat' split
  all_goals (congr 1; symm; first | (rw [decide_eq_true_iff]; omega) | skip)
  rename_i h1 h2 h3 h4 h5
  rw [Bool.eq_iff_iff, decide_eq_true_iff, beq_iff_eq]
  omega
theorem seen_len (xs : List Int) : (xs.filter (fun c => !sil c)).length ≤ xs.length := List.length_filter_le _ _
theorem seen_impl (xs : List Int) (hx : xs.length ≤ 1048576) : impl_seenPoints.F xs = some (xs.filter (fun c => !sil c)) := by
  rw [impl_seenPoints.F_eq]
  have key : ∀ (n i : Nat) (out : List Int), i + n = xs.length → out.length ≤ i → impl_seenPoints.L0 out xs xs.length i = some (out ++ (xs.drop i).filter (fun c => !sil c)) := by
    intro n
    induction n with
    | zero =>
      intro i out hi ho
      rw [impl_seenPoints.L0_eq, if_neg (by omega), List.drop_of_length_le (by omega), List.filter_nil, List.append_nil]
    | succ n ih =>
      intro i out hi ho
      have hd := drop_rd (l := xs) (i := i) (by omega)
      have next := ih (i + 1) out (by omega) (by omega)
      rw [impl_seenPoints.L0_eq, if_pos (by omega), if_pos (by omega), if_pos (by omega), w64 (by omega) (by omega), show ((i : Int) + 1) = ((i + 1 : Nat) : Int) by omega, hd, List.filter_cons]
      cases hs : sil (rd xs (i : Int)) with
      | true =>
        rw [next]
        unfold sil at hs
        rw [decide_eq_true_iff] at hs
        simp only [Bool.not_true, Bool.false_eq_true, if_false]
        rcases hs with e | e | e | e | e | e <;> simp [e]
      | false =>
        unfold sil at hs
        rw [decide_eq_false_iff_not] at hs
        rw [if_neg (by omega), if_neg (by omega), if_neg (by omega), if_neg (by omega), if_neg (by omega), if_neg (by omega), if_pos (by omega), ih (i + 1) (out ++ [rd xs (i : Int)]) (by omega) (by rw [List.length_append, List.length_singleton]; omega), List.append_assoc]
        rfl
  have := key xs.length 0 [] (by omega) (Nat.le_refl _)
  rw [List.drop_zero, List.nil_append] at this
  exact this
theorem seen_spec (a b c d : Int) (g : List S79) (k : List S81) (l : List S84) (size : Int) (xs : List Int) (hx : xs.length ≤ 1048576) : spec_Advance.L0 xs size [] 0 a b c d g k l = (spec_Shape.F a b c d g k l (xs.filter (fun c => !sil c))).bind fun t => spec_Advance.L1 size t 0 0 a b c d g k l := by
  have key : ∀ (n i : Nat) (out : List Int), i + n = xs.length → out.length ≤ i → spec_Advance.L0 xs size out i a b c d g k l = (spec_Shape.F a b c d g k l (out ++ (xs.drop i).filter (fun c => !sil c))).bind fun t => spec_Advance.L1 size t 0 0 a b c d g k l := by
    intro n
    induction n with
    | zero =>
      intro i out hi ho
      rw [spec_Advance.L0_eq, if_neg (by omega), List.drop_of_length_le (by omega), List.filter_nil, List.append_nil]
    | succ n ih =>
      intro i out hi ho
      have hd := drop_rd (l := xs) (i := i) (by omega)
      rw [spec_Advance.L0_eq, if_pos (by omega), if_pos (by omega), silent_is, Option.bind_some, w64 (by omega) (by omega), show ((i : Int) + 1) = ((i + 1 : Nat) : Int) by omega, hd, List.filter_cons]
      cases hs : sil (rd xs (i : Int)) with
      | true =>
        rw [if_pos rfl, ih (i + 1) out (by omega) (by omega)]
        simp only [Bool.not_true, Bool.false_eq_true, if_false]
      | false =>
        rw [if_neg (by simp), if_pos (by omega), ih (i + 1) (out ++ [rd xs (i : Int)]) (by omega) (by rw [List.length_append, List.length_singleton]; omega), List.append_assoc]
        rfl
  have := key xs.length 0 [] (by omega) (Nat.le_refl _)
  rw [List.drop_zero, List.nil_append] at this
  exact this
/-- What Advance is of a font, told. -/
theorem advances (a b c d : Int) (g : List S79) (k : List S81) (l : List S84) (xs : List Int) (size : Int) (hg : g.length ≤ 1048576) (hk : k.length ≤ 1048576) (hl : l.length ≤ 1048576) (hx : xs.length ≤ 1048576)
    (w5 : ∀ j : Nat, j < k.length → ok64 (rd_T81 k (j : Nat)).f0 ∧ ok64 (rd_T81 k (j : Nat)).f1) (w6 : ∀ j : Nat, j < l.length → ok64 (rd_T84 l (j : Nat)).f0 ∧ ok64 (rd_T84 l (j : Nat)).f1 ∧ ok64 (rd_T84 l (j : Nat)).f2) (wx : ∀ x ∈ xs, ok64 x) :
    ∃ r, spec_Advance.F a b c d g k l xs size = some r ∧ impl_Advance.F a b c d g k l xs size = some r := by
  obtain ⟨t, e1, e2⟩ := (font_spec a b c d g k l hg hk hl).same (font_impl a b c d g k l hg hk hl)
  obtain ⟨t', e3, hP⟩ := font_spec a b c d g k l hg hk hl
  obtain rfl : t = t' := Option.some.inj (e1.symm.trans e3)
  rw [spec_Advance.F_eq, impl_Advance.F_eq, e1, e2, Option.bind_some, Option.bind_some]
  cases t with
  | false =>
    refine ⟨0, ?_, if_neg (by simp)⟩
    rw [if_neg (by simp), spec_Advance.J0_eq, if_pos rfl]
  | true =>
    obtain ⟨hI, hs, _, hG, _, hK, hL⟩ := hP.1 rfl
    have ok : ∀ ys : List Int, ys.length ≤ 1048576 → (∀ x ∈ ys, ok64 x) → shapeI g k l ys = some (shapeL (ligOf l) ys) := fun ys h1 h2 => by
      unfold shapeI
      exact if_pos ⟨⟨w5, fun j hj => ⟨(w6 j hj).1, (w6 j hj).2.1⟩, fun j hj => (w6 j hj).2.2⟩, hs, h1, h2⟩
    rw [if_pos rfl, if_pos rfl, ok [] (Nat.zero_le _) (fun x hx => by cases hx), Option.bind_some]
    by_cases h0 : size < 0
    · refine ⟨0, ?_, if_pos h0⟩
      rw [if_pos h0, spec_Advance.J0_eq, if_pos rfl]
    · by_cases h1 : 64000 < size
      · refine ⟨0, ?_, by rw [if_neg h0, if_pos h1]⟩
        rw [if_neg h0, decide_eq_true (show size > 64000 from h1), spec_Advance.J0_eq, if_pos rfl]
      · have hsl := seen_len xs
        obtain ⟨s, hadv⟩ := advL_some g k (a := a) d size (by have := hI.1; unfold InP at this; omega) (shapeL (ligOf l) (xs.filter (fun c => !sil c))) 0 none
        have hso : ∀ x ∈ xs.filter (fun c => !sil c), ok64 x := fun x hx => wx x (List.mem_filter.1 hx).1
        rw [if_neg h0, if_neg h0, if_neg h1, decide_eq_false (show ¬ size > 64000 from h1), spec_Advance.J0_eq, if_neg (by simp), seen_spec a b c d g k l size xs hx, seen_impl xs hx, Option.bind_some, ok _ (by omega) hso, Option.bind_some, hadv, Option.bind_some]
        rw [spec_Shape.F_eq, Option.bind_some, e1, Option.bind_some, if_pos rfl, shape_spec a b c d g k l hl hL _ (by omega), Option.bind_some]
        rw [sum_spec a b c d g k l hg hk hG hK size _ (by
          cases hq : xs.filter (fun c => !sil c) with
          | nil => exact Nat.zero_le _
          | cons x r =>
            rw [hq, List.length_cons] at hsl
            have := shapeGo_len (ligOf l) r x
            show (shapeGo _ _ _).length ≤ _
            omega), hadv, Option.bind_some, fin_clamp]
        exact ⟨_, rfl, rfl⟩
end Go.Proofs.Ytiinihponcojkaa.QFnExactAdvance
