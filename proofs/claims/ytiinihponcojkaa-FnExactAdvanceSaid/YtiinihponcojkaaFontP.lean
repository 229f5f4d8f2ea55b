/- The two looks at a font agree. -/
import Derived.Test.YtiinihponcojkaaFFnExactAdvance
import Derived.Test.YtiinihponcojkaaLoops
import Derived.Test.YtiinihponcojkaaTells
namespace Go.Proofs.Ytiinihponcojkaa.QFnExactAdvance
open Go Go.RowKit Go.Proofs.YtiinihponcojkaaV.PrintWords Go.Proofs.YtiinihponcojkaaV.PrintLast Go.Proofs.YtiinihponcojkaaV.PrintMore Go.Proofs.Ytiinihponcojkaa.Val
set_option linter.unusedVariables false
set_option linter.unusedSimpArgs false

def InP (n lo hi : Int) : Prop := lo ≤ n ∧ n ≤ hi
theorem in_spec (n lo hi : Int) : Tells (spec_l12In.f n lo hi) (InP n lo hi) := by
  unfold spec_l12In.f InP
  refine Tells.ite (fun e => Tells.is ?_) (fun e => Tells.no (fun x => by omega))
  rw [decide_eq_true_iff]
  omega
theorem in_impl (n : Int) : Tells (impl_inMetric.f n) (InP n 0 10000) := by
  unfold impl_inMetric.f InP
  refine Tells.ite (fun e => Tells.is ?_) (fun e => Tells.no (fun x => by omega))
  rw [decide_eq_true_iff]
  omega
def LessP (a b c d : Int) : Prop := a < c ∨ (a = c ∧ b < d)
theorem less_spec (a b c d : Int) : Tells (spec_l12Less.f a b c d) (LessP a b c d) := by
  unfold spec_l12Less.f LessP
  refine Tells.ite (fun e => Tells.yes (.inl e)) (fun e => Tells.ite (fun e2 => Tells.is ?_) (fun e2 => Tells.no (fun x => by omega)))
  rw [decide_eq_true_iff]
  omega
theorem compare_is (a b : Int) : cmp_Compare_int.f a b = some (if a < b then -1 else if a > b then 1 else 0) := by
  unfold cmp_Compare_int.f cmp_isNaN_int.f
  simp only [Option.bind_some, bne_self_eq_false, Bool.false_eq_true, if_false]
  split
  · rfl
  · split <;> rfl
theorem or_is (a b : Int) : cmp_Or_int.F [a, b] = some (if a = 0 then b else a) := by
  rw [cmp_Or_int.F_eq, cmp_Or_int.L0_eq]
  simp only [List.length_cons, List.length_nil]
  rw [if_pos (by omega), if_pos (by omega), if_pos (by omega)]
  by_cases e : a = 0
  · rw [if_pos (show rd [a, b] 0 = 0 from e), if_pos e, w64 (by omega) (by omega), cmp_Or_int.L0_eq]
    simp only [List.length_cons, List.length_nil]
    rw [if_pos (by omega), if_pos (by omega), if_pos (by omega)]
    by_cases f : b = 0
    · rw [if_pos (show rd [a, b] (0 + 1) = 0 from f), w64 (by omega) (by omega), cmp_Or_int.L0_eq]
      simp only [List.length_cons, List.length_nil]
      rw [if_neg (by omega), f]
    · rw [if_neg (show ¬ rd [a, b] (0 + 1) = 0 from f)]
      rfl
  · rw [if_neg (show ¬ rd [a, b] 0 = 0 from e), if_neg e]
    rfl
theorem pair_is (a b c d : Int) : ∃ t : Int, ((cmp_Compare_int.f a c).bind fun t181 => ((cmp_Compare_int.f b d).bind fun t182 => ((cmp_Or_int.F [t181, t182]).bind fun t186 => some t186))) = some t ∧ (¬ t ≥ 0 ↔ LessP a b c d) := by
  simp only [compare_is, Option.bind_some, or_is]
  refine ⟨_, rfl, ?_⟩
  unfold LessP
  by_cases h1 : a < c
  · simp [h1]
  · by_cases h2 : a > c
    · simp [h1, h2]
      omega
    · have h3 : a = c := by omega
      simp [h3]
      by_cases h4 : b < d
      · simp [h4]
      · by_cases h5 : b > d
        · simp [h4, h5]
        · simp [h4, h5]

/-! ### a list goes up -/
def GlyphsP (g : List S79) : Prop := ∀ n : Nat, 1 ≤ n → n < g.length → (rd_T79 g ((n : Int) - 1)).f0 < (rd_T79 g n).f0
def KernsP (g : List S81) : Prop := ∀ n : Nat, 1 ≤ n → n < g.length → LessP (rd_T81 g ((n : Int) - 1)).f0 (rd_T81 g ((n : Int) - 1)).f1 (rd_T81 g n).f0 (rd_T81 g n).f1
def LigsP (g : List S84) : Prop := ∀ n : Nat, 1 ≤ n → n < g.length → LessP (rd_T84 g ((n : Int) - 1)).f0 (rd_T84 g ((n : Int) - 1)).f1 (rd_T84 g n).f0 (rd_T84 g n).f1
theorem glyphs_rise (g : List S79) (hg : g.length ≤ 1048576) : Tells (impl_Glyph.F g 0) (GlyphsP g ∧ g.length ≤ 1000) := by
  rw [impl_Glyph.F_eq]
  by_cases h0 : g.length = 0
  · rw [impl_Glyph.L0_eq, if_neg (by omega)]
    exact Tells.is (by rw [decide_eq_true_iff]; exact ⟨fun x => ⟨fun n h1 h2 => by omega, by omega⟩, fun x => by omega⟩)
  · refine (scan_tells (fun i => impl_Glyph.L0 g i) g.length 1 (fun n => (rd_T79 g ((n : Int) - 1)).f0 < (rd_T79 g n).f0) (q := g.length ≤ 1000) (fun i h1 h2 => ?_) ?_ (g.length - 1) 1 (Nat.le_refl _) (by omega)).congr ⟨fun x => ⟨fun n a b => x.1 n a b, x.2⟩, fun x => ⟨fun n a b => x.1 n a b, x.2⟩⟩
    · show _ ∧ impl_Glyph.L0 g i = _ ∨ _ ∧ impl_Glyph.L0 g i = _
      rw [impl_Glyph.L0_eq, if_pos (by omega), w64 (x := (i : Int) - 1) (by omega) (by omega), if_pos (by omega), if_pos (by omega), if_pos (by omega)]
      unfold impl_FontOk_c1.f
      simp only [compare_is, Option.bind_some]
      by_cases c : (rd_T79 g ((i : Int) - 1)).f0 < (rd_T79 g i).f0
      · refine .inl ⟨c, ?_⟩
        rw [if_pos c, if_neg (by omega), w64 (by omega) (by omega)]
        rfl
      · refine .inr ⟨c, ?_⟩
        rw [if_neg c, if_pos (by split <;> omega)]
    · show Tells (impl_Glyph.L0 g g.length) _
      rw [impl_Glyph.L0_eq, if_neg (by omega)]
      exact Tells.is (by rw [decide_eq_true_iff]; omega)
theorem kerns_rise (g : List S81) (hg : g.length ≤ 1048576) : Tells (impl_Kern.F g 0) (KernsP g ∧ g.length ≤ 1000) := by
  rw [impl_Kern.F_eq]
  by_cases h0 : g.length = 0
  · rw [impl_Kern.L0_eq, if_neg (by omega)]
    exact Tells.is (by rw [decide_eq_true_iff]; exact ⟨fun x => ⟨fun n h1 h2 => by omega, by omega⟩, fun x => by omega⟩)
  · refine (scan_tells (fun i => impl_Kern.L0 g i) g.length 1 (fun n => LessP (rd_T81 g ((n : Int) - 1)).f0 (rd_T81 g ((n : Int) - 1)).f1 (rd_T81 g n).f0 (rd_T81 g n).f1) (q := g.length ≤ 1000) (fun i h1 h2 => ?_) ?_ (g.length - 1) 1 (Nat.le_refl _) (by omega)).congr ⟨fun x => ⟨fun n a b => x.1 n a b, x.2⟩, fun x => ⟨fun n a b => x.1 n a b, x.2⟩⟩
    · show _ ∧ impl_Kern.L0 g i = _ ∨ _ ∧ impl_Kern.L0 g i = _
      rw [impl_Kern.L0_eq, if_pos (by omega), w64 (x := (i : Int) - 1) (by omega) (by omega), if_pos (by omega), if_pos (by omega), if_pos (by omega), impl_FontOk_c2.F_eq]
      obtain ⟨t, e, ht⟩ := pair_is (rd_T81 g ((i : Int) - 1)).f0 (rd_T81 g ((i : Int) - 1)).f1 (rd_T81 g i).f0 (rd_T81 g i).f1
      rw [e, Option.bind_some]
      by_cases c : t ≥ 0
      · exact .inr ⟨fun x => (ht.2 x) c, by rw [if_pos c]⟩
      · exact .inl ⟨ht.1 c, by rw [if_neg c, w64 (by omega) (by omega)]; rfl⟩
    · show Tells (impl_Kern.L0 g g.length) _
      rw [impl_Kern.L0_eq, if_neg (by omega)]
      exact Tells.is (by rw [decide_eq_true_iff]; omega)
theorem ligs_rise (g : List S84) (hg : g.length ≤ 1048576) : Tells (impl_Lig.F g 0) (LigsP g ∧ g.length ≤ 1000) := by
  rw [impl_Lig.F_eq]
  by_cases h0 : g.length = 0
  · rw [impl_Lig.L0_eq, if_neg (by omega)]
    exact Tells.is (by rw [decide_eq_true_iff]; exact ⟨fun x => ⟨fun n h1 h2 => by omega, by omega⟩, fun x => by omega⟩)
  · refine (scan_tells (fun i => impl_Lig.L0 g i) g.length 1 (fun n => LessP (rd_T84 g ((n : Int) - 1)).f0 (rd_T84 g ((n : Int) - 1)).f1 (rd_T84 g n).f0 (rd_T84 g n).f1) (q := g.length ≤ 1000) (fun i h1 h2 => ?_) ?_ (g.length - 1) 1 (Nat.le_refl _) (by omega)).congr ⟨fun x => ⟨fun n a b => x.1 n a b, x.2⟩, fun x => ⟨fun n a b => x.1 n a b, x.2⟩⟩
    · show _ ∧ impl_Lig.L0 g i = _ ∨ _ ∧ impl_Lig.L0 g i = _
      rw [impl_Lig.L0_eq, if_pos (by omega), w64 (x := (i : Int) - 1) (by omega) (by omega), if_pos (by omega), if_pos (by omega), if_pos (by omega), impl_FontOk_c3.F_eq]
      obtain ⟨t, e, ht⟩ := pair_is (rd_T84 g ((i : Int) - 1)).f0 (rd_T84 g ((i : Int) - 1)).f1 (rd_T84 g i).f0 (rd_T84 g i).f1
      rw [e, Option.bind_some]
      by_cases c : t ≥ 0
      · exact .inr ⟨fun x => (ht.2 x) c, by rw [if_pos c]⟩
      · exact .inl ⟨ht.1 c, by rw [if_neg c, w64 (by omega) (by omega)]; rfl⟩
    · show Tells (impl_Lig.L0 g g.length) _
      rw [impl_Lig.L0_eq, if_neg (by omega)]
      exact Tells.is (by rw [decide_eq_true_iff]; omega)

/-! ### the font -/
def AdvancesP (g : List S79) : Prop := ∀ n : Nat, n < g.length → InP (rd_T79 g n).f1 0 10000
def BysP (g : List S81) : Prop := ∀ n : Nat, n < g.length → InP (rd_T81 g n).f2 (-10000) 10000
def FontP (a b c d : Int) (g : List S79) (k : List S81) (l : List S84) : Prop :=
  (InP a 1 10000 ∧ InP b 0 10000 ∧ InP c 0 10000 ∧ InP d 0 10000) ∧ (g.length ≤ 1000 ∧ k.length ≤ 1000 ∧ l.length ≤ 1000) ∧ AdvancesP g ∧ GlyphsP g ∧ BysP k ∧ KernsP k ∧ LigsP l
theorem font_impl (a b c d : Int) (g : List S79) (k : List S81) (l : List S84) (hg : g.length ≤ 1048576) (hk : k.length ≤ 1048576) (hl : l.length ≤ 1048576) : Tells (impl_FontOk.F a b c d g k l) (FontP a b c d g k l) := by
  have h1 : Tells (impl_FontOk.L1 k k.length 0 a b c d g k l) (BysP k ∧ (GlyphsP g ∧ g.length ≤ 1000) ∧ (KernsP k ∧ k.length ≤ 1000) ∧ LigsP l ∧ l.length ≤ 1000) := by
    refine (scan_tells (fun i => impl_FontOk.L1 k k.length i a b c d g k l) k.length 0 (fun n => InP (rd_T81 k n).f2 (-10000) 10000) (q := (GlyphsP g ∧ g.length ≤ 1000) ∧ (KernsP k ∧ k.length ≤ 1000) ∧ LigsP l ∧ l.length ≤ 1000) (fun i h1 h2 => ?_) ?_ k.length 0 (Nat.le_refl _) (by omega)).congr
      ⟨fun x => ⟨fun n h => x.1 n (Nat.zero_le _) h, x.2⟩, fun x => ⟨fun n _ h => x.1 n h, x.2⟩⟩
    · show _ ∧ impl_FontOk.L1 k k.length i a b c d g k l = _ ∨ _ ∧ impl_FontOk.L1 k k.length i a b c d g k l = _
      rw [impl_FontOk.L1_eq, if_pos (by omega), if_pos (by omega), if_pos (by omega)]
      unfold InP
      by_cases c1 : (rd_T81 k i).f2 < -10000
      · exact .inr ⟨by omega, by rw [if_pos c1]⟩
      · by_cases c2 : (rd_T81 k i).f2 > 10000
        · exact .inr ⟨by omega, by rw [if_neg c1, if_pos c2]⟩
        · exact .inl ⟨by omega, by rw [if_neg c1, if_neg c2, w64 (by omega) (by omega)]; rfl⟩
    · show Tells (impl_FontOk.L1 k k.length k.length a b c d g k l) _
      rw [impl_FontOk.L1_eq, if_neg (by omega)]
      refine Tells.bind (glyphs_rise g hg) (fun p => ?_) (fun p => ?_)
      · rw [if_pos rfl]
        refine Tells.bind (kerns_rise k hk) (fun p2 => ?_) (fun p2 => ?_)
        · rw [if_pos rfl]
          exact Tells.bind (ligs_rise l hl) (fun p3 => Tells.yes ⟨p, p2, p3⟩) (fun p3 => Tells.no (fun x => p3 x.2.2))
        · rw [if_neg (by simp)]
          exact Tells.no (fun x => p2 x.2.1)
      · rw [if_neg (by simp)]
        exact Tells.no (fun x => p x.1)
  have h0 : Tells (impl_FontOk.L0 g g.length 0 a b c d g k l) (AdvancesP g ∧ BysP k ∧ (GlyphsP g ∧ g.length ≤ 1000) ∧ (KernsP k ∧ k.length ≤ 1000) ∧ LigsP l ∧ l.length ≤ 1000) := by
    refine (scan_tells (fun i => impl_FontOk.L0 g g.length i a b c d g k l) g.length 0 (fun n => InP (rd_T79 g n).f1 0 10000) (fun i h1 h2 => ?_) (?_ : Tells (impl_FontOk.L0 g g.length g.length a b c d g k l) _) g.length 0 (Nat.le_refl _) (by omega)).congr
      ⟨fun x => ⟨fun n h => x.1 n (Nat.zero_le _) h, x.2⟩, fun x => ⟨fun n _ h => x.1 n h, x.2⟩⟩
    · show _ ∧ impl_FontOk.L0 g g.length i a b c d g k l = _ ∨ _ ∧ impl_FontOk.L0 g g.length i a b c d g k l = _
      rw [impl_FontOk.L0_eq, if_pos (by omega), if_pos (by omega), if_pos (by omega)]
      obtain ⟨r, e, hr⟩ := in_impl (rd_T79 g i).f1
      rw [e, Option.bind_some]
      cases r with
      | true => exact .inl ⟨hr.1 rfl, by rw [if_pos rfl, w64 (by omega) (by omega)]; rfl⟩
      | false => exact .inr ⟨fun x => (by have := hr.2 x; cases this), by rw [if_neg (by simp)]⟩
    · rw [impl_FontOk.L0_eq, if_neg (by omega)]
      exact h1
  have hJ : ∀ f : Bool, (f = false ↔ (InP a 1 10000 ∧ InP b 0 10000 ∧ InP c 0 10000 ∧ InP d 0 10000)) → Tells (impl_FontOk.J0 f a b c d g k l) (FontP a b c d g k l) := by
    intro f hf
    rw [impl_FontOk.J0_eq]
    refine Tells.flag (fun e => Tells.no (fun x => ?_)) (fun e => ?_)
    · have := hf.2 x.1
      rw [e] at this
      cases this
    · have hI := hf.1 e
      exact h0.congr ⟨fun x => ⟨hI, ⟨x.2.2.1.2, x.2.2.2.1.2, x.2.2.2.2.2⟩, x.1, x.2.2.1.1, x.2.1, x.2.2.2.1.1, x.2.2.2.2.1⟩,
        fun x => ⟨x.2.2.1, x.2.2.2.2.1, ⟨x.2.2.2.1, x.2.1.1⟩, ⟨x.2.2.2.2.2.1, x.2.1.2.1⟩, x.2.2.2.2.2.2, x.2.1.2.2⟩⟩
  rw [impl_FontOk.F_eq]
  refine Tells.ite (fun e => hJ true ?_) (fun e => Tells.ite (fun e2 => hJ true ?_) (fun e2 => ?_))
  · simp [InP]; omega
  · simp [InP]; omega
  · have hA : InP a 1 10000 := ⟨by omega, by omega⟩
    refine Tells.bind (in_impl b) (fun p => ?_) (fun p => ?_)
    · rw [if_pos rfl]
      refine Tells.bind (in_impl c) (fun p2 => ?_) (fun p2 => ?_)
      · rw [if_pos rfl]
        exact Tells.bind (in_impl d) (fun p3 => hJ _ (by simp [hA, p, p2, p3])) (fun p3 => hJ _ (by simp [p3]))
      · rw [if_neg (by simp)]
        exact hJ true (by simp [p2])
    · rw [if_neg (by simp)]
      exact hJ true (by simp [p])
theorem font_spec (a b c d : Int) (g : List S79) (k : List S81) (l : List S84) (hg : g.length ≤ 1048576) (hk : k.length ≤ 1048576) (hl : l.length ≤ 1048576) : Tells (spec_FontOk.F a b c d g k l) (FontP a b c d g k l) := by
  have h2 : Tells (spec_FontOk.L2 1 a b c d g k l) (LigsP l) := by
    by_cases h0 : l.length = 0
    · rw [spec_FontOk.L2_eq, if_neg (by omega)]
      exact Tells.yes (fun n h1 h2 => by omega)
    · refine (scan_tells (fun i => spec_FontOk.L2 i a b c d g k l) l.length 1 (fun n => LessP (rd_T84 l ((n : Int) - 1)).f0 (rd_T84 l ((n : Int) - 1)).f1 (rd_T84 l n).f0 (rd_T84 l n).f1) (q := True) (fun i h1 h2 => ?_) (?_ : Tells (spec_FontOk.L2 l.length a b c d g k l) _) (l.length - 1) 1 (Nat.le_refl _) (by omega)).congr
        ⟨fun x => x.1, fun x => ⟨x, trivial⟩⟩
      · show _ ∧ spec_FontOk.L2 i a b c d g k l = _ ∨ _ ∧ spec_FontOk.L2 i a b c d g k l = _
        rw [spec_FontOk.L2_eq, if_pos (by omega), w64 (x := (i : Int) - 1) (by omega) (by omega), if_pos (by omega), if_pos (by omega), if_pos (by omega)]
        obtain ⟨r, e, hr⟩ := less_spec (rd_T84 l ((i : Int) - 1)).f0 (rd_T84 l ((i : Int) - 1)).f1 (rd_T84 l i).f0 (rd_T84 l i).f1
        rw [e, Option.bind_some]
        cases r with
        | true => exact .inl ⟨hr.1 rfl, by rw [if_pos rfl, w64 (by omega) (by omega)]; rfl⟩
        | false => exact .inr ⟨fun x => (by have := hr.2 x; cases this), by rw [if_neg (by simp)]⟩
      · rw [spec_FontOk.L2_eq, if_neg (by omega)]
        exact Tells.yes trivial
  have h1 : Tells (spec_FontOk.L1 0 a b c d g k l) ((BysP k ∧ KernsP k) ∧ LigsP l) := by
    refine (scan_tells (fun i => spec_FontOk.L1 i a b c d g k l) k.length 0 (fun n => InP (rd_T81 k n).f2 (-10000) 10000 ∧ (1 ≤ n → LessP (rd_T81 k ((n : Int) - 1)).f0 (rd_T81 k ((n : Int) - 1)).f1 (rd_T81 k n).f0 (rd_T81 k n).f1)) (fun i h1 h2 => ?_) (?_ : Tells (spec_FontOk.L1 k.length a b c d g k l) _) k.length 0 (Nat.le_refl _) (by omega)).congr
      ⟨fun x => ⟨⟨fun n h => (x.1 n (Nat.zero_le _) h).1, fun n h h' => (x.1 n (Nat.zero_le _) h').2 h⟩, x.2⟩, fun x => ⟨fun n _ h => ⟨x.1.1 n h, fun h' => x.1.2 n h' h⟩, x.2⟩⟩
    · show _ ∧ spec_FontOk.L1 i a b c d g k l = _ ∨ _ ∧ spec_FontOk.L1 i a b c d g k l = _
      rw [spec_FontOk.L1_eq, if_pos (by omega), if_pos (by omega)]
      obtain ⟨r, e, hr⟩ := in_spec (rd_T81 k i).f2 (-10000) 10000
      rw [e, Option.bind_some]
      cases r with
      | false => exact .inr ⟨fun x => (by have := hr.2 x.1; cases this), by rw [if_neg (by simp)]⟩
      | true =>
        rw [if_pos rfl]
        by_cases c0 : i = 0
        · exact .inl ⟨⟨hr.1 rfl, fun x => by omega⟩, by rw [if_neg (by omega), w64 (by omega) (by omega)]; rfl⟩
        · rw [if_pos (by omega), w64 (x := (i : Int) - 1) (by omega) (by omega), if_pos (by omega), if_pos (by omega)]
          obtain ⟨r2, e2, hr2⟩ := less_spec (rd_T81 k ((i : Int) - 1)).f0 (rd_T81 k ((i : Int) - 1)).f1 (rd_T81 k i).f0 (rd_T81 k i).f1
          rw [e2, Option.bind_some]
          cases r2 with
          | true => exact .inl ⟨⟨hr.1 rfl, fun _ => hr2.1 rfl⟩, by rw [if_pos rfl, w64 (by omega) (by omega)]; rfl⟩
          | false => exact .inr ⟨fun x => (by have := hr2.2 (x.2 (by omega)); cases this), by rw [if_neg (by simp)]⟩
    · rw [spec_FontOk.L1_eq, if_neg (by omega)]
      exact h2
  have h0 : Tells (spec_FontOk.L0 0 a b c d g k l) ((AdvancesP g ∧ GlyphsP g) ∧ (BysP k ∧ KernsP k) ∧ LigsP l) := by
    refine (scan_tells (fun i => spec_FontOk.L0 i a b c d g k l) g.length 0 (fun n => InP (rd_T79 g n).f1 0 10000 ∧ (1 ≤ n → (rd_T79 g ((n : Int) - 1)).f0 < (rd_T79 g n).f0)) (fun i h1 h2 => ?_) (?_ : Tells (spec_FontOk.L0 g.length a b c d g k l) _) g.length 0 (Nat.le_refl _) (by omega)).congr
      ⟨fun x => ⟨⟨fun n h => (x.1 n (Nat.zero_le _) h).1, fun n h h' => (x.1 n (Nat.zero_le _) h').2 h⟩, x.2⟩, fun x => ⟨fun n _ h => ⟨x.1.1 n h, fun h' => x.1.2 n h' h⟩, x.2⟩⟩
    · show _ ∧ spec_FontOk.L0 i a b c d g k l = _ ∨ _ ∧ spec_FontOk.L0 i a b c d g k l = _
      rw [spec_FontOk.L0_eq, if_pos (by omega), if_pos (by omega)]
      obtain ⟨r, e, hr⟩ := in_spec (rd_T79 g i).f1 0 10000
      rw [e, Option.bind_some]
      cases r with
      | false => exact .inr ⟨fun x => (by have := hr.2 x.1; cases this), by rw [if_neg (by simp)]⟩
      | true =>
        rw [if_pos rfl]
        by_cases c0 : i = 0
        · exact .inl ⟨⟨hr.1 rfl, fun x => by omega⟩, by rw [if_neg (by omega), w64 (by omega) (by omega)]; rfl⟩
        · rw [if_pos (by omega), w64 (x := (i : Int) - 1) (by omega) (by omega), if_pos (by omega), if_pos (by omega)]
          by_cases c1 : (rd_T79 g ((i : Int) - 1)).f0 ≥ (rd_T79 g i).f0
          · exact .inr ⟨fun x => by have := x.2 (by omega); omega, by rw [if_pos c1]⟩
          · exact .inl ⟨⟨hr.1 rfl, fun _ => by omega⟩, by rw [if_neg c1, w64 (by omega) (by omega)]; rfl⟩
    · rw [spec_FontOk.L0_eq, if_neg (by omega)]
      exact h1
  have hK : ∀ f : Bool, (f = false ↔ (g.length ≤ 1000 ∧ k.length ≤ 1000 ∧ l.length ≤ 1000)) → (InP a 1 10000 ∧ InP b 0 10000 ∧ InP c 0 10000 ∧ InP d 0 10000) → Tells (spec_FontOk.J1 f a b c d g k l) (FontP a b c d g k l) := by
    intro f hf hI
    rw [spec_FontOk.J1_eq]
    refine Tells.flag (fun e => Tells.no (fun x => ?_)) (fun e => ?_)
    · have := hf.2 x.2.1
      rw [e] at this
      cases this
    · have hL := hf.1 e
      exact h0.congr ⟨fun x => ⟨hI, hL, x.1.1, x.1.2, x.2.1.1, x.2.1.2, x.2.2⟩, fun x => ⟨⟨x.2.2.1, x.2.2.2.1⟩, ⟨x.2.2.2.2.1, x.2.2.2.2.2.1⟩, x.2.2.2.2.2.2⟩⟩
  have hJ : ∀ f : Bool, (f = false ↔ (InP a 1 10000 ∧ InP b 0 10000 ∧ InP c 0 10000 ∧ InP d 0 10000)) → Tells (spec_FontOk.J0 f a b c d g k l) (FontP a b c d g k l) := by
    intro f hf
    rw [spec_FontOk.J0_eq]
    refine Tells.flag (fun e => Tells.no (fun x => ?_)) (fun e => ?_)
    · have := hf.2 x.1
      rw [e] at this
      cases this
    · have hI := hf.1 e
      refine Tells.ite (fun e1 => hK true ?_ hI) (fun e1 => Tells.ite (fun e2 => hK true ?_ hI) (fun e2 => hK _ ?_ hI))
      · simp; omega
      · simp; omega
      · rw [decide_eq_false_iff_not]; omega
  rw [spec_FontOk.F_eq]
  refine Tells.bind (in_spec a 1 10000) (fun p0 => ?_) (fun p0 => ?_)
  · rw [if_pos rfl]
    refine Tells.bind (in_spec b 0 10000) (fun p => ?_) (fun p => ?_)
    · rw [if_pos rfl]
      refine Tells.bind (in_spec c 0 10000) (fun p2 => ?_) (fun p2 => ?_)
      · rw [if_pos rfl]
        exact Tells.bind (in_spec d 0 10000) (fun p3 => hJ _ (by simp [p0, p, p2, p3])) (fun p3 => hJ _ (by simp [p3]))
      · rw [if_neg (by simp)]
        exact hJ true (by simp [p2])
    · rw [if_neg (by simp)]
      exact hJ true (by simp [p])
  · rw [if_neg (by simp)]
    exact hJ true (by simp [p0])
end Go.Proofs.Ytiinihponcojkaa.QFnExactAdvance
