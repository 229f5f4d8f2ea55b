/- FnExactSpecificity, the plain side. -/
import Derived.Test.YtjghahkecglgdaaSelOkC
import Derived.Test.YtjghahkecglgdaaConvFnExactSpecificity
namespace Go.Proofs.Ytjghahkecglgdaa.QFnExactSpecificity
open Go Go.RowKit Go.Proofs.YtjghahkecglgdaaV.PrintWords Go.Proofs.YtjghahkecglgdaaV.PrintLast Go.Proofs.YtjghahkecglgdaaV.PrintMore Go.Proofs.Ytjghahkecglgdaa.Val
set_option linter.unusedVariables false
set_option linter.unusedSimpArgs false

def wt (k : Int) : Int := if k = 3 then 1000000 else (if k = 2 then 1 else (if k ≥ 4 then (if k ≤ 15 then 1000 else 0) else 0))
theorem spec_wt (k : Int) (n v : ByteArray) (a b : Int) : spec_l8Weight.f k n v a b = some (wt k) := by
  unfold spec_l8Weight.f wt
  repeat' split
  all_goals rfl
theorem impl_wt (k : Int) (n v : ByteArray) (a b : Int) : impl_weightOf.f k n v a b = some (wt k) := by
  unfold impl_weightOf.f wt
  repeat' split
  all_goals rfl
theorem wwrap (y : Int) : wrap64 (wrap64 y) = wrap64 y := by unfold wrap64; omega

def ownN (B : List S106) : Nat → Int → Int → Int
  | 0, _, x => x
  | d + 1, i, x => ownN B d (i + 1) (wrap64 (x + wt (rd_T106 B i).f0))
def altN (A : List S112) : Nat → Int → Int → Int
  | 0, _, x => x
  | d + 1, i, x => altN A d (i + 1) (mx x (ownN (rd_T112 A i).f0 (rd_T112 A i).f0.length 0 0))

theorem spec_L3 (x3 x4 : Int) (x5 : List S109) (x6 x7 x8 : Int) (C : List S103) (h6 : 0 ≤ x6) (g6 : x6 < x5.length) (h8 : 0 ≤ x8) (g8 : x8 < ((rd_T109 x5 x6).f1).length)
    (hl : ((rd_T112 ((rd_T109 x5 x6).f1) x8).f0).length ≤ 1048576) (d : Nat) : ∀ i x9 : Int, 0 ≤ i → i + d = ((rd_T112 ((rd_T109 x5 x6).f1) x8).f0).length →
    spec_Specificity.L3 x3 x4 x5 x6 x7 x8 x9 i C = spec_Specificity.L2 x3 x4 x5 x6 (mx x7 (ownN (rd_T112 ((rd_T109 x5 x6).f1) x8).f0 d i x9)) (wrap64 (x8 + 1)) C := by
  induction d with
  | zero =>
    intro i x9 hi hd
    rw [spec_Specificity.L3_eq, if_pos h6, if_pos g6, if_pos h8, if_pos g8, if_neg (by omega)]
    unfold ownN mx
    by_cases c : x7 < x9
    · simp only [gt_iff_lt, if_pos c]
    · simp only [gt_iff_lt, if_neg c]
  | succ d ih =>
    intro i x9 hi hd
    rw [spec_Specificity.L3_eq, if_pos h6, if_pos g6, if_pos h8, if_pos g8, if_pos (by omega), if_pos hi, spec_wt, Option.bind_some, w64 (by omega : -9223372036854775808 ≤ i + 1) (by omega)]
    exact ih (i + 1) _ (by omega) (by omega)

theorem spec_L2 (x3 x4 : Int) (x5 : List S109) (x6 : Int) (C : List S103) (h6 : 0 ≤ x6) (g6 : x6 < x5.length) (hA : ((rd_T109 x5 x6).f1).length ≤ 1048576)
    (hB : ∀ a ∈ (rd_T109 x5 x6).f1, a.f0.length ≤ 1048576) (d : Nat) : ∀ i x7 : Int, 0 ≤ i → i + d = ((rd_T109 x5 x6).f1).length →
    spec_Specificity.L2 x3 x4 x5 x6 x7 i C = spec_Specificity.L1 (wrap64 (x3 + altN (rd_T109 x5 x6).f1 d i x7)) x4 x5 (wrap64 (x6 + 1)) C := by
  induction d with
  | zero =>
    intro i x7 hi hd
    rw [spec_Specificity.L2_eq, if_pos h6, if_pos g6, if_neg (by omega)]
    rfl
  | succ d ih =>
    intro i x7 hi hd
    have hlt : i < (((rd_T109 x5 x6).f1).length : Int) := by omega
    have m : rd_T112 (rd_T109 x5 x6).f1 i ∈ (rd_T109 x5 x6).f1 := getD_mem hi hlt
    rw [spec_Specificity.L2_eq, if_pos h6, if_pos g6, if_pos hlt, spec_L3 x3 x4 x5 x6 x7 i C h6 g6 hi hlt (hB _ m) ((rd_T112 (rd_T109 x5 x6).f1 i).f0).length 0 0 (by omega) (by omega),
      w64 (by omega : -9223372036854775808 ≤ i + 1) (by omega)]
    exact ih (i + 1) _ (by omega) (by omega)

theorem impl_L3 (x3 x8 : Int) (x18 : List S103) (x19 x20 : Int) (x25 : List S109) (x26 x27 : Int) (x37 : List S112) (x38 x39 : Int) (B : List S106) (hl : B.length ≤ 1048576)
    (k : Int) (n v : ByteArray) (a b : Int) (A0 : List S112) (d : Nat) : ∀ i x11 : Int, 0 ≤ i → i + d = B.length →
    impl_Specificity.L3 x3 x8 x11 x18 x19 x20 x25 x26 x27 x37 x38 x39 B B.length i k n v a b A0 = impl_Specificity.L2 x3 (mx x8 (ownN B d i x11)) x18 x19 x20 x25 x26 x27 x37 x38 (wrap64 (x39 + 1)) k n v a b A0 := by
  induction d with
  | zero =>
    intro i x11 hi hd
    rw [impl_Specificity.L3_eq, if_neg (by omega)]
    rfl
  | succ d ih =>
    intro i x11 hi hd
    have hlt : i < (B.length : Int) := by omega
    rw [impl_Specificity.L3_eq, if_pos hlt, if_pos hi, if_pos hlt, impl_wt, Option.bind_some, w64 (by omega : -9223372036854775808 ≤ i + 1) (by omega)]
    exact ih (i + 1) _ (by omega) (by omega)

theorem impl_L2 (x3 : Int) (x18 : List S103) (x19 x20 : Int) (x25 : List S109) (x26 x27 : Int) (A : List S112) (hA : A.length ≤ 1048576) (hB : ∀ a ∈ A, a.f0.length ≤ 1048576)
    (k : Int) (n v : ByteArray) (a b : Int) (A0 : List S112) (d : Nat) : ∀ i x8 : Int, 0 ≤ i → i + d = A.length →
    impl_Specificity.L2 x3 x8 x18 x19 x20 x25 x26 x27 A A.length i k n v a b A0 = if k = 18 then impl_Specificity.L1 x3 x18 x19 x20 x25 x26 (wrap64 (x27 + 1)) else impl_Specificity.L1 (wrap64 (x3 + altN A d i x8)) x18 x19 x20 x25 x26 (wrap64 (x27 + 1)) := by
  induction d with
  | zero =>
    intro i x8 hi hd
    rw [impl_Specificity.L2_eq, if_neg (by omega)]
    rfl
  | succ d ih =>
    intro i x8 hi hd
    have hlt : i < (A.length : Int) := by omega
    have m : rd_T112 A i ∈ A := getD_mem hi hlt
    rw [impl_Specificity.L2_eq, if_pos hlt, if_pos hi, if_pos hlt, impl_L3 x3 x8 x18 x19 x20 x25 x26 x27 A A.length i (rd_T112 A i).f0 (hB _ m) k n v a b A0 ((rd_T112 A i).f0).length 0 0 (by omega) (by omega),
      w64 (by omega : -9223372036854775808 ≤ i + 1) (by omega)]
    exact ih (i + 1) _ (by omega) (by omega)

def okS (s : S109) : Prop := s.f1.length ≤ 1048576 ∧ (∀ a ∈ s.f1, a.f0.length ≤ 1048576) ∧ (s.f0.f0 < 16 → s.f1 = [])

theorem simples_both (C : List S103) (hC : C.length ≤ 1048576) (j : Int) (h0 : 0 ≤ j) (hj : j < C.length) (S : List S109) (hS : S.length ≤ 1048576) (hP : ∀ s ∈ S, okS s)
    (hout : ∀ x, ∃ r, spec_Specificity.L0 x (j + 1) C = some r ∧ impl_Specificity.L0 x C C.length (j + 1) = some r) (d : Nat) : ∀ i x : Int, 0 ≤ i → i + d = S.length →
    ∃ r, spec_Specificity.L1 x j S i C = some r ∧ impl_Specificity.L1 x C C.length j S S.length i = some r := by
  induction d with
  | zero =>
    intro i x hi hd
    rw [spec_Specificity.L1_eq, impl_Specificity.L1_eq, if_neg (by omega), if_neg (by omega), w64 (by omega : -9223372036854775808 ≤ j + 1) (by omega)]
    exact hout x
  | succ d ih =>
    intro i x hi hd
    have hlt : i < (S.length : Int) := by omega
    have m : rd_T109 S i ∈ S := getD_mem hi hlt
    obtain ⟨p1, p2, p3⟩ := hP _ m
    rw [spec_Specificity.L1_eq, impl_Specificity.L1_eq, if_pos hlt, if_pos hlt, if_pos hi, if_pos hi, if_pos hlt, spec_wt, impl_wt, Option.bind_some, Option.bind_some,
      impl_L2 _ C C.length j S S.length i (rd_T109 S i).f1 p1 p2 _ _ _ _ _ _ ((rd_T109 S i).f1).length 0 0 (by omega) (by omega), w64 (by omega : -9223372036854775808 ≤ i + 1) (by omega)]
    by_cases c : (rd_T109 S i).f0.f0 < 16
    · have e : altN (rd_T109 S i).f1 ((rd_T109 S i).f1).length 0 0 = 0 := by rw [p3 c]; rfl
      rw [if_pos c, spec_Specificity.J2_eq, if_pos rfl, if_neg (by omega), e, Int.add_zero, wwrap, w64 (by omega : -9223372036854775808 ≤ i + 1) (by omega)]
      exact ih (i + 1) _ (by omega) (by omega)
    · rw [if_neg c]
      by_cases c8 : (rd_T109 S i).f0.f0 = 18
      · rw [beq_iff_eq.mpr c8, spec_Specificity.J2_eq, if_pos rfl, if_pos c8, w64 (by omega : -9223372036854775808 ≤ i + 1) (by omega)]
        exact ih (i + 1) _ (by omega) (by omega)
      · rw [beq_eq_false_iff_ne.mpr c8, spec_Specificity.J2_eq, if_neg (by decide), if_neg c8, spec_L2 _ j S i C hi hlt p1 p2 ((rd_T109 S i).f1).length 0 0 (by omega) (by omega), w64 (by omega : -9223372036854775808 ≤ i + 1) (by omega)]
        exact ih (i + 1) _ (by omega) (by omega)

theorem comp_both (C : List S103) (hC : C.length ≤ 1048576) (hP : ∀ c ∈ C, c.f1.length ≤ 1048576 ∧ ∀ s ∈ c.f1, okS s) (d : Nat) : ∀ j x : Int, 0 ≤ j → j + d = C.length →
    ∃ r, spec_Specificity.L0 x j C = some r ∧ impl_Specificity.L0 x C C.length j = some r := by
  induction d with
  | zero =>
    intro j x hj hd
    rw [spec_Specificity.L0_eq, impl_Specificity.L0_eq, if_neg (by omega), if_neg (by omega)]
    exact ⟨x, rfl, rfl⟩
  | succ d ih =>
    intro j x hj hd
    have hlt : j < (C.length : Int) := by omega
    have m : rd_T103 C j ∈ C := getD_mem hj hlt
    rw [spec_Specificity.L0_eq, impl_Specificity.L0_eq, if_pos hlt, if_pos hlt, if_pos hj, if_pos hj, if_pos hlt]
    exact simples_both C hC j hj hlt (rd_T103 C j).f1 (hP _ m).1 (hP _ m).2 (fun x => ih (j + 1) x (by omega) (by omega)) ((rd_T103 C j).f1).length 0 x (by omega) (by omega)

theorem simple_true {k : Int} {n v : ByteArray} {a b : Int} {A : List S112} {first : Bool} (h : spec_l8SimpleOk.F k n v a b A first = some true) (hk : k < 16) : A = [] := by
  rw [spec_l8SimpleOk.F_eq, if_pos hk] at h
  by_cases c : (A.length : Int) = 0
  · exact List.eq_nil_of_length_eq_zero (by omega)
  · rw [if_neg c] at h; cases h

theorem l1_true (n j c : Int) (C : List S103) (B : List S109) (hB : B.length ≤ 1048576) (d : Nat) : ∀ i : Int, 0 ≤ i → i + d = B.length → spec_SelectorOk.L1 n j i C c B = some true →
    (∀ q : Int, i ≤ q → q < B.length → (rd_T109 B q).f0.f0 < 16 → (rd_T109 B q).f1 = []) ∧ spec_SelectorOk.L0 n (wrap64 (j + 1)) C = some true := by
  induction d with
  | zero =>
    intro i hi hd h
    rw [spec_SelectorOk.L1_eq, if_neg (by omega)] at h
    exact ⟨fun q a b => by omega, h⟩
  | succ d ih =>
    intro i hi hd h
    rw [spec_SelectorOk.L1_eq, if_pos (by omega), if_pos hi, w64 (by omega : -9223372036854775808 ≤ i + 1) (by omega)] at h
    cases e : spec_l8SimpleOk.F (rd_T109 B i).f0.f0 (rd_T109 B i).f0.f1 (rd_T109 B i).f0.f2 (rd_T109 B i).f0.f3 (rd_T109 B i).f0.f4 (rd_T109 B i).f1 (i == 0) with
    | none => rw [e] at h; cases h
    | some t =>
      rw [e, Option.bind_some] at h
      cases t
      · cases h
      · obtain ⟨g1, g2⟩ := ih (i + 1) (by omega) (by omega) h
        refine ⟨fun q a b => ?_, g2⟩
        by_cases cq : q = i
        · rw [cq]; exact simple_true e
        · exact g1 q (by omega) b

theorem l0_true (C : List S103) (hC : C.length ≤ 1048576) (hL : ∀ c ∈ C, c.f1.length ≤ 1048576) (d : Nat) : ∀ j : Int, 0 ≤ j → j + d = C.length → spec_SelectorOk.L0 C.length j C = some true →
    ∀ p : Int, j ≤ p → p < C.length → ∀ q : Int, 0 ≤ q → q < (rd_T103 C p).f1.length → (rd_T109 (rd_T103 C p).f1 q).f0.f0 < 16 → (rd_T109 (rd_T103 C p).f1 q).f1 = [] := by
  induction d with
  | zero => intro j hj hd h p a b; omega
  | succ d ih =>
    intro j hj hd h
    have hlt : j < (C.length : Int) := by omega
    have m : rd_T103 C j ∈ C := getD_mem hj hlt
    rw [spec_SelectorOk.L0_eq, if_pos hlt, if_pos hj, if_pos hlt] at h
    have t1 : ∀ x y, ¬ spec_SelectorOk.J2 C.length j true C x y = some true := by
      intro x y
      rw [spec_SelectorOk.J2_eq, if_pos rfl]
      intro h; cases h
    have key : spec_SelectorOk.L1 C.length j 0 C (rd_T103 C j).f0 (rd_T103 C j).f1 = some true := by
      split at h
      · exact absurd h (t1 _ _)
      · split at h
        · exact absurd h (t1 _ _)
        · split at h
          · exact absurd h (t1 _ _)
          · split at h
            · exact absurd h (t1 _ _)
            · by_cases c2 : (((rd_T103 C j).f1).length : Int) > 20
              · rw [decide_eq_true c2] at h; exact absurd h (t1 _ _)
              · rw [decide_eq_false c2, spec_SelectorOk.J2_eq, if_neg (by decide)] at h
                exact h
    obtain ⟨g1, g2⟩ := l1_true _ j _ C _ (hL _ m) ((rd_T103 C j).f1).length 0 (by omega) (by omega) key
    rw [w64 (by omega : -9223372036854775808 ≤ j + 1) (by omega)] at g2
    intro p a b
    by_cases cp : p = j
    · subst cp; intro q hq; exact g1 q hq
    · exact ih (j + 1) (by omega) (by omega) g2 p (by omega) b

theorem sel_true (C : List S103) (hC : C.length ≤ 1048576) (hL : ∀ c ∈ C, c.f1.length ≤ 1048576) (h : spec_SelectorOk.F C = some true) : ∀ c ∈ C, ∀ s ∈ c.f1, s.f0.f0 < 16 → s.f1 = [] := by
  have t1 : ¬ spec_SelectorOk.J0 C.length true C = some true := by
    rw [spec_SelectorOk.J0_eq, if_pos rfl]
    intro h; cases h
  have key : spec_SelectorOk.L0 C.length 0 C = some true := by
    rw [spec_SelectorOk.F_eq] at h
    split at h
    · exact absurd h t1
    · by_cases c2 : (C.length : Int) > 20
      · rw [decide_eq_true c2] at h; exact absurd h t1
      · rw [decide_eq_false c2, spec_SelectorOk.J0_eq, if_neg (by decide)] at h
        exact h
  have g := l0_true C hC hL C.length 0 (by omega) (by omega) key
  intro c hc s hs
  obtain ⟨p, hp, rfl⟩ := List.mem_iff_getElem.mp hc
  obtain ⟨q, hq, rfl⟩ := List.mem_iff_getElem.mp hs
  have ep : rd_T103 C (p : Int) = C[p] := by
    show C.getD (p : Int).toNat z103 = C[p]
    rw [Int.toNat_natCast, List.getD_eq_getElem?_getD, List.getElem?_eq_getElem hp, Option.getD_some]
  have eq : rd_T109 C[p].f1 (q : Int) = C[p].f1[q] := by
    show C[p].f1.getD (q : Int).toNat z109 = _
    rw [Int.toNat_natCast, List.getD_eq_getElem?_getD, List.getElem?_eq_getElem hq, Option.getD_some]
  have := g p (by omega) (by omega) q (by omega) (by rw [ep]; omega)
  rw [ep, eq] at this
  exact this

theorem FnExactSpecificity_pure (l : List S160) (h : l.length ≤ maxLen ∧ ∀ x ∈ l, wf_Compound x) : ∃ k, laws_FnExactSpecificity.f k l = some true := by
  apply val_rounds (g := fun k => laws_FnExactSpecificity.f k l)
  show laws_FnExactSpecificity.F l = some true
  rw [laws_FnExactSpecificity.F_eq]
  obtain ⟨r, e, _, hr⟩ := sz_Selector l h 1048576 (by omega) (by omega)
  rw [e, Option.bind_some]
  by_cases c : r < 0
  · rw [if_pos c]
  · rw [if_neg c]
    have hb := hr (by omega)
    have hl : bulk_CompoundS l ≤ 1048576 := by omega
    obtain ⟨q, h1, h2⟩ := selector_both (l.map of_Compound)
    have hC : (l.map of_Compound).length ≤ 1048576 := by rw [List.length_map]; exact (mem_Compound hl).1
    have hS : ∀ c ∈ l.map of_Compound, c.f1.length ≤ 1048576 ∧ ∀ s ∈ c.f1, s.f1.length ≤ 1048576 ∧ ∀ a ∈ s.f1, a.f0.length ≤ 1048576 := by
      intro c hc
      obtain ⟨c', hc', rfl⟩ := List.mem_map.mp hc
      have b1 : bulk_SimpleS c'.f1 ≤ 1048576 := (mem_Compound hl).2 c' hc'
      refine ⟨by show (c'.f1.map of_Simple).length ≤ _; rw [List.length_map]; exact (mem_Simple b1).1, ?_⟩
      intro s hs
      obtain ⟨s', hs', rfl⟩ := List.mem_map.mp (show s ∈ c'.f1.map of_Simple from hs)
      have b2 : bulk_Simple s' ≤ 1048576 := (mem_Simple b1).2 s' hs'
      have b3 : bulk_AltS s'.f1 ≤ 1048576 := by unfold bulk_Simple at b2; omega
      refine ⟨by show (s'.f1.map of_Alt).length ≤ _; rw [List.length_map]; exact (mem_Alt b3).1, ?_⟩
      intro a ha
      obtain ⟨a', ha', rfl⟩ := List.mem_map.mp (show a ∈ s'.f1.map of_Alt from ha)
      have b4 : bulk_BasicS a'.f0 ≤ 1048576 := (mem_Alt b3).2 a' ha'
      show (a'.f0.map of_Basic).length ≤ _
      rw [List.length_map]
      exact (mem_Basic b4).1
    have both : ∃ r, spec_Specificity.F (l.map of_Compound) = some r ∧ impl_Specificity.F (l.map of_Compound) = some r := by
      rw [spec_Specificity.F_eq, impl_Specificity.F_eq, h1, h2, Option.bind_some, Option.bind_some]
      cases q
      · exact ⟨0, rfl, rfl⟩
      · rw [if_pos rfl, if_pos rfl]
        have ht := sel_true _ hC (fun c hc => (hS c hc).1) h1
        exact comp_both _ hC (fun c hc => ⟨(hS c hc).1, fun s hs => ⟨((hS c hc).2 s hs).1, ((hS c hc).2 s hs).2, ht c hc s hs⟩⟩) (l.map of_Compound).length 0 0 (by omega) (by omega)
    obtain ⟨z, k1, k2⟩ := both
    simp only [to_Selector l hl, Option.bind_some, k1, k2, eq_Selector l hl, if_true]

end Go.Proofs.Ytjghahkecglgdaa.QFnExactSpecificity
