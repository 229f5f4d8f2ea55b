/- The two looks at a selector agree. -/
import Derived.Test.YtjghahkecglgdaaFFnExactSpecificity
import Derived.Test.YtjghahkecglgdaaLoops
namespace Go.Proofs.Ytjghahkecglgdaa.QFnExactSpecificity
open Go Go.RowKit Go.Proofs.YtjghahkecglgdaaV.PrintWords Go.Proofs.YtjghahkecglgdaaV.PrintLast Go.Proofs.YtjghahkecglgdaaV.PrintMore Go.Proofs.Ytjghahkecglgdaa.Val
set_option linter.unusedVariables false
set_option linter.unusedSimpArgs false

theorem mnx (a b : Int) : (mn a b ≥ -1000000 ↔ a ≥ -1000000 ∧ b ≥ -1000000) ∧ (mx a b ≤ 1000000 ↔ a ≤ 1000000 ∧ b ≤ 1000000) := by
  unfold mn mx
  constructor
  · split <;> omega
  · split <;> omega

theorem nth_impl (a b : Int) : (if mn a b ≥ -1000000 then some (decide (mx a b ≤ 1000000)) else some false) = some (decide (a ≥ -1000000 ∧ a ≤ 1000000 ∧ b ≥ -1000000 ∧ b ≤ 1000000)) := by
  obtain ⟨h1, h2⟩ := mnx a b
  by_cases c : mn a b ≥ -1000000
  · rw [if_pos c]
    have := h1.1 c
    congr 1
    rw [Bool.eq_iff_iff, decide_eq_true_iff, decide_eq_true_iff, h2]
    omega
  · rw [if_neg c]
    have := mt h1.2 c
    congr 1
    symm
    rw [decide_eq_false_iff_not]
    omega

theorem nth_spec (a b : Int) : (if a ≥ -1000000 then (if a ≤ 1000000 then (if b ≥ -1000000 then some (decide (b ≤ 1000000)) else some false) else some false) else some false) = some (decide (a ≥ -1000000 ∧ a ≤ 1000000 ∧ b ≥ -1000000 ∧ b ≤ 1000000)) := by
  by_cases h1 : a ≥ -1000000
  · by_cases h2 : a ≤ 1000000
    · by_cases h3 : b ≥ -1000000
      · simp [h1, h2, h3]
      · rw [if_pos h1, if_pos h2, if_neg h3]
        congr 1
        symm
        rw [decide_eq_false_iff_not]
        omega
    · rw [if_pos h1, if_neg h2]
      congr 1
      symm
      rw [decide_eq_false_iff_not]
      omega
  · rw [if_neg h1]
    congr 1
    symm
    rw [decide_eq_false_iff_not]
    omega

theorem basic_kind (k : Int) : k < 1 ∨ k = 1 ∨ k = 2 ∨ k = 3 ∨ k = 4 ∨ k = 5 ∨ k = 6 ∨ k = 7 ∨ k = 8 ∨ k = 9 ∨ k = 10 ∨ k = 11 ∨ k = 12 ∨ k = 13 ∨ k = 14 ∨ k = 15 ∨ 15 < k := by omega

set_option maxHeartbeats 4000000 in
theorem basic_both (k : Int) (n v : ByteArray) (a b : Int) (first : Bool) : ∃ r, spec_l8BasicOk.F k n v a b first = some r ∧ impl_basicOk.F k n v a b first true = some r := by
  simp only [spec_l8BasicOk.F_eq, spec_l8BasicOk.J0_eq, spec_l8BasicOk.J1_eq, spec_l8BasicOk.J2_eq, spec_l8BasicOk.J3_eq, impl_basicOk.F_eq, impl_basicOk.J0_eq, impl_basicOk.J1_eq, impl_basicOk.J2_eq, nth_impl, nth_spec]
  generalize decide (a ≥ -1000000 ∧ a ≤ 1000000 ∧ b ≥ -1000000 ∧ b ≤ 1000000) = nth
  rcases basic_kind k with h | h | h | h | h | h | h | h | h | h | h | h | h | h | h | h | h
  · have h1 : ¬ k = 1 := by omega
    have h2 : ¬ k = 2 := by omega
    have h3 : ¬ k = 3 := by omega
    have h4 : ¬ k = 4 := by omega
    have h5 : ¬ k = 5 := by omega
    have h6 : ¬ k = 6 := by omega
    have h7 : ¬ k = 7 := by omega
    have h8 : ¬ k = 8 := by omega
    have h9 : ¬ k = 9 := by omega
    have h10 : ¬ k = 10 := by omega
    have h11 : ¬ k = 11 := by omega
    have h12 : ¬ k = 12 := by omega
    have h13 : ¬ k = 13 := by omega
    have h14 : ¬ k = 14 := by omega
    have h15 : ¬ k = 15 := by omega
    have g2 : ¬ k ≥ 2 := by omega
    have g6 : ¬ k ≥ 6 := by omega
    simp [h, h1, h2, h3, h4, h5, h6, h7, h8, h9, h10, h11, h12, h13, h14, h15, g2, g6]
  all_goals try (subst h; by_cases hn : n.toList = [] <;> by_cases hv : v.toList = [] <;> by_cases ha : a = 0 <;> by_cases hb : b = 0 <;> cases first <;> simp [hn, hv, ha, hb])
  · have h1 : ¬ k = 1 := by omega
    have h2 : ¬ k = 2 := by omega
    have h3 : ¬ k = 3 := by omega
    have h4 : ¬ k = 4 := by omega
    have h5 : ¬ k = 5 := by omega
    have h6 : ¬ k = 6 := by omega
    have h7 : ¬ k = 7 := by omega
    have h8 : ¬ k = 8 := by omega
    have h9 : ¬ k = 9 := by omega
    have h10 : ¬ k = 10 := by omega
    have h11 : ¬ k = 11 := by omega
    have h12 : ¬ k = 12 := by omega
    have h13 : ¬ k = 13 := by omega
    have h14 : ¬ k = 14 := by omega
    have h15 : ¬ k = 15 := by omega
    have g1 : ¬ k < 1 := by omega
    have g2 : k ≥ 2 := by omega
    have g6 : k ≥ 6 := by omega
    have g10 : ¬ k ≤ 10 := by omega
    simp [h, h1, h2, h3, h4, h5, h6, h7, h8, h9, h10, h11, h12, h13, h14, h15, g1, g2, g6, g10]

section simples
variable (k : Int) (n v : ByteArray) (a b : Int) (A : List S112)

theorem alts_inner (hA : A.length ≤ 20) (j : Int) (h0 : 0 ≤ j) (hj : j < A.length) (hB : ((rd_T112 A j).f0).length ≤ 20)
    (hout : ∃ r, spec_l8SimpleOk.L0 (j + 1) k n v a b A = some r ∧ impl_simpleOk.L0 A A.length (j + 1) = some r) (d : Nat) : ∀ i : Int, 0 ≤ i → i + d = ((rd_T112 A j).f0).length →
    ∃ r, spec_l8SimpleOk.L1 j ((rd_T112 A j).f0).length i k n v a b A = some r ∧ impl_simpleOk.L1 A A.length j (rd_T112 A j).f0 ((rd_T112 A j).f0).length i = some r := by
  induction d with
  | zero =>
    intro i hi hd
    rw [spec_l8SimpleOk.L1_eq, impl_simpleOk.L1_eq, if_neg (by omega), if_neg (by omega), w64 (by omega : -9223372036854775808 ≤ j + 1) (by omega)]
    exact hout
  | succ d ih =>
    intro i hi hd
    have hlt : i < (((rd_T112 A j).f0).length : Int) := by omega
    rw [spec_l8SimpleOk.L1_eq, impl_simpleOk.L1_eq, if_pos hlt, if_pos hlt, if_pos h0, if_pos hj, if_pos hi, if_pos hlt, if_pos hi, if_pos hlt, w64 (by omega : -9223372036854775808 ≤ i + 1) (by omega)]
    obtain ⟨q, e1, e2⟩ := basic_both (rd_T106 (rd_T112 A j).f0 i).f0 (rd_T106 (rd_T112 A j).f0 i).f1 (rd_T106 (rd_T112 A j).f0 i).f2 (rd_T106 (rd_T112 A j).f0 i).f3 (rd_T106 (rd_T112 A j).f0 i).f4 (i == 0)
    rw [e1, e2, Option.bind_some, Option.bind_some]
    cases q
    · exact ⟨false, rfl, rfl⟩
    · exact ih (i + 1) (by omega) (by omega)

theorem alts_outer (hA : A.length ≤ 20) (d : Nat) : ∀ j : Int, 0 ≤ j → j + d = A.length →
    ∃ r, spec_l8SimpleOk.L0 j k n v a b A = some r ∧ impl_simpleOk.L0 A A.length j = some r := by
  induction d with
  | zero =>
    intro j hj hd
    rw [spec_l8SimpleOk.L0_eq, impl_simpleOk.L0_eq, if_neg (by omega), if_neg (by omega)]
    exact ⟨true, rfl, rfl⟩
  | succ d ih =>
    intro j hj hd
    have hlt : j < (A.length : Int) := by omega
    rw [spec_l8SimpleOk.L0_eq, impl_simpleOk.L0_eq, if_pos hlt, if_pos hlt, if_pos hj, if_pos hj, if_pos hlt]
    simp only [spec_l8SimpleOk.J2_eq, impl_simpleOk.J2_eq]
    by_cases c1 : (((rd_T112 A j).f0).length : Int) < 1
    · rw [if_pos c1, if_pos c1, if_pos trivial, if_pos trivial]
      exact ⟨false, rfl, rfl⟩
    · rw [if_neg c1, if_neg c1]
      by_cases c2 : (((rd_T112 A j).f0).length : Int) > 20
      · rw [if_pos (decide_eq_true c2), if_pos (decide_eq_true c2)]
        exact ⟨false, rfl, rfl⟩
      · have c2' : ¬ (decide ((((rd_T112 A j).f0).length : Int) > 20) = true) := by simpa using c2
        rw [if_neg c2', if_neg c2']
        exact alts_inner k n v a b A hA j hj hlt (by omega) (ih (j + 1) (by omega) (by omega)) ((rd_T112 A j).f0).length 0 (by omega) (by omega)

theorem simple_both (first : Bool) : ∃ r, spec_l8SimpleOk.F k n v a b A first = some r ∧ impl_simpleOk.F k n v a b A first = some r := by
  rw [spec_l8SimpleOk.F_eq, impl_simpleOk.F_eq]
  by_cases hk : k < 16
  · rw [if_pos hk, if_pos hk]
    by_cases hl : (A.length : Int) = 0
    · rw [if_pos hl, if_pos hl]
      obtain ⟨q, e1, e2⟩ := basic_both k n v a b first
      rw [e1, e2]
      exact ⟨q, rfl, rfl⟩
    · rw [if_neg hl, if_neg hl]
      exact ⟨false, rfl, rfl⟩
  · rw [if_neg hk, if_neg hk]
    have t1 : ∃ r, spec_l8SimpleOk.J0 true k n v a b A = some r ∧ impl_simpleOk.J0 true k n v a b A = some r := by
      rw [spec_l8SimpleOk.J0_eq, impl_simpleOk.J0_eq, if_pos rfl, if_pos rfl]
      exact ⟨false, rfl, rfl⟩
    have t2 : ∃ r, spec_l8SimpleOk.J0 (decide ((A.length : Int) > 20)) k n v a b A = some r ∧ impl_simpleOk.J0 (decide ((A.length : Int) > 20)) k n v a b A = some r := by
      by_cases c : (A.length : Int) > 20
      · rw [decide_eq_true c]
        exact t1
      · rw [decide_eq_false c, spec_l8SimpleOk.J0_eq, impl_simpleOk.J0_eq, if_neg (by decide), if_neg (by decide)]
        exact alts_outer k n v a b A (by omega) A.length 0 (by omega) (by omega)
    by_cases hk2 : k > 19
    · rw [if_pos hk2, if_pos hk2]
      exact t1
    · rw [if_neg hk2, if_neg hk2]
      by_cases hn : n.toList = []
      · rw [if_pos hn]
        by_cases hv : v.toList = []
        · rw [if_pos hv]
          by_cases ha : a = 0
          · rw [if_pos ha]
            by_cases hb : b = 0
            · rw [if_pos hb]
              have : ¬ ((!(n.toList == ([] : List UInt8)) || (!(v.toList == ([] : List UInt8)) || (!(a == 0) || (!(b == 0))))) = true) := by simp [hn, hv, ha, hb]
              rw [if_neg this]
              by_cases hl : (A.length : Int) < 1
              · rw [if_pos hl, if_pos hl]
                exact t1
              · rw [if_neg hl, if_neg hl]
                exact t2
            · have : (!(n.toList == ([] : List UInt8)) || (!(v.toList == ([] : List UInt8)) || (!(a == 0) || (!(b == 0))))) = true := by simp [hb]
              rw [if_neg hb, if_pos this]
              exact t1
          · have : (!(n.toList == ([] : List UInt8)) || (!(v.toList == ([] : List UInt8)) || (!(a == 0) || (!(b == 0))))) = true := by simp [ha]
            rw [if_neg ha, if_pos this]
            exact t1
        · have : (!(n.toList == ([] : List UInt8)) || (!(v.toList == ([] : List UInt8)) || (!(a == 0) || (!(b == 0))))) = true := by simp [hv]
          rw [if_neg hv, if_pos this]
          exact t1
      · have : (!(n.toList == ([] : List UInt8)) || (!(v.toList == ([] : List UInt8)) || (!(a == 0) || (!(b == 0))))) = true := by simp [hn]
        rw [if_neg hn, if_pos this]
        exact t1
end simples

section selectors
variable (C : List S103)

theorem simples_inner (hC : C.length ≤ 20) (j c : Int) (h0 : 0 ≤ j) (hj : j < C.length) (B : List S109) (hB : B.length ≤ 20)
    (hout : ∃ r, spec_SelectorOk.L0 C.length (j + 1) C = some r ∧ impl_SelectorOk.L0 C C.length (j + 1) = some r) (d : Nat) : ∀ i : Int, 0 ≤ i → i + d = B.length →
    ∃ r, spec_SelectorOk.L1 C.length j i C c B = some r ∧ impl_SelectorOk.L1 C C.length j B B.length i = some r := by
  induction d with
  | zero =>
    intro i hi hd
    rw [spec_SelectorOk.L1_eq, impl_SelectorOk.L1_eq, if_neg (by omega), if_neg (by omega), w64 (by omega : -9223372036854775808 ≤ j + 1) (by omega)]
    exact hout
  | succ d ih =>
    intro i hi hd
    have hlt : i < (B.length : Int) := by omega
    rw [spec_SelectorOk.L1_eq, impl_SelectorOk.L1_eq, if_pos hlt, if_pos hlt, if_pos hi, if_pos hi, if_pos hlt, w64 (by omega : -9223372036854775808 ≤ i + 1) (by omega)]
    obtain ⟨q, e1, e2⟩ := simple_both (rd_T109 B i).f0.f0 (rd_T109 B i).f0.f1 (rd_T109 B i).f0.f2 (rd_T109 B i).f0.f3 (rd_T109 B i).f0.f4 (rd_T109 B i).f1 (i == 0)
    rw [e1, e2, Option.bind_some, Option.bind_some]
    cases q
    · exact ⟨false, rfl, rfl⟩
    · exact ih (i + 1) (by omega) (by omega)

theorem compounds_outer (hC : C.length ≤ 20) (d : Nat) : ∀ j : Int, 0 ≤ j → j + d = C.length →
    ∃ r, spec_SelectorOk.L0 C.length j C = some r ∧ impl_SelectorOk.L0 C C.length j = some r := by
  induction d with
  | zero =>
    intro j hj hd
    rw [spec_SelectorOk.L0_eq, impl_SelectorOk.L0_eq, if_neg (by omega), if_neg (by omega)]
    exact ⟨true, rfl, rfl⟩
  | succ d ih =>
    intro j hj hd
    have hlt : j < (C.length : Int) := by omega
    rw [spec_SelectorOk.L0_eq, impl_SelectorOk.L0_eq, if_pos hlt, if_pos hlt, if_pos hj, if_pos hj, if_pos hlt, if_pos hlt]
    have t1 : ∃ r, spec_SelectorOk.J2 C.length j true C (rd_T103 C j).f0 (rd_T103 C j).f1 = some r ∧ impl_SelectorOk.J2 C C.length j true (rd_T103 C j).f0 (rd_T103 C j).f1 = some r := by
      rw [spec_SelectorOk.J2_eq, impl_SelectorOk.J2_eq, if_pos rfl, if_pos rfl]
      exact ⟨false, rfl, rfl⟩
    split
    · exact t1
    · split
      · exact t1
      · split
        · exact t1
        · split
          · exact t1
          · rename_i c
            by_cases c2 : (((rd_T103 C j).f1).length : Int) > 20
            · rw [decide_eq_true c2]
              exact t1
            · rw [decide_eq_false c2, spec_SelectorOk.J2_eq, impl_SelectorOk.J2_eq, if_neg (by decide), if_neg (by decide)]
              exact simples_inner C hC j _ hj hlt (rd_T103 C j).f1 (by omega) (ih (j + 1) (by omega) (by omega)) ((rd_T103 C j).f1).length 0 (by omega) (by omega)

theorem selector_both : ∃ r, spec_SelectorOk.F C = some r ∧ impl_SelectorOk.F C = some r := by
  rw [spec_SelectorOk.F_eq, impl_SelectorOk.F_eq]
  have t1 : ∃ r, spec_SelectorOk.J0 C.length true C = some r ∧ impl_SelectorOk.J0 true C = some r := by
    rw [spec_SelectorOk.J0_eq, impl_SelectorOk.J0_eq, if_pos rfl, if_pos rfl]
    exact ⟨false, rfl, rfl⟩
  by_cases c1 : (C.length : Int) < 1
  · rw [if_pos c1, if_pos c1]
    exact t1
  · rw [if_neg c1, if_neg c1]
    by_cases c2 : (C.length : Int) > 20
    · rw [decide_eq_true c2]
      exact t1
    · rw [decide_eq_false c2, spec_SelectorOk.J0_eq, impl_SelectorOk.J0_eq, if_neg (by decide), if_neg (by decide)]
      exact compounds_outer C (by omega) C.length 0 (by omega) (by omega)
end selectors

end Go.Proofs.Ytjghahkecglgdaa.QFnExactSpecificity
