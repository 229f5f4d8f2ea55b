/- What 'spec_Stronger' and 'impl_Stronger' tell of two claims, and that it is an order. -/
import Derived.Test.YtnobgcnldnlbiaaFFnExactStronger
import Derived.Test.YtnobgcnldnlbiaaLoops
namespace Go.Proofs.Ytnobgcnldnlbiaa.PFnExactStronger
open Go.RowKit Go.Proofs.YtnobgcnldnlbiaaW.PrintWords Go.Proofs.YtnobgcnldnlbiaaW.PrintLast Go.Proofs.YtnobgcnldnlbiaaW.PrintMore Go.Proofs.Ytnobgcnldnlbiaa.Val
set_option linter.unusedVariables false
set_option linter.unusedSimpArgs false

def strB (a0 : Int) (a1 a2 : Bool) (a3 a4 a5 : Int) (b0 : Int) (b1 b2 : Bool) (b3 b4 b5 : Int) : Bool :=
  if a1 = b1 then
    (if a0 = b0 then (if a2 = b2 then (if a3 = b3 then (if a4 = b4 then decide (a5 > b5) else decide (a4 > b4)) else (decide (a3 > b3)) != a1) else a2) else (decide (a0 > b0)) != a1)
  else a1

theorem spec_str (a0 : Int) (a1 a2 : Bool) (a3 a4 a5 : Int) (b0 : Int) (b1 b2 : Bool) (b3 b4 b5 : Int) :
    spec_Stronger.f a0 a1 a2 a3 a4 a5 b0 b1 b2 b3 b4 b5 = some (strB a0 a1 a2 a3 a4 a5 b0 b1 b2 b3 b4 b5) := by
  unfold spec_Stronger.f strB
  by_cases h1 : a1 = b1
  · subst h1
    simp only [bne_self_eq_false, Bool.false_eq_true, if_false, if_true]
    by_cases h0 : a0 = b0
    · rw [if_pos h0, if_pos h0]
      by_cases h2 : a2 = b2
      · subst h2
        simp only [bne_self_eq_false, Bool.false_eq_true, if_false, if_true]
        by_cases h3 : a3 = b3
        · rw [if_pos h3, if_pos h3]
          by_cases h4 : a4 = b4
          · rw [if_pos h4, if_pos h4]
          · rw [if_neg h4, if_neg h4]
        · rw [if_neg h3, if_neg h3]
      · rw [if_pos (bne_iff_ne.mpr h2), if_neg h2]
    · rw [if_neg h0, if_neg h0]
  · rw [if_pos (bne_iff_ne.mpr h1), if_neg h1]

theorem cmp_f (a b : Int) : cmp_Compare_int.f a b = some (if a < b then -1 else if a > b then 1 else 0) := by
  unfold cmp_Compare_int.f cmp_isNaN_int.f
  simp only [bne_self_eq_false, Option.bind_some, Bool.false_eq_true, if_false]
  by_cases h : a < b
  · rw [if_pos h, if_pos h]
  · rw [if_neg h, if_neg h]
    by_cases h' : a > b
    · rw [if_pos h', if_pos h']
    · rw [if_neg h', if_neg h']

def cmpI (a b : Int) : Int := if a < b then -1 else if a > b then 1 else 0
theorem cmp_F (a b : Int) : cmp_Compare_int.f a b = some (cmpI a b) := cmp_f a b
theorem cmpI_zero (a b : Int) : cmpI a b = 0 ↔ a = b := by unfold cmpI; repeat (first | omega | split)
theorem cmpI_pos (a b : Int) : cmpI a b > 0 ↔ a > b := by unfold cmpI; repeat (first | omega | split)
theorem cmpI_one (a b : Int) : wrap64 (cmpI a b * 1) > 0 ↔ a > b := by unfold cmpI wrap64; repeat (first | omega | split)
theorem cmpI_neg (a b : Int) : wrap64 (cmpI a b * (-1)) > 0 ↔ a < b := by unfold cmpI wrap64; repeat (first | omega | split)

theorem impl_str (a0 : Int) (a1 a2 : Bool) (a3 a4 a5 : Int) (b0 : Int) (b1 b2 : Bool) (b3 b4 b5 : Int) :
    impl_Stronger.F a0 a1 a2 a3 a4 a5 b0 b1 b2 b3 b4 b5 = some (strB a0 a1 a2 a3 a4 a5 b0 b1 b2 b3 b4 b5) := by
  rw [impl_Stronger.F_eq, impl_strength.F_eq]
  simp only [impl_strength.J0_eq, cmp_F, impl_rankOf.f, Option.bind_some]
  unfold strB
  by_cases h1 : a1 = b1
  · subst h1
    simp only [bne_self_eq_false, Bool.false_eq_true, if_false, if_true]
    cases a1
    · simp only [Bool.false_eq_true, if_false]
      by_cases h0 : a0 = b0
      · rw [if_pos ((cmpI_zero _ _).mpr h0), if_pos h0]
        by_cases h2 : a2 = b2
        · subst h2
          simp only [bne_self_eq_false, Bool.false_eq_true, if_false, if_true]
          by_cases h3 : a3 = b3
          · rw [if_pos ((cmpI_zero _ _).mpr h3), if_pos h3]
            by_cases h4 : a4 = b4
            · rw [if_pos ((cmpI_zero _ _).mpr h4), if_pos h4]
              simp only [Option.bind_some, cmpI_pos]
            · rw [if_neg (mt (cmpI_zero _ _).mp h4), if_neg h4]
              simp only [Option.bind_some, cmpI_pos]
          · rw [if_neg (mt (cmpI_zero _ _).mp h3), if_neg h3]
            simp only [Option.bind_some, cmpI_one, Bool.bne_false]
        · rw [if_pos (bne_iff_ne.mpr h2), if_neg h2]
          cases a2 <;> simp
      · rw [if_neg (mt (cmpI_zero _ _).mp h0), if_neg h0]
        simp only [Option.bind_some, cmpI_one, Bool.bne_false]
    · simp only [if_true]
      by_cases h0 : a0 = b0
      · rw [if_pos ((cmpI_zero _ _).mpr h0), if_pos h0]
        by_cases h2 : a2 = b2
        · subst h2
          simp only [bne_self_eq_false, Bool.false_eq_true, if_false, if_true]
          by_cases h3 : a3 = b3
          · rw [if_pos ((cmpI_zero _ _).mpr h3), if_pos h3]
            by_cases h4 : a4 = b4
            · rw [if_pos ((cmpI_zero _ _).mpr h4), if_pos h4]
              simp only [Option.bind_some, cmpI_pos]
            · rw [if_neg (mt (cmpI_zero _ _).mp h4), if_neg h4]
              simp only [Option.bind_some, cmpI_pos]
          · rw [if_neg (mt (cmpI_zero _ _).mp h3), if_neg h3]
            simp only [Option.bind_some, cmpI_neg, Bool.bne_true]
            congr 1
            rw [Bool.eq_iff_iff]
            simp
            omega
        · rw [if_pos (bne_iff_ne.mpr h2), if_neg h2]
          cases a2 <;> simp
      · rw [if_neg (mt (cmpI_zero _ _).mp h0), if_neg h0]
        simp only [Option.bind_some, cmpI_neg, Bool.bne_true]
        congr 1
        rw [Bool.eq_iff_iff]
        simp
        omega
  · rw [if_pos (bne_iff_ne.mpr h1), if_neg h1]
    cases a1 <;> cases b1 <;> first | exact absurd rfl h1 | rfl

theorem str_irrefl (a0 : Int) (a1 a2 : Bool) (a3 a4 a5 : Int) : strB a0 a1 a2 a3 a4 a5 a0 a1 a2 a3 a4 a5 = false := by
  unfold strB
  simp

theorem str_total (a0 : Int) (a1 a2 : Bool) (a3 a4 a5 : Int) (b0 : Int) (b1 b2 : Bool) (b3 b4 b5 : Int) (h : a5 ≠ b5) :
    strB a0 a1 a2 a3 a4 a5 b0 b1 b2 b3 b4 b5 = true ∨ strB b0 b1 b2 b3 b4 b5 a0 a1 a2 a3 a4 a5 = true := by
  unfold strB
  by_cases e0 : a0 = b0
  · subst e0
    by_cases e3 : a3 = b3
    · subst e3
      by_cases e4 : a4 = b4
      · subst e4
        cases a1 <;> cases b1 <;> cases a2 <;> cases b2 <;> simp <;> omega
      · have e4' : ¬ b4 = a4 := fun h => e4 h.symm
        cases a1 <;> cases b1 <;> cases a2 <;> cases b2 <;> simp [e4, e4'] <;> omega
    · have e3' : ¬ b3 = a3 := fun h => e3 h.symm
      cases a1 <;> cases b1 <;> cases a2 <;> cases b2 <;> simp [e3, e3'] <;> omega
  · have e0' : ¬ b0 = a0 := fun h => e0 h.symm
    cases a1 <;> cases b1 <;> simp [e0, e0'] <;> omega

/-- A claim's rank: the order is the lists'. -/
theorem str_iff (a0 : Int) (a1 a2 : Bool) (a3 a4 a5 : Int) (b0 : Int) (b1 b2 : Bool) (b3 b4 b5 : Int) :
    strB a0 a1 a2 a3 a4 a5 b0 b1 b2 b3 b4 b5 = true ↔
      (a1 = true ∧ b1 = false) ∨ (a1 = b1 ∧ ((if a1 then a0 < b0 else a0 > b0) ∨ (a0 = b0 ∧ ((a2 = true ∧ b2 = false) ∨ (a2 = b2 ∧ ((if a1 then a3 < b3 else a3 > b3) ∨ (a3 = b3 ∧ (a4 > b4 ∨ (a4 = b4 ∧ a5 > b5))))))))) := by
  unfold strB
  by_cases e0 : a0 = b0
  · subst e0
    by_cases e3 : a3 = b3
    · subst e3
      by_cases e4 : a4 = b4
      · subst e4
        cases a1 <;> cases b1 <;> cases a2 <;> cases b2 <;> simp
      · cases a1 <;> cases b1 <;> cases a2 <;> cases b2 <;> simp [e4]
    · cases a1 <;> cases b1 <;> cases a2 <;> cases b2 <;> simp [e3] <;> omega
  · cases a1 <;> cases b1 <;> simp [e0] <;> omega

theorem str_asymm (a0 : Int) (a1 a2 : Bool) (a3 a4 a5 : Int) (b0 : Int) (b1 b2 : Bool) (b3 b4 b5 : Int)
    (h : strB a0 a1 a2 a3 a4 a5 b0 b1 b2 b3 b4 b5 = true) (h' : strB b0 b1 b2 b3 b4 b5 a0 a1 a2 a3 a4 a5 = true) : False := by
  rw [str_iff] at h h'
  cases a1 <;> cases b1 <;> cases a2 <;> cases b2 <;> simp at h h' <;> omega

theorem str_trans (a0 : Int) (a1 a2 : Bool) (a3 a4 a5 : Int) (b0 : Int) (b1 b2 : Bool) (b3 b4 b5 : Int) (c0 : Int) (c1 c2 : Bool) (c3 c4 c5 : Int)
    (h : strB a0 a1 a2 a3 a4 a5 b0 b1 b2 b3 b4 b5 = true) (h' : strB b0 b1 b2 b3 b4 b5 c0 c1 c2 c3 c4 c5 = true) : strB a0 a1 a2 a3 a4 a5 c0 c1 c2 c3 c4 c5 = true := by
  rw [str_iff] at h h' ⊢
  cases a1 <;> cases b1 <;> cases c1 <;> simp at h h' ⊢ <;> cases a2 <;> cases b2 <;> cases c2 <;> simp at h h' ⊢ <;> omega

end Go.Proofs.Ytnobgcnldnlbiaa.PFnExactStronger
