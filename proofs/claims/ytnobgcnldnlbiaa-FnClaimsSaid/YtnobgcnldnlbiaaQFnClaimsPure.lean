/- FnClaims: the order of drawn claims is an order. -/
import Derived.Test.YtnobgcnldnlbiaaStrongClaims
namespace Go.Proofs.Ytnobgcnldnlbiaa.QFnClaims
open Go.RowKit Go.Proofs.Ytnobgcnldnlbiaa.QFnClaims Go.Proofs.YtnobgcnldnlbiaaW.PrintWords Go.Proofs.YtnobgcnldnlbiaaW.PrintLast Go.Proofs.Ytnobgcnldnlbiaa.Val
set_option linter.unusedVariables false
set_option linter.unusedSimpArgs false

theorem claims_new (l : List Int) : ∃ h : Int, spec_l1New.F l = some (l, 0, h) := by
  rw [spec_l1New.F_eq]
  generalize wrap64 (91231 + (l.length : Int)) = h0
  have : ∀ (d : Nat) (i h : Int), 0 ≤ i → i ≤ 4000 → 4000 - i = d → ∃ r : Int, spec_l1New.L0 l h i = some (l, 0, r) := by
    intro d
    induction d with
    | zero =>
      intro i h h0 h1 hd
      rw [spec_l1New.L0_eq]
      by_cases a : i < (l.length : Int)
      · rw [if_pos a, if_neg (by omega)]; exact ⟨_, rfl⟩
      · rw [if_neg a]; exact ⟨_, rfl⟩
    | succ d ih =>
      intro i h h0 h1 hd
      rw [spec_l1New.L0_eq]
      by_cases a : i < (l.length : Int)
      · rw [if_pos a, if_pos (by omega), if_pos h0, w64 (by omega : -9223372036854775808 ≤ i + 1) (by omega)]
        exact ih (i + 1) _ (by omega) (by omega) (by omega)
      · rw [if_neg a]; exact ⟨_, rfl⟩
  exact this 4000 0 h0 (by omega) (by omega) (by omega)

theorem claims_byte (l : List Int) (i h : Int) (h0 : 0 ≤ i) (h1 : i ≤ 4000000000000) : ∃ x j q : Int, spec_l1Byte.f l i h = some (x, j, q) ∧ i ≤ j ∧ j ≤ i + 1 := by
  unfold spec_l1Byte.f
  by_cases a : i < (l.length : Int)
  · rw [if_pos a, if_pos h0, w64 (by omega : -9223372036854775808 ≤ i + 1) (by omega)]
    exact ⟨_, _, _, rfl, by omega, by omega⟩
  · rw [if_neg a]
    exact ⟨_, _, _, rfl, by omega, by omega⟩

theorem claims_below (l : List Int) (i h n : Int) (h0 : 0 ≤ i) (h1 : i ≤ 4000000000000) (hn : 0 < n) (hm : n ≤ 256) : ∃ x j q : Int, spec_l1Below.f l i h n = some (x, j, q) ∧ i ≤ j ∧ j ≤ i + 1 := by
  unfold spec_l1Below.f
  obtain ⟨x, j, q, e, a, b⟩ := claims_byte l i h h0 h1
  rw [if_neg (by omega), if_pos hm, e, Option.bind_some, if_neg (by omega)]
  exact ⟨_, _, _, rfl, a, b⟩

theorem claims_one (l : List Int) (i h : Int) (h0 : 0 ≤ i) (h1 : i ≤ 1000) : ∃ (a0 : Int) (a1 a2 : Bool) (a3 a4 a5 j q : Int), spec_l10Claim.f l i h = some (a0, a1, a2, a3, a4, a5, j, q) ∧ 0 ≤ j ∧ j ≤ i + 6 := by
  unfold spec_l10Claim.f
  obtain ⟨x1, j1, q1, e1, a1, b1⟩ := claims_below l i h 3 h0 (by omega) (by omega) (by omega)
  obtain ⟨x2, j2, q2, e2, a2, b2⟩ := claims_below l j1 q1 2 (by omega) (by omega) (by omega) (by omega)
  obtain ⟨x3, j3, q3, e3, a3, b3⟩ := claims_below l j2 q2 4 (by omega) (by omega) (by omega) (by omega)
  obtain ⟨x4, j4, q4, e4, a4, b4⟩ := claims_below l j3 q3 3 (by omega) (by omega) (by omega) (by omega)
  obtain ⟨x5, j5, q5, e5, a5, b5⟩ := claims_below l j4 q4 3 (by omega) (by omega) (by omega) (by omega)
  obtain ⟨x6, j6, q6, e6, a6, b6⟩ := claims_below l j5 q5 3 (by omega) (by omega) (by omega) (by omega)
  simp only [e1, e2, e3, e4, e5, e6, Option.bind_some]
  exact ⟨_, _, _, _, _, _, _, _, rfl, by omega, by omega⟩

theorem claims_draw (l : List Int) : ∃ p, spec_DrawStronger.F l = some p := by
  obtain ⟨h, e⟩ := claims_new l
  rw [spec_DrawStronger.F_eq, e]
  obtain ⟨a0, a1, a2, a3, a4, a5, j, q, e1, hj, hk⟩ := claims_one l 0 h (by omega) (by omega)
  obtain ⟨b0, b1, b2, b3, b4, b5, j2, q2, e2, hj2, hk2⟩ := claims_one l j q hj (by omega)
  obtain ⟨x, j3, q3, e3, _⟩ := claims_below l j2 q2 4 hj2 (by omega) (by omega) (by omega)
  simp only [Option.bind_some, e1, e2, e3]
  by_cases c0 : x = 0
  · rw [if_pos c0]; exact ⟨_, rfl⟩
  rw [if_neg c0]
  by_cases c1 : x = 1
  · rw [if_pos c1]; exact ⟨_, rfl⟩
  rw [if_neg c1]
  by_cases c2 : x = 2
  · rw [if_pos c2]; exact ⟨_, rfl⟩
  rw [if_neg c2]
  exact ⟨_, rfl⟩

theorem FnClaims : laws_FnClaims.Pure := by
  intro l m _ _ _ _ _ _
  apply val_rounds (g := fun k => laws_FnClaims.f k l m)
  show laws_FnClaims.F l m = some true
  rw [laws_FnClaims.F_eq]
  have key : ∀ b, laws_FnClaims.J0 l m b = some true := by
    intro b
    rw [laws_FnClaims.J0_eq]
    cases b
    · obtain ⟨⟨a0, a1, a2, a3, a4, a5, b0, b1, b2, b3, b4, b5⟩, e1⟩ := claims_draw l
      obtain ⟨⟨c0, c1, c2, c3, c4, c5, d0, d1, d2, d3, d4, d5⟩, e2⟩ := claims_draw m
      simp only [Bool.false_eq_true, if_false, e1, e2, Option.bind_some, laws_FnClaims.J1_eq, impl_str, spec_str, str_irrefl, bne_self_eq_false, if_true]
      have hs := str_asymm a0 a1 a2 a3 a4 a5 b0 b1 b2 b3 b4 b5
      have ht := str_total a0 a1 a2 a3 a4 a5 b0 b1 b2 b3 b4 b5
      have hr := str_trans a0 a1 a2 a3 a4 a5 b0 b1 b2 b3 b4 b5 c0 c1 c2 c3 c4 c5
      generalize strB a0 a1 a2 a3 a4 a5 b0 b1 b2 b3 b4 b5 = ab at hs ht hr ⊢
      generalize strB b0 b1 b2 b3 b4 b5 a0 a1 a2 a3 a4 a5 = ba at hs ht hr ⊢
      generalize strB b0 b1 b2 b3 b4 b5 c0 c1 c2 c3 c4 c5 = bc at hs ht hr ⊢
      generalize strB a0 a1 a2 a3 a4 a5 c0 c1 c2 c3 c4 c5 = ac at hs ht hr ⊢
      by_cases h5 : a5 = b5
      · cases ab <;> cases ba <;> cases bc <;> cases ac <;> simp_all
      · have := ht h5
        cases ab <;> cases ba <;> cases bc <;> cases ac <;> simp_all
    · rfl
  unfold laws_big.f
  simp only [Option.bind_some]
  by_cases c : decide ((l.length : Int) > 1048576) = true
  · rw [if_pos c, key]
  · rw [if_neg c, key]

end Go.Proofs.Ytnobgcnldnlbiaa.QFnClaims
