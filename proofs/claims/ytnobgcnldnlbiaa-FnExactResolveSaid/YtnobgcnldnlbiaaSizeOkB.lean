/- The two looks at a size agree. -/
import Derived.Test.YtnobgcnldnlbiaaFFnExactResolve
import Derived.Test.YtnobgcnldnlbiaaLoops
namespace Go.Proofs.Ytnobgcnldnlbiaa.PFnExactResolve
open Go.RowKit Go.Proofs.YtnobgcnldnlbiaaW.PrintWords Go.Proofs.YtnobgcnldnlbiaaW.PrintLast Go.Proofs.YtnobgcnldnlbiaaW.PrintMore Go.Proofs.Ytnobgcnldnlbiaa.Val
set_option linter.unusedVariables false
set_option linter.unusedSimpArgs false

theorem in_milli (a : Int) : spec_l9In.f a 1000000000 = some (decide (-1000000000 ≤ a ∧ a ≤ 1000000000)) := by
  unfold spec_l9In.f
  have h : wrap64 (-1000000000) = -1000000000 := by decide +kernel
  rw [h]
  by_cases c : a ≥ -1000000000
  · rw [if_pos c]
    have c' : -1000000000 ≤ a := c
    simp [c']
  · rw [if_neg c]
    have c' : ¬ (-1000000000 ≤ a) := c
    simp [c']

theorem impl_milli (a : Int) : impl_inMilli.f a = some (decide (-1000000000 ≤ a ∧ a ≤ 1000000000)) := by
  unfold impl_inMilli.f
  by_cases c : a ≥ -1000000000
  · rw [if_pos c]
    have c' : -1000000000 ≤ a := c
    simp [c']
  · rw [if_neg c]
    have c' : ¬ (-1000000000 ≤ a) := c
    simp [c']

theorem size_ok (a b c d : Int) : ∃ r, spec_SizeOk.f a b c d = some r ∧ impl_SizeOk.f a b c d = some r := by
  unfold spec_SizeOk.f impl_SizeOk.f
  simp only [in_milli, impl_milli, Option.bind_some]
  by_cases h2 : a = 2
  · rw [if_pos h2, if_pos h2]
    split
    · split
      · exact ⟨_, rfl, rfl⟩
      · exact ⟨_, rfl, rfl⟩
    · exact ⟨_, rfl, rfl⟩
  · rw [if_neg h2, if_neg h2]
    have key : (if b = 0 then (if c = 0 then (some (d == 0)) else (some false)) else (some false)) = some (b == 0 && (c == 0 && (d == 0))) := by
      by_cases hb : b = 0 <;> by_cases hc : c = 0 <;> simp [hb, hc]
    rw [key]
    by_cases h0 : a = 0
    · rw [if_pos h0, if_neg (by omega), if_pos h0]
      exact ⟨_, rfl, rfl⟩
    · rw [if_neg h0]
      by_cases h1 : a = 1
      · rw [if_pos h1, if_pos h1]
        exact ⟨_, rfl, rfl⟩
      · rw [if_neg h1, if_neg h1, if_neg h0]
        exact ⟨_, rfl, rfl⟩

end Go.Proofs.Ytnobgcnldnlbiaa.PFnExactResolve
