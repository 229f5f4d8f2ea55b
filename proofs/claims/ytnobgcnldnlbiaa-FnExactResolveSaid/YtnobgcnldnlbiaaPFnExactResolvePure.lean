/- FnExactResolve, the plain side. -/
import Derived.Test.YtnobgcnldnlbiaaSizeOkB
namespace Go.Proofs.Ytnobgcnldnlbiaa.PFnExactResolve
open Go Go.RowKit Go.Proofs.YtnobgcnldnlbiaaW.PrintWords Go.Proofs.YtnobgcnldnlbiaaW.PrintLast Go.Proofs.YtnobgcnldnlbiaaW.PrintMore Go.Proofs.Ytnobgcnldnlbiaa.Val
set_option linter.unusedVariables false
set_option linter.unusedSimpArgs false

theorem in_units (a : Int) : spec_l9In.f a 100000000 = impl_inUnits.f a := by
  unfold spec_l9In.f impl_inUnits.f
  have h : wrap64 (-100000000) = -100000000 := by decide +kernel
  rw [h]

theorem floors (a b : Int) : spec_l9Floor.f a b = impl_down.f a b := rfl

theorem clamps (a : Int) : spec_l9Clamp.f a = impl_clamp.f a (-100000000) 100000000 := by
  unfold spec_l9Clamp.f impl_clamp.f mx mn
  have e : (if -100000000 < (if 100000000 < a then 100000000 else a) then (if 100000000 < a then 100000000 else a) else -100000000) = (if a > 100000000 then 100000000 else if a < -100000000 then -100000000 else a) := by
    split <;> split <;> first | omega | (split <;> omega)
  rw [e]
  split
  · rfl
  · split <;> rfl

theorem floor_some (a b : Int) (h : b ≠ 0) : ∃ r, impl_down.f a b = some r := by
  unfold impl_down.f
  rw [if_neg h]
  split
  · exact ⟨_, rfl⟩
  · split
    · exact ⟨_, rfl⟩
    · exact ⟨_, rfl⟩

theorem tails (x1 x2 a b c d : Int) (y : Bool) : ∃ r, spec_Resolve.J0 x1 x2 y a b c d = some r ∧ impl_Resolve.J0 x1 x2 y a b c d = some r := by
  rw [spec_Resolve.J0_eq, impl_Resolve.J0_eq]
  cases y
  · simp only [Bool.false_eq_true, if_false, floors, clamps]
    obtain ⟨r1, e1⟩ := floor_some (wrap64 (b * 64)) 1000 (by omega)
    obtain ⟨r2, e2⟩ := floor_some (wrap64 (c * x1)) 1000 (by omega)
    obtain ⟨r3, e3⟩ := floor_some (wrap64 (d * x2)) 100000 (by omega)
    simp only [e1, e2, e3, Option.bind_some, impl_clamp.f]
    exact ⟨_, rfl, rfl⟩
  · exact ⟨_, rfl, rfl⟩

theorem both (a b c d e f : Int) : ∃ r, spec_Resolve.F a b c d e f = some r ∧ impl_Resolve.F a b c d e f = some r := by
  rw [spec_Resolve.F_eq, impl_Resolve.F_eq]
  obtain ⟨q, h1, h2⟩ := size_ok a b c d
  have u : ∀ v : Int, ∃ z, impl_inUnits.f v = some z := by
    intro v
    unfold impl_inUnits.f
    split
    · exact ⟨_, rfl⟩
    · exact ⟨_, rfl⟩
  obtain ⟨z1, e1⟩ := u e
  obtain ⟨z2, e2⟩ := u f
  simp only [h1, h2, Option.bind_some, in_units, e1, e2]
  repeat (first | exact tails _ _ _ _ _ _ _ | split)

theorem FnExactResolve_pure (x : Int × Int × Int × Int) (y z : Int) (_ : (Lit.int .i64 x.1).wf = true ∧ (Lit.int .i64 x.2.1).wf = true ∧ (Lit.int .i64 x.2.2.1).wf = true ∧ (Lit.int .i64 x.2.2.2).wf = true)
    (_ : (Lit.int .i64 y).wf = true) (_ : (Lit.int .i64 z).wf = true) : ∃ k, laws_FnExactResolve.f k (x.1) (x.2.1) (x.2.2.1) (x.2.2.2) y z = some true := by
  apply val_rounds (g := fun k => laws_FnExactResolve.f k (x.1) (x.2.1) (x.2.2.1) (x.2.2.2) y z)
  show laws_FnExactResolve.F (x.1) (x.2.1) (x.2.2.1) (x.2.2.2) y z = some true
  rw [laws_FnExactResolve.F_eq]
  obtain ⟨r, h1, h2⟩ := both x.1 x.2.1 x.2.2.1 x.2.2.2 y z
  unfold laws_toSize.f
  simp only [Option.bind_some, h1, h2]
  simp

end Go.Proofs.Ytnobgcnldnlbiaa.PFnExactResolve
