/- FnExactStronger: for every input the law returns true, and its arguments read as before. No condition beyond the given row's. -/
import Derived.Test.YtnobgcnldnlbiaaRows
import Derived.Test.YtnobgcnldnlbiaaPFnExactStrongerx2
import Derived.Test.YtnobgcnldnlbiaaPFnExactStrongerPure
import Derived.Test.YtnobgcnldnlbiaaOpen
import Derived.WalkKit
import Derived.ProofKit
import Derived.OpenShut
import Derived.ShutString
import Derived.ChangeOld
import Derived.Below
import Derived.SizedLaws
import Derived.Carry
namespace Go.Proofs.Ytnobgcnldnlbiaa.fnExactStronger
open Go.ChangeShapes Go.WideShapes Go.ChangeAt Go.RowKit Go.Proofs.Ytnobgcnldnlbiaa.Opn Go.Proofs.Ytnobgcnldnlbiaa.PFnExactStronger Go.Proofs.YtnobgcnldnlbiaaW.PrintWords Go.Proofs.YtnobgcnldnlbiaaW.PrintLast
open Go.ChangeMaps (open_string shut_string)
set_option linter.unusedVariables false
set_option linter.unusedSimpArgs false
theorem own : ownKnob Try.prog.godebug = none := by kernel_rfl
theorem laidOut : laidOutB Try.prog = true := by kernel_rfl
abbrev wf3 := fun (n : Int) => (Lit.int .i64 n).wf = true
theorem o3 : Opens Try.prog 3 (Kd.int .i64) wf3 := opens_int Try.underlying3 (by kernel_rfl)
abbrev wf4 := fun (_ : Bool) => True
theorem o4 : Opens Try.prog 4 Kd.bool wf4 := opens_bool Try.underlying4 (by kernel_rfl)
abbrev wf41 := fun (x : Int × Bool × Bool × Int × Int × Int) => wf3 (x.1) ∧ wf4 (x.2.1) ∧ wf4 (x.2.2.1) ∧ wf3 (x.2.2.2.1) ∧ wf3 (x.2.2.2.2.1) ∧ wf3 (x.2.2.2.2.2)
theorem o41 : Opens Try.prog 41 (Kd.pair (Kd.int .i64) (Kd.pair Kd.bool (Kd.pair Kd.bool (Kd.pair (Kd.int .i64) (Kd.pair (Kd.int .i64) (Kd.int .i64)))))) wf41 := opens_struct Try.underlying41 (by kernel_rfl) (opensF_cons rfl o3 (opensF_cons rfl o4 (opensF_cons rfl o4 (opensF_cons rfl o3 (opensF_cons rfl o3 (opensF_one rfl o3))))))
theorem c41 {w : World} {x : (Int × Bool × Bool × Int × Int × Int)} {cs : List Value} (h : Kd.K (Kd.pair (Kd.int .i64) (Kd.pair Kd.bool (Kd.pair Kd.bool (Kd.pair (Kd.int .i64) (Kd.pair (Kd.int .i64) (Kd.int .i64)))))) w x cs) : cs = [.int .i64 x.1, .bool x.2.1, .bool x.2.2.1, .int .i64 x.2.2.2.1, .int .i64 x.2.2.2.2.1, .int .i64 x.2.2.2.2.2] := by
  obtain ⟨_, _, rfl, rfl, ⟨_, _, rfl, rfl, ⟨_, _, rfl, rfl, ⟨_, _, rfl, rfl, ⟨_, _, rfl, rfl, rfl⟩⟩⟩⟩⟩ := h
  exact rfl
set_option maxRecDepth 100000 in
theorem lifted (os : Os) (started : os.Started) (H : Type) (enc : TypeId × Value → H) :
    ReturnsInHanded {} Try.checked os 10 .any (Rows.fnExactStrongerSpec.pre6 enc Try.prog Try.f10 Rows.fnExactStrongerRow.domain false) (Rows.fnExactStrongerSpec.post enc Try.prog Try.f10 false true false false) := by
  refine returnsInHanded_of_change_sized (C := Try.checked) own started (by kernel_rfl) Try.func10
    (ChangeSpec.witness6 (enc := enc) (C := Try.checked) false ⟨#[], #[.agg #[.int .i64 0, .bool false, .bool false, .int .i64 0, .int .i64 0, .int .i64 0], .agg #[.int .i64 0, .bool false, .bool false, .int .i64 0, .int .i64 0, .int .i64 0]], []⟩ 8 (by kernel_rfl) (by kernel_rfl) (by kernel_rfl) (by kernel_rfl)) ?_
  intro W base args ds gs before hval0 hW hcnd hsz0 _
  have hval : ∀ (j : Nat) t v, Try.f10.params[j]? = some t → args[j]? = some v → Value.okWide Try.prog W .any base t v := hval0
  have hW' := hW
  obtain ⟨p, q, hA0, hV, rfl, hfz, hnd⟩ := hW
  have hA : DataW.TrodAll enc Try.prog W 0 (fun _ => true) true Try.f10.params.toList args.toList ds p := hA0
  rw [Try.params10] at hA hval
  obtain ⟨v0, vs0, d0, ds0, p0, q0, hargs, rfl, rfl, h0, r0⟩ := trodAll_cons hA
  obtain ⟨v1, vs1, d1, ds1, p1, q1, rfl, rfl, rfl, h1, r1⟩ := trodAll_cons r0
  obtain ⟨rfl, rfl, rfl⟩ := trodAll_nil r1
  obtain rfl : args = #[v0, v1] := by cases args; simp_all
  obtain ⟨rfl, rfl⟩ := trodVars_none hV
  have k0 := h0
  have lt0 : ∀ x ∈ p0, x.block < W.heap.size := by obtain ⟨m, hm⟩ := k0; exact DataW.trod_lt m _ _ _ hm
  obtain ⟨fu0, hf0⟩ := h0
  obtain ⟨x0, hK0, hw0⟩ := o41.op hf0
  obtain ⟨cs0, rfl, hs0⟩ := okWide_struct Try.underlying41 (hval 0 41 v0 rfl rfl)
  have e0 := c41 hK0
  have e0' : cs0 = #[.int .i64 x0.1, .bool x0.2.1, .bool x0.2.2.1, .int .i64 x0.2.2.2.1, .int .i64 x0.2.2.2.2.1, .int .i64 x0.2.2.2.2.2] := Array.toList_inj.mp e0
  subst e0'
  have k1 := h1
  have lt1 : ∀ x ∈ p1, x.block < W.heap.size := by obtain ⟨m, hm⟩ := k1; exact DataW.trod_lt m _ _ _ hm
  obtain ⟨fu1, hf1⟩ := h1
  obtain ⟨x1, hK1, hw1⟩ := o41.op hf1
  obtain ⟨cs1, rfl, hs1⟩ := okWide_struct Try.underlying41 (hval 1 41 v1 rfl rfl)
  have e1 := c41 hK1
  have e1' : cs1 = #[.int .i64 x1.1, .bool x1.2.1, .bool x1.2.2.1, .int .i64 x1.2.2.2.1, .int .i64 x1.2.2.2.2.1, .int .i64 x1.2.2.2.2.2] := Array.toList_inj.mp e1
  subst e1'
  obtain ⟨k, hp⟩ := FnExactStronger_pure x0 x1 hw0 hw1
  refine (laws_FnExactStronger.calls k (x0.1) (x0.2.1) (x0.2.2.1) (x0.2.2.2.1) (x0.2.2.2.2.1) (x0.2.2.2.2.2) (x1.1) (x1.2.1) (x1.2.2.1) (x1.2.2.2.1) (x1.2.2.2.2.1) (x1.2.2.2.2.2) true W  hp).mono fun e W' ⟨he, bel⟩ => ?_
  subst he
  exact ⟨_, rfl, _, _, _, [], _, [], hW', trodAll_mk1 (shut_bool Try.underlying4 _), (trodAll_cons_mk (Below.trod laidOut (by kernel_rfl) (of_decide_eq_true (by kernel_rfl)) k0 bel lt0) (trodAll_cons_mk (Below.trod laidOut (by kernel_rfl) (of_decide_eq_true (by kernel_rfl)) k1 bel lt1) trodAll_mk0)), rfl, bel.frame _, fun h => by cases h⟩
theorem over : Rows.fnExactStrongerRow.holds Try.pinned (OpenSpec.ofChange Rows.fnExactStrongerSpec) :=
  OpenClaim.holds_of_wide 10 Try.f10 rfl rfl rfl rfl rfl rfl rfl ⟨rfl, rfl, rfl, rfl, rfl⟩ rfl rfl rfl rfl rfl (by kernel_rfl) Try.func10 (by kernel_rfl)
    (of_decide_eq_true (by kernel_rfl)) (by unfold Func.isWrapper; first | (rw [if_pos (by decide +kernel)]; kernel_rfl) | (rw [if_neg (by decide +kernel)]; exact ⟨rfl, rfl⟩))
    (fun os started H enc _ => lifted os started H enc)
theorem proved : Rows.FnExactStrongerSaid := over
#print axioms proved
end Go.Proofs.Ytnobgcnldnlbiaa.fnExactStronger
namespace Go.Proofs.Ytnobgcnldnlbiaa
/-- The row, under a short name, for the claim. -/
theorem fnExactStronger_holds : Rows.FnExactStrongerSaid := fnExactStronger.proved
end Go.Proofs.Ytnobgcnldnlbiaa
