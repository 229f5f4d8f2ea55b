/- FnExactWordOk: for every input the law returns true, and its arguments read as before. No condition beyond the given row's. -/
import Derived.Test.YtnobgcnldnlbiaaRows
import Derived.Test.YtnobgcnldnlbiaaQFnExactWordOkx6
import Derived.Test.YtnobgcnldnlbiaaQFnExactWordOkPure
import Derived.Test.YtnobgcnldnlbiaaOpen
import Derived.WalkKit
import Derived.ProofKit
import Derived.OpenShut
import Derived.ShutString
import Derived.ChangeOld
import Derived.Below
import Derived.SizedLaws
import Derived.Carry
namespace Go.Proofs.Ytnobgcnldnlbiaa.fnExactWordOk
open Go.ChangeShapes Go.WideShapes Go.ChangeAt Go.RowKit Go.Proofs.Ytnobgcnldnlbiaa.Opn Go.Proofs.Ytnobgcnldnlbiaa.QFnExactWordOk Go.Proofs.YtnobgcnldnlbiaaW.PrintWords Go.Proofs.YtnobgcnldnlbiaaW.PrintLast
open Go.ChangeMaps (open_string shut_string)
set_option linter.unusedVariables false
set_option linter.unusedSimpArgs false
theorem own : ownKnob Try.prog.godebug = none := by kernel_rfl
theorem laidOut : laidOutB Try.prog = true := by kernel_rfl
abbrev wf3 := fun (n : Int) => (Lit.int .i64 n).wf = true
theorem o3 : Opens Try.prog 3 (Kd.int .i64) wf3 := opens_int Try.underlying3 (by kernel_rfl)
abbrev wf9 := fun (s : ByteArray) => s.size ≤ maxLen
theorem o9 : Opens Try.prog 9 Kd.string wf9 := opens_string Try.underlying9 (by kernel_rfl)
abbrev wf60 := fun (x : Int × ByteArray × Int × ByteArray) => wf3 (x.1) ∧ wf9 (x.2.1) ∧ wf3 (x.2.2.1) ∧ wf9 (x.2.2.2)
theorem o60 : Opens Try.prog 60 (Kd.pair (Kd.int .i64) (Kd.pair Kd.string (Kd.pair (Kd.int .i64) Kd.string))) wf60 := opens_struct Try.underlying60 (by kernel_rfl) (opensF_cons rfl o3 (opensF_cons rfl o9 (opensF_cons rfl o3 (opensF_one rfl o9))))
theorem c60 {w : World} {x : (Int × ByteArray × Int × ByteArray)} {cs : List Value} (h : Kd.K (Kd.pair (Kd.int .i64) (Kd.pair Kd.string (Kd.pair (Kd.int .i64) Kd.string))) w x cs) : cs = [.int .i64 x.1, .string x.2.1, .int .i64 x.2.2.1, .string x.2.2.2] := by
  obtain ⟨_, _, rfl, rfl, ⟨_, _, rfl, rfl, ⟨_, _, rfl, rfl, rfl⟩⟩⟩ := h
  exact rfl
set_option maxRecDepth 100000 in
theorem lifted (os : Os) (started : os.Started) (H : Type) (enc : TypeId × Value → H) :
    ReturnsInHanded {} Try.checked os 13 .any (Rows.fnExactWordOkSpec.pre6 enc Try.prog Try.f13 Rows.fnExactWordOkRow.domain false) (Rows.fnExactWordOkSpec.post enc Try.prog Try.f13 false true false false) := by
  refine returnsInHanded_of_change_sized (C := Try.checked) own started (by kernel_rfl) Try.func13
    (ChangeSpec.witness6 (enc := enc) (C := Try.checked) false ⟨#[], #[.agg #[.int .i64 0, .string ByteArray.empty, .int .i64 0, .string ByteArray.empty]], []⟩ 8 (by kernel_rfl) (by kernel_rfl) (by kernel_rfl) (by kernel_rfl)) ?_
  intro W base args ds gs before hval0 hW hcnd hsz0 _
  have hval : ∀ (j : Nat) t v, Try.f13.params[j]? = some t → args[j]? = some v → Value.okWide Try.prog W .any base t v := hval0
  have hW' := hW
  obtain ⟨p, q, hA0, hV, rfl, hfz, hnd⟩ := hW
  have hA : DataW.TrodAll enc Try.prog W 0 (fun _ => true) true Try.f13.params.toList args.toList ds p := hA0
  rw [Try.params13] at hA hval
  obtain ⟨v0, vs0, d0, ds0, p0, q0, hargs, rfl, rfl, h0, r0⟩ := trodAll_cons hA
  obtain ⟨rfl, rfl, rfl⟩ := trodAll_nil r0
  obtain rfl : args = #[v0] := by cases args; simp_all
  obtain ⟨rfl, rfl⟩ := trodVars_none hV
  have k0 := h0
  have lt0 : ∀ x ∈ p0, x.block < W.heap.size := by obtain ⟨m, hm⟩ := k0; exact DataW.trod_lt m _ _ _ hm
  obtain ⟨fu0, hf0⟩ := h0
  obtain ⟨x0, hK0, hw0⟩ := o60.op hf0
  obtain ⟨cs0, rfl, hs0⟩ := okWide_struct Try.underlying60 (hval 0 60 v0 rfl rfl)
  have e0 := c60 hK0
  have e0' : cs0 = #[.int .i64 x0.1, .string x0.2.1, .int .i64 x0.2.2.1, .string x0.2.2.2] := Array.toList_inj.mp e0
  subst e0'
  obtain ⟨k, hp⟩ := FnExactWordOk_pure x0 hw0
  refine (laws_FnExactWordOk.calls k (x0.1) (x0.2.1) (x0.2.2.1) (x0.2.2.2) true W  hp).mono fun e W' ⟨he, bel⟩ => ?_
  subst he
  exact ⟨_, rfl, _, _, _, [], _, [], hW', trodAll_mk1 (shut_bool Try.underlying4 _), (trodAll_cons_mk (Below.trod laidOut (by kernel_rfl) (of_decide_eq_true (by kernel_rfl)) k0 bel lt0) trodAll_mk0), rfl, bel.frame _, fun h => by cases h⟩
set_option maxRecDepth 100000 in
theorem named : Try.pinned.checked.prog.funcNamed Rows.fnExactWordOkRow.func = some 13 := by kernel_rfl
set_option maxRecDepth 100000 in
set_option maxHeartbeats 8000000 in
theorem closed : joinedFacts Try.pinned.checked.prog 13 Try.f13 Rows.fnExactWordOkSpec Rows.fnExactWordOkRow = true := by
  simp only [joinedFacts, Bool.and_eq_true]
  repeat' apply And.intro
  all_goals (as_aux_lemma => kernel_rfl)
theorem instd : Try.f13.isInstance Try.pinned.checked.prog Rows.fnExactWordOkRow.origin Rows.fnExactWordOkRow.targs := of_decide_eq_true (by kernel_rfl)
theorem wrapped : Try.f13.isWrapper Try.pinned.checked.prog Rows.fnExactWordOkRow.wrapper Rows.fnExactWordOkRow.mainSum := by unfold Func.isWrapper; first | (rw [if_pos (by decide +kernel)]; kernel_rfl) | (rw [if_neg (by decide +kernel)]; exact ⟨rfl, rfl⟩)
theorem over : Rows.fnExactWordOkRow.holds Try.pinned (OpenSpec.ofChange Rows.fnExactWordOkSpec) :=
  OpenClaim.holds_of_wide 13 Try.f13 rfl rfl rfl rfl rfl rfl rfl ⟨rfl, rfl, rfl, rfl, rfl⟩ rfl rfl rfl rfl rfl named Try.func13 closed instd wrapped
    (fun os started H enc _ => lifted os started H enc)
theorem proved : Rows.FnExactWordOkSaid := over
#print axioms proved
end Go.Proofs.Ytnobgcnldnlbiaa.fnExactWordOk
namespace Go.Proofs.Ytnobgcnldnlbiaa
/-- The row, under a short name, for the claim. -/
theorem fnExactWordOk_holds : Rows.FnExactWordOkSaid := fnExactWordOk.proved
end Go.Proofs.Ytnobgcnldnlbiaa
