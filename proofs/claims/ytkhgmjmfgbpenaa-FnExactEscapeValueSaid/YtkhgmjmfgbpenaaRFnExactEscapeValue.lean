/- FnExactEscapeValue: for every input the law returns true, and its arguments read as before. No condition beyond the given row's. -/
import Derived.Test.YtkhgmjmfgbpenaaRows
import Derived.Test.YtkhgmjmfgbpenaaQFnExactEscapeValuex3
import Derived.Test.YtkhgmjmfgbpenaaQFnExactEscapeValuePure
import Derived.Test.YtkhgmjmfgbpenaaOpen
import Derived.WalkKit
import Derived.ProofKit
import Derived.OpenShut
import Derived.ShutString
import Derived.ChangeOld
import Derived.Below
import Derived.SizedLaws
import Derived.Carry
namespace Go.Proofs.Ytkhgmjmfgbpenaa.fnExactEscapeValue
open Go.ChangeShapes Go.WideShapes Go.ChangeAt Go.RowKit Go.Proofs.Ytkhgmjmfgbpenaa.Opn Go.Proofs.Ytkhgmjmfgbpenaa.QFnExactEscapeValue Go.Proofs.YtkhgmjmfgbpenaaV.PrintWords Go.Proofs.YtkhgmjmfgbpenaaV.PrintLast
open Go.ChangeMaps (open_string shut_string)
set_option linter.unusedVariables false
set_option linter.unusedSimpArgs false
theorem own : ownKnob Try.prog.godebug = none := by kernel_rfl
theorem laidOut : laidOutB Try.prog = true := by kernel_rfl
abbrev wf9 := fun (s : ByteArray) => s.size ≤ maxLen
theorem o9 : Opens Try.prog 9 Kd.string wf9 := opens_string Try.underlying9 (by kernel_rfl)
set_option maxRecDepth 100000 in
theorem lifted (os : Os) (started : os.Started) (H : Type) (enc : TypeId × Value → H) :
    ReturnsInHanded {} Try.checked os 4 .any (Rows.fnExactEscapeValueSpec.pre6 enc Try.prog Try.f4 Rows.fnExactEscapeValueRow.domain false) (Rows.fnExactEscapeValueSpec.post enc Try.prog Try.f4 false true false false) := by
  refine returnsInHanded_of_change_sized (C := Try.checked) own started (by kernel_rfl) Try.func4
    (ChangeSpec.witness6 (enc := enc) (C := Try.checked) false ⟨#[], #[.string ByteArray.empty], []⟩ 8 (by kernel_rfl) (by kernel_rfl) (by kernel_rfl) (by kernel_rfl)) ?_
  intro W base args ds gs before hval0 hW hcnd hsz0 _
  have hval : ∀ (j : Nat) t v, Try.f4.params[j]? = some t → args[j]? = some v → Value.okWide Try.prog W .any base t v := hval0
  have hW' := hW
  obtain ⟨p, q, hA0, hV, rfl, hfz, hnd⟩ := hW
  have hA : DataW.TrodAll enc Try.prog W 0 (fun _ => true) true Try.f4.params.toList args.toList ds p := hA0
  rw [Try.params4] at hA hval
  obtain ⟨v0, vs0, d0, ds0, p0, q0, hargs, rfl, rfl, h0, r0⟩ := trodAll_cons hA
  obtain ⟨rfl, rfl, rfl⟩ := trodAll_nil r0
  obtain rfl : args = #[v0] := by cases args; simp_all
  obtain ⟨rfl, rfl⟩ := trodVars_none hV
  have k0 := h0
  have lt0 : ∀ x ∈ p0, x.block < W.heap.size := by obtain ⟨m, hm⟩ := k0; exact DataW.trod_lt m _ _ _ hm
  obtain ⟨fu0, hf0⟩ := h0
  obtain ⟨x0, hK0, hw0⟩ := o9.op hf0
  obtain ⟨a0, rfl, _⟩ := open_string Try.underlying9 (hval 0 9 v0 rfl rfl) k0
  obtain rfl : x0 = a0 := by have e : [Value.string a0] = [Value.string x0] := hK0; injection e with e; injection e with e; exact e.symm
  obtain ⟨k, hp⟩ := FnExactEscapeValue_pure x0 hw0
  refine (laws_FnExactEscapeValue.calls k x0 true W  hp).mono fun e W' ⟨he, bel⟩ => ?_
  subst he
  exact ⟨_, rfl, _, _, _, [], _, [], hW', trodAll_mk1 (shut_bool Try.underlying4 _), (trodAll_cons_mk (Below.trod laidOut (by kernel_rfl) (of_decide_eq_true (by kernel_rfl)) k0 bel lt0) trodAll_mk0), rfl, bel.frame _, fun h => by cases h⟩
set_option maxRecDepth 100000 in
theorem named : Try.pinned.checked.prog.funcNamed Rows.fnExactEscapeValueRow.func = some 4 := by kernel_rfl
set_option maxRecDepth 100000 in
set_option maxHeartbeats 8000000 in
theorem closed : joinedFacts Try.pinned.checked.prog 4 Try.f4 Rows.fnExactEscapeValueSpec Rows.fnExactEscapeValueRow = true := by
  simp only [joinedFacts, Bool.and_eq_true]
  repeat' apply And.intro
  all_goals (as_aux_lemma => kernel_rfl)
theorem instd : Try.f4.isInstance Try.pinned.checked.prog Rows.fnExactEscapeValueRow.origin Rows.fnExactEscapeValueRow.targs := of_decide_eq_true (by kernel_rfl)
theorem wrapped : Try.f4.isWrapper Try.pinned.checked.prog Rows.fnExactEscapeValueRow.wrapper Rows.fnExactEscapeValueRow.mainSum := by unfold Func.isWrapper; first | (rw [if_pos (by decide +kernel)]; kernel_rfl) | (rw [if_neg (by decide +kernel)]; exact ⟨rfl, rfl⟩)
theorem over : Rows.fnExactEscapeValueRow.holds Try.pinned (OpenSpec.ofChange Rows.fnExactEscapeValueSpec) :=
  OpenClaim.holds_of_wide 4 Try.f4 rfl rfl rfl rfl rfl rfl rfl ⟨rfl, rfl, rfl, rfl, rfl⟩ rfl rfl rfl rfl rfl named Try.func4 closed instd wrapped
    (fun os started H enc _ => lifted os started H enc)
theorem proved : Rows.FnExactEscapeValueSaid := over
#print axioms proved
end Go.Proofs.Ytkhgmjmfgbpenaa.fnExactEscapeValue
namespace Go.Proofs.Ytkhgmjmfgbpenaa
/-- The row, under a short name, for the claim. -/
theorem fnExactEscapeValue_holds : Rows.FnExactEscapeValueSaid := fnExactEscapeValue.proved
end Go.Proofs.Ytkhgmjmfgbpenaa
