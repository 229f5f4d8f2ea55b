/- FnExactParseColor: for every input the law returns true, and its arguments read as before. No condition beyond the given row's. -/
import Derived.Test.YtjoanlocikagaaaRows
import Derived.Test.YtjoanlocikagaaaQFnExactParseColorx5
import Derived.Test.YtjoanlocikagaaaQFnExactParseColorPure
import Derived.Test.YtjoanlocikagaaaOpen
import Derived.WalkKit
import Derived.ProofKit
import Derived.OpenShut
import Derived.ShutString
import Derived.ChangeOld
import Derived.Below
import Derived.SizedLaws
import Derived.Carry
namespace Go.Proofs.Ytjoanlocikagaaa.fnExactParseColor
open Go.ChangeShapes Go.WideShapes Go.ChangeAt Go.RowKit Go.Proofs.Ytjoanlocikagaaa.Opn Go.Proofs.Ytjoanlocikagaaa.QFnExactParseColor Go.Proofs.YtjoanlocikagaaaW.PrintWords Go.Proofs.YtjoanlocikagaaaW.PrintLast
open Go.ChangeMaps (open_string shut_string)
set_option linter.unusedVariables false
set_option linter.unusedSimpArgs false
theorem own : ownKnob Try.prog.godebug = none := by kernel_rfl
theorem laidOut : laidOutB Try.prog = true := by kernel_rfl
abbrev wf3 := fun (n : Int) => (Lit.int .i64 n).wf = true
theorem o3 : Opens Try.prog 3 (Kd.int .i64) wf3 := opens_int Try.underlying3 (by kernel_rfl)
abbrev wf9 := fun (s : ByteArray) => s.size ≤ maxLen
theorem o9 : Opens Try.prog 9 Kd.string wf9 := opens_string Try.underlying9 (by kernel_rfl)
abbrev wf94 := fun (x : S94) => wf3 x.f0 ∧ wf9 x.f1 ∧ wf3 x.f2 ∧ wf9 x.f3
theorem o94 : Opens Try.prog 94 k94 wf94 := opens_iso (opens_struct Try.underlying94 (by kernel_rfl) (opensF_cons rfl o3 (opensF_cons rfl o9 (opensF_cons rfl o3 (opensF_one rfl o9))))) (fun x : S94 => (x.f0, x.f1, x.f2, x.f3)) (fun a => (⟨a.1, a.2.1, a.2.2.1, a.2.2.2⟩ : S94)) (fun _ => rfl)
abbrev wf27 := fun (xs : List S94) => xs.length ≤ maxLen ∧ ∀ x ∈ xs, wf94 x
theorem o27 : Opens Try.prog 27 (Kd.slice 94 k94) wf27 := opens_slice 94 Try.underlying27 (by kernel_rfl) o94
set_option maxRecDepth 100000 in
theorem lifted (os : Os) (started : os.Started) (H : Type) (enc : TypeId × Value → H) :
    ReturnsInHanded {} Try.checked os 4 .any (Rows.fnExactParseColorSpec.pre6 enc Try.prog Try.f4 Rows.fnExactParseColorRow.domain false) (Rows.fnExactParseColorSpec.post enc Try.prog Try.f4 false true false false) := by
  refine returnsInHanded_of_change_sized (C := Try.checked) own started (by kernel_rfl) Try.func4
    (ChangeSpec.witness6 (enc := enc) (C := Try.checked) false ⟨#[], #[.slice none 0 0], []⟩ 8 (by kernel_rfl) (by kernel_rfl) (by kernel_rfl) (by kernel_rfl)) ?_
  intro W base args ds gs before hval0 hW hcnd hsz0 _
  have hval : ∀ (j : Nat) t v, Try.f4.params[j]? = some t → args[j]? = some v → Value.okWide Try.prog W .any base t v := hval0
  have hW' := hW
  obtain ⟨p, q, hA0, hV, rfl, hfz, hnd⟩ := hW
  have hA : DataW.TrodAll enc Try.prog W 0 (fun _ => true) true Try.f4.params.toList args.toList ds p := hA0
  rw [Try.params4] at hA hval
  obtain ⟨v0, vs0, d0, ds0, p0, q0, hargs, rfl, rfl, h0, r0⟩ := trodAll_cons hA
  obtain ⟨rfl, rfl, rfl⟩ := trodAll_nil r0
  obtain rfl : args = #[v0] := by cases args; simp_all
  obtain ⟨rfl, rfl⟩ := trodVars_none hV
  have k0 := h0
  have lt0 : ∀ x ∈ p0, x.block < W.heap.size := by obtain ⟨m, hm⟩ := k0; exact DataW.trod_lt m _ _ _ hm
  obtain ⟨fu0, hf0⟩ := h0
  obtain ⟨x0, hK0, hw0⟩ := o27.op hf0
  obtain ⟨a0, len0, cap0, rfl⟩ := okWide_slice Try.underlying27 (hval 0 27 v0 rfl rfl)
  obtain ⟨A0, c0, e0, l0, r0⟩ := hK0
  obtain ⟨rfl, rfl, rfl⟩ : a0 = A0 ∧ len0 = x0.length ∧ cap0 = c0 := by simpa [Value.cells] using e0
  obtain ⟨k, hp⟩ := FnExactParseColor_pure x0 hw0
  refine (laws_FnExactParseColor.calls k _ _ x0 true W r0 l0 hp).mono fun e W' ⟨he, bel⟩ => ?_
  subst he
  exact ⟨_, rfl, _, _, _, [], _, [], hW', trodAll_mk1 (shut_bool Try.underlying4 _), (trodAll_cons_mk (Below.trod laidOut (by kernel_rfl) (of_decide_eq_true (by kernel_rfl)) k0 bel lt0) trodAll_mk0), rfl, bel.frame _, fun h => by cases h⟩
set_option maxRecDepth 100000 in
theorem named : Try.pinned.checked.prog.funcNamed Rows.fnExactParseColorRow.func = some 4 := by kernel_rfl
set_option maxRecDepth 100000 in
set_option maxHeartbeats 8000000 in
theorem closed : joinedFacts Try.pinned.checked.prog 4 Try.f4 Rows.fnExactParseColorSpec Rows.fnExactParseColorRow = true := by
  simp only [joinedFacts, Bool.and_eq_true]
  repeat' apply And.intro
  all_goals (as_aux_lemma => kernel_rfl)
theorem instd : Try.f4.isInstance Try.pinned.checked.prog Rows.fnExactParseColorRow.origin Rows.fnExactParseColorRow.targs := of_decide_eq_true (by kernel_rfl)
theorem wrapped : Try.f4.isWrapper Try.pinned.checked.prog Rows.fnExactParseColorRow.wrapper Rows.fnExactParseColorRow.mainSum := by unfold Func.isWrapper; first | (rw [if_pos (by decide +kernel)]; kernel_rfl) | (rw [if_neg (by decide +kernel)]; exact ⟨rfl, rfl⟩)
theorem over : Rows.fnExactParseColorRow.holds Try.pinned (OpenSpec.ofChange Rows.fnExactParseColorSpec) :=
  OpenClaim.holds_of_wide 4 Try.f4 rfl rfl rfl rfl rfl rfl rfl ⟨rfl, rfl, rfl, rfl, rfl⟩ rfl rfl rfl rfl rfl named Try.func4 closed instd wrapped
    (fun os started H enc _ => lifted os started H enc)
theorem proved : Rows.FnExactParseColorSaid := over
#print axioms proved
end Go.Proofs.Ytjoanlocikagaaa.fnExactParseColor
namespace Go.Proofs.Ytjoanlocikagaaa
/-- The row, under a short name, for the claim. -/
theorem fnExactParseColor_holds : Rows.FnExactParseColorSaid := fnExactParseColor.proved
end Go.Proofs.Ytjoanlocikagaaa
