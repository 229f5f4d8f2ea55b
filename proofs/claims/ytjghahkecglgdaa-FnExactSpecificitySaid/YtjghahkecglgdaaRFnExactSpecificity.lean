/- FnExactSpecificity: for every input the law returns true, and its arguments read as before. No condition beyond the given row's. -/
import Derived.Test.YtjghahkecglgdaaRows
import Derived.Test.YtjghahkecglgdaaQFnExactSpecificityx14
import Derived.Test.YtjghahkecglgdaaQFnExactSpecificityPure
import Derived.Test.YtjghahkecglgdaaOpen
import Derived.WalkKit
import Derived.ProofKit
import Derived.OpenShut
import Derived.ShutString
import Derived.ChangeOld
import Derived.Below
import Derived.SizedLaws
import Derived.Carry
namespace Go.Proofs.Ytjghahkecglgdaa.fnExactSpecificity
open Go.ChangeShapes Go.WideShapes Go.ChangeAt Go.RowKit Go.Proofs.Ytjghahkecglgdaa.Opn Go.Proofs.Ytjghahkecglgdaa.QFnExactSpecificity Go.Proofs.YtjghahkecglgdaaV.PrintWords Go.Proofs.YtjghahkecglgdaaV.PrintLast
open Go.ChangeMaps (open_string shut_string)
set_option linter.unusedVariables false
set_option linter.unusedSimpArgs false
theorem own : ownKnob Try.prog.godebug = none := by kernel_rfl
theorem laidOut : laidOutB Try.prog = true := by kernel_rfl
abbrev wf3 := fun (n : Int) => (Lit.int .i64 n).wf = true
theorem o3 : Opens Try.prog 3 (Kd.int .i64) wf3 := opens_int Try.underlying3 (by kernel_rfl)
abbrev wf9 := fun (s : ByteArray) => s.size ≤ maxLen
theorem o9 : Opens Try.prog 9 Kd.string wf9 := opens_string Try.underlying9 (by kernel_rfl)
abbrev wf183 := fun (x : S183) => wf3 x.f0 ∧ wf9 x.f1 ∧ wf9 x.f2 ∧ wf3 x.f3 ∧ wf3 x.f4
theorem o183 : Opens Try.prog 183 k183 wf183 := opens_iso (opens_struct Try.underlying183 (by kernel_rfl) (opensF_cons rfl o3 (opensF_cons rfl o9 (opensF_cons rfl o9 (opensF_cons rfl o3 (opensF_one rfl o3)))))) (fun x : S183 => (x.f0, x.f1, x.f2, x.f3, x.f4)) (fun a => (⟨a.1, a.2.1, a.2.2.1, a.2.2.2.1, a.2.2.2.2⟩ : S183)) (fun _ => rfl)
abbrev wf196 := fun (xs : List S183) => xs.length ≤ maxLen ∧ ∀ x ∈ xs, wf183 x
theorem o196 : Opens Try.prog 196 (Kd.slice 183 k183) wf196 := opens_slice 183 Try.underlying196 (by kernel_rfl) o183
abbrev wf198 := fun (x : S198) => wf196 x.f0
theorem o198 : Opens Try.prog 198 k198 wf198 := opens_iso (opens_struct Try.underlying198 (by kernel_rfl) (opensF_one rfl o196)) (fun x : S198 => (x.f0)) (fun a => (⟨a⟩ : S198)) (fun _ => rfl)
abbrev wf184 := fun (xs : List S198) => xs.length ≤ maxLen ∧ ∀ x ∈ xs, wf198 x
theorem o184 : Opens Try.prog 184 (Kd.slice 198 k198) wf184 := opens_slice 198 Try.underlying184 (by kernel_rfl) o198
abbrev wf186 := fun (x : S186) => wf183 x.f0 ∧ wf184 x.f1
theorem o186 : Opens Try.prog 186 k186 wf186 := opens_iso (opens_struct Try.underlying186 (by kernel_rfl) (opensF_cons rfl o183 (opensF_one rfl o184))) (fun x : S186 => (x.f0, x.f1)) (fun a => (⟨a.1, a.2⟩ : S186)) (fun _ => rfl)
abbrev wf158 := fun (xs : List S186) => xs.length ≤ maxLen ∧ ∀ x ∈ xs, wf186 x
theorem o158 : Opens Try.prog 158 (Kd.slice 186 k186) wf158 := opens_slice 186 Try.underlying158 (by kernel_rfl) o186
abbrev wf160 := fun (x : S160) => wf3 x.f0 ∧ wf158 x.f1
theorem o160 : Opens Try.prog 160 k160 wf160 := opens_iso (opens_struct Try.underlying160 (by kernel_rfl) (opensF_cons rfl o3 (opensF_one rfl o158))) (fun x : S160 => (x.f0, x.f1)) (fun a => (⟨a.1, a.2⟩ : S160)) (fun _ => rfl)
abbrev wf61 := fun (xs : List S160) => xs.length ≤ maxLen ∧ ∀ x ∈ xs, wf160 x
theorem o61 : Opens Try.prog 61 (Kd.slice 160 k160) wf61 := opens_slice 160 Try.underlying61 (by kernel_rfl) o160
abbrev wf63 := fun (x : (List S160)) => wf61 (x)
theorem o63 : Opens Try.prog 63 (Kd.slice 160 k160) wf63 := opens_struct Try.underlying63 (by kernel_rfl) (opensF_one rfl o61)
theorem c63 {w : World} {x : ((List S160))} {cs : List Value} (h : Kd.K (Kd.slice 160 k160) w x cs) : ∃ (A0 : Option Addr) (c0 : Nat), cs = [.slice A0 (x).length c0] ∧ (x).length ≤ c0 ∧ Kd.C k160 w A0 (x).length (x) := by
  obtain ⟨A0, c0, rfl, l0, r0⟩ := h
  exact ⟨A0, c0, rfl, l0, r0⟩
set_option maxRecDepth 100000 in
theorem lifted (os : Os) (started : os.Started) (H : Type) (enc : TypeId × Value → H) :
    ReturnsInHanded {} Try.checked os 6 .any (Rows.fnExactSpecificitySpec.pre6 enc Try.prog Try.f6 Rows.fnExactSpecificityRow.domain false) (Rows.fnExactSpecificitySpec.post enc Try.prog Try.f6 false true false false) := by
  refine returnsInHanded_of_change_sized (C := Try.checked) own started (by kernel_rfl) Try.func6
    (ChangeSpec.witness6 (enc := enc) (C := Try.checked) false ⟨#[], #[.agg #[.slice none 0 0]], []⟩ 8 (by kernel_rfl) (by kernel_rfl) (by kernel_rfl) (by kernel_rfl)) ?_
  intro W base args ds gs before hval0 hW hcnd hsz0 _
  have hval : ∀ (j : Nat) t v, Try.f6.params[j]? = some t → args[j]? = some v → Value.okWide Try.prog W .any base t v := hval0
  have hW' := hW
  obtain ⟨p, q, hA0, hV, rfl, hfz, hnd⟩ := hW
  have hA : DataW.TrodAll enc Try.prog W 0 (fun _ => true) true Try.f6.params.toList args.toList ds p := hA0
  rw [Try.params6] at hA hval
  obtain ⟨v0, vs0, d0, ds0, p0, q0, hargs, rfl, rfl, h0, r0⟩ := trodAll_cons hA
  obtain ⟨rfl, rfl, rfl⟩ := trodAll_nil r0
  obtain rfl : args = #[v0] := by cases args; simp_all
  obtain ⟨rfl, rfl⟩ := trodVars_none hV
  have k0 := h0
  have lt0 : ∀ x ∈ p0, x.block < W.heap.size := by obtain ⟨m, hm⟩ := k0; exact DataW.trod_lt m _ _ _ hm
  obtain ⟨fu0, hf0⟩ := h0
  obtain ⟨x0, hK0, hw0⟩ := o63.op hf0
  obtain ⟨cs0, rfl, hs0⟩ := okWide_struct Try.underlying63 (hval 0 63 v0 rfl rfl)
  obtain ⟨A0_0, c0_0, e0, l0_0, r0_0⟩ := c63 hK0
  have e0' : cs0 = #[.slice A0_0 (x0).length c0_0] := Array.toList_inj.mp e0
  subst e0'
  obtain ⟨k, hp⟩ := FnExactSpecificity_pure x0 hw0
  refine (laws_FnExactSpecificity.calls k _ _ (x0) true W r0_0 l0_0 hp).mono fun e W' ⟨he, bel⟩ => ?_
  subst he
  exact ⟨_, rfl, _, _, _, [], _, [], hW', trodAll_mk1 (shut_bool Try.underlying4 _), (trodAll_cons_mk (Below.trod laidOut (by kernel_rfl) (of_decide_eq_true (by kernel_rfl)) k0 bel lt0) trodAll_mk0), rfl, bel.frame _, fun h => by cases h⟩
set_option maxRecDepth 100000 in
theorem named : Try.pinned.checked.prog.funcNamed Rows.fnExactSpecificityRow.func = some 6 := by kernel_rfl
set_option maxRecDepth 100000 in
set_option maxHeartbeats 8000000 in
theorem closed : joinedFacts Try.pinned.checked.prog 6 Try.f6 Rows.fnExactSpecificitySpec Rows.fnExactSpecificityRow = true := by
  simp only [joinedFacts, Bool.and_eq_true]
  repeat' apply And.intro
  all_goals (as_aux_lemma => kernel_rfl)
theorem instd : Try.f6.isInstance Try.pinned.checked.prog Rows.fnExactSpecificityRow.origin Rows.fnExactSpecificityRow.targs := of_decide_eq_true (by kernel_rfl)
theorem wrapped : Try.f6.isWrapper Try.pinned.checked.prog Rows.fnExactSpecificityRow.wrapper Rows.fnExactSpecificityRow.mainSum := by unfold Func.isWrapper; first | (rw [if_pos (by decide +kernel)]; kernel_rfl) | (rw [if_neg (by decide +kernel)]; exact ⟨rfl, rfl⟩)
theorem over : Rows.fnExactSpecificityRow.holds Try.pinned (OpenSpec.ofChange Rows.fnExactSpecificitySpec) :=
  OpenClaim.holds_of_wide 6 Try.f6 rfl rfl rfl rfl rfl rfl rfl ⟨rfl, rfl, rfl, rfl, rfl⟩ rfl rfl rfl rfl rfl named Try.func6 closed instd wrapped
    (fun os started H enc _ => lifted os started H enc)
theorem proved : Rows.FnExactSpecificitySaid := over
#print axioms proved
end Go.Proofs.Ytjghahkecglgdaa.fnExactSpecificity
namespace Go.Proofs.Ytjghahkecglgdaa
/-- The row, under a short name, for the claim. -/
theorem fnExactSpecificity_holds : Rows.FnExactSpecificitySaid := fnExactSpecificity.proved
end Go.Proofs.Ytjghahkecglgdaa
