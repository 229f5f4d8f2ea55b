/- FnExactSelectorOk: for every input the law returns true, and its arguments read as before. No condition beyond the given row's. -/
import Derived.Test.YtjoanlocikagaaaRows
import Derived.Test.YtjoanlocikagaaaQFnExactSelectorOkx12
import Derived.Test.YtjoanlocikagaaaQFnExactSelectorOkPure
import Derived.Test.YtjoanlocikagaaaOpen
import Derived.WalkKit
import Derived.ProofKit
import Derived.OpenShut
import Derived.ShutString
import Derived.ChangeOld
import Derived.Below
import Derived.SizedLaws
import Derived.Carry
namespace Go.Proofs.Ytjoanlocikagaaa.fnExactSelectorOk
open Go.ChangeShapes Go.WideShapes Go.ChangeAt Go.RowKit Go.Proofs.Ytjoanlocikagaaa.Opn Go.Proofs.Ytjoanlocikagaaa.QFnExactSelectorOk Go.Proofs.YtjoanlocikagaaaW.PrintWords Go.Proofs.YtjoanlocikagaaaW.PrintLast
open Go.ChangeMaps (open_string shut_string)
set_option linter.unusedVariables false
set_option linter.unusedSimpArgs false
theorem own : ownKnob Try.prog.godebug = none := by kernel_rfl
theorem laidOut : laidOutB Try.prog = true := by kernel_rfl
abbrev wf3 := fun (n : Int) => (Lit.int .i64 n).wf = true
theorem o3 : Opens Try.prog 3 (Kd.int .i64) wf3 := opens_int Try.underlying3 (by kernel_rfl)
abbrev wf9 := fun (s : ByteArray) => s.size ≤ maxLen
theorem o9 : Opens Try.prog 9 Kd.string wf9 := opens_string Try.underlying9 (by kernel_rfl)
abbrev wf270 := fun (x : S270) => wf3 x.f0 ∧ wf9 x.f1 ∧ wf9 x.f2 ∧ wf3 x.f3 ∧ wf3 x.f4
theorem o270 : Opens Try.prog 270 k270 wf270 := opens_iso (opens_struct Try.underlying270 (by kernel_rfl) (opensF_cons rfl o3 (opensF_cons rfl o9 (opensF_cons rfl o9 (opensF_cons rfl o3 (opensF_one rfl o3)))))) (fun x : S270 => (x.f0, x.f1, x.f2, x.f3, x.f4)) (fun a => (⟨a.1, a.2.1, a.2.2.1, a.2.2.2.1, a.2.2.2.2⟩ : S270)) (fun _ => rfl)
abbrev wf308 := fun (xs : List S270) => xs.length ≤ maxLen ∧ ∀ x ∈ xs, wf270 x
theorem o308 : Opens Try.prog 308 (Kd.slice 270 k270) wf308 := opens_slice 270 Try.underlying308 (by kernel_rfl) o270
abbrev wf310 := fun (x : S310) => wf308 x.f0
theorem o310 : Opens Try.prog 310 k310 wf310 := opens_iso (opens_struct Try.underlying310 (by kernel_rfl) (opensF_one rfl o308)) (fun x : S310 => (x.f0)) (fun a => (⟨a⟩ : S310)) (fun _ => rfl)
abbrev wf271 := fun (xs : List S310) => xs.length ≤ maxLen ∧ ∀ x ∈ xs, wf310 x
theorem o271 : Opens Try.prog 271 (Kd.slice 310 k310) wf271 := opens_slice 310 Try.underlying271 (by kernel_rfl) o310
abbrev wf273 := fun (x : S273) => wf270 x.f0 ∧ wf271 x.f1
theorem o273 : Opens Try.prog 273 k273 wf273 := opens_iso (opens_struct Try.underlying273 (by kernel_rfl) (opensF_cons rfl o270 (opensF_one rfl o271))) (fun x : S273 => (x.f0, x.f1)) (fun a => (⟨a.1, a.2⟩ : S273)) (fun _ => rfl)
abbrev wf222 := fun (xs : List S273) => xs.length ≤ maxLen ∧ ∀ x ∈ xs, wf273 x
theorem o222 : Opens Try.prog 222 (Kd.slice 273 k273) wf222 := opens_slice 273 Try.underlying222 (by kernel_rfl) o273
abbrev wf224 := fun (x : S224) => wf3 x.f0 ∧ wf222 x.f1
theorem o224 : Opens Try.prog 224 k224 wf224 := opens_iso (opens_struct Try.underlying224 (by kernel_rfl) (opensF_cons rfl o3 (opensF_one rfl o222))) (fun x : S224 => (x.f0, x.f1)) (fun a => (⟨a.1, a.2⟩ : S224)) (fun _ => rfl)
abbrev wf75 := fun (xs : List S224) => xs.length ≤ maxLen ∧ ∀ x ∈ xs, wf224 x
theorem o75 : Opens Try.prog 75 (Kd.slice 224 k224) wf75 := opens_slice 224 Try.underlying75 (by kernel_rfl) o224
abbrev wf77 := fun (x : (List S224)) => wf75 (x)
theorem o77 : Opens Try.prog 77 (Kd.slice 224 k224) wf77 := opens_struct Try.underlying77 (by kernel_rfl) (opensF_one rfl o75)
theorem c77 {w : World} {x : ((List S224))} {cs : List Value} (h : Kd.K (Kd.slice 224 k224) w x cs) : ∃ (A0 : Option Addr) (c0 : Nat), cs = [.slice A0 (x).length c0] ∧ (x).length ≤ c0 ∧ Kd.C k224 w A0 (x).length (x) := by
  obtain ⟨A0, c0, rfl, l0, r0⟩ := h
  exact ⟨A0, c0, rfl, l0, r0⟩
set_option maxRecDepth 100000 in
theorem lifted (os : Os) (started : os.Started) (H : Type) (enc : TypeId × Value → H) :
    ReturnsInHanded {} Try.checked os 13 .any (Rows.fnExactSelectorOkSpec.pre6 enc Try.prog Try.f13 Rows.fnExactSelectorOkRow.domain false) (Rows.fnExactSelectorOkSpec.post enc Try.prog Try.f13 false true false false) := by
  refine returnsInHanded_of_change_sized (C := Try.checked) own started (by kernel_rfl) Try.func13
    (ChangeSpec.witness6 (enc := enc) (C := Try.checked) false ⟨#[], #[.agg #[.slice none 0 0]], []⟩ 8 (by kernel_rfl) (by kernel_rfl) (by kernel_rfl) (by kernel_rfl)) ?_
  intro W base args ds gs before hval0 hW hcnd hsz0 _
  have hval : ∀ (j : Nat) t v, Try.f13.params[j]? = some t → args[j]? = some v → Value.okWide Try.prog W .any base t v := hval0
  have hW' := hW
  obtain ⟨p, q, hA0, hV, rfl, hfz, hnd⟩ := hW
  have hA : DataW.TrodAll enc Try.prog W 0 (fun _ => true) true Try.f13.params.toList args.toList ds p := hA0
  rw [Try.params13] at hA hval
  obtain ⟨v0, vs0, d0, ds0, p0, q0, hargs, rfl, rfl, h0, r0⟩ := trodAll_cons hA
  obtain ⟨rfl, rfl, rfl⟩ := trodAll_nil r0
  obtain rfl : args = #[v0] := by cases args; simp_all
  obtain ⟨rfl, rfl⟩ := trodVars_none hV
  have k0 := h0
  have lt0 : ∀ x ∈ p0, x.block < W.heap.size := by obtain ⟨m, hm⟩ := k0; exact DataW.trod_lt m _ _ _ hm
  obtain ⟨fu0, hf0⟩ := h0
  obtain ⟨x0, hK0, hw0⟩ := o77.op hf0
  obtain ⟨cs0, rfl, hs0⟩ := okWide_struct Try.underlying77 (hval 0 77 v0 rfl rfl)
  obtain ⟨A0_0, c0_0, e0, l0_0, r0_0⟩ := c77 hK0
  have e0' : cs0 = #[.slice A0_0 (x0).length c0_0] := Array.toList_inj.mp e0
  subst e0'
  obtain ⟨k, hp⟩ := FnExactSelectorOk_pure x0 hw0
  refine (laws_FnExactSelectorOk.calls k _ _ (x0) true W r0_0 l0_0 hp).mono fun e W' ⟨he, bel⟩ => ?_
  subst he
  exact ⟨_, rfl, _, _, _, [], _, [], hW', trodAll_mk1 (shut_bool Try.underlying4 _), (trodAll_cons_mk (Below.trod laidOut (by kernel_rfl) (of_decide_eq_true (by kernel_rfl)) k0 bel lt0) trodAll_mk0), rfl, bel.frame _, fun h => by cases h⟩
set_option maxRecDepth 100000 in
theorem named : Try.pinned.checked.prog.funcNamed Rows.fnExactSelectorOkRow.func = some 13 := by kernel_rfl
set_option maxRecDepth 100000 in
set_option maxHeartbeats 8000000 in
theorem closed : joinedFacts Try.pinned.checked.prog 13 Try.f13 Rows.fnExactSelectorOkSpec Rows.fnExactSelectorOkRow = true := by
  simp only [joinedFacts, Bool.and_eq_true]
  repeat' apply And.intro
  all_goals (as_aux_lemma => kernel_rfl)
theorem instd : Try.f13.isInstance Try.pinned.checked.prog Rows.fnExactSelectorOkRow.origin Rows.fnExactSelectorOkRow.targs := of_decide_eq_true (by kernel_rfl)
theorem wrapped : Try.f13.isWrapper Try.pinned.checked.prog Rows.fnExactSelectorOkRow.wrapper Rows.fnExactSelectorOkRow.mainSum := by unfold Func.isWrapper; first | (rw [if_pos (by decide +kernel)]; kernel_rfl) | (rw [if_neg (by decide +kernel)]; exact ⟨rfl, rfl⟩)
theorem over : Rows.fnExactSelectorOkRow.holds Try.pinned (OpenSpec.ofChange Rows.fnExactSelectorOkSpec) :=
  OpenClaim.holds_of_wide 13 Try.f13 rfl rfl rfl rfl rfl rfl rfl ⟨rfl, rfl, rfl, rfl, rfl⟩ rfl rfl rfl rfl rfl named Try.func13 closed instd wrapped
    (fun os started H enc _ => lifted os started H enc)
theorem proved : Rows.FnExactSelectorOkSaid := over
#print axioms proved
end Go.Proofs.Ytjoanlocikagaaa.fnExactSelectorOk
namespace Go.Proofs.Ytjoanlocikagaaa
/-- The row, under a short name, for the claim. -/
theorem fnExactSelectorOk_holds : Rows.FnExactSelectorOkSaid := fnExactSelectorOk.proved
end Go.Proofs.Ytjoanlocikagaaa
