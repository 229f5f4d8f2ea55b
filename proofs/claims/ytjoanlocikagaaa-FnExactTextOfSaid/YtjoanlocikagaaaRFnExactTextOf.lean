/- FnExactTextOf: for every input the law returns true, and its arguments read as before. No condition beyond the given row's. -/
import Derived.Test.YtjoanlocikagaaaRows
import Derived.Test.YtjoanlocikagaaaQFnExactTextOfx10
import Derived.Test.YtjoanlocikagaaaQFnExactTextOfPure
import Derived.Test.YtjoanlocikagaaaOpen
import Derived.WalkKit
import Derived.ProofKit
import Derived.OpenShut
import Derived.ShutString
import Derived.ChangeOld
import Derived.Below
import Derived.SizedLaws
import Derived.Carry
namespace Go.Proofs.Ytjoanlocikagaaa.fnExactTextOf
open Go.ChangeShapes Go.WideShapes Go.ChangeAt Go.RowKit Go.Proofs.Ytjoanlocikagaaa.Opn Go.Proofs.Ytjoanlocikagaaa.QFnExactTextOf Go.Proofs.YtjoanlocikagaaaV.PrintWords Go.Proofs.YtjoanlocikagaaaV.PrintLast
open Go.ChangeMaps (open_string shut_string)
set_option linter.unusedVariables false
set_option linter.unusedSimpArgs false
theorem own : ownKnob Try.prog.godebug = none := by kernel_rfl
theorem laidOut : laidOutB Try.prog = true := by kernel_rfl
abbrev wf3 := fun (n : Int) => (Lit.int .i64 n).wf = true
theorem o3 : Opens Try.prog 3 (Kd.int .i64) wf3 := opens_int Try.underlying3 (by kernel_rfl)
abbrev wf9 := fun (s : ByteArray) => s.size ≤ maxLen
theorem o9 : Opens Try.prog 9 Kd.string wf9 := opens_string Try.underlying9 (by kernel_rfl)
abbrev wf251 := fun (x : S251) => wf9 x.f0 ∧ wf9 x.f1
theorem o251 : Opens Try.prog 251 k251 wf251 := opens_iso (opens_struct Try.underlying251 (by kernel_rfl) (opensF_cons rfl o9 (opensF_one rfl o9))) (fun x : S251 => (x.f0, x.f1)) (fun a => (⟨a.1, a.2⟩ : S251)) (fun _ => rfl)
abbrev wf191 := fun (xs : List S251) => xs.length ≤ maxLen ∧ ∀ x ∈ xs, wf251 x
theorem o191 : Opens Try.prog 191 (Kd.slice 251 k251) wf191 := opens_slice 251 Try.underlying191 (by kernel_rfl) o251
abbrev wf193 := fun (x : S193) => wf3 x.f0 ∧ wf3 x.f1 ∧ wf9 x.f2 ∧ wf191 x.f3 ∧ wf9 x.f4 ∧ wf3 x.f5
theorem o193 : Opens Try.prog 193 k193 wf193 := opens_iso (opens_struct Try.underlying193 (by kernel_rfl) (opensF_cons rfl o3 (opensF_cons rfl o3 (opensF_cons rfl o9 (opensF_cons rfl o191 (opensF_cons rfl o9 (opensF_one rfl o3))))))) (fun x : S193 => (x.f0, x.f1, x.f2, x.f3, x.f4, x.f5)) (fun a => (⟨a.1, a.2.1, a.2.2.1, a.2.2.2.1, a.2.2.2.2.1, a.2.2.2.2.2⟩ : S193)) (fun _ => rfl)
abbrev wf50 := fun (xs : List S193) => xs.length ≤ maxLen ∧ ∀ x ∈ xs, wf193 x
theorem o50 : Opens Try.prog 50 (Kd.slice 193 k193) wf50 := opens_slice 193 Try.underlying50 (by kernel_rfl) o193
abbrev wf52 := fun (x : (List S193)) => wf50 (x)
theorem o52 : Opens Try.prog 52 (Kd.slice 193 k193) wf52 := opens_struct Try.underlying52 (by kernel_rfl) (opensF_one rfl o50)
theorem c52 {w : World} {x : ((List S193))} {cs : List Value} (h : Kd.K (Kd.slice 193 k193) w x cs) : ∃ (A0 : Option Addr) (c0 : Nat), cs = [.slice A0 (x).length c0] ∧ (x).length ≤ c0 ∧ Kd.C k193 w A0 (x).length (x) := by
  obtain ⟨A0, c0, rfl, l0, r0⟩ := h
  exact ⟨A0, c0, rfl, l0, r0⟩
set_option maxRecDepth 100000 in
theorem lifted (os : Os) (started : os.Started) (H : Type) (enc : TypeId × Value → H) :
    ReturnsInHanded {} Try.checked os 12 .any (Rows.fnExactTextOfSpec.pre6 enc Try.prog Try.f12 Rows.fnExactTextOfRow.domain false) (Rows.fnExactTextOfSpec.post enc Try.prog Try.f12 false true false false) := by
  refine returnsInHanded_of_change_sized (C := Try.checked) own started (by kernel_rfl) Try.func12
    (ChangeSpec.witness6 (enc := enc) (C := Try.checked) false ⟨#[], #[.agg #[.slice none 0 0], .int .i64 0], []⟩ 8 (by kernel_rfl) (by kernel_rfl) (by kernel_rfl) (by kernel_rfl)) ?_
  intro W base args ds gs before hval0 hW hcnd hsz0 _
  have hval : ∀ (j : Nat) t v, Try.f12.params[j]? = some t → args[j]? = some v → Value.okWide Try.prog W .any base t v := hval0
  have hW' := hW
  obtain ⟨p, q, hA0, hV, rfl, hfz, hnd⟩ := hW
  have hA : DataW.TrodAll enc Try.prog W 0 (fun _ => true) true Try.f12.params.toList args.toList ds p := hA0
  rw [Try.params12] at hA hval
  obtain ⟨v0, vs0, d0, ds0, p0, q0, hargs, rfl, rfl, h0, r0⟩ := trodAll_cons hA
  obtain ⟨v1, vs1, d1, ds1, p1, q1, rfl, rfl, rfl, h1, r1⟩ := trodAll_cons r0
  obtain ⟨rfl, rfl, rfl⟩ := trodAll_nil r1
  obtain rfl : args = #[v0, v1] := by cases args; simp_all
  obtain ⟨rfl, rfl⟩ := trodVars_none hV
  have k0 := h0
  have lt0 : ∀ x ∈ p0, x.block < W.heap.size := by obtain ⟨m, hm⟩ := k0; exact DataW.trod_lt m _ _ _ hm
  obtain ⟨fu0, hf0⟩ := h0
  obtain ⟨x0, hK0, hw0⟩ := o52.op hf0
  obtain ⟨cs0, rfl, hs0⟩ := okWide_struct Try.underlying52 (hval 0 52 v0 rfl rfl)
  obtain ⟨A0_0, c0_0, e0, l0_0, r0_0⟩ := c52 hK0
  have e0' : cs0 = #[.slice A0_0 (x0).length c0_0] := Array.toList_inj.mp e0
  subst e0'
  have k1 := h1
  have lt1 : ∀ x ∈ p1, x.block < W.heap.size := by obtain ⟨m, hm⟩ := k1; exact DataW.trod_lt m _ _ _ hm
  obtain ⟨fu1, hf1⟩ := h1
  obtain ⟨x1, hK1, hw1⟩ := o3.op hf1
  obtain ⟨a1, rfl, _, _, _⟩ := open_int Try.underlying3 (hval 1 3 v1 rfl rfl) k1
  obtain rfl : x1 = a1 := by have e : [Value.int .i64 a1] = [Value.int .i64 x1] := hK1; injection e with e; injection e with _ e; exact e.symm
  obtain ⟨k, hp⟩ := FnExactTextOf_pure x0 x1 hw0 hw1
  refine (laws_FnExactTextOf.calls k _ _ (x0) x1 true W r0_0 l0_0 hp).mono fun e W' ⟨he, bel⟩ => ?_
  subst he
  exact ⟨_, rfl, _, _, _, [], _, [], hW', trodAll_mk1 (shut_bool Try.underlying4 _), (trodAll_cons_mk (Below.trod laidOut (by kernel_rfl) (of_decide_eq_true (by kernel_rfl)) k0 bel lt0) (trodAll_cons_mk (Below.trod laidOut (by kernel_rfl) (of_decide_eq_true (by kernel_rfl)) k1 bel lt1) trodAll_mk0)), rfl, bel.frame _, fun h => by cases h⟩
set_option maxRecDepth 100000 in
theorem named : Try.pinned.checked.prog.funcNamed Rows.fnExactTextOfRow.func = some 12 := by kernel_rfl
set_option maxRecDepth 100000 in
set_option maxHeartbeats 8000000 in
theorem closed : joinedFacts Try.pinned.checked.prog 12 Try.f12 Rows.fnExactTextOfSpec Rows.fnExactTextOfRow = true := by
  simp only [joinedFacts, Bool.and_eq_true]
  repeat' apply And.intro
  all_goals (as_aux_lemma => kernel_rfl)
theorem instd : Try.f12.isInstance Try.pinned.checked.prog Rows.fnExactTextOfRow.origin Rows.fnExactTextOfRow.targs := of_decide_eq_true (by kernel_rfl)
theorem wrapped : Try.f12.isWrapper Try.pinned.checked.prog Rows.fnExactTextOfRow.wrapper Rows.fnExactTextOfRow.mainSum := by unfold Func.isWrapper; first | (rw [if_pos (by decide +kernel)]; kernel_rfl) | (rw [if_neg (by decide +kernel)]; exact ⟨rfl, rfl⟩)
theorem over : Rows.fnExactTextOfRow.holds Try.pinned (OpenSpec.ofChange Rows.fnExactTextOfSpec) :=
  OpenClaim.holds_of_wide 12 Try.f12 rfl rfl rfl rfl rfl rfl rfl ⟨rfl, rfl, rfl, rfl, rfl⟩ rfl rfl rfl rfl rfl named Try.func12 closed instd wrapped
    (fun os started H enc _ => lifted os started H enc)
theorem proved : Rows.FnExactTextOfSaid := over
#print axioms proved
end Go.Proofs.Ytjoanlocikagaaa.fnExactTextOf
namespace Go.Proofs.Ytjoanlocikagaaa
/-- The row, under a short name, for the claim. -/
theorem fnExactTextOf_holds : Rows.FnExactTextOfSaid := fnExactTextOf.proved
end Go.Proofs.Ytjoanlocikagaaa
