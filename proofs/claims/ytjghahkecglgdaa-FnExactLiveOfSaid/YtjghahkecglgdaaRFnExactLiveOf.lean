/- FnExactLiveOf: for every input the law returns true, and its arguments read as before. No condition beyond the given row's. -/
import Derived.Test.YtjghahkecglgdaaRows
import Derived.Test.YtjghahkecglgdaaQFnExactLiveOfx9
import Derived.Test.YtjghahkecglgdaaQFnExactLiveOfPure
import Derived.Test.YtjghahkecglgdaaOpen
import Derived.WalkKit
import Derived.ProofKit
import Derived.OpenShut
import Derived.ShutString
import Derived.ChangeOld
import Derived.Below
import Derived.SizedLaws
import Derived.Carry
namespace Go.Proofs.Ytjghahkecglgdaa.fnExactLiveOf
open Go.ChangeShapes Go.WideShapes Go.ChangeAt Go.RowKit Go.Proofs.Ytjghahkecglgdaa.Opn Go.Proofs.Ytjghahkecglgdaa.QFnExactLiveOf Go.Proofs.YtjghahkecglgdaaV.PrintWords Go.Proofs.YtjghahkecglgdaaV.PrintLast
open Go.ChangeMaps (open_string shut_string)
set_option linter.unusedVariables false
set_option linter.unusedSimpArgs false
theorem own : ownKnob Try.prog.godebug = none := by kernel_rfl
theorem laidOut : laidOutB Try.prog = true := by kernel_rfl
abbrev wf3 := fun (n : Int) => (Lit.int .i64 n).wf = true
theorem o3 : Opens Try.prog 3 (Kd.int .i64) wf3 := opens_int Try.underlying3 (by kernel_rfl)
abbrev wf9 := fun (s : ByteArray) => s.size ≤ maxLen
theorem o9 : Opens Try.prog 9 Kd.string wf9 := opens_string Try.underlying9 (by kernel_rfl)
abbrev wf178 := fun (x : S178) => wf9 x.f0 ∧ wf9 x.f1
theorem o178 : Opens Try.prog 178 k178 wf178 := opens_iso (opens_struct Try.underlying178 (by kernel_rfl) (opensF_cons rfl o9 (opensF_one rfl o9))) (fun x : S178 => (x.f0, x.f1)) (fun a => (⟨a.1, a.2⟩ : S178)) (fun _ => rfl)
abbrev wf116 := fun (xs : List S178) => xs.length ≤ maxLen ∧ ∀ x ∈ xs, wf178 x
theorem o116 : Opens Try.prog 116 (Kd.slice 178 k178) wf116 := opens_slice 178 Try.underlying116 (by kernel_rfl) o178
abbrev wf118 := fun (x : S118) => wf3 x.f0 ∧ wf3 x.f1 ∧ wf9 x.f2 ∧ wf116 x.f3 ∧ wf9 x.f4 ∧ wf3 x.f5
theorem o118 : Opens Try.prog 118 k118 wf118 := opens_iso (opens_struct Try.underlying118 (by kernel_rfl) (opensF_cons rfl o3 (opensF_cons rfl o3 (opensF_cons rfl o9 (opensF_cons rfl o116 (opensF_cons rfl o9 (opensF_one rfl o3))))))) (fun x : S118 => (x.f0, x.f1, x.f2, x.f3, x.f4, x.f5)) (fun a => (⟨a.1, a.2.1, a.2.2.1, a.2.2.2.1, a.2.2.2.2.1, a.2.2.2.2.2⟩ : S118)) (fun _ => rfl)
abbrev wf29 := fun (xs : List S118) => xs.length ≤ maxLen ∧ ∀ x ∈ xs, wf118 x
theorem o29 : Opens Try.prog 29 (Kd.slice 118 k118) wf29 := opens_slice 118 Try.underlying29 (by kernel_rfl) o118
abbrev wf31 := fun (x : (List S118)) => wf29 (x)
theorem o31 : Opens Try.prog 31 (Kd.slice 118 k118) wf31 := opens_struct Try.underlying31 (by kernel_rfl) (opensF_one rfl o29)
theorem c31 {w : World} {x : ((List S118))} {cs : List Value} (h : Kd.K (Kd.slice 118 k118) w x cs) : ∃ (A0 : Option Addr) (c0 : Nat), cs = [.slice A0 (x).length c0] ∧ (x).length ≤ c0 ∧ Kd.C k118 w A0 (x).length (x) := by
  obtain ⟨A0, c0, rfl, l0, r0⟩ := h
  exact ⟨A0, c0, rfl, l0, r0⟩
set_option maxRecDepth 100000 in
theorem lifted (os : Os) (started : os.Started) (H : Type) (enc : TypeId × Value → H) :
    ReturnsInHanded {} Try.checked os 4 .any (Rows.fnExactLiveOfSpec.pre6 enc Try.prog Try.f4 Rows.fnExactLiveOfRow.domain false) (Rows.fnExactLiveOfSpec.post enc Try.prog Try.f4 false true false false) := by
  refine returnsInHanded_of_change_sized (C := Try.checked) own started (by kernel_rfl) Try.func4
    (ChangeSpec.witness6 (enc := enc) (C := Try.checked) false ⟨#[], #[.agg #[.slice none 0 0], .string ByteArray.empty], []⟩ 8 (by kernel_rfl) (by kernel_rfl) (by kernel_rfl) (by kernel_rfl)) ?_
  intro W base args ds gs before hval0 hW hcnd hsz0 _
  have hval : ∀ (j : Nat) t v, Try.f4.params[j]? = some t → args[j]? = some v → Value.okWide Try.prog W .any base t v := hval0
  have hW' := hW
  obtain ⟨p, q, hA0, hV, rfl, hfz, hnd⟩ := hW
  have hA : DataW.TrodAll enc Try.prog W 0 (fun _ => true) true Try.f4.params.toList args.toList ds p := hA0
  rw [Try.params4] at hA hval
  obtain ⟨v0, vs0, d0, ds0, p0, q0, hargs, rfl, rfl, h0, r0⟩ := trodAll_cons hA
  obtain ⟨v1, vs1, d1, ds1, p1, q1, rfl, rfl, rfl, h1, r1⟩ := trodAll_cons r0
  obtain ⟨rfl, rfl, rfl⟩ := trodAll_nil r1
  obtain rfl : args = #[v0, v1] := by cases args; simp_all
  obtain ⟨rfl, rfl⟩ := trodVars_none hV
  have k0 := h0
  have lt0 : ∀ x ∈ p0, x.block < W.heap.size := by obtain ⟨m, hm⟩ := k0; exact DataW.trod_lt m _ _ _ hm
  obtain ⟨fu0, hf0⟩ := h0
  obtain ⟨x0, hK0, hw0⟩ := o31.op hf0
  obtain ⟨cs0, rfl, hs0⟩ := okWide_struct Try.underlying31 (hval 0 31 v0 rfl rfl)
  obtain ⟨A0_0, c0_0, e0, l0_0, r0_0⟩ := c31 hK0
  have e0' : cs0 = #[.slice A0_0 (x0).length c0_0] := Array.toList_inj.mp e0
  subst e0'
  have k1 := h1
  have lt1 : ∀ x ∈ p1, x.block < W.heap.size := by obtain ⟨m, hm⟩ := k1; exact DataW.trod_lt m _ _ _ hm
  obtain ⟨fu1, hf1⟩ := h1
  obtain ⟨x1, hK1, hw1⟩ := o9.op hf1
  obtain ⟨a1, rfl, _⟩ := open_string Try.underlying9 (hval 1 9 v1 rfl rfl) k1
  obtain rfl : x1 = a1 := by have e : [Value.string a1] = [Value.string x1] := hK1; injection e with e; injection e with e; exact e.symm
  obtain ⟨k, hp⟩ := FnExactLiveOf_pure x0 x1 hw0 hw1
  refine (laws_FnExactLiveOf.calls k _ _ (x0) x1 true W r0_0 l0_0 hp).mono fun e W' ⟨he, bel⟩ => ?_
  subst he
  exact ⟨_, rfl, _, _, _, [], _, [], hW', trodAll_mk1 (shut_bool Try.underlying4 _), (trodAll_cons_mk (Below.trod laidOut (by kernel_rfl) (of_decide_eq_true (by kernel_rfl)) k0 bel lt0) (trodAll_cons_mk (Below.trod laidOut (by kernel_rfl) (of_decide_eq_true (by kernel_rfl)) k1 bel lt1) trodAll_mk0)), rfl, bel.frame _, fun h => by cases h⟩
set_option maxRecDepth 100000 in
theorem named : Try.pinned.checked.prog.funcNamed Rows.fnExactLiveOfRow.func = some 4 := by kernel_rfl
set_option maxRecDepth 100000 in
set_option maxHeartbeats 8000000 in
theorem closed : joinedFacts Try.pinned.checked.prog 4 Try.f4 Rows.fnExactLiveOfSpec Rows.fnExactLiveOfRow = true := by
  simp only [joinedFacts, Bool.and_eq_true]
  repeat' apply And.intro
  all_goals (as_aux_lemma => kernel_rfl)
theorem instd : Try.f4.isInstance Try.pinned.checked.prog Rows.fnExactLiveOfRow.origin Rows.fnExactLiveOfRow.targs := of_decide_eq_true (by kernel_rfl)
theorem wrapped : Try.f4.isWrapper Try.pinned.checked.prog Rows.fnExactLiveOfRow.wrapper Rows.fnExactLiveOfRow.mainSum := by unfold Func.isWrapper; first | (rw [if_pos (by decide +kernel)]; kernel_rfl) | (rw [if_neg (by decide +kernel)]; exact ⟨rfl, rfl⟩)
theorem over : Rows.fnExactLiveOfRow.holds Try.pinned (OpenSpec.ofChange Rows.fnExactLiveOfSpec) :=
  OpenClaim.holds_of_wide 4 Try.f4 rfl rfl rfl rfl rfl rfl rfl ⟨rfl, rfl, rfl, rfl, rfl⟩ rfl rfl rfl rfl rfl named Try.func4 closed instd wrapped
    (fun os started H enc _ => lifted os started H enc)
theorem proved : Rows.FnExactLiveOfSaid := over
#print axioms proved
end Go.Proofs.Ytjghahkecglgdaa.fnExactLiveOf
namespace Go.Proofs.Ytjghahkecglgdaa
/-- The row, under a short name, for the claim. -/
theorem fnExactLiveOf_holds : Rows.FnExactLiveOfSaid := fnExactLiveOf.proved
end Go.Proofs.Ytjghahkecglgdaa
