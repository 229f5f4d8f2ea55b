/- FnExactAdvance: for every input the law returns true, and its arguments read as before. No condition beyond the given row's. -/
import Derived.Test.YtiinihponcojkaaRows
import Derived.Test.YtiinihponcojkaaQFnExactAdvancex16
import Derived.Test.YtiinihponcojkaaQFnExactAdvancePure
import Derived.Test.YtiinihponcojkaaOpen
import Derived.WalkKit
import Derived.ProofKit
import Derived.OpenShut
import Derived.ShutString
import Derived.ChangeOld
import Derived.Below
import Derived.SizedLaws
import Derived.Carry
namespace Go.Proofs.Ytiinihponcojkaa.fnExactAdvance
open Go.ChangeShapes Go.WideShapes Go.ChangeAt Go.RowKit Go.Proofs.Ytiinihponcojkaa.Opn Go.Proofs.Ytiinihponcojkaa.QFnExactAdvance Go.Proofs.YtiinihponcojkaaV.PrintWords Go.Proofs.YtiinihponcojkaaV.PrintLast
open Go.ChangeMaps (open_string shut_string)
set_option linter.unusedVariables false
set_option linter.unusedSimpArgs false
theorem own : ownKnob Try.prog.godebug = none := by kernel_rfl
theorem laidOut : laidOutB Try.prog = true := by kernel_rfl
abbrev wf3 := fun (n : Int) => (Lit.int .i64 n).wf = true
theorem o3 : Opens Try.prog 3 (Kd.int .i64) wf3 := opens_int Try.underlying3 (by kernel_rfl)
abbrev wf86 := fun (x : S86) => wf3 x.f0 ∧ wf3 x.f1
theorem o86 : Opens Try.prog 86 k86 wf86 := opens_iso (opens_struct Try.underlying86 (by kernel_rfl) (opensF_cons rfl o3 (opensF_one rfl o3))) (fun x : S86 => (x.f0, x.f1)) (fun a => (⟨a.1, a.2⟩ : S86)) (fun _ => rfl)
abbrev wf22 := fun (xs : List S86) => xs.length ≤ maxLen ∧ ∀ x ∈ xs, wf86 x
theorem o22 : Opens Try.prog 22 (Kd.slice 86 k86) wf22 := opens_slice 86 Try.underlying22 (by kernel_rfl) o86
abbrev wf88 := fun (x : S88) => wf3 x.f0 ∧ wf3 x.f1 ∧ wf3 x.f2
theorem o88 : Opens Try.prog 88 k88 wf88 := opens_iso (opens_struct Try.underlying88 (by kernel_rfl) (opensF_cons rfl o3 (opensF_cons rfl o3 (opensF_one rfl o3)))) (fun x : S88 => (x.f0, x.f1, x.f2)) (fun a => (⟨a.1, a.2.1, a.2.2⟩ : S88)) (fun _ => rfl)
abbrev wf23 := fun (xs : List S88) => xs.length ≤ maxLen ∧ ∀ x ∈ xs, wf88 x
theorem o23 : Opens Try.prog 23 (Kd.slice 88 k88) wf23 := opens_slice 88 Try.underlying23 (by kernel_rfl) o88
abbrev wf90 := fun (x : S90) => wf3 x.f0 ∧ wf3 x.f1 ∧ wf3 x.f2
theorem o90 : Opens Try.prog 90 k90 wf90 := opens_iso (opens_struct Try.underlying90 (by kernel_rfl) (opensF_cons rfl o3 (opensF_cons rfl o3 (opensF_one rfl o3)))) (fun x : S90 => (x.f0, x.f1, x.f2)) (fun a => (⟨a.1, a.2.1, a.2.2⟩ : S90)) (fun _ => rfl)
abbrev wf24 := fun (xs : List S90) => xs.length ≤ maxLen ∧ ∀ x ∈ xs, wf90 x
theorem o24 : Opens Try.prog 24 (Kd.slice 90 k90) wf24 := opens_slice 90 Try.underlying24 (by kernel_rfl) o90
abbrev wf26 := fun (x : Int × Int × Int × Int × (List S86) × (List S88) × (List S90)) => wf3 (x.1) ∧ wf3 (x.2.1) ∧ wf3 (x.2.2.1) ∧ wf3 (x.2.2.2.1) ∧ wf22 (x.2.2.2.2.1) ∧ wf23 (x.2.2.2.2.2.1) ∧ wf24 (x.2.2.2.2.2.2)
theorem o26 : Opens Try.prog 26 (Kd.pair (Kd.int .i64) (Kd.pair (Kd.int .i64) (Kd.pair (Kd.int .i64) (Kd.pair (Kd.int .i64) (Kd.pair (Kd.slice 86 k86) (Kd.pair (Kd.slice 88 k88) (Kd.slice 90 k90))))))) wf26 := opens_struct Try.underlying26 (by kernel_rfl) (opensF_cons rfl o3 (opensF_cons rfl o3 (opensF_cons rfl o3 (opensF_cons rfl o3 (opensF_cons rfl o22 (opensF_cons rfl o23 (opensF_one rfl o24)))))))
abbrev wf27 := fun (xs : List Int) => xs.length ≤ maxLen ∧ ∀ x ∈ xs, wf3 x
theorem o27 : Opens Try.prog 27 (Kd.slice 3 (Kd.int .i64)) wf27 := opens_slice 3 Try.underlying27 (by kernel_rfl) o3
theorem c26 {w : World} {x : (Int × Int × Int × Int × (List S86) × (List S88) × (List S90))} {cs : List Value} (h : Kd.K (Kd.pair (Kd.int .i64) (Kd.pair (Kd.int .i64) (Kd.pair (Kd.int .i64) (Kd.pair (Kd.int .i64) (Kd.pair (Kd.slice 86 k86) (Kd.pair (Kd.slice 88 k88) (Kd.slice 90 k90))))))) w x cs) : ∃ (A4 : Option Addr) (c4 : Nat) (A5 : Option Addr) (c5 : Nat) (A6 : Option Addr) (c6 : Nat), cs = [.int .i64 x.1, .int .i64 x.2.1, .int .i64 x.2.2.1, .int .i64 x.2.2.2.1, .slice A4 (x.2.2.2.2.1).length c4, .slice A5 (x.2.2.2.2.2.1).length c5, .slice A6 (x.2.2.2.2.2.2).length c6] ∧ (x.2.2.2.2.1).length ≤ c4 ∧ Kd.C k86 w A4 (x.2.2.2.2.1).length (x.2.2.2.2.1) ∧ (x.2.2.2.2.2.1).length ≤ c5 ∧ Kd.C k88 w A5 (x.2.2.2.2.2.1).length (x.2.2.2.2.2.1) ∧ (x.2.2.2.2.2.2).length ≤ c6 ∧ Kd.C k90 w A6 (x.2.2.2.2.2.2).length (x.2.2.2.2.2.2) := by
  obtain ⟨_, _, rfl, rfl, ⟨_, _, rfl, rfl, ⟨_, _, rfl, rfl, ⟨_, _, rfl, rfl, ⟨_, _, rfl, ⟨A4, c4, rfl, l4, r4⟩, ⟨_, _, rfl, ⟨A5, c5, rfl, l5, r5⟩, ⟨A6, c6, rfl, l6, r6⟩⟩⟩⟩⟩⟩⟩ := h
  exact ⟨A4, c4, A5, c5, A6, c6, rfl, l4, r4, l5, r5, l6, r6⟩
set_option maxRecDepth 100000 in
theorem lifted (os : Os) (started : os.Started) (H : Type) (enc : TypeId × Value → H) :
    ReturnsInHanded {} Try.checked os 4 .any (Rows.fnExactAdvanceSpec.pre6 enc Try.prog Try.f4 Rows.fnExactAdvanceRow.domain false) (Rows.fnExactAdvanceSpec.post enc Try.prog Try.f4 false true false false) := by
  refine returnsInHanded_of_change_sized (C := Try.checked) own started (by kernel_rfl) Try.func4
    (ChangeSpec.witness6 (enc := enc) (C := Try.checked) false ⟨#[], #[.agg #[.int .i64 0, .int .i64 0, .int .i64 0, .int .i64 0, .slice none 0 0, .slice none 0 0, .slice none 0 0], .slice none 0 0, .int .i64 0], []⟩ 8 (by kernel_rfl) (by kernel_rfl) (by kernel_rfl) (by kernel_rfl)) ?_
  intro W base args ds gs before hval0 hW hcnd hsz0 _
  have hval : ∀ (j : Nat) t v, Try.f4.params[j]? = some t → args[j]? = some v → Value.okWide Try.prog W .any base t v := hval0
  have hW' := hW
  obtain ⟨p, q, hA0, hV, rfl, hfz, hnd⟩ := hW
  have hA : DataW.TrodAll enc Try.prog W 0 (fun _ => true) true Try.f4.params.toList args.toList ds p := hA0
  rw [Try.params4] at hA hval
  obtain ⟨v0, vs0, d0, ds0, p0, q0, hargs, rfl, rfl, h0, r0⟩ := trodAll_cons hA
  obtain ⟨v1, vs1, d1, ds1, p1, q1, rfl, rfl, rfl, h1, r1⟩ := trodAll_cons r0
  obtain ⟨v2, vs2, d2, ds2, p2, q2, rfl, rfl, rfl, h2, r2⟩ := trodAll_cons r1
  obtain ⟨rfl, rfl, rfl⟩ := trodAll_nil r2
  obtain rfl : args = #[v0, v1, v2] := by cases args; simp_all
  obtain ⟨rfl, rfl⟩ := trodVars_none hV
  have k0 := h0
  have lt0 : ∀ x ∈ p0, x.block < W.heap.size := by obtain ⟨m, hm⟩ := k0; exact DataW.trod_lt m _ _ _ hm
  obtain ⟨fu0, hf0⟩ := h0
  obtain ⟨x0, hK0, hw0⟩ := o26.op hf0
  obtain ⟨cs0, rfl, hs0⟩ := okWide_struct Try.underlying26 (hval 0 26 v0 rfl rfl)
  obtain ⟨A0_4, c0_4, A0_5, c0_5, A0_6, c0_6, e0, l0_4, r0_4, l0_5, r0_5, l0_6, r0_6⟩ := c26 hK0
  have e0' : cs0 = #[.int .i64 x0.1, .int .i64 x0.2.1, .int .i64 x0.2.2.1, .int .i64 x0.2.2.2.1, .slice A0_4 (x0.2.2.2.2.1).length c0_4, .slice A0_5 (x0.2.2.2.2.2.1).length c0_5, .slice A0_6 (x0.2.2.2.2.2.2).length c0_6] := Array.toList_inj.mp e0
  subst e0'
  have k1 := h1
  have lt1 : ∀ x ∈ p1, x.block < W.heap.size := by obtain ⟨m, hm⟩ := k1; exact DataW.trod_lt m _ _ _ hm
  obtain ⟨fu1, hf1⟩ := h1
  obtain ⟨x1, hK1, hw1⟩ := o27.op hf1
  obtain ⟨a1, len1, cap1, rfl⟩ := okWide_slice Try.underlying27 (hval 1 27 v1 rfl rfl)
  obtain ⟨A1, c1, e1, l1, rr1⟩ := hK1
  obtain ⟨rfl, rfl, rfl⟩ : a1 = A1 ∧ len1 = x1.length ∧ cap1 = c1 := by simpa [Value.cells] using e1
  have k2 := h2
  have lt2 : ∀ x ∈ p2, x.block < W.heap.size := by obtain ⟨m, hm⟩ := k2; exact DataW.trod_lt m _ _ _ hm
  obtain ⟨fu2, hf2⟩ := h2
  obtain ⟨x2, hK2, hw2⟩ := o3.op hf2
  obtain ⟨a2, rfl, _, _, _⟩ := open_int Try.underlying3 (hval 2 3 v2 rfl rfl) k2
  obtain rfl : x2 = a2 := by have e : [Value.int .i64 a2] = [Value.int .i64 x2] := hK2; injection e with e; injection e with _ e; exact e.symm
  obtain ⟨k, hp⟩ := FnExactAdvance_pure x0 x1 x2 hw0 hw1 hw2
  refine (laws_FnExactAdvance.calls k (x0.1) (x0.2.1) (x0.2.2.1) (x0.2.2.2.1) _ _ (x0.2.2.2.2.1) _ _ (x0.2.2.2.2.2.1) _ _ (x0.2.2.2.2.2.2) _ _ x1 x2 true W r0_4 l0_4 r0_5 l0_5 r0_6 l0_6 rr1 l1 hp).mono fun e W' ⟨he, bel⟩ => ?_
  subst he
  exact ⟨_, rfl, _, _, _, [], _, [], hW', trodAll_mk1 (shut_bool Try.underlying4 _), (trodAll_cons_mk (Below.trod laidOut (by kernel_rfl) (of_decide_eq_true (by kernel_rfl)) k0 bel lt0) (trodAll_cons_mk (Below.trod laidOut (by kernel_rfl) (of_decide_eq_true (by kernel_rfl)) k1 bel lt1) (trodAll_cons_mk (Below.trod laidOut (by kernel_rfl) (of_decide_eq_true (by kernel_rfl)) k2 bel lt2) trodAll_mk0))), rfl, bel.frame _, fun h => by cases h⟩
set_option maxRecDepth 100000 in
theorem named : Try.pinned.checked.prog.funcNamed Rows.fnExactAdvanceRow.func = some 4 := by kernel_rfl
set_option maxRecDepth 100000 in
set_option maxHeartbeats 8000000 in
theorem closed : joinedFacts Try.pinned.checked.prog 4 Try.f4 Rows.fnExactAdvanceSpec Rows.fnExactAdvanceRow = true := by
  simp only [joinedFacts, Bool.and_eq_true]
  repeat' apply And.intro
  all_goals (as_aux_lemma => kernel_rfl)
theorem instd : Try.f4.isInstance Try.pinned.checked.prog Rows.fnExactAdvanceRow.origin Rows.fnExactAdvanceRow.targs := of_decide_eq_true (by kernel_rfl)
theorem wrapped : Try.f4.isWrapper Try.pinned.checked.prog Rows.fnExactAdvanceRow.wrapper Rows.fnExactAdvanceRow.mainSum := by unfold Func.isWrapper; first | (rw [if_pos (by decide +kernel)]; kernel_rfl) | (rw [if_neg (by decide +kernel)]; exact ⟨rfl, rfl⟩)
theorem over : Rows.fnExactAdvanceRow.holds Try.pinned (OpenSpec.ofChange Rows.fnExactAdvanceSpec) :=
  OpenClaim.holds_of_wide 4 Try.f4 rfl rfl rfl rfl rfl rfl rfl ⟨rfl, rfl, rfl, rfl, rfl⟩ rfl rfl rfl rfl rfl named Try.func4 closed instd wrapped
    (fun os started H enc _ => lifted os started H enc)
theorem proved : Rows.FnExactAdvanceSaid := over
#print axioms proved
end Go.Proofs.Ytiinihponcojkaa.fnExactAdvance
namespace Go.Proofs.Ytiinihponcojkaa
/-- The row, under a short name, for the claim. -/
theorem fnExactAdvance_holds : Rows.FnExactAdvanceSaid := fnExactAdvance.proved
end Go.Proofs.Ytiinihponcojkaa
