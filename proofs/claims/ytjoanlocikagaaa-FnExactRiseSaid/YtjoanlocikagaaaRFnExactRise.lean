/- FnExactRise: for every input the law returns true, and its arguments read as before. No condition beyond the given row's. -/
import Derived.Test.YtjoanlocikagaaaRows
import Derived.Test.YtjoanlocikagaaaQFnExactRisex9
import Derived.Test.YtjoanlocikagaaaQFnExactRisePure
import Derived.Test.YtjoanlocikagaaaOpen
import Derived.WalkKit
import Derived.ProofKit
import Derived.OpenShut
import Derived.ShutString
import Derived.ChangeOld
import Derived.Below
import Derived.SizedLaws
import Derived.Carry
namespace Go.Proofs.Ytjoanlocikagaaa.fnExactRise
open Go.ChangeShapes Go.WideShapes Go.ChangeAt Go.RowKit Go.Proofs.Ytjoanlocikagaaa.Opn Go.Proofs.Ytjoanlocikagaaa.QFnExactRise Go.Proofs.YtjoanlocikagaaaV.PrintWords Go.Proofs.YtjoanlocikagaaaV.PrintLast
open Go.ChangeMaps (open_string shut_string)
set_option linter.unusedVariables false
set_option linter.unusedSimpArgs false
theorem own : ownKnob Try.prog.godebug = none := by kernel_rfl
theorem laidOut : laidOutB Try.prog = true := by kernel_rfl
abbrev wf3 := fun (n : Int) => (Lit.int .i64 n).wf = true
theorem o3 : Opens Try.prog 3 (Kd.int .i64) wf3 := opens_int Try.underlying3 (by kernel_rfl)
abbrev wf182 := fun (x : S182) => wf3 x.f0 ∧ wf3 x.f1
theorem o182 : Opens Try.prog 182 k182 wf182 := opens_iso (opens_struct Try.underlying182 (by kernel_rfl) (opensF_cons rfl o3 (opensF_one rfl o3))) (fun x : S182 => (x.f0, x.f1)) (fun a => (⟨a.1, a.2⟩ : S182)) (fun _ => rfl)
abbrev wf35 := fun (xs : List S182) => xs.length ≤ maxLen ∧ ∀ x ∈ xs, wf182 x
theorem o35 : Opens Try.prog 35 (Kd.slice 182 k182) wf35 := opens_slice 182 Try.underlying35 (by kernel_rfl) o182
abbrev wf184 := fun (x : S184) => wf3 x.f0 ∧ wf3 x.f1 ∧ wf3 x.f2
theorem o184 : Opens Try.prog 184 k184 wf184 := opens_iso (opens_struct Try.underlying184 (by kernel_rfl) (opensF_cons rfl o3 (opensF_cons rfl o3 (opensF_one rfl o3)))) (fun x : S184 => (x.f0, x.f1, x.f2)) (fun a => (⟨a.1, a.2.1, a.2.2⟩ : S184)) (fun _ => rfl)
abbrev wf36 := fun (xs : List S184) => xs.length ≤ maxLen ∧ ∀ x ∈ xs, wf184 x
theorem o36 : Opens Try.prog 36 (Kd.slice 184 k184) wf36 := opens_slice 184 Try.underlying36 (by kernel_rfl) o184
abbrev wf186 := fun (x : S186) => wf3 x.f0 ∧ wf3 x.f1 ∧ wf3 x.f2
theorem o186 : Opens Try.prog 186 k186 wf186 := opens_iso (opens_struct Try.underlying186 (by kernel_rfl) (opensF_cons rfl o3 (opensF_cons rfl o3 (opensF_one rfl o3)))) (fun x : S186 => (x.f0, x.f1, x.f2)) (fun a => (⟨a.1, a.2.1, a.2.2⟩ : S186)) (fun _ => rfl)
abbrev wf37 := fun (xs : List S186) => xs.length ≤ maxLen ∧ ∀ x ∈ xs, wf186 x
theorem o37 : Opens Try.prog 37 (Kd.slice 186 k186) wf37 := opens_slice 186 Try.underlying37 (by kernel_rfl) o186
abbrev wf39 := fun (x : Int × Int × Int × Int × (List S182) × (List S184) × (List S186)) => wf3 (x.1) ∧ wf3 (x.2.1) ∧ wf3 (x.2.2.1) ∧ wf3 (x.2.2.2.1) ∧ wf35 (x.2.2.2.2.1) ∧ wf36 (x.2.2.2.2.2.1) ∧ wf37 (x.2.2.2.2.2.2)
theorem o39 : Opens Try.prog 39 (Kd.pair (Kd.int .i64) (Kd.pair (Kd.int .i64) (Kd.pair (Kd.int .i64) (Kd.pair (Kd.int .i64) (Kd.pair (Kd.slice 182 k182) (Kd.pair (Kd.slice 184 k184) (Kd.slice 186 k186))))))) wf39 := opens_struct Try.underlying39 (by kernel_rfl) (opensF_cons rfl o3 (opensF_cons rfl o3 (opensF_cons rfl o3 (opensF_cons rfl o3 (opensF_cons rfl o35 (opensF_cons rfl o36 (opensF_one rfl o37)))))))
theorem c39 {w : World} {x : (Int × Int × Int × Int × (List S182) × (List S184) × (List S186))} {cs : List Value} (h : Kd.K (Kd.pair (Kd.int .i64) (Kd.pair (Kd.int .i64) (Kd.pair (Kd.int .i64) (Kd.pair (Kd.int .i64) (Kd.pair (Kd.slice 182 k182) (Kd.pair (Kd.slice 184 k184) (Kd.slice 186 k186))))))) w x cs) : ∃ (A4 : Option Addr) (c4 : Nat) (A5 : Option Addr) (c5 : Nat) (A6 : Option Addr) (c6 : Nat), cs = [.int .i64 x.1, .int .i64 x.2.1, .int .i64 x.2.2.1, .int .i64 x.2.2.2.1, .slice A4 (x.2.2.2.2.1).length c4, .slice A5 (x.2.2.2.2.2.1).length c5, .slice A6 (x.2.2.2.2.2.2).length c6] ∧ (x.2.2.2.2.1).length ≤ c4 ∧ Kd.C k182 w A4 (x.2.2.2.2.1).length (x.2.2.2.2.1) ∧ (x.2.2.2.2.2.1).length ≤ c5 ∧ Kd.C k184 w A5 (x.2.2.2.2.2.1).length (x.2.2.2.2.2.1) ∧ (x.2.2.2.2.2.2).length ≤ c6 ∧ Kd.C k186 w A6 (x.2.2.2.2.2.2).length (x.2.2.2.2.2.2) := by
  obtain ⟨_, _, rfl, rfl, ⟨_, _, rfl, rfl, ⟨_, _, rfl, rfl, ⟨_, _, rfl, rfl, ⟨_, _, rfl, ⟨A4, c4, rfl, l4, r4⟩, ⟨_, _, rfl, ⟨A5, c5, rfl, l5, r5⟩, ⟨A6, c6, rfl, l6, r6⟩⟩⟩⟩⟩⟩⟩ := h
  exact ⟨A4, c4, A5, c5, A6, c6, rfl, l4, r4, l5, r5, l6, r6⟩
set_option maxRecDepth 100000 in
theorem lifted (os : Os) (started : os.Started) (H : Type) (enc : TypeId × Value → H) :
    ReturnsInHanded {} Try.checked os 7 .any (Rows.fnExactRiseSpec.pre6 enc Try.prog Try.f7 Rows.fnExactRiseRow.domain false) (Rows.fnExactRiseSpec.post enc Try.prog Try.f7 false true false false) := by
  refine returnsInHanded_of_change_sized (C := Try.checked) own started (by kernel_rfl) Try.func7
    (ChangeSpec.witness6 (enc := enc) (C := Try.checked) false ⟨#[], #[.agg #[.int .i64 0, .int .i64 0, .int .i64 0, .int .i64 0, .slice none 0 0, .slice none 0 0, .slice none 0 0], .int .i64 0], []⟩ 8 (by kernel_rfl) (by kernel_rfl) (by kernel_rfl) (by kernel_rfl)) ?_
  intro W base args ds gs before hval0 hW hcnd hsz0 _
  have hval : ∀ (j : Nat) t v, Try.f7.params[j]? = some t → args[j]? = some v → Value.okWide Try.prog W .any base t v := hval0
  have hW' := hW
  obtain ⟨p, q, hA0, hV, rfl, hfz, hnd⟩ := hW
  have hA : DataW.TrodAll enc Try.prog W 0 (fun _ => true) true Try.f7.params.toList args.toList ds p := hA0
  rw [Try.params7] at hA hval
  obtain ⟨v0, vs0, d0, ds0, p0, q0, hargs, rfl, rfl, h0, r0⟩ := trodAll_cons hA
  obtain ⟨v1, vs1, d1, ds1, p1, q1, rfl, rfl, rfl, h1, r1⟩ := trodAll_cons r0
  obtain ⟨rfl, rfl, rfl⟩ := trodAll_nil r1
  obtain rfl : args = #[v0, v1] := by cases args; simp_all
  obtain ⟨rfl, rfl⟩ := trodVars_none hV
  have k0 := h0
  have lt0 : ∀ x ∈ p0, x.block < W.heap.size := by obtain ⟨m, hm⟩ := k0; exact DataW.trod_lt m _ _ _ hm
  obtain ⟨fu0, hf0⟩ := h0
  obtain ⟨x0, hK0, hw0⟩ := o39.op hf0
  obtain ⟨cs0, rfl, hs0⟩ := okWide_struct Try.underlying39 (hval 0 39 v0 rfl rfl)
  obtain ⟨A0_4, c0_4, A0_5, c0_5, A0_6, c0_6, e0, l0_4, r0_4, l0_5, r0_5, l0_6, r0_6⟩ := c39 hK0
  have e0' : cs0 = #[.int .i64 x0.1, .int .i64 x0.2.1, .int .i64 x0.2.2.1, .int .i64 x0.2.2.2.1, .slice A0_4 (x0.2.2.2.2.1).length c0_4, .slice A0_5 (x0.2.2.2.2.2.1).length c0_5, .slice A0_6 (x0.2.2.2.2.2.2).length c0_6] := Array.toList_inj.mp e0
  subst e0'
  have k1 := h1
  have lt1 : ∀ x ∈ p1, x.block < W.heap.size := by obtain ⟨m, hm⟩ := k1; exact DataW.trod_lt m _ _ _ hm
  obtain ⟨fu1, hf1⟩ := h1
  obtain ⟨x1, hK1, hw1⟩ := o3.op hf1
  obtain ⟨a1, rfl, _, _, _⟩ := open_int Try.underlying3 (hval 1 3 v1 rfl rfl) k1
  obtain rfl : x1 = a1 := by have e : [Value.int .i64 a1] = [Value.int .i64 x1] := hK1; injection e with e; injection e with _ e; exact e.symm
  obtain ⟨k, hp⟩ := FnExactRise_pure x0 x1 hw0 hw1
  refine (laws_FnExactRise.calls k (x0.1) (x0.2.1) (x0.2.2.1) (x0.2.2.2.1) _ _ (x0.2.2.2.2.1) _ _ (x0.2.2.2.2.2.1) _ _ (x0.2.2.2.2.2.2) x1 true W r0_4 l0_4 r0_5 l0_5 r0_6 l0_6 hp).mono fun e W' ⟨he, bel⟩ => ?_
  subst he
  exact ⟨_, rfl, _, _, _, [], _, [], hW', trodAll_mk1 (shut_bool Try.underlying4 _), (trodAll_cons_mk (Below.trod laidOut (by kernel_rfl) (of_decide_eq_true (by kernel_rfl)) k0 bel lt0) (trodAll_cons_mk (Below.trod laidOut (by kernel_rfl) (of_decide_eq_true (by kernel_rfl)) k1 bel lt1) trodAll_mk0)), rfl, bel.frame _, fun h => by cases h⟩
set_option maxRecDepth 100000 in
theorem named : Try.pinned.checked.prog.funcNamed Rows.fnExactRiseRow.func = some 7 := by kernel_rfl
set_option maxRecDepth 100000 in
set_option maxHeartbeats 8000000 in
theorem closed : joinedFacts Try.pinned.checked.prog 7 Try.f7 Rows.fnExactRiseSpec Rows.fnExactRiseRow = true := by
  simp only [joinedFacts, Bool.and_eq_true]
  repeat' apply And.intro
  all_goals (as_aux_lemma => kernel_rfl)
theorem instd : Try.f7.isInstance Try.pinned.checked.prog Rows.fnExactRiseRow.origin Rows.fnExactRiseRow.targs := of_decide_eq_true (by kernel_rfl)
theorem wrapped : Try.f7.isWrapper Try.pinned.checked.prog Rows.fnExactRiseRow.wrapper Rows.fnExactRiseRow.mainSum := by unfold Func.isWrapper; first | (rw [if_pos (by decide +kernel)]; kernel_rfl) | (rw [if_neg (by decide +kernel)]; exact ⟨rfl, rfl⟩)
theorem over : Rows.fnExactRiseRow.holds Try.pinned (OpenSpec.ofChange Rows.fnExactRiseSpec) :=
  OpenClaim.holds_of_wide 7 Try.f7 rfl rfl rfl rfl rfl rfl rfl ⟨rfl, rfl, rfl, rfl, rfl⟩ rfl rfl rfl rfl rfl named Try.func7 closed instd wrapped
    (fun os started H enc _ => lifted os started H enc)
theorem proved : Rows.FnExactRiseSaid := over
#print axioms proved
end Go.Proofs.Ytjoanlocikagaaa.fnExactRise
namespace Go.Proofs.Ytjoanlocikagaaa
/-- The row, under a short name, for the claim. -/
theorem fnExactRise_holds : Rows.FnExactRiseSaid := fnExactRise.proved
end Go.Proofs.Ytjoanlocikagaaa
