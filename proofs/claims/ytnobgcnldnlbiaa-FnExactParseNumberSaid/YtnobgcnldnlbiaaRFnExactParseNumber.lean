/- FnExactParseNumber: for every input the law returns true, and its arguments read as before. No condition beyond the given row's. -/
import Derived.Test.YtnobgcnldnlbiaaRows
import Derived.Test.YtnobgcnldnlbiaaPFnExactParseNumberx3
import Derived.Test.YtnobgcnldnlbiaaPFnExactParseNumberPure
import Derived.Test.YtnobgcnldnlbiaaOpen
import Derived.WalkKit
import Derived.ProofKit
import Derived.OpenShut
import Derived.ShutString
import Derived.ChangeOld
import Derived.Below
import Derived.SizedLaws
import Derived.Carry
namespace Go.Proofs.Ytnobgcnldnlbiaa.fnExactParseNumber
open Go.ChangeShapes Go.WideShapes Go.ChangeAt Go.RowKit Go.Proofs.Ytnobgcnldnlbiaa.Opn Go.Proofs.Ytnobgcnldnlbiaa.PFnExactParseNumber Go.Proofs.YtnobgcnldnlbiaaW.PrintWords Go.Proofs.YtnobgcnldnlbiaaW.PrintLast
open Go.ChangeMaps (open_string shut_string)
set_option linter.unusedVariables false
set_option linter.unusedSimpArgs false
theorem own : ownKnob Try.prog.godebug = none := by kernel_rfl
theorem laidOut : laidOutB Try.prog = true := by kernel_rfl
abbrev wf3 := fun (n : Int) => (Lit.int .i64 n).wf = true
theorem o3 : Opens Try.prog 3 (Kd.int .i64) wf3 := opens_int Try.underlying3 (by kernel_rfl)
abbrev wf9 := fun (s : ByteArray) => s.size ≤ maxLen
theorem o9 : Opens Try.prog 9 Kd.string wf9 := opens_string Try.underlying9 (by kernel_rfl)
abbrev wf60 := fun (x : S60) => wf3 x.f0 ∧ wf9 x.f1 ∧ wf3 x.f2 ∧ wf9 x.f3
theorem o60 : Opens Try.prog 60 k60 wf60 := opens_iso (opens_struct Try.underlying60 (by kernel_rfl) (opensF_cons rfl o3 (opensF_cons rfl o9 (opensF_cons rfl o3 (opensF_one rfl o9))))) (fun x : S60 => (x.f0, x.f1, x.f2, x.f3)) (fun a => (⟨a.1, a.2.1, a.2.2.1, a.2.2.2⟩ : S60)) (fun _ => rfl)
abbrev wf46 := fun (xs : List S60) => xs.length ≤ maxLen ∧ ∀ x ∈ xs, wf60 x
theorem o46 : Opens Try.prog 46 (Kd.slice 60 k60) wf46 := opens_slice 60 Try.underlying46 (by kernel_rfl) o60
set_option maxRecDepth 100000 in
theorem lifted (os : Os) (started : os.Started) (H : Type) (enc : TypeId × Value → H) :
    ReturnsInHanded {} Try.checked os 11 .any (Rows.fnExactParseNumberSpec.pre6 enc Try.prog Try.f11 Rows.fnExactParseNumberRow.domain false) (Rows.fnExactParseNumberSpec.post enc Try.prog Try.f11 false true false false) := by
  refine returnsInHanded_of_change_sized (C := Try.checked) own started (by kernel_rfl) Try.func11
    (ChangeSpec.witness6 (enc := enc) (C := Try.checked) false ⟨#[], #[.slice none 0 0], []⟩ 8 (by kernel_rfl) (by kernel_rfl) (by kernel_rfl) (by kernel_rfl)) ?_
  intro W base args ds gs before hval0 hW hcnd hsz0 _
  have hval : ∀ (j : Nat) t v, Try.f11.params[j]? = some t → args[j]? = some v → Value.okWide Try.prog W .any base t v := hval0
  have hW' := hW
  obtain ⟨p, q, hA0, hV, rfl, hfz, hnd⟩ := hW
  have hA : DataW.TrodAll enc Try.prog W 0 (fun _ => true) true Try.f11.params.toList args.toList ds p := hA0
  rw [Try.params11] at hA hval
  obtain ⟨v0, vs0, d0, ds0, p0, q0, hargs, rfl, rfl, h0, r0⟩ := trodAll_cons hA
  obtain ⟨rfl, rfl, rfl⟩ := trodAll_nil r0
  obtain rfl : args = #[v0] := by cases args; simp_all
  obtain ⟨rfl, rfl⟩ := trodVars_none hV
  have k0 := h0
  have lt0 : ∀ x ∈ p0, x.block < W.heap.size := by obtain ⟨m, hm⟩ := k0; exact DataW.trod_lt m _ _ _ hm
  obtain ⟨fu0, hf0⟩ := h0
  obtain ⟨x0, hK0, hw0⟩ := o46.op hf0
  obtain ⟨a0, len0, cap0, rfl⟩ := okWide_slice Try.underlying46 (hval 0 46 v0 rfl rfl)
  obtain ⟨A0, c0, e0, l0, r0⟩ := hK0
  obtain ⟨rfl, rfl, rfl⟩ : a0 = A0 ∧ len0 = x0.length ∧ cap0 = c0 := by simpa [Value.cells] using e0
  obtain ⟨k, hp⟩ := FnExactParseNumber_pure x0 hw0
  refine (laws_FnExactParseNumber.calls k _ _ x0 true W r0 l0 hp).mono fun e W' ⟨he, bel⟩ => ?_
  subst he
  exact ⟨_, rfl, _, _, _, [], _, [], hW', trodAll_mk1 (shut_bool Try.underlying4 _), (trodAll_cons_mk (Below.trod laidOut (by kernel_rfl) (of_decide_eq_true (by kernel_rfl)) k0 bel lt0) trodAll_mk0), rfl, bel.frame _, fun h => by cases h⟩
theorem over : Rows.fnExactParseNumberRow.holds Try.pinned (OpenSpec.ofChange Rows.fnExactParseNumberSpec) :=
  OpenClaim.holds_of_wide 11 Try.f11 rfl rfl rfl rfl rfl rfl rfl ⟨rfl, rfl, rfl, rfl, rfl⟩ rfl rfl rfl rfl rfl (by kernel_rfl) Try.func11 (by kernel_rfl)
    (of_decide_eq_true (by kernel_rfl)) (by unfold Func.isWrapper; first | (rw [if_pos (by decide +kernel)]; kernel_rfl) | (rw [if_neg (by decide +kernel)]; exact ⟨rfl, rfl⟩))
    (fun os started H enc _ => lifted os started H enc)
theorem proved : Rows.FnExactParseNumberSaid := over
#print axioms proved
end Go.Proofs.Ytnobgcnldnlbiaa.fnExactParseNumber
namespace Go.Proofs.Ytnobgcnldnlbiaa
/-- The row, under a short name, for the claim. -/
theorem fnExactParseNumber_holds : Rows.FnExactParseNumberSaid := fnExactParseNumber.proved
end Go.Proofs.Ytnobgcnldnlbiaa
