/- FnExactSpell: for every input the law returns true, and its arguments read as before. The library's table of the powers of ten holds what the program's text lays (the card ties it); no condition beyond the given row's. -/
import Derived.Test.YtonmeoaponeadaaGreatDoorRows
import Derived.Test.YtonmeoaponeadaaGreatDoorTie
import Derived.Test.YtonmeoaponeadaaGreatDoorCards
import Derived.Test.YtonmeoaponeadaaGreatDoorQFnExactSpellx11
import Derived.Test.YtonmeoaponeadaaGreatDoorQFnExactSpellPure
import Derived.Test.YtonmeoaponeadaaGreatDoorOpen
import Derived.WalkKit
import Derived.ProofKit
import Derived.OpenShut
import Derived.ShutString
import Derived.ChangeOld
import Derived.Below
import Derived.SizedLaws
import Derived.Carry
import Derived.LaidLaws
import Derived.Handed
import Derived.OpenVars
import Derived.SevenTiedAt
import Derived.Lib.LaidTab
namespace Go.Proofs.YtonmeoaponeadaaGreatDoor.fnExactSpell
open Go.ChangeShapes Go.WideShapes Go.ChangeAt Go.RowKit Go.Proofs.YtonmeoaponeadaaGreatDoor.Opn Go.Proofs.YtonmeoaponeadaaGreatDoor.QFnExactSpell Go.Proofs.YtonmeoaponeadaaGreatDoorV.PrintWords Go.Proofs.YtonmeoaponeadaaGreatDoorV.PrintLast
open Go.ChangeMaps (open_string shut_string)
set_option linter.unusedVariables false
set_option linter.unusedSimpArgs false
theorem own : ownKnob Tryz.prog.godebug = none := by kernel_rfl
theorem laidOut : laidOutB Tryz.prog = true := by kernel_rfl
abbrev wf3 := fun (n : Int) => (Lit.int .i64 n).wf = true
theorem o3 : Opens Tryz.prog 3 (Kd.int .i64) wf3 := opens_int Tryz.underlying3 (by kernel_rfl)
abbrev wf9 := fun (s : ByteArray) => s.size ≤ maxLen
theorem o9 : Opens Tryz.prog 9 Kd.string wf9 := opens_string Tryz.underlying9 (by kernel_rfl)
abbrev wf31 := fun (x : S31) => wf3 x.f0 ∧ wf9 x.f1 ∧ wf3 x.f2 ∧ wf9 x.f3
theorem o31 : Opens Tryz.prog 31 k31 wf31 := opens_iso (opens_struct Tryz.underlying31 (by kernel_rfl) (opensF_cons rfl o3 (opensF_cons rfl o9 (opensF_cons rfl o3 (opensF_one rfl o9))))) (fun x : S31 => (x.f0, x.f1, x.f2, x.f3)) (fun a => (⟨a.1, a.2.1, a.2.2.1, a.2.2.2⟩ : S31)) (fun _ => rfl)
abbrev wf22 := fun (xs : List S31) => xs.length ≤ maxLen ∧ ∀ x ∈ xs, wf31 x
theorem o22 : Opens Tryz.prog 22 (Kd.slice 31 k31) wf22 := opens_slice 31 Tryz.underlying22 (by kernel_rfl) o31
theorem row_laid : Rows.fnExactSpellRow.laid = [("math/bits.deBruijn32tab", Rows.laid_math_bits_deBruijn32tab), ("math/bits.deBruijn64tab", Rows.laid_math_bits_deBruijn64tab), ("internal/strconv.uint64pow10", Rows.laid_internal_strconv_uint64pow10)] := rfl
theorem gName : Tryz.prog.globalNamed "internal/strconv.uint64pow10" = some 0 := by kernel_rfl
theorem gType : (Tryz.prog.globals[0]?).map (·.type) = some 129 := by kernel_rfl
theorem tabEq : (Rows.laid_internal_strconv_uint64pow10 : DataW Unit) = Lib.tabData .u64 Lib.pow10Tab := by kernel_rfl
theorem tail {P : Program} {W : World} {x : String × DataW Unit} {l : List (String × DataW Unit)} (h : laidMet P (x :: l) W) : laidMet P l W := by
  obtain ⟨ps, ⟨g, t, cs, fuel, p, q, hg, ht, hv, hd, hr, e⟩, hn, hp⟩ := h
  subst e
  exact ⟨q, hr, (List.nodup_append.1 hn).2.1, fun b off hb => hp b off (List.mem_append_right _ hb)⟩
theorem of_laid {W : World} (h : laidMet Tryz.prog Rows.fnExactSpellRow.laid W) : Repl.GTab W := by
  rw [row_laid] at h
  have h2 := tail (tail h)
  rw [tabEq] at h2
  exact Lib.tabIs_of_head gName gType Tryz.underlying129 Tryz.underlying110 (by kernel_rfl) (by kernel_rfl) h2
/-- A world that meets the condition: the settled one, the tables laid. -/
noncomputable def laidWorld (os : Os) : World :=
  let w0 := World.holding Tryz.prog os ⟨#[], #[], []⟩
  { w0 with heap := ((w0.heap.modify 0 fun
      | .cells _ t frozen => .cells (Lib.pow10Tab.map fun z => Value.int .u64 z).toArray t frozen
      | o => o).modify 1 fun
      | .cells _ t frozen => .cells #[.int .u8 0, .int .u8 1, .int .u8 28, .int .u8 2, .int .u8 29, .int .u8 14, .int .u8 24, .int .u8 3, .int .u8 30, .int .u8 22, .int .u8 20, .int .u8 15, .int .u8 25, .int .u8 17, .int .u8 4, .int .u8 8, .int .u8 31, .int .u8 27, .int .u8 13, .int .u8 23, .int .u8 21, .int .u8 19, .int .u8 16, .int .u8 7, .int .u8 26, .int .u8 12, .int .u8 18, .int .u8 6, .int .u8 11, .int .u8 5, .int .u8 10, .int .u8 9] t frozen
      | o => o).modify 2 fun
      | .cells _ t frozen => .cells #[.int .u8 0, .int .u8 1, .int .u8 56, .int .u8 2, .int .u8 57, .int .u8 49, .int .u8 28, .int .u8 3, .int .u8 61, .int .u8 58, .int .u8 42, .int .u8 50, .int .u8 38, .int .u8 29, .int .u8 17, .int .u8 4, .int .u8 62, .int .u8 47, .int .u8 59, .int .u8 36, .int .u8 45, .int .u8 43, .int .u8 51, .int .u8 22, .int .u8 53, .int .u8 39, .int .u8 33, .int .u8 30, .int .u8 24, .int .u8 18, .int .u8 12, .int .u8 5, .int .u8 63, .int .u8 55, .int .u8 48, .int .u8 27, .int .u8 60, .int .u8 41, .int .u8 37, .int .u8 16, .int .u8 46, .int .u8 35, .int .u8 44, .int .u8 21, .int .u8 52, .int .u8 32, .int .u8 23, .int .u8 11, .int .u8 54, .int .u8 26, .int .u8 40, .int .u8 15, .int .u8 34, .int .u8 20, .int .u8 31, .int .u8 10, .int .u8 25, .int .u8 14, .int .u8 19, .int .u8 9, .int .u8 13, .int .u8 8, .int .u8 7, .int .u8 6] t frozen
      | o => o }
theorem laid_met (os : Os) (args : Array Value) : laidMet Tryz.prog Rows.fnExactSpellRow.laid ((laidWorld os).forCall (fun _ _ => 0) ⟨#[], args, []⟩).memory :=
  laidMet_of_run' 8 (by kernel_rfl) (by kernel_rfl)
set_option maxRecDepth 100000 in
theorem lifted (os : Os) (started : os.Started) (H : Type) (enc : TypeId × Value → H) :
    ReturnsInHanded {} Tryz.checked os 3 .any (fun w args => (Rows.fnExactSpellSpec.pre enc Tryz.prog Tryz.f3 Rows.fnExactSpellRow.domain false w args ∧ laidMet Tryz.prog Rows.fnExactSpellRow.laid w) ∧ sizedMet enc Tryz.prog Tryz.f3 (OpenSpec.ofChange Rows.fnExactSpellSpec) false w args)
      (Rows.fnExactSpellSpec.post enc Tryz.prog Tryz.f3 false true false false) := by
  refine returnsInHanded_of_change_and (C := Tryz.checked) (X := fun w _ => laidMet Tryz.prog Rows.fnExactSpellRow.laid w) (fun _ _ _ hh h => h.of_heap hh) own started (by kernel_rfl) Tryz.func3
    (ChangeSpec.witness_at (enc := enc) (C := Tryz.checked) (os := os) (X := fun w _ => laidMet Tryz.prog Rows.fnExactSpellRow.laid w) false (laidWorld os) #[.slice none 0 0] 8 rfl (by kernel_rfl) (by kernel_rfl) (by kernel_rfl) (by kernel_rfl) (by kernel_rfl) (laid_met os _)) ?_
  intro W base args ds gs before hval0 hW hcnd hsz0 hL _
  have hG := of_laid hL
  have hval : ∀ (j : Nat) t v, Tryz.f3.params[j]? = some t → args[j]? = some v → Value.okWide Tryz.prog W .any base t v := hval0
  have hW' := hW
  obtain ⟨p, q, hA0, hV, rfl, hfz, hnd⟩ := hW
  have hA : DataW.TrodAll enc Tryz.prog W 0 (fun _ => true) true Tryz.f3.params.toList args.toList ds p := hA0
  rw [Tryz.params3] at hA hval
  obtain ⟨v0, vs0, d0, ds0, p0, q0, hargs, rfl, rfl, h0, r0⟩ := trodAll_cons hA
  obtain ⟨rfl, rfl, rfl⟩ := trodAll_nil r0
  obtain rfl : args = #[v0] := by cases args; simp_all
  obtain ⟨rfl, rfl⟩ := trodVars_none hV
  have k0 := h0
  have lt0 : ∀ x ∈ p0, x.block < W.heap.size := by obtain ⟨m, hm⟩ := k0; exact DataW.trod_lt m _ _ _ hm
  obtain ⟨fu0, hf0⟩ := h0
  obtain ⟨x0, hK0, hw0⟩ := o22.op hf0
  obtain ⟨a0, len0, cap0, rfl⟩ := okWide_slice Tryz.underlying22 (hval 0 22 v0 rfl rfl)
  obtain ⟨A0, c0, e0, l0, rr0⟩ := hK0
  obtain ⟨rfl, rfl, rfl⟩ : a0 = A0 ∧ len0 = x0.length ∧ cap0 = c0 := by simpa [Value.cells] using e0
  obtain ⟨k, hp⟩ := FnExactSpell_pure x0 hw0
  refine (laws_FnExactSpell.calls k _ _ x0 true W rr0 l0 hG hp).mono fun e W' ⟨he, bel⟩ => ?_
  subst he
  exact ⟨_, rfl, _, _, _, [], _, [], hW', trodAll_mk1 (shut_bool Tryz.underlying4 _), (trodAll_cons_mk (Below.trod laidOut (by kernel_rfl) (of_decide_eq_true (by kernel_rfl)) k0 bel lt0) trodAll_mk0), rfl, bel.frame _, fun h => by cases h⟩
set_option maxRecDepth 100000 in
theorem named : Tryz.pinned.checked.prog.funcNamed Rows.fnExactSpellRow.func = some 3 := by kernel_rfl
set_option maxRecDepth 100000 in
set_option maxHeartbeats 8000000 in
theorem closed : joinedFacts Tryz.pinned.checked.prog 3 Tryz.f3 Rows.fnExactSpellSpec Rows.fnExactSpellRow = true := by
  simp only [joinedFacts, Bool.and_eq_true]
  repeat' apply And.intro
  all_goals (as_aux_lemma => kernel_rfl)
theorem instd : Tryz.f3.isInstance Tryz.pinned.checked.prog Rows.fnExactSpellRow.origin Rows.fnExactSpellRow.targs := of_decide_eq_true (by kernel_rfl)
theorem wrapped : Tryz.f3.isWrapper Tryz.pinned.checked.prog Rows.fnExactSpellRow.wrapper Rows.fnExactSpellRow.mainSum := by unfold Func.isWrapper; first | (rw [if_pos (by decide +kernel)]; kernel_rfl) | (rw [if_neg (by decide +kernel)]; exact ⟨rfl, rfl⟩)
theorem over : Rows.fnExactSpellRow.holds Tryz.pinned (OpenSpec.ofChange Rows.fnExactSpellSpec) :=
  OpenClaim.holds_of_wide 3 Tryz.f3 rfl rfl rfl rfl rfl rfl rfl ⟨rfl, rfl, rfl, rfl, rfl⟩ rfl rfl rfl rfl rfl named Tryz.func3 closed instd wrapped
    (fun os started H enc _ => lifted os started H enc)
theorem tied : Rows.FnExactSpellCardSaid :=
  Claim7.holds_tied_plain_at .later [] [.data, .data, .data] true (true, "758df0020ee7c74c556704fd2a1ceacb8bb3c1de7c45ecb7a631d9c18cfd9ef6") true
    over (fun _ h => by cases h) (by kernel_rfl) (fun _ h => by cases h) fnExactSpell_row_tie rfl ⟨rfl, rfl⟩ (by kernel_rfl) rfl
    (fun f fn hf hfn => by
      obtain rfl : f = 3 := Option.some.inj ((show Tryz.prog.funcNamed "loop.example/g00011/laws.FnExactSpell" = some 3 by kernel_rfl).symm.trans hf) |>.symm
      obtain rfl : fn = Tryz.f3 := (Option.some.inj (Tryz.func3.symm.trans hfn)).symm
      exact ⟨by kernel_rfl, fun j t ht => by
        rw [Tryz.params3] at ht
        have hm : t ∈ [22] := by simpa using Array.mem_of_getElem? ht
        have hall : ([22].all fun u => !Tryz.prog.wantsStandIn u) = true := by kernel_rfl
        exact (show Tryz.prog.wantsStandIn t = false by simpa using List.all_eq_true.1 hall t hm)⟩)
    (by kernel_rfl)
#print axioms tied
end Go.Proofs.YtonmeoaponeadaaGreatDoor.fnExactSpell
namespace Go.Proofs.YtonmeoaponeadaaGreatDoor
/-- The card, under a short name, for the claim. -/
theorem fnExactSpell_holds : Rows.FnExactSpellCardSaid := fnExactSpell.tied
end Go.Proofs.YtonmeoaponeadaaGreatDoor
