/- FnExactInner: for every input the law returns true, and its arguments read as before. The library's table of blanks holds what the program's text lays (the card ties it); no condition beyond the given row's. -/
import Derived.Test.YtjojmfhgfeflnaaGreatDoorRows
import Derived.Test.YtjojmfhgfeflnaaGreatDoorTie
import Derived.Test.YtjojmfhgfeflnaaGreatDoorCards
import Derived.Test.YtjojmfhgfeflnaaGreatDoorQFnExactInnerx11
import Derived.Test.YtjojmfhgfeflnaaGreatDoorQFnExactInnerPure
import Derived.Test.YtjojmfhgfeflnaaGreatDoorOpen
import Derived.WalkKit
import Derived.ProofKit
import Derived.OpenShut
import Derived.ShutString
import Derived.ChangeOld
import Derived.Below
import Derived.SizedLaws
import Derived.Carry
import Derived.LaidLaws
import Derived.Handed
import Derived.OpenVars
import Derived.SevenTiedAt
import Derived.Lib.LaidTab
namespace Go.Proofs.YtjojmfhgfeflnaaGreatDoor.fnExactInner
open Go.ChangeShapes Go.WideShapes Go.ChangeAt Go.RowKit Go.Proofs.YtjojmfhgfeflnaaGreatDoor.Opn Go.Proofs.YtjojmfhgfeflnaaGreatDoor.QFnExactInner Go.Proofs.YtjojmfhgfeflnaaGreatDoorV.PrintWords Go.Proofs.YtjojmfhgfeflnaaGreatDoorV.PrintLast
open Go.ChangeMaps (open_string shut_string)
set_option linter.unusedVariables false
set_option linter.unusedSimpArgs false
theorem own : ownKnob Tryz.prog.godebug = none := by kernel_rfl
theorem laidOut : laidOutB Tryz.prog = true := by kernel_rfl
abbrev wf3 := fun (n : Int) => (Lit.int .i64 n).wf = true
theorem o3 : Opens Tryz.prog 3 (Kd.int .i64) wf3 := opens_int Tryz.underlying3 (by kernel_rfl)
abbrev wf9 := fun (s : ByteArray) => s.size ≤ maxLen
theorem o9 : Opens Tryz.prog 9 Kd.string wf9 := opens_string Tryz.underlying9 (by kernel_rfl)
abbrev wf91 := fun (x : S91) => wf9 x.f0 ∧ wf9 x.f1
theorem o91 : Opens Tryz.prog 91 k91 wf91 := opens_iso (opens_struct Tryz.underlying91 (by kernel_rfl) (opensF_cons rfl o9 (opensF_one rfl o9))) (fun x : S91 => (x.f0, x.f1)) (fun a => (⟨a.1, a.2⟩ : S91)) (fun _ => rfl)
abbrev wf61 := fun (xs : List S91) => xs.length ≤ maxLen ∧ ∀ x ∈ xs, wf91 x
theorem o61 : Opens Tryz.prog 61 (Kd.slice 91 k91) wf61 := opens_slice 91 Tryz.underlying61 (by kernel_rfl) o91
abbrev wf63 := fun (x : S63) => wf3 x.f0 ∧ wf3 x.f1 ∧ wf9 x.f2 ∧ wf61 x.f3 ∧ wf9 x.f4 ∧ wf3 x.f5
theorem o63 : Opens Tryz.prog 63 k63 wf63 := opens_iso (opens_struct Tryz.underlying63 (by kernel_rfl) (opensF_cons rfl o3 (opensF_cons rfl o3 (opensF_cons rfl o9 (opensF_cons rfl o61 (opensF_cons rfl o9 (opensF_one rfl o3))))))) (fun x : S63 => (x.f0, x.f1, x.f2, x.f3, x.f4, x.f5)) (fun a => (⟨a.1, a.2.1, a.2.2.1, a.2.2.2.1, a.2.2.2.2.1, a.2.2.2.2.2⟩ : S63)) (fun _ => rfl)
abbrev wf22 := fun (xs : List S63) => xs.length ≤ maxLen ∧ ∀ x ∈ xs, wf63 x
theorem o22 : Opens Tryz.prog 22 (Kd.slice 63 k63) wf22 := opens_slice 63 Tryz.underlying22 (by kernel_rfl) o63
abbrev wf24 := fun (x : (List S63)) => wf22 (x)
theorem o24 : Opens Tryz.prog 24 (Kd.slice 63 k63) wf24 := opens_struct Tryz.underlying24 (by kernel_rfl) (opensF_one rfl o22)
theorem c24 {w : World} {x : ((List S63))} {cs : List Value} (h : Kd.K (Kd.slice 63 k63) w x cs) : ∃ (A0 : Option Addr) (c0 : Nat), cs = [.slice A0 (x).length c0] ∧ (x).length ≤ c0 ∧ Kd.C k63 w A0 (x).length (x) := by
  obtain ⟨A0, c0, rfl, l0, r0⟩ := h
  exact ⟨A0, c0, rfl, l0, r0⟩
theorem row_laid : Rows.fnExactInnerRow.laid = [("unicode.White_Space", Rows.laid_unicode_White_Space), ("strings.asciiSpace", Rows.laid_strings_asciiSpace)] := rfl
theorem gName : Tryz.prog.globalNamed "strings.asciiSpace" = some 0 := by kernel_rfl
theorem gType : (Tryz.prog.globals[0]?).map (·.type) = some 125 := by kernel_rfl
theorem tabEq : (Rows.laid_strings_asciiSpace : DataW Unit) = Lib.tabData .u8 Lib.asciiSpaceTab := by kernel_rfl
theorem tail {P : Program} {W : World} {x : String × DataW Unit} {l : List (String × DataW Unit)} (h : laidMet P (x :: l) W) : laidMet P l W := by
  obtain ⟨ps, ⟨g, t, cs, fuel, p, q, hg, ht, hv, hd, hr, e⟩, hn, hp⟩ := h
  subst e
  exact ⟨q, hr, (List.nodup_append.1 hn).2.1, fun b off hb => hp b off (List.mem_append_right _ hb)⟩
theorem of_laid {W : World} (h : laidMet Tryz.prog Rows.fnExactInnerRow.laid W) : QFnExactInner.STab W := by
  rw [row_laid] at h
  have h2 := tail h
  rw [tabEq] at h2
  exact Lib.tabIs_of_head gName gType Tryz.underlying125 Tryz.underlying5 (by kernel_rfl) (by kernel_rfl) h2
/-- A world that meets the condition: the settled one, the tables laid. -/
noncomputable def laidWorld (os : Os) : World :=
  let w0 := World.holding Tryz.prog os ⟨#[], #[], []⟩
  { w0 with heap := (((w0.heap.modify 0 fun
      | .cells _ t frozen => .cells (Lib.asciiSpaceTab.map fun z => Value.int .u8 z).toArray t frozen
      | o => o).modify 1 fun
      | .cells _ t frozen => .cells #[.pointer (some ⟨w0.heap.size, 0, none⟩)] t frozen
      | o => o).push (.cells #[.slice (some ⟨w0.heap.size + 1, 0, none⟩) 7 7, .slice none 0 0, .int .i64 2] 164 (0, 0))).push (.cells #[.int .u16 9, .int .u16 13, .int .u16 1, .int .u16 32, .int .u16 133, .int .u16 101, .int .u16 160, .int .u16 5760, .int .u16 5600, .int .u16 8192, .int .u16 8202, .int .u16 1, .int .u16 8232, .int .u16 8233, .int .u16 1, .int .u16 8239, .int .u16 8287, .int .u16 48, .int .u16 12288, .int .u16 12288, .int .u16 1] 167 (0, 0)) }
theorem laid_met (os : Os) (args : Array Value) : laidMet Tryz.prog Rows.fnExactInnerRow.laid ((laidWorld os).forCall (fun _ _ => 0) ⟨#[], args, []⟩).memory :=
  laidMet_of_run' 8 (by kernel_rfl) (by kernel_rfl)
set_option maxRecDepth 100000 in
theorem lifted (os : Os) (started : os.Started) (H : Type) (enc : TypeId × Value → H) :
    ReturnsInHanded {} Tryz.checked os 4 .any (fun w args => (Rows.fnExactInnerSpec.pre enc Tryz.prog Tryz.f4 Rows.fnExactInnerRow.domain false w args ∧ laidMet Tryz.prog Rows.fnExactInnerRow.laid w) ∧ sizedMet enc Tryz.prog Tryz.f4 (OpenSpec.ofChange Rows.fnExactInnerSpec) false w args)
      (Rows.fnExactInnerSpec.post enc Tryz.prog Tryz.f4 false true false false) := by
  refine returnsInHanded_of_change_and (C := Tryz.checked) (X := fun w _ => laidMet Tryz.prog Rows.fnExactInnerRow.laid w) (fun _ _ _ hh h => h.of_heap hh) own started (by kernel_rfl) Tryz.func4
    (ChangeSpec.witness_shaped (enc := enc) (C := Tryz.checked) (os := os) (X := fun w _ => laidMet Tryz.prog Rows.fnExactInnerRow.laid w) false (laidWorld os) #[.agg #[.slice none 0 0], .int .i64 0] 8 rfl (World.shaped_of_RefB (by kernel_rfl) (by kernel_rfl)) (by kernel_rfl) (by kernel_rfl) (by kernel_rfl) (laid_met os _)) ?_
  intro W base args ds gs before hval0 hW hcnd hsz0 hL _
  have hG := of_laid hL
  have hval : ∀ (j : Nat) t v, Tryz.f4.params[j]? = some t → args[j]? = some v → Value.okWide Tryz.prog W .any base t v := hval0
  have hW' := hW
  obtain ⟨p, q, hA0, hV, rfl, hfz, hnd⟩ := hW
  have hA : DataW.TrodAll enc Tryz.prog W 0 (fun _ => true) true Tryz.f4.params.toList args.toList ds p := hA0
  rw [Tryz.params4] at hA hval
  obtain ⟨v0, vs0, d0, ds0, p0, q0, hargs, rfl, rfl, h0, r0⟩ := trodAll_cons hA
  obtain ⟨v1, vs1, d1, ds1, p1, q1, rfl, rfl, rfl, h1, r1⟩ := trodAll_cons r0
  obtain ⟨rfl, rfl, rfl⟩ := trodAll_nil r1
  obtain rfl : args = #[v0, v1] := by cases args; simp_all
  obtain ⟨rfl, rfl⟩ := trodVars_none hV
  have k0 := h0
  have lt0 : ∀ x ∈ p0, x.block < W.heap.size := by obtain ⟨m, hm⟩ := k0; exact DataW.trod_lt m _ _ _ hm
  obtain ⟨fu0, hf0⟩ := h0
  obtain ⟨x0, hK0, hw0⟩ := o24.op hf0
  obtain ⟨cs0, rfl, hs0⟩ := okWide_struct Tryz.underlying24 (hval 0 24 v0 rfl rfl)
  obtain ⟨A0_0, c0_0, e0, l0_0, r0_0⟩ := c24 hK0
  have e0' : cs0 = #[.slice A0_0 (x0).length c0_0] := Array.toList_inj.mp e0
  subst e0'
  have k1 := h1
  have lt1 : ∀ x ∈ p1, x.block < W.heap.size := by obtain ⟨m, hm⟩ := k1; exact DataW.trod_lt m _ _ _ hm
  obtain ⟨fu1, hf1⟩ := h1
  obtain ⟨x1, hK1, hw1⟩ := o3.op hf1
  obtain ⟨a1, rfl, _, _, _⟩ := open_int Tryz.underlying3 (hval 1 3 v1 rfl rfl) k1
  obtain rfl : x1 = a1 := by have e : [Value.int .i64 a1] = [Value.int .i64 x1] := hK1; injection e with e; injection e with _ e; exact e.symm
  obtain ⟨k, hp⟩ := FnExactInner_pure x0 x1 hw0 hw1
  refine (laws_FnExactInner.calls k _ _ (x0) x1 true W r0_0 l0_0 hG hp).mono fun e W' ⟨he, bel⟩ => ?_
  subst he
  exact ⟨_, rfl, _, _, _, [], _, [], hW', trodAll_mk1 (shut_bool Tryz.underlying4 _), (trodAll_cons_mk (Below.trod laidOut (by kernel_rfl) (of_decide_eq_true (by kernel_rfl)) k0 bel lt0) (trodAll_cons_mk (Below.trod laidOut (by kernel_rfl) (of_decide_eq_true (by kernel_rfl)) k1 bel lt1) trodAll_mk0)), rfl, bel.frame _, fun h => by cases h⟩
set_option maxRecDepth 100000 in
theorem named : Tryz.pinned.checked.prog.funcNamed Rows.fnExactInnerRow.func = some 4 := by kernel_rfl
set_option maxRecDepth 100000 in
set_option maxHeartbeats 8000000 in
theorem closed : joinedFacts Tryz.pinned.checked.prog 4 Tryz.f4 Rows.fnExactInnerSpec Rows.fnExactInnerRow = true := by
  simp only [joinedFacts, Bool.and_eq_true]
  repeat' apply And.intro
  all_goals (as_aux_lemma => kernel_rfl)
theorem instd : Tryz.f4.isInstance Tryz.pinned.checked.prog Rows.fnExactInnerRow.origin Rows.fnExactInnerRow.targs := of_decide_eq_true (by kernel_rfl)
theorem wrapped : Tryz.f4.isWrapper Tryz.pinned.checked.prog Rows.fnExactInnerRow.wrapper Rows.fnExactInnerRow.mainSum := by unfold Func.isWrapper; first | (rw [if_pos (by decide +kernel)]; kernel_rfl) | (rw [if_neg (by decide +kernel)]; exact ⟨rfl, rfl⟩)
theorem over : Rows.fnExactInnerRow.holds Tryz.pinned (OpenSpec.ofChange Rows.fnExactInnerSpec) :=
  OpenClaim.holds_of_wide 4 Tryz.f4 rfl rfl rfl rfl rfl rfl rfl ⟨rfl, rfl, rfl, rfl, rfl⟩ rfl rfl rfl rfl rfl named Tryz.func4 closed instd wrapped
    (fun os started H enc _ => lifted os started H enc)
theorem tied : Rows.FnExactInnerCardSaid :=
  Claim7.holds_tied_plain_at .later [] [.listed, .data] true (true, "e8071e3cf01f2bcc015e55d0df5b5196426d8c3a23822c76338358525723b576") true
    over (fun _ h => by cases h) (by kernel_rfl) (fun _ h => by cases h) fnExactInner_row_tie rfl ⟨rfl, rfl⟩ (by kernel_rfl) rfl
    (fun f fn hf hfn => by
      obtain rfl : f = 4 := Option.some.inj ((show Tryz.prog.funcNamed "loop.example/g00011/laws.FnExactInner" = some 4 by kernel_rfl).symm.trans hf) |>.symm
      obtain rfl : fn = Tryz.f4 := (Option.some.inj (Tryz.func4.symm.trans hfn)).symm
      exact ⟨by kernel_rfl, fun j t ht => by
        rw [Tryz.params4] at ht
        have hm : t ∈ [24, 3] := by simpa using Array.mem_of_getElem? ht
        have hall : ([24, 3].all fun u => !Tryz.prog.wantsStandIn u) = true := by kernel_rfl
        exact (show Tryz.prog.wantsStandIn t = false by simpa using List.all_eq_true.1 hall t hm)⟩)
    (by kernel_rfl)
#print axioms tied
end Go.Proofs.YtjojmfhgfeflnaaGreatDoor.fnExactInner
namespace Go.Proofs.YtjojmfhgfeflnaaGreatDoor
/-- The card, under a short name, for the claim. -/
theorem fnExactInner_holds : Rows.FnExactInnerCardSaid := fnExactInner.tied
end Go.Proofs.YtjojmfhgfeflnaaGreatDoor
