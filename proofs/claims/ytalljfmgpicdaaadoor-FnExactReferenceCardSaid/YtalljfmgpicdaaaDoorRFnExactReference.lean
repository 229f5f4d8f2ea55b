/- FnExactReference: for every input the law returns true, its arguments and the table of names read as before. The table holds what the program's text lays (the card ties it); no condition beyond the given row's. -/
import Derived.Test.YtalljfmgpicdaaaDoorRows
import Derived.Test.YtalljfmgpicdaaaDoorTie
import Derived.Test.YtalljfmgpicdaaaDoorCards
import Derived.Test.YtalljfmgpicdaaaDoorQFnExactReferencex7
import Derived.Test.YtalljfmgpicdaaaDoorQFnExactReferencePure
import Derived.WalkKit
import Derived.ProofKit
import Derived.OpenShut
import Derived.ShutString
import Derived.ChangeOld
import Derived.Below
import Derived.SizedLaws
import Derived.LaidLaws
import Derived.Handed
import Derived.OpenVars
import Derived.SevenTiedAt
namespace Go.Proofs.YtalljfmgpicdaaaDoor.fnExactReference
open Go Go.ChangeShapes Go.WideShapes Go.ChangeAt Go.RowKit
open Go.ChangeMaps (open_string shut_string)
open Go.Proofs.YtalljfmgpicdaaaDoor.QFnExactReference (refs refCells GRef)
set_option linter.unusedVariables false
theorem own : ownKnob Tryd.prog.godebug = none := by kernel_rfl
theorem laidOut : laidOutB Tryd.prog = true := by kernel_rfl
theorem gName : Tryd.prog.globalNamed "loop.example/g00011/impl.references" = some 0 := by kernel_rfl
theorem gType : (Tryd.prog.globals[0]?).map (·.type) = some 38 := by kernel_rfl
theorem cell37 : Tryd.prog.cellsOf 37 = 2 := by kernel_rfl
theorem cell38 : Tryd.prog.cellsOf 38 = 32 := by kernel_rfl
theorem cell9 : Tryd.prog.cellsOf 9 = 1 := by kernel_rfl
theorem cell3 : Tryd.prog.cellsOf 3 = 1 := by kernel_rfl
/-- A row of the table, read. -/
theorem row_of {W : World} {m : Nat} {cs : List Value} {x : DataW Unit × List MemPlace} {b : List UInt8} {n : Int}
    (h : DataW.trod (fun _ => ()) Tryd.prog W 0 (fun _ => true) false m 37 cs = some x) (hx : x.1 = .agg [.lit (.string b), .lit (.int .i64 n)]) : cs = [.string ⟨b.toArray⟩, .int .i64 n] := by
  obtain ⟨xs, k, rfl, rfl, hl, h2, hel⟩ := DataW.trod_struct Tryd.underlying37 h
  rw [cell37] at hl
  match cs, hl with
  | [c0, c1], _ =>
    match xs, h2 with
    | [y0, y1], _ =>
      have e0 : DataW.trod (fun _ => ()) Tryd.prog W 0 (fun _ => true) false k 9 (([c0, c1].drop 0).take (Tryd.prog.cellsOf 9)) = some y0 := hel 0 _ rfl
      have e1 : DataW.trod (fun _ => ()) Tryd.prog W 0 (fun _ => true) false k 3 (([c0, c1].drop 1).take (Tryd.prog.cellsOf 3)) = some y1 := hel 1 _ rfl
      rw [cell9] at e0
      rw [cell3] at e1
      obtain ⟨s, p1, p2, _⟩ := DataW.trod_string Tryd.underlying9 (show DataW.trod _ Tryd.prog W 0 _ false k 9 [c0] = some y0 from e0)
      obtain ⟨v, q1, q2, _⟩ := DataW.trod_int Tryd.underlying3 (show DataW.trod _ Tryd.prog W 0 _ false k 3 [c1] = some y1 from e1)
      injection p1 with p1 _
      injection q1 with q1 _
      subst p1 q1 p2 q2
      have hx : [DataW.lit (H := Unit) (.string s.data.toList), .lit (.int .i64 v)] = [.lit (.string b), .lit (.int .i64 n)] := DataW.agg.inj hx
      injection hx with h1 hx
      injection hx with h2 _
      have h1 := Lit.string.inj (DataW.lit.inj h1)
      have h2 := (Lit.int.inj (DataW.lit.inj h2)).2
      subst h1 h2
      obtain ⟨⟨l⟩⟩ := s
      rfl
theorem of_laid {W : World} (h : laidMet Tryd.prog Rows.fnExactReferenceRow.laid W) : GRef W := by
  obtain ⟨ps, ⟨g, t, cs, fuel, p, q, hg, ht, hvar, hd, _, _⟩, _⟩ := h
  obtain rfl := Option.some.inj (gName.symm.trans hg)
  obtain rfl := Option.some.inj (gType.symm.trans ht)
  obtain ⟨xs, m, rfl, hx, hl, hn, hel⟩ := DataW.trod_array Tryd.underlying38 hd
  rw [cell38] at hl
  have hx1 : Rows.laid_loop_example_g00011_impl_references = DataW.agg (xs.map (·.1)) := (Prod.mk.inj hx).1
  have hxs : xs.map (·.1) = refs.map fun r => DataW.agg [.lit (.string r.1.data.toList), .lit (.int .i64 r.2)] := (DataW.agg.inj hx1).symm.trans rfl
  have rows : ∀ i, (hi : i < 16) → (cs.toList.drop (i * 2)).take 2 = [.string (refs[i]'hi).1, .int .i64 (refs[i]'hi).2] := by
    intro i hi
    have e := hel i hi
    rw [cell37] at e
    have hxi : i < xs.length := by omega
    rw [List.getElem?_eq_getElem hxi] at e
    have e1 : (xs[i]).1 = DataW.agg [.lit (.string (refs[i]'hi).1.data.toList), .lit (.int .i64 (refs[i]'hi).2)] := by
      have := congrArg (fun l => l[i]?) hxs
      simp only [List.getElem?_map, List.getElem?_eq_getElem hxi, List.getElem?_eq_getElem (show i < refs.length from hi), Option.map_some] at this
      exact Option.some.inj this
    have := row_of e e1
    rw [this]
  have hcs : cs.toList = refCells := by
    apply List.ext_getElem?
    intro j
    by_cases hj : j < 32
    · have r := rows (j / 2) (by omega)
      have r2 := congrArg (fun l => l[j % 2]?) r
      simp only [List.getElem?_take, List.getElem?_drop, if_pos (show j % 2 < 2 by omega)] at r2
      rw [show j / 2 * 2 + j % 2 = j by omega] at r2
      rw [r2]
      match j, hj with
      | 0, _ | 1, _ | 2, _ | 3, _ | 4, _ | 5, _ | 6, _ | 7, _ | 8, _ | 9, _ | 10, _ | 11, _ | 12, _ | 13, _ | 14, _ | 15, _ | 16, _ | 17, _ | 18, _ | 19, _ | 20, _ | 21, _ | 22, _ | 23, _ | 24, _ | 25, _ | 26, _ | 27, _ | 28, _ | 29, _ | 30, _ | 31, _ => rfl
      | k + 32, h => exact absurd h (by omega)
    · rw [List.getElem?_eq_none (by omega), List.getElem?_eq_none (by show 32 ≤ j; omega)]
  have hv := hvar
  simp only [World.var?, gName, Option.bind_some] at hv
  split at hv
  · rename_i c t' fr hb
    obtain rfl := Option.some.inj hv
    refine ⟨t', fr, ?_⟩
    rw [hb]
    congr 2
    rw [← hcs]
  · cases hv
/-- A world that meets the condition: the settled one, the table laid. -/
noncomputable def laidWorld (os : Os) : World :=
  let w0 := World.holding Tryd.prog os ⟨#[], #[], []⟩
  { w0 with heap := w0.heap.modify 0 fun
      | .cells _ t frozen => .cells refCells.toArray t frozen
      | o => o }
theorem laid_met (os : Os) (args : Array Value) : laidMet Tryd.prog Rows.fnExactReferenceRow.laid ((laidWorld os).forCall (fun _ _ => 0) ⟨#[], args, []⟩).memory :=
  laidMet_of_run' 8 (by kernel_rfl) (by kernel_rfl)
set_option maxRecDepth 100000 in
theorem lifted (os : Os) (started : os.Started) (H : Type) (enc : TypeId × Value → H) :
    ReturnsInHanded {} Tryd.checked os 3 .any (fun w args => (Rows.fnExactReferenceSpec.pre enc Tryd.prog Tryd.f3 Rows.fnExactReferenceRow.domain false w args ∧ laidMet Tryd.prog Rows.fnExactReferenceRow.laid w) ∧ sizedMet enc Tryd.prog Tryd.f3 (OpenSpec.ofChange Rows.fnExactReferenceSpec) false w args)
      (Rows.fnExactReferenceSpec.post enc Tryd.prog Tryd.f3 false true false false) := by
  refine returnsInHanded_of_change_and (C := Tryd.checked) (X := fun w _ => laidMet Tryd.prog Rows.fnExactReferenceRow.laid w) (fun _ _ _ hh h => h.of_heap hh) own started (by kernel_rfl) Tryd.func3
    (ChangeSpec.witness_at (enc := enc) (C := Tryd.checked) (os := os) (X := fun w _ => laidMet Tryd.prog Rows.fnExactReferenceRow.laid w) false (laidWorld os) #[.string ByteArray.empty, .int .i64 0, .bool false] 8 rfl (by kernel_rfl) (by kernel_rfl) (by kernel_rfl) (by kernel_rfl) (by kernel_rfl) (laid_met os _)) ?_
  intro W base args ds gs before hval0 hW hcnd hsz0 hL _
  have hsz : (DataW.weightsEach Tryd.prog (Tryd.f3.params.toList ++ Rows.fnExactReferenceSpec.plain.varTypes Tryd.prog) (ds ++ gs)).all (· ≤ reachBytes) = true := hsz0
  have hval : ∀ (j : Nat) t v, Tryd.f3.params[j]? = some t → args[j]? = some v → Value.okWide Tryd.prog W .any base t v := hval0
  have hG := of_laid hL
  have hW' := hW
  obtain ⟨p, q, hA0, hV0, rfl, hfz, hnd⟩ := hW
  have hA : DataW.TrodAll enc Tryd.prog W 0 (fun _ => true) true Tryd.f3.params.toList args.toList ds p := hA0
  have hV : DataW.TrodVars enc Tryd.prog W (fun _ => true) ["loop.example/g00011/impl.references"] gs q := hV0
  rw [Tryd.params3] at hA hval hsz
  obtain ⟨v0, vs0, d0, ds0, p0, q0, hargs, rfl, rfl, h0, r0⟩ := trodAll_cons hA
  obtain ⟨v1, vs1, d1, ds1, p1, q1, rfl, rfl, rfl, h1, r1⟩ := trodAll_cons r0
  obtain ⟨v2, vs2, d2, ds2, p2, q2, rfl, rfl, rfl, h2, r2⟩ := trodAll_cons r1
  obtain ⟨rfl, rfl, rfl⟩ := trodAll_nil r2
  obtain rfl : args = #[v0, v1, v2] := by cases args; simp_all
  obtain ⟨g1, rfl⟩ : ∃ g1, gs = [g1] := by
    obtain ⟨_, _, _, _, d, _, e, _⟩ := trodVars_one hV
    exact ⟨d, e⟩
  obtain ⟨a0, rfl, rfl, rfl, y0⟩ := open_string Tryd.underlying9 (hval 0 9 v0 rfl rfl) h0
  have w0 : a0.size ≤ 140737488351232 := by
    have z := sized_string hsz (j := 0) (t := 9) rfl rfl
    rw [Array.length_toList] at z
    exact z
  obtain ⟨a1, rfl, rfl, rfl, w1⟩ := open_int Tryd.underlying3 (hval 1 3 v1 rfl rfl) h1
  obtain ⟨a2, rfl, rfl, rfl⟩ := open_bool Tryd.underlying4 (hval 2 4 v2 rfl rfl) h2
  clear hA0 hval0 hsz0 hsz hL hV0
  refine (QFnExactReference.laws_FnExactReference.walk QFnExactReference.FnExactReference a0 a1 a2 W hG w0 w1).mono fun e W' ⟨he, bel⟩ => ?_
  subst he
  exact ⟨_, rfl, _, _, _, [], _, _, hW', trodAll_mk1 (shut_bool Tryd.underlying4 _), (trodAll_cons_mk (shut_string Tryd.underlying9 y0) (trodAll_cons_mk (shut_int Tryd.underlying3 w1) (trodAll_cons_mk (shut_bool Tryd.underlying4 _) trodAll_mk0))), bel.trodVars laidOut (by kernel_rfl) hV, bel.frame _, fun h => by cases h⟩
theorem over : Rows.FnExactReferenceSaid :=
  OpenClaim.holds_of_wide 3 Tryd.f3 rfl rfl rfl rfl rfl rfl rfl ⟨rfl, rfl, rfl, rfl, rfl⟩ rfl rfl rfl rfl rfl (by kernel_rfl) Tryd.func3 (by kernel_rfl)
    (of_decide_eq_true (by kernel_rfl)) (by unfold Func.isWrapper; first | (rw [if_pos (by decide +kernel)]; kernel_rfl) | (rw [if_neg (by decide +kernel)]; exact ⟨rfl, rfl⟩))
    (fun os started H enc _ => lifted os started H enc)
theorem tied : Rows.FnExactReferenceCardSaid :=
  Claim7.holds_tied_plain_at .later [] [.data] true (true, "01166072978f46ee4426fecf2ca814b952ced342e0cb71e6c638b8de498efb48") false
    over (fun _ h => by cases h) (by kernel_rfl) (fun _ h => by cases h) fnExactReference_row_tie rfl ⟨rfl, rfl⟩ (by kernel_rfl) rfl
    (fun f fn hf hfn => by
      obtain rfl : f = 3 := Option.some.inj ((show Tryd.prog.funcNamed "loop.example/g00011/laws.FnExactReference" = some 3 by kernel_rfl).symm.trans hf) |>.symm
      obtain rfl : fn = Tryd.f3 := (Option.some.inj (Tryd.func3.symm.trans hfn)).symm
      exact ⟨by kernel_rfl, fun j t ht => by
        rw [Tryd.params3] at ht
        have hm : t ∈ [9, 3, 4] := by simpa using Array.mem_of_getElem? ht
        have hall : ([9, 3, 4].all fun u => !Tryd.prog.wantsStandIn u) = true := by kernel_rfl
        exact (show Tryd.prog.wantsStandIn t = false by simpa using List.all_eq_true.1 hall t hm)⟩)
    (by kernel_rfl)
#print axioms tied
end Go.Proofs.YtalljfmgpicdaaaDoor.fnExactReference
namespace Go.Proofs.YtalljfmgpicdaaaDoor
/-- The card, under a short name, for the claim. -/
theorem fnExactReference_holds : Rows.FnExactReferenceCardSaid := fnExactReference.tied
end Go.Proofs.YtalljfmgpicdaaaDoor
