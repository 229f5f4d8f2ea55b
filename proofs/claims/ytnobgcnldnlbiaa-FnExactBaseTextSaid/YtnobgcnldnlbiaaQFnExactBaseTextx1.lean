/- Written by a program (wip/tools/own_print.py) out of the walk that the kit's printer made; turned where it fell. -/
import Derived.Test.YtnobgcnldnlbiaaQFnExactBaseTextx0
namespace Go.Proofs.Ytnobgcnldnlbiaa.QFnExactBaseText
open Go.RowKit Go.Proofs.YtnobgcnldnlbiaaW.PrintWords Go.Proofs.YtnobgcnldnlbiaaW.PrintLast Go.Proofs.YtnobgcnldnlbiaaW.PrintMore
attribute [local go_sem] max2_int min2_int max_two min_two max_three min_three max_four min_four   -- for this text's walks alone
set_option linter.unusedVariables false
set_option linter.unusedSimpArgs false

/-! ### spec_BaseText and impl_BaseText: functions 20, 21: one and the same text -/
set_option maxHeartbeats 8000000 in
set_option maxRecDepth 100000 in
theorem base_texts : ∃ s : ByteArray, (∀ w : World, Calls Try.prog 20 #[] w fun e w' => e = .returned (.string s) ∧ Drawn0 w w') ∧ (∀ w : World, Calls Try.prog 21 #[] w fun e w' => e = .returned (.string s) ∧ Drawn0 w w') := by
  apply Exists.intro
  constructor
  · intro w
    go_enter Try.func20, Try.ntmps20
    go_wp2
    go_ret
    exact ⟨rfl, by repeat (first | exact Drawn0.refl _ | apply Drawn0.step)⟩
  · intro w
    go_enter Try.func21, Try.ntmps21
    go_wp2
    go_ret
    exact ⟨rfl, by repeat (first | exact Drawn0.refl _ | apply Drawn0.step)⟩
noncomputable def baseS : ByteArray := Classical.choose base_texts
noncomputable def spec_BaseText.f : Option (ByteArray) := some baseS
noncomputable def impl_BaseText.f : Option (ByteArray) := some baseS
theorem spec_BaseText.calls (r : ByteArray) (w : World) (h : spec_BaseText.f = some r) :
    Calls Try.prog 20 #[] w fun e w' => e = .returned (.string r) ∧ Drawn0 w w' := by
  obtain rfl := Option.some.inj h
  exact (Classical.choose_spec base_texts).1 w
theorem impl_BaseText.calls (r : ByteArray) (w : World) (h : impl_BaseText.f = some r) :
    Calls Try.prog 21 #[] w fun e w' => e = .returned (.string r) ∧ Drawn0 w w' := by
  obtain rfl := Option.some.inj h
  exact (Classical.choose_spec base_texts).2 w


/-! ### laws_FnExactBaseText: function 6 -/
noncomputable def laws_FnExactBaseText.f  : Option (Bool) := (spec_BaseText.f).bind fun t101 => ((impl_BaseText.f).bind fun t102 => (if t102.toList = t101.toList then (some true) else (some false)))
set_option maxHeartbeats 8000000 in
set_option maxRecDepth 100000 in
theorem laws_FnExactBaseText.calls  (r : Bool) (w : World) (h : laws_FnExactBaseText.f  = some r) :
    Calls Try.prog 6 #[] w fun e w' => e = .returned (.bool r) ∧ Drawn0 w w' := by
  have H : ((spec_BaseText.f).bind fun t101 => ((impl_BaseText.f).bind fun t102 => (if t102.toList = t101.toList then (some true) else (some false)))) = some r := h
  clear h
  replace H := Option.bind_eq_some_iff.mp H
  obtain ⟨t101, A10, H⟩ := H
  replace H : ((impl_BaseText.f).bind fun t102 => (if t102.toList = t101.toList then (some true) else (some false))) = some r := H
  have A1 := Aside0.mk A10
  clear A10
  replace H := Option.bind_eq_some_iff.mp H
  obtain ⟨t102, A20, H⟩ := H
  replace H : (if t102.toList = t101.toList then (some true) else (some false)) = some r := H
  have A2 := Aside0.mk A20
  clear A20
  by_cases c3 : t102.toList = t101.toList
  · rw [if_pos c3] at H
    have c3b0 : (t102.toList == t101.toList) = true := beq_iff_eq.mpr c3
    have c3b1 : (t102.toList != t101.toList) = false := bne_eq_false_iff_eq.mpr c3
    clear c3
    obtain rfl := Option.some.inj H
    go_enter Try.func6, Try.ntmps6
    go_wp2_with (first | ((with_reducible refine gate_callee (f := 20) rfl ?_); refine goesL_ (some 3) rfl rfl Try.func20 (by kernel_rfl) rfl #[] rfl (by (try simp only [List.map_toArray, List.map_cons, List.map_nil]); first | done | rfl | (simp only [List.length_drop, List.length_take]; rfl)) ?_; (with_reducible refine (spec_BaseText.calls  t101 _ A1.out).mono ?_); rintro e w' ⟨rfl, ⟨nd, rfl⟩⟩; refine ⟨_, rfl, ?_⟩) | ((with_reducible refine gate_callee (f := 21) rfl ?_); refine goesL_ (some 4) rfl rfl Try.func21 (by kernel_rfl) rfl #[] rfl (by (try simp only [List.map_toArray, List.map_cons, List.map_nil]); first | done | rfl | (simp only [List.length_drop, List.length_take]; rfl)) ?_; (with_reducible refine (impl_BaseText.calls  t102 _ A2.out).mono ?_); rintro e w' ⟨rfl, ⟨nd, rfl⟩⟩; refine ⟨_, rfl, ?_⟩))
    go_ret
    exact ⟨by first | rfl | (simp; done) | (simp [*]; done), by repeat (first | exact Drawn0.refl _ | apply Drawn0.step)⟩
  · rw [if_neg c3] at H
    have c3b0 : (t102.toList == t101.toList) = false := beq_eq_false_iff_ne.mpr c3
    have c3b1 : (t102.toList != t101.toList) = true := bne_iff_ne.mpr c3
    obtain rfl := Option.some.inj H
    go_enter Try.func6, Try.ntmps6
    go_wp2_with (first | ((with_reducible refine gate_callee (f := 20) rfl ?_); refine goesL_ (some 3) rfl rfl Try.func20 (by kernel_rfl) rfl #[] rfl (by (try simp only [List.map_toArray, List.map_cons, List.map_nil]); first | done | rfl | (simp only [List.length_drop, List.length_take]; rfl)) ?_; (with_reducible refine (spec_BaseText.calls  t101 _ A1.out).mono ?_); rintro e w' ⟨rfl, ⟨nd, rfl⟩⟩; refine ⟨_, rfl, ?_⟩) | ((with_reducible refine gate_callee (f := 21) rfl ?_); refine goesL_ (some 4) rfl rfl Try.func21 (by kernel_rfl) rfl #[] rfl (by (try simp only [List.map_toArray, List.map_cons, List.map_nil]); first | done | rfl | (simp only [List.length_drop, List.length_take]; rfl)) ?_; (with_reducible refine (impl_BaseText.calls  t102 _ A2.out).mono ?_); rintro e w' ⟨rfl, ⟨nd, rfl⟩⟩; refine ⟨_, rfl, ?_⟩))
    go_ret
    exact ⟨by first | rfl | (simp; done) | (simp [*]; done), by repeat (first | exact Drawn0.refl _ | apply Drawn0.step)⟩

/-- THE ONE PURE STATEMENT of laws_FnExactBaseText: yours. -/
def laws_FnExactBaseText.Pure : Prop := laws_FnExactBaseText.f  = some true
theorem laws_FnExactBaseText.walk (P : laws_FnExactBaseText.Pure)  (w : World)  :
    Calls Try.prog 6 #[] w fun e w' => e = .returned (.bool true) ∧ Below w.heap.size w w' := by
  have h := P  
  refine (laws_FnExactBaseText.calls  true w h).mono ?_
  rintro e w' ⟨rfl, hd⟩
  exact ⟨rfl, hd.below⟩

end Go.Proofs.Ytnobgcnldnlbiaa.QFnExactBaseText
