/- Written by a program (wip/tools/own_print.py) out of the walk that the kit's printer made; turned where it fell. -/
-- PRINTED by print.py (a twelfth state) out of the translation. Not trusted: Lean checks it.
import Derived.Test.YtnobgcnldnlbiaaQFnExactWordOkx0
namespace Go.Proofs.Ytnobgcnldnlbiaa.QFnExactWordOk
open Go.RowKit Go.Proofs.YtnobgcnldnlbiaaW.PrintWords Go.Proofs.YtnobgcnldnlbiaaW.PrintLast Go.Proofs.YtnobgcnldnlbiaaW.PrintMore
attribute [local go_sem] max2_int min2_int max_two min_two max_three min_three max_four min_four   -- for this text's walks alone
set_option linter.unusedVariables false
set_option linter.unusedSimpArgs false

/-! ### laws_szWord: function 40 -/
def laws_szWord.f (a0_0 : Int) (a0_1 : ByteArray) (a0_2 : Int) (a0_3 : ByteArray) (a1 : Int) : Option (Int) := if (wrap64 (a1 - (a0_1.size : Int))) < 0 then (some (-1)) else (if (wrap64 ((wrap64 (a1 - (a0_1.size : Int))) - (a0_3.size : Int))) < 0 then (some (-1)) else (some (wrap64 ((wrap64 (a1 - (a0_1.size : Int))) - (a0_3.size : Int)))))
set_option maxHeartbeats 8000000 in
set_option maxRecDepth 100000 in
theorem laws_szWord.calls (a0_0 : Int) (a0_1 : ByteArray) (a0_2 : Int) (a0_3 : ByteArray) (a1 : Int) (r : Int) (w : World) (h : laws_szWord.f a0_0 a0_1 a0_2 a0_3 a1 = some r) :
  Calls Try.prog 40 #[.agg #[.int .i64 a0_0, .string a0_1, .int .i64 a0_2, .string a0_3], .int .i64 a1] w fun e w' => e = .returned (.int .i64 r) ∧ Below w.heap.size w w' := by
 have hu60 := Try.underlying60
 have HB := Aside0.mk (Below.refl w.heap.size w)
 have H : (if (wrap64 (a1 - (a0_1.size : Int))) < 0 then (some (-1)) else (if (wrap64 ((wrap64 (a1 - (a0_1.size : Int))) - (a0_3.size : Int))) < 0 then (some (-1)) else (some (wrap64 ((wrap64 (a1 - (a0_1.size : Int))) - (a0_3.size : Int)))))) = some r := h
 clear h
 by_cases c3 : (wrap64 (a1 - (a0_1.size : Int))) < 0
 ·rw [if_pos c3] at H
  have c3b0 : decide ((wrap64 (a1 - (a0_1.size : Int))) < 0) = true := decide_eq_true c3
  clear c3
  obtain rfl := Option.some.inj H
  go_enter Try.func40, Try.ntmps40
  go_wp2_with (first|((with_reducible refine gate_dst (N := 2) rfl ?_);refine box_event ?hg (N := 2) ?hd (cs := #[.int .i64 a0_0, .string a0_1, .int .i64 a0_2, .string a0_3]) (t := 60) ?hr ?_;(case hd => rfl);(case hg => rfl);(case hr => first|(go_simp;done)|(go_simp;rfl));intro gb101 hg w4 hbox hb;have n0_ := Aside0.mk (below_step (by repeat (first|(with_reducible first|exact HB.out|apply below_alloc|apply pw_below_drewN|apply below_drew1)|exact HB.out)) hb);have n1_ := Aside0.mk (hbox);have n2_ := Aside0.mk ((by rw [hg];exact (below_size (by repeat (first|(with_reducible first|exact HB.out|apply below_alloc|apply pw_below_drewN|apply below_drew1)|exact HB.out))) : w.heap.size ≤ gb101));have n3_ := Aside0.mk ((by rw [hg];exact (below_size (by repeat (first|(with_reducible first|exact HB.out|apply below_alloc|apply pw_below_drewN|apply below_drew1)|exact HB.out))) : w.heap.size ≤ gb101));clear HB;have HB := n0_;have BK101 := n1_;have GW101 := n2_;have GE101 := n3_;clear n0_ n1_ n2_ n3_;clear hb hbox hg;have hcz5_0 : w4.cell? ⟨gb101, 0, none⟩ = some (.int .i64 a0_0) := (blk_cell BK101.out 0).trans rfl;have hcz5_1 : w4.cell? ⟨gb101, 1, none⟩ = some (.string a0_1) := (blk_cell BK101.out 1).trans rfl;have hcz5_2 : w4.cell? ⟨gb101, 2, none⟩ = some (.int .i64 a0_2) := (blk_cell BK101.out 2).trans rfl;have hcz5_3 : w4.cell? ⟨gb101, 3, none⟩ = some (.string a0_3) := (blk_cell BK101.out 3).trans rfl;have hfz5_0 := blk_frozen BK101.out 0;have hfz5_1 := blk_frozen BK101.out 1;have hfz5_2 := blk_frozen BK101.out 2;have hfz5_3 := blk_frozen BK101.out 3))
  go_ret
  exact ⟨by first|rfl|(simp [errW_none, errW_some] <;> rfl)|(simp [*, errW_none, errW_some] <;> rfl), by repeat (first|(with_reducible first|exact HB.out|apply below_alloc|apply pw_below_drewN|apply below_drew1|refine below_set ?_ GE101.out)|exact HB.out)⟩
 ·rw [if_neg c3] at H
  have c3b0 : decide ((wrap64 (a1 - (a0_1.size : Int))) < 0) = false := decide_eq_false c3
  clear c3
  by_cases c6 : (wrap64 ((wrap64 (a1 - (a0_1.size : Int))) - (a0_3.size : Int))) < 0
  ·rw [if_pos c6] at H
   have c6b0 : decide ((wrap64 ((wrap64 (a1 - (a0_1.size : Int))) - (a0_3.size : Int))) < 0) = true := decide_eq_true c6
   clear c6
   obtain rfl := Option.some.inj H
   go_enter Try.func40, Try.ntmps40
   go_wp2_with (first|((with_reducible refine gate_dst (N := 2) rfl ?_);refine box_event ?hg (N := 2) ?hd (cs := #[.int .i64 a0_0, .string a0_1, .int .i64 a0_2, .string a0_3]) (t := 60) ?hr ?_;(case hd => rfl);(case hg => rfl);(case hr => first|(go_simp;done)|(go_simp;rfl));intro gb101 hg w7 hbox hb;have n0_ := Aside0.mk (below_step (by repeat (first|(with_reducible first|exact HB.out|apply below_alloc|apply pw_below_drewN|apply below_drew1)|exact HB.out)) hb);have n1_ := Aside0.mk (hbox);have n2_ := Aside0.mk ((by rw [hg];exact (below_size (by repeat (first|(with_reducible first|exact HB.out|apply below_alloc|apply pw_below_drewN|apply below_drew1)|exact HB.out))) : w.heap.size ≤ gb101));have n3_ := Aside0.mk ((by rw [hg];exact (below_size (by repeat (first|(with_reducible first|exact HB.out|apply below_alloc|apply pw_below_drewN|apply below_drew1)|exact HB.out))) : w.heap.size ≤ gb101));clear HB;have HB := n0_;have BK101 := n1_;have GW101 := n2_;have GE101 := n3_;clear n0_ n1_ n2_ n3_;clear hb hbox hg;have hcz8_0 : w7.cell? ⟨gb101, 0, none⟩ = some (.int .i64 a0_0) := (blk_cell BK101.out 0).trans rfl;have hcz8_1 : w7.cell? ⟨gb101, 1, none⟩ = some (.string a0_1) := (blk_cell BK101.out 1).trans rfl;have hcz8_2 : w7.cell? ⟨gb101, 2, none⟩ = some (.int .i64 a0_2) := (blk_cell BK101.out 2).trans rfl;have hcz8_3 : w7.cell? ⟨gb101, 3, none⟩ = some (.string a0_3) := (blk_cell BK101.out 3).trans rfl;have hfz8_0 := blk_frozen BK101.out 0;have hfz8_1 := blk_frozen BK101.out 1;have hfz8_2 := blk_frozen BK101.out 2;have hfz8_3 := blk_frozen BK101.out 3))
   go_ret
   exact ⟨by first|rfl|(simp [errW_none, errW_some] <;> rfl)|(simp [*, errW_none, errW_some] <;> rfl), by repeat (first|(with_reducible first|exact HB.out|apply below_alloc|apply pw_below_drewN|apply below_drew1|refine below_set ?_ GE101.out)|exact HB.out)⟩
  ·rw [if_neg c6] at H
   have c6b0 : decide ((wrap64 ((wrap64 (a1 - (a0_1.size : Int))) - (a0_3.size : Int))) < 0) = false := decide_eq_false c6
   clear c6
   obtain rfl := Option.some.inj H
   go_enter Try.func40, Try.ntmps40
   go_wp2_with (first|((with_reducible refine gate_dst (N := 2) rfl ?_);refine box_event ?hg (N := 2) ?hd (cs := #[.int .i64 a0_0, .string a0_1, .int .i64 a0_2, .string a0_3]) (t := 60) ?hr ?_;(case hd => rfl);(case hg => rfl);(case hr => first|(go_simp;done)|(go_simp;rfl));intro gb101 hg w9 hbox hb;have n0_ := Aside0.mk (below_step (by repeat (first|(with_reducible first|exact HB.out|apply below_alloc|apply pw_below_drewN|apply below_drew1)|exact HB.out)) hb);have n1_ := Aside0.mk (hbox);have n2_ := Aside0.mk ((by rw [hg];exact (below_size (by repeat (first|(with_reducible first|exact HB.out|apply below_alloc|apply pw_below_drewN|apply below_drew1)|exact HB.out))) : w.heap.size ≤ gb101));have n3_ := Aside0.mk ((by rw [hg];exact (below_size (by repeat (first|(with_reducible first|exact HB.out|apply below_alloc|apply pw_below_drewN|apply below_drew1)|exact HB.out))) : w.heap.size ≤ gb101));clear HB;have HB := n0_;have BK101 := n1_;have GW101 := n2_;have GE101 := n3_;clear n0_ n1_ n2_ n3_;clear hb hbox hg;have hcz10_0 : w9.cell? ⟨gb101, 0, none⟩ = some (.int .i64 a0_0) := (blk_cell BK101.out 0).trans rfl;have hcz10_1 : w9.cell? ⟨gb101, 1, none⟩ = some (.string a0_1) := (blk_cell BK101.out 1).trans rfl;have hcz10_2 : w9.cell? ⟨gb101, 2, none⟩ = some (.int .i64 a0_2) := (blk_cell BK101.out 2).trans rfl;have hcz10_3 : w9.cell? ⟨gb101, 3, none⟩ = some (.string a0_3) := (blk_cell BK101.out 3).trans rfl;have hfz10_0 := blk_frozen BK101.out 0;have hfz10_1 := blk_frozen BK101.out 1;have hfz10_2 := blk_frozen BK101.out 2;have hfz10_3 := blk_frozen BK101.out 3))
   go_ret
   exact ⟨by first|rfl|(simp [errW_none, errW_some] <;> rfl)|(simp [*, errW_none, errW_some] <;> rfl), by repeat (first|(with_reducible first|exact HB.out|apply below_alloc|apply pw_below_drewN|apply below_drew1|refine below_set ?_ GE101.out)|exact HB.out)⟩

/-! ### spec_l1Digit: function 67 -/
def spec_l1Digit.f (a0 : Int) : Option (Bool) := if a0 ≥ 48 then (some (decide (a0 ≤ 57))) else (some false)
set_option maxHeartbeats 8000000 in
set_option maxRecDepth 100000 in
theorem spec_l1Digit.calls (a0 : Int) (r : Bool) (w : World) (h : spec_l1Digit.f a0 = some r) :
  Calls Try.prog 67 #[.int .u8 a0] w fun e w' => e = .returned (.bool r) ∧ Drawn0 w w' := by
 have H : (if a0 ≥ 48 then (some (decide (a0 ≤ 57))) else (some false)) = some r := h
 clear h
 by_cases c2 : a0 ≥ 48
 ·rw [if_pos c2] at H
  have c2b0 : decide (48 ≤ a0) = true := decide_eq_true c2
  clear c2
  obtain rfl := Option.some.inj H
  go_enter Try.func67, Try.ntmps67
  go_wp2
  go_ret
  exact ⟨by first|rfl|(simp;done)|(simp [*];done), by repeat (first|exact Drawn0.refl _|apply Drawn0.step)⟩
 ·rw [if_neg c2] at H
  have c2b0 : decide (48 ≤ a0) = false := decide_eq_false c2
  clear c2
  obtain rfl := Option.some.inj H
  go_enter Try.func67, Try.ntmps67
  go_wp2
  go_ret
  exact ⟨by first|rfl|(simp;done)|(simp [*];done), by repeat (first|exact Drawn0.refl _|apply Drawn0.step)⟩

/-! ### spec_l1Letter: function 82 -/
def spec_l1Letter.f (a0 : Int) : Option (Bool) := if a0 ≥ 97 then (if a0 ≤ 122 then (some true) else (if a0 ≥ 65 then (some (decide (a0 ≤ 90))) else (some false))) else (if a0 ≥ 65 then (some (decide (a0 ≤ 90))) else (some false))
set_option maxHeartbeats 8000000 in
set_option maxRecDepth 100000 in
theorem spec_l1Letter.calls (a0 : Int) (r : Bool) (w : World) (h : spec_l1Letter.f a0 = some r) :
  Calls Try.prog 82 #[.int .u8 a0] w fun e w' => e = .returned (.bool r) ∧ Drawn0 w w' := by
 have H : (if a0 ≥ 97 then (if a0 ≤ 122 then (some true) else (if a0 ≥ 65 then (some (decide (a0 ≤ 90))) else (some false))) else (if a0 ≥ 65 then (some (decide (a0 ≤ 90))) else (some false))) = some r := h
 clear h
 by_cases c2 : a0 ≥ 97
 ·rw [if_pos c2] at H
  have c2b0 : decide (97 ≤ a0) = true := decide_eq_true c2
  clear c2
  by_cases c3 : a0 ≤ 122
  ·rw [if_pos c3] at H
   have c3b0 : decide (a0 ≤ 122) = true := decide_eq_true c3
   clear c3
   obtain rfl := Option.some.inj H
   go_enter Try.func82, Try.ntmps82
   go_wp2
   go_ret
   exact ⟨by first|rfl|(simp;done)|(simp [*];done), by repeat (first|exact Drawn0.refl _|apply Drawn0.step)⟩
  ·rw [if_neg c3] at H
   have c3b0 : decide (a0 ≤ 122) = false := decide_eq_false c3
   clear c3
   by_cases c4 : a0 ≥ 65
   ·rw [if_pos c4] at H
    have c4b0 : decide (65 ≤ a0) = true := decide_eq_true c4
    clear c4
    obtain rfl := Option.some.inj H
    go_enter Try.func82, Try.ntmps82
    go_wp2
    go_ret
    exact ⟨by first|rfl|(simp;done)|(simp [*];done), by repeat (first|exact Drawn0.refl _|apply Drawn0.step)⟩
   ·rw [if_neg c4] at H
    have c4b0 : decide (65 ≤ a0) = false := decide_eq_false c4
    clear c4
    obtain rfl := Option.some.inj H
    go_enter Try.func82, Try.ntmps82
    go_wp2
    go_ret
    exact ⟨by first|rfl|(simp;done)|(simp [*];done), by repeat (first|exact Drawn0.refl _|apply Drawn0.step)⟩
 ·rw [if_neg c2] at H
  have c2b0 : decide (97 ≤ a0) = false := decide_eq_false c2
  clear c2
  by_cases c5 : a0 ≥ 65
  ·rw [if_pos c5] at H
   have c5b0 : decide (65 ≤ a0) = true := decide_eq_true c5
   clear c5
   obtain rfl := Option.some.inj H
   go_enter Try.func82, Try.ntmps82
   go_wp2
   go_ret
   exact ⟨by first|rfl|(simp;done)|(simp [*];done), by repeat (first|exact Drawn0.refl _|apply Drawn0.step)⟩
  ·rw [if_neg c5] at H
   have c5b0 : decide (65 ≤ a0) = false := decide_eq_false c5
   clear c5
   obtain rfl := Option.some.inj H
   go_enter Try.func82, Try.ntmps82
   go_wp2
   go_ret
   exact ⟨by first|rfl|(simp;done)|(simp [*];done), by repeat (first|exact Drawn0.refl _|apply Drawn0.step)⟩

/-! ### spec_l6Begin: function 68 -/
def spec_l6Begin.f (a0 : Int) : Option (Bool) := (spec_l1Letter.f a0).bind fun t102 => (if t102 = true then (some true) else (if a0 = 95 then (some true) else (some (decide (a0 ≥ 128)))))
set_option maxHeartbeats 8000000 in
set_option maxRecDepth 100000 in
theorem spec_l6Begin.calls (a0 : Int) (r : Bool) (w : World) (h : spec_l6Begin.f a0 = some r) :
  Calls Try.prog 68 #[.int .u8 a0] w fun e w' => e = .returned (.bool r) ∧ Drawn0 w w' := by
 have H : ((spec_l1Letter.f a0).bind fun t102 => (if t102 = true then (some true) else (if a0 = 95 then (some true) else (some (decide (a0 ≥ 128)))))) = some r := h
 clear h
 replace H := Option.bind_eq_some_iff.mp H
 obtain ⟨t102, A20, H⟩ := H
 replace H : (if t102 = true then (some true) else (if a0 = 95 then (some true) else (some (decide (a0 ≥ 128))))) = some r := H
 have A2 := Aside0.mk A20
 clear A20
 by_cases c3 : t102 = true
 ·subst c3
  have H1 : (some true) = some r := by rw [if_pos rfl] at H;exact H
  clear H
  have H := H1
  clear H1
  obtain rfl := Option.some.inj H
  go_enter Try.func68, Try.ntmps68
  go_wp2_with (first|((with_reducible refine gate_callee (f := 82) rfl ?_);refine goesL_ (some 4) rfl rfl Try.func82 (by kernel_rfl) rfl #[.int .u8 a0] rfl (by (try simp only [List.map_toArray, List.map_cons, List.map_nil]);first|done|rfl|(simp only [List.length_drop, List.length_take];rfl)) ?_;(with_reducible refine (spec_l1Letter.calls a0 true _ A2.out).mono ?_);rintro e w' ⟨rfl, ⟨nd, rfl⟩⟩;refine ⟨_, rfl, ?_⟩))
  go_ret
  exact ⟨by first|rfl|(simp;done)|(simp [*];done), by repeat (first|exact Drawn0.refl _|apply Drawn0.step)⟩
 ·replace c3 := Bool.eq_false_iff.mpr c3
  subst c3
  have H1 : (if a0 = 95 then (some true) else (some (decide (a0 ≥ 128)))) = some r := by rw [if_neg (show ¬ (false = true) by decide)] at H;exact H
  clear H
  have H := H1
  clear H1
  by_cases c4 : a0 = 95
  ·rw [if_pos c4] at H
   have c4b0 : (a0 == 95) = true := beq_iff_eq.mpr c4
   have c4b1 : (a0 != 95) = false := bne_eq_false_iff_eq.mpr c4
   clear c4
   obtain rfl := Option.some.inj H
   go_enter Try.func68, Try.ntmps68
   go_wp2_with (first|((with_reducible refine gate_callee (f := 82) rfl ?_);refine goesL_ (some 4) rfl rfl Try.func82 (by kernel_rfl) rfl #[.int .u8 a0] rfl (by (try simp only [List.map_toArray, List.map_cons, List.map_nil]);first|done|rfl|(simp only [List.length_drop, List.length_take];rfl)) ?_;(with_reducible refine (spec_l1Letter.calls a0 false _ A2.out).mono ?_);rintro e w' ⟨rfl, ⟨nd, rfl⟩⟩;refine ⟨_, rfl, ?_⟩))
   go_ret
   exact ⟨by first|rfl|(simp;done)|(simp [*];done), by repeat (first|exact Drawn0.refl _|apply Drawn0.step)⟩
  ·rw [if_neg c4] at H
   have c4b0 : (a0 == 95) = false := beq_eq_false_iff_ne.mpr c4
   have c4b1 : (a0 != 95) = true := bne_iff_ne.mpr c4
   obtain rfl := Option.some.inj H
   go_enter Try.func68, Try.ntmps68
   go_wp2_with (first|((with_reducible refine gate_callee (f := 82) rfl ?_);refine goesL_ (some 4) rfl rfl Try.func82 (by kernel_rfl) rfl #[.int .u8 a0] rfl (by (try simp only [List.map_toArray, List.map_cons, List.map_nil]);first|done|rfl|(simp only [List.length_drop, List.length_take];rfl)) ?_;(with_reducible refine (spec_l1Letter.calls a0 false _ A2.out).mono ?_);rintro e w' ⟨rfl, ⟨nd, rfl⟩⟩;refine ⟨_, rfl, ?_⟩))
   go_ret
   exact ⟨by first|rfl|(simp;done)|(simp [*];done), by repeat (first|exact Drawn0.refl _|apply Drawn0.step)⟩

/-! ### spec_l6Inner: function 65 -/
def spec_l6Inner.f (a0 : Int) : Option (Bool) := (spec_l6Begin.f a0).bind fun t103 => (if t103 = true then (some true) else ((spec_l1Digit.f a0).bind fun t104 => (if t104 = true then (some true) else (some (a0 == 45)))))
set_option maxHeartbeats 8000000 in
set_option maxRecDepth 100000 in
theorem spec_l6Inner.calls (a0 : Int) (r : Bool) (w : World) (h : spec_l6Inner.f a0 = some r) :
  Calls Try.prog 65 #[.int .u8 a0] w fun e w' => e = .returned (.bool r) ∧ Drawn0 w w' := by
 have H : ((spec_l6Begin.f a0).bind fun t103 => (if t103 = true then (some true) else ((spec_l1Digit.f a0).bind fun t104 => (if t104 = true then (some true) else (some (a0 == 45)))))) = some r := h
 clear h
 replace H := Option.bind_eq_some_iff.mp H
 obtain ⟨t103, A20, H⟩ := H
 replace H : (if t103 = true then (some true) else ((spec_l1Digit.f a0).bind fun t104 => (if t104 = true then (some true) else (some (a0 == 45))))) = some r := H
 have A2 := Aside0.mk A20
 clear A20
 by_cases c3 : t103 = true
 ·subst c3
  have H1 : (some true) = some r := by rw [if_pos rfl] at H;exact H
  clear H
  have H := H1
  clear H1
  obtain rfl := Option.some.inj H
  go_enter Try.func65, Try.ntmps65
  go_wp2_with (first|((with_reducible refine gate_callee (f := 68) rfl ?_);refine goesL_ (some 4) rfl rfl Try.func68 (by kernel_rfl) rfl #[.int .u8 a0] rfl (by (try simp only [List.map_toArray, List.map_cons, List.map_nil]);first|done|rfl|(simp only [List.length_drop, List.length_take];rfl)) ?_;(with_reducible refine (spec_l6Begin.calls a0 true _ A2.out).mono ?_);rintro e w' ⟨rfl, ⟨nd, rfl⟩⟩;refine ⟨_, rfl, ?_⟩))
  go_ret
  exact ⟨by first|rfl|(simp;done)|(simp [*];done), by repeat (first|exact Drawn0.refl _|apply Drawn0.step)⟩
 ·replace c3 := Bool.eq_false_iff.mpr c3
  subst c3
  have H1 : ((spec_l1Digit.f a0).bind fun t104 => (if t104 = true then (some true) else (some (a0 == 45)))) = some r := by rw [if_neg (show ¬ (false = true) by decide)] at H;exact H
  clear H
  have H := H1
  clear H1
  replace H := Option.bind_eq_some_iff.mp H
  obtain ⟨t104, A40, H⟩ := H
  replace H : (if t104 = true then (some true) else (some (a0 == 45))) = some r := H
  have A4 := Aside0.mk A40
  clear A40
  by_cases c5 : t104 = true
  ·subst c5
   have H1 : (some true) = some r := by rw [if_pos rfl] at H;exact H
   clear H
   have H := H1
   clear H1
   obtain rfl := Option.some.inj H
   go_enter Try.func65, Try.ntmps65
   go_wp2_with (first|((with_reducible refine gate_callee (f := 68) rfl ?_);refine goesL_ (some 4) rfl rfl Try.func68 (by kernel_rfl) rfl #[.int .u8 a0] rfl (by (try simp only [List.map_toArray, List.map_cons, List.map_nil]);first|done|rfl|(simp only [List.length_drop, List.length_take];rfl)) ?_;(with_reducible refine (spec_l6Begin.calls a0 false _ A2.out).mono ?_);rintro e w' ⟨rfl, ⟨nd, rfl⟩⟩;refine ⟨_, rfl, ?_⟩)|(go_at_call 67;(with_reducible refine (spec_l1Digit.calls a0 true _ A4.out).mono ?_);rintro e w' ⟨rfl, ⟨nd, rfl⟩⟩))
   go_ret
   exact ⟨by first|rfl|(simp;done)|(simp [*];done), by repeat (first|exact Drawn0.refl _|apply Drawn0.step)⟩
  ·replace c5 := Bool.eq_false_iff.mpr c5
   subst c5
   have H1 : (some (a0 == 45)) = some r := by rw [if_neg (show ¬ (false = true) by decide)] at H;exact H
   clear H
   have H := H1
   clear H1
   obtain rfl := Option.some.inj H
   go_enter Try.func65, Try.ntmps65
   go_wp2_with (first|((with_reducible refine gate_callee (f := 68) rfl ?_);refine goesL_ (some 4) rfl rfl Try.func68 (by kernel_rfl) rfl #[.int .u8 a0] rfl (by (try simp only [List.map_toArray, List.map_cons, List.map_nil]);first|done|rfl|(simp only [List.length_drop, List.length_take];rfl)) ?_;(with_reducible refine (spec_l6Begin.calls a0 false _ A2.out).mono ?_);rintro e w' ⟨rfl, ⟨nd, rfl⟩⟩;refine ⟨_, rfl, ?_⟩)|(go_at_call 67;(with_reducible refine (spec_l1Digit.calls a0 false _ A4.out).mono ?_);rintro e w' ⟨rfl, ⟨nd, rfl⟩⟩))
   go_ret
   exact ⟨by first|rfl|(simp;done)|(simp [*];done), by repeat (first|exact Drawn0.refl _|apply Drawn0.step)⟩

/-! ### spec_l6Name: function 80 -/
mutual
def spec_l6Name.j0 : Nat → ByteArray → Int → Option (ByteArray)
  | 0, _, _ => none
  | k + 1, x0, x1 => spec_l6Name.l0 k x0 x1 x1
def spec_l6Name.l0 : Nat → ByteArray → Int → Int → Option (ByteArray)
  | 0, _, _, _ => none
  | k + 1, x0, x1, x5 => if x5 < (x0.size : Int) then (if 0 ≤ x5 then ((spec_l6Inner.f (bt x0 x5)).bind fun t107 => (if t107 = true then (spec_l6Name.l0 k x0 x1 (wrap64 (x5 + 1))) else (if 0 ≤ x1 then (if x1 ≤ x5 then (if x5 ≤ (x0.size : Int) then (some (x0.extract (x1 : Int).toNat (x5 : Int).toNat)) else (none)) else (none)) else (none)))) else (none)) else (if 0 ≤ x1 then (if x1 ≤ x5 then (if x5 ≤ (x0.size : Int) then (some (x0.extract (x1 : Int).toNat (x5 : Int).toNat)) else (none)) else (none)) else (none))
end
def spec_l6Name.f (k : Nat) (a0 : ByteArray) (a1 : Int) : Option (ByteArray) := if a1 ≥ (a0.size : Int) then (some (⟨#[]⟩ : ByteArray)) else (if 0 ≤ a1 then (if a1 < (a0.size : Int) then (if (bt a0 a1) = 45 then (if (wrap64 (a1 + 1)) ≥ (a0.size : Int) then (some (⟨#[]⟩ : ByteArray)) else (if 0 ≤ (wrap64 (a1 + 1)) then (if (wrap64 (a1 + 1)) < (a0.size : Int) then ((spec_l6Begin.f (bt a0 (wrap64 (a1 + 1)))).bind fun t105 => (if t105 = true then (spec_l6Name.j0 k a0 a1) else (if (bt a0 (wrap64 (a1 + 1))) = 45 then (spec_l6Name.j0 k a0 a1) else (some (⟨#[]⟩ : ByteArray))))) else (none)) else (none))) else ((spec_l6Begin.f (bt a0 a1)).bind fun t106 => (if t106 = true then (spec_l6Name.j0 k a0 a1) else (some (⟨#[]⟩ : ByteArray))))) else (none)) else (none))
theorem spec_l6Name.mono_l : ∀ k, (∀ y0 y1, LeO (spec_l6Name.j0 k y0 y1) (spec_l6Name.j0 (k + 1) y0 y1)) ∧ (∀ y0 y1 y2, LeO (spec_l6Name.l0 k y0 y1 y2) (spec_l6Name.l0 (k + 1) y0 y1 y2))
 | 0 => ⟨fun _ _ r h => by simp [spec_l6Name.j0] at h, fun _ _ _ r h => by simp [spec_l6Name.l0] at h⟩
 | k + 1 => by
  obtain ⟨ih0, ih1⟩ := spec_l6Name.mono_l k
  refine ⟨?_, ?_⟩
  ·intro y0 y1
   unfold spec_l6Name.j0
   repeat' first
  |(with_reducible exact ih0 _ _)
  |(with_reducible exact ih1 _ _ _)
  |(with_reducible exact LeO.refl _)
  |(with_reducible exact LeO.none _)
  |(with_reducible refine LeO.ite ?_ ?_)
  |(with_reducible refine LeO.bind ?_ (fun _ => ?_))
  |exact ih0 _ _
  |exact ih1 _ _ _
  |exact LeO.none _
  |refine LeO.ite ?_ ?_
  |refine LeO.bind ?_ (fun _ => ?_)
  ·intro y0 y1 y2
   unfold spec_l6Name.l0
   repeat' first
  |(with_reducible exact ih0 _ _)
  |(with_reducible exact ih1 _ _ _)
  |(with_reducible exact LeO.refl _)
  |(with_reducible exact LeO.none _)
  |(with_reducible refine LeO.ite ?_ ?_)
  |(with_reducible refine LeO.bind ?_ (fun _ => ?_))
  |exact ih0 _ _
  |exact ih1 _ _ _
  |exact LeO.none _
  |refine LeO.ite ?_ ?_
  |refine LeO.bind ?_ (fun _ => ?_)
theorem spec_l6Name.mono : ∀ a0 a1 k, LeO (spec_l6Name.f k a0 a1) (spec_l6Name.f (k + 1) a0 a1) := by
 intro a0 a1 k
 obtain ⟨ih0, ih1⟩ := spec_l6Name.mono_l k
 unfold spec_l6Name.f
 repeat' first
  |(with_reducible exact ih0 _ _)
  |(with_reducible exact ih1 _ _ _)
  |(with_reducible exact LeO.refl _)
  |(with_reducible exact LeO.none _)
  |(with_reducible refine LeO.ite ?_ ?_)
  |(with_reducible refine LeO.bind ?_ (fun _ => ?_))
  |exact ih0 _ _
  |exact ih1 _ _ _
  |exact LeO.none _
  |refine LeO.ite ?_ ?_
  |refine LeO.bind ?_ (fun _ => ?_)
set_option maxHeartbeats 8000000 in
set_option maxRecDepth 100000 in
theorem spec_l6Name.calls (k : Nat) (a0 : ByteArray) (a1 : Int) (r : ByteArray) (w : World) (h : spec_l6Name.f k a0 a1 = some r) :
  Calls Try.prog 80 #[.string a0, .int .i64 a1] w fun e w' => e = .returned (.string r) ∧ Drawn0 w w' := by
 have H : (if a1 ≥ (a0.size : Int) then (some (⟨#[]⟩ : ByteArray)) else (if 0 ≤ a1 then (if a1 < (a0.size : Int) then (if (bt a0 a1) = 45 then (if (wrap64 (a1 + 1)) ≥ (a0.size : Int) then (some (⟨#[]⟩ : ByteArray)) else (if 0 ≤ (wrap64 (a1 + 1)) then (if (wrap64 (a1 + 1)) < (a0.size : Int) then ((spec_l6Begin.f (bt a0 (wrap64 (a1 + 1)))).bind fun t105 => (if t105 = true then (spec_l6Name.j0 k a0 a1) else (if (bt a0 (wrap64 (a1 + 1))) = 45 then (spec_l6Name.j0 k a0 a1) else (some (⟨#[]⟩ : ByteArray))))) else (none)) else (none))) else ((spec_l6Begin.f (bt a0 a1)).bind fun t106 => (if t106 = true then (spec_l6Name.j0 k a0 a1) else (some (⟨#[]⟩ : ByteArray))))) else (none)) else (none))) = some r := h
 clear h
 by_cases c3 : a1 ≥ (a0.size : Int)
 ·rw [if_pos c3] at H
  have c3b0 : decide ((a0.size : Int) ≤ a1) = true := decide_eq_true c3
  clear c3
  obtain rfl := Option.some.inj H
  go_enter Try.func80, Try.ntmps80
  go_wp2
  go_ret
  exact ⟨by first|rfl|(simp;done)|(simp [*];done), by repeat (first|exact Drawn0.refl _|apply Drawn0.step)⟩
 ·rw [if_neg c3] at H
  have c3b0 : decide ((a0.size : Int) ≤ a1) = false := decide_eq_false c3
  clear c3
  by_cases c4 : 0 ≤ a1
  ·rw [if_pos c4] at H
   have c4b0 : decide (0 ≤ a1) = true := decide_eq_true c4
   clear c4
   by_cases c5 : a1 < (a0.size : Int)
   ·rw [if_pos c5] at H
    have c5b0 : decide (a1 < (a0.size : Int)) = true := decide_eq_true c5
    clear c5
    have HC7 := Aside0.mk H
    clear H
    have p6 : 0 ≤ (a1 : Int) := of_decide_eq_true (by first|(with_reducible assumption)|assumption)
    have q6 : a1 < (a0.size : Int) := of_decide_eq_true (by first|(with_reducible assumption)|assumption)
    have hx6 := bt_at a0 a1
    replace p6 := eq_true p6
    replace q6 := eq_true q6
    go_enter Try.func80, Try.ntmps80
    go_upto_if 13 with (fail)
    go_cut [] (fun wc => ∃ (kq : Nat), Aside0 (spec_l6Name.j0 kq a0 a1 = some r) ∧ Aside0 (kq ≤ k) ∧ Drawn0 w wc)
    case first =>
     have H := HC7.out
     clear HC7
     by_cases c8 : (bt a0 a1) = 45
     ·rw [if_pos c8] at H
      have c8b0 : ((bt a0 a1) == 45) = true := beq_iff_eq.mpr c8
      have c8b1 : ((bt a0 a1) != 45) = false := bne_eq_false_iff_eq.mpr c8
      clear c8
      (first|rw [c8b0]|(simp only [i64_w, i32_w];rw [c8b0])|skip)
      by_cases c9 : (wrap64 (a1 + 1)) ≥ (a0.size : Int)
      ·rw [if_pos c9] at H
       have c9b0 : decide ((a0.size : Int) ≤ (wrap64 (a1 + 1))) = true := decide_eq_true c9
       clear c9
       obtain rfl := Option.some.inj H
       go_wp2
       go_ret
       exact ⟨by first|rfl|(simp;done)|(simp [*];done), by repeat (first|exact Drawn0.refl _|apply Drawn0.step)⟩
      ·rw [if_neg c9] at H
       have c9b0 : decide ((a0.size : Int) ≤ (wrap64 (a1 + 1))) = false := decide_eq_false c9
       clear c9
       obtain ⟨ji10, hji10⟩ : ∃ j_ : Int, (wrap64 (a1 + 1)) = j_ := ⟨_, rfl⟩
       replace H : (if 0 ≤ (ji10) then (if (ji10) < (a0.size : Int) then ((spec_l6Begin.f (bt a0 (ji10))).bind fun t105 => (if t105 = true then (spec_l6Name.j0 k a0 a1) else (if (bt a0 (ji10)) = 45 then (spec_l6Name.j0 k a0 a1) else (some (⟨#[]⟩ : ByteArray))))) else (none)) else (none)) = some r := by first|(rw [hji10] at H;exact H)|(simp only [hji10] at H ⊢;exact H)
       (try rw [hji10] at c9b0)
       have hji10w : (IntKind.i64.wrap (a1 + 1)) = ji10 := (i64_w _).trans hji10
       by_cases c11 : 0 ≤ (ji10)
       ·rw [if_pos c11] at H
        have c11b0 : decide (0 ≤ (ji10)) = true := decide_eq_true c11
        clear c11
        by_cases c12 : (ji10) < (a0.size : Int)
        ·rw [if_pos c12] at H
         have c12b0 : decide ((ji10) < (a0.size : Int)) = true := decide_eq_true c12
         clear c12
         replace H := Option.bind_eq_some_iff.mp H
         obtain ⟨t105, A140, H⟩ := H
         replace H : (if t105 = true then (spec_l6Name.j0 k a0 a1) else (if (bt a0 (ji10)) = 45 then (spec_l6Name.j0 k a0 a1) else (some (⟨#[]⟩ : ByteArray)))) = some r := H
         have A14 := Aside0.mk A140
         clear A140
         by_cases c15 : t105 = true
         ·subst c15
          have H1 : (spec_l6Name.j0 k a0 a1) = some r := by rw [if_pos rfl] at H;exact H
          clear H
          have H := H1
          clear H1
          have H' := Aside0.mk H
          clear H
          have p13 : 0 ≤ ((ji10) : Int) := of_decide_eq_true (by first|(with_reducible assumption)|assumption)
          have q13 : (ji10) < (a0.size : Int) := of_decide_eq_true (by first|(with_reducible assumption)|assumption)
          have hx13 := bt_at a0 (ji10)
          replace p13 := eq_true p13
          replace q13 := eq_true q13
          go_wp2_with (first|(go_at_call 68;(with_reducible refine (spec_l6Begin.calls (bt a0 (ji10)) true _ A14.out).mono ?_);rintro e w' ⟨rfl, ⟨nd, rfl⟩⟩))
          go_meet
          case rel => exact ⟨_, H', ⟨by first|omega|exact Nat.le_refl _⟩, by repeat (first|exact Drawn0.refl _|apply Drawn0.step)⟩
         ·replace c15 := Bool.eq_false_iff.mpr c15
          subst c15
          have H1 : (if (bt a0 (ji10)) = 45 then (spec_l6Name.j0 k a0 a1) else (some (⟨#[]⟩ : ByteArray))) = some r := by rw [if_neg (show ¬ (false = true) by decide)] at H;exact H
          clear H
          have H := H1
          clear H1
          by_cases c17 : (bt a0 (ji10)) = 45
          ·rw [if_pos c17] at H
           have c17b0 : ((bt a0 (ji10)) == 45) = true := beq_iff_eq.mpr c17
           have c17b1 : ((bt a0 (ji10)) != 45) = false := bne_eq_false_iff_eq.mpr c17
           clear c17
           have H' := Aside0.mk H
           clear H
           have p13 : 0 ≤ ((ji10) : Int) := of_decide_eq_true (by first|(with_reducible assumption)|assumption)
           have q13 : (ji10) < (a0.size : Int) := of_decide_eq_true (by first|(with_reducible assumption)|assumption)
           have hx13 := bt_at a0 (ji10)
           replace p13 := eq_true p13
           replace q13 := eq_true q13
           go_wp2_with (first|(go_at_call 68;(with_reducible refine (spec_l6Begin.calls (bt a0 (ji10)) false _ A14.out).mono ?_);rintro e w' ⟨rfl, ⟨nd, rfl⟩⟩;have p16 : 0 ≤ ((ji10) : Int) := of_decide_eq_true (by first|(with_reducible assumption)|assumption);have q16 : (ji10) < (a0.size : Int) := of_decide_eq_true (by first|(with_reducible assumption)|assumption);have hx16 := bt_at a0 (ji10);replace p16 := eq_true p16;replace q16 := eq_true q16))
           go_meet
           case rel => exact ⟨_, H', ⟨by first|omega|exact Nat.le_refl _⟩, by repeat (first|exact Drawn0.refl _|apply Drawn0.step)⟩
          ·rw [if_neg c17] at H
           have c17b0 : ((bt a0 (ji10)) == 45) = false := beq_eq_false_iff_ne.mpr c17
           have c17b1 : ((bt a0 (ji10)) != 45) = true := bne_iff_ne.mpr c17
           obtain rfl := Option.some.inj H
           have p13 : 0 ≤ ((ji10) : Int) := of_decide_eq_true (by first|(with_reducible assumption)|assumption)
           have q13 : (ji10) < (a0.size : Int) := of_decide_eq_true (by first|(with_reducible assumption)|assumption)
           have hx13 := bt_at a0 (ji10)
           replace p13 := eq_true p13
           replace q13 := eq_true q13
           go_wp2_with (first|(go_at_call 68;(with_reducible refine (spec_l6Begin.calls (bt a0 (ji10)) false _ A14.out).mono ?_);rintro e w' ⟨rfl, ⟨nd, rfl⟩⟩;have p16 : 0 ≤ ((ji10) : Int) := of_decide_eq_true (by first|(with_reducible assumption)|assumption);have q16 : (ji10) < (a0.size : Int) := of_decide_eq_true (by first|(with_reducible assumption)|assumption);have hx16 := bt_at a0 (ji10);replace p16 := eq_true p16;replace q16 := eq_true q16))
           go_ret
           exact ⟨by first|rfl|(simp;done)|(simp only [← hji10] <;> (first|rfl|simp))|(simp [*];done), by repeat (first|exact Drawn0.refl _|apply Drawn0.step)⟩
        ·rw [if_neg c12] at H
         exact absurd H (by simp)
       ·rw [if_neg c11] at H
        exact absurd H (by simp)
     ·rw [if_neg c8] at H
      have c8b0 : ((bt a0 a1) == 45) = false := beq_eq_false_iff_ne.mpr c8
      have c8b1 : ((bt a0 a1) != 45) = true := bne_iff_ne.mpr c8
      (first|rw [c8b0]|(simp only [i64_w, i32_w];rw [c8b0])|skip)
      replace H := Option.bind_eq_some_iff.mp H
      obtain ⟨t106, A190, H⟩ := H
      replace H : (if t106 = true then (spec_l6Name.j0 k a0 a1) else (some (⟨#[]⟩ : ByteArray))) = some r := H
      have A19 := Aside0.mk A190
      clear A190
      by_cases c20 : t106 = true
      ·subst c20
       have H1 : (spec_l6Name.j0 k a0 a1) = some r := by rw [if_pos rfl] at H;exact H
       clear H
       have H := H1
       clear H1
       have H' := Aside0.mk H
       clear H
       have p18 : 0 ≤ (a1 : Int) := of_decide_eq_true (by first|(with_reducible assumption)|assumption)
       have q18 : a1 < (a0.size : Int) := of_decide_eq_true (by first|(with_reducible assumption)|assumption)
       have hx18 := bt_at a0 a1
       replace p18 := eq_true p18
       replace q18 := eq_true q18
       go_wp2_with (first|((with_reducible refine gate_callee (f := 68) rfl ?_);refine goesL_ (some 37) rfl rfl Try.func68 (by kernel_rfl) rfl #[.int .u8 (bt a0 a1)] rfl (by (try simp only [List.map_toArray, List.map_cons, List.map_nil]);first|done|rfl|(simp only [List.length_drop, List.length_take];rfl)) ?_;(with_reducible refine (spec_l6Begin.calls (bt a0 a1) true _ A19.out).mono ?_);rintro e w' ⟨rfl, ⟨nd, rfl⟩⟩;refine ⟨_, rfl, ?_⟩))
       go_meet
       case rel => exact ⟨_, H', ⟨by first|omega|exact Nat.le_refl _⟩, by repeat (first|exact Drawn0.refl _|apply Drawn0.step)⟩
      ·replace c20 := Bool.eq_false_iff.mpr c20
       subst c20
       have H1 : (some (⟨#[]⟩ : ByteArray)) = some r := by rw [if_neg (show ¬ (false = true) by decide)] at H;exact H
       clear H
       have H := H1
       clear H1
       obtain rfl := Option.some.inj H
       have p18 : 0 ≤ (a1 : Int) := of_decide_eq_true (by first|(with_reducible assumption)|assumption)
       have q18 : a1 < (a0.size : Int) := of_decide_eq_true (by first|(with_reducible assumption)|assumption)
       have hx18 := bt_at a0 a1
       replace p18 := eq_true p18
       replace q18 := eq_true q18
       go_wp2_with (first|((with_reducible refine gate_callee (f := 68) rfl ?_);refine goesL_ (some 37) rfl rfl Try.func68 (by kernel_rfl) rfl #[.int .u8 (bt a0 a1)] rfl (by (try simp only [List.map_toArray, List.map_cons, List.map_nil]);first|done|rfl|(simp only [List.length_drop, List.length_take];rfl)) ?_;(with_reducible refine (spec_l6Begin.calls (bt a0 a1) false _ A19.out).mono ?_);rintro e w' ⟨rfl, ⟨nd, rfl⟩⟩;refine ⟨_, rfl, ?_⟩))
       go_ret
       exact ⟨by first|rfl|(simp;done)|(simp [*];done), by repeat (first|exact Drawn0.refl _|apply Drawn0.step)⟩
    case rest =>
     clear HC7
     try clear c1;try clear p1;try clear q1;try clear hx1;try clear c2;try clear p2;try clear c3;try clear c3b0;try clear c4;try clear c4b0;try clear c5;try clear c5b0;try clear c6;try clear p6;try clear q6;try clear hx6;try clear c8;try clear c8b0;try clear c8b1;try clear c9;try clear c9b0;try clear c11;try clear c11b0;try clear c12;try clear c12b0;try clear p13;try clear q13;try clear hx13;try clear c15;try clear p16;try clear q16;try clear hx16;try clear c17;try clear c17b0;try clear c17b1;try clear p18;try clear q18;try clear hx18;try clear c20;try clear p13;try clear p16;try clear p18;try clear p6;try clear q13;try clear q16;try clear q18;try clear q6
     obtain ⟨kq, HA, HJ6, ⟨mc6, rfl⟩⟩ := hcut
     cases kq with
    |zero => exact absurd HA.out (by simp [spec_l6Name.j0])
    |succ kj6 =>
      have H := HA.out
      clear HA
      simp only [spec_l6Name.j0] at H
      have H' := Aside0.mk H
      clear H
      go_wp2
      go_loopg [5] kj6 (fun kq v5 w' => ∃ (x5_2 : Int), v5 = .int .i64 x5_2 ∧ Aside0 (spec_l6Name.l0 kq a0 a1 x5_2 = some r) ∧ Aside0 (kq ≤ kj6) ∧ Drawn0 w w')
      case atStart => exact ⟨(a1),(by first|rfl|(simp;done)|(simp [*];done)), H', ⟨Nat.le_refl _⟩, by repeat (first|exact Drawn0.refl _|apply Drawn0.step)⟩
      case round =>
       clear H'
       try clear c1;try clear p1;try clear q1;try clear hx1;try clear c2;try clear p2;try clear c3;try clear c3b0;try clear c4;try clear c4b0;try clear c5;try clear c5b0;try clear c6;try clear p6;try clear q6;try clear hx6;try clear c8;try clear c8b0;try clear c8b1;try clear c9;try clear c9b0;try clear c11;try clear c11b0;try clear c12;try clear c12b0;try clear p13;try clear q13;try clear hx13;try clear c15;try clear p16;try clear q16;try clear hx16;try clear c17;try clear c17b0;try clear c17b1;try clear p18;try clear q18;try clear hx18;try clear c20;try clear p1;try clear p13;try clear p16;try clear p18;try clear p2;try clear p6;try clear q1;try clear q13;try clear q16;try clear q18;try clear q6
       obtain ⟨x5_2, rfl, HA, HK2, ⟨m2, rfl⟩⟩ := hrel
       cases gk with
      |zero => exact absurd HA.out (by simp [spec_l6Name.l0])
      |succ k2 =>
        have H := HA.out
        clear HA
        simp only [spec_l6Name.l0] at H
        by_cases c21 : x5_2 < (a0.size : Int)
        ·rw [if_pos c21] at H
         have c21b0 : decide (x5_2 < (a0.size : Int)) = true := decide_eq_true c21
         clear c21
         by_cases c22 : 0 ≤ x5_2
         ·rw [if_pos c22] at H
          have c22b0 : decide (0 ≤ x5_2) = true := decide_eq_true c22
          clear c22
          replace H := Option.bind_eq_some_iff.mp H
          obtain ⟨t107, A240, H⟩ := H
          replace H : (if t107 = true then (spec_l6Name.l0 k2 a0 a1 (wrap64 (x5_2 + 1))) else (if 0 ≤ a1 then (if a1 ≤ x5_2 then (if x5_2 ≤ (a0.size : Int) then (some (a0.extract (a1 : Int).toNat (x5_2 : Int).toNat)) else (none)) else (none)) else (none))) = some r := H
          have A24 := Aside0.mk A240
          clear A240
          by_cases c25 : t107 = true
          ·subst c25
           have H1 : (spec_l6Name.l0 k2 a0 a1 (wrap64 (x5_2 + 1))) = some r := by rw [if_pos rfl] at H;exact H
           clear H
           have H := H1
           clear H1
           have H' := Aside0.mk H
           clear H
           have p23 : 0 ≤ (x5_2 : Int) := of_decide_eq_true (by first|(with_reducible assumption)|assumption)
           have q23 : x5_2 < (a0.size : Int) := of_decide_eq_true (by first|(with_reducible assumption)|assumption)
           have hx23 := bt_at a0 x5_2
           replace p23 := eq_true p23
           replace q23 := eq_true q23
           go_wp2_with (first|(go_at_call 65;(with_reducible refine (spec_l6Inner.calls (bt a0 x5_2) true _ A24.out).mono ?_);rintro e w' ⟨rfl, ⟨nd, rfl⟩⟩))
           go_roundg k2
           case measure => have := HJ6.out;have := HK2.out;omega
           case rel => exact ⟨(wrap64 (x5_2 + 1)),(by first|rfl|(simp;done)|(simp [*];done)), H', ⟨by have := HJ6.out;have := HK2.out;omega⟩, by repeat (first|exact Drawn0.refl _|apply Drawn0.step)⟩
          ·replace c25 := Bool.eq_false_iff.mpr c25
           subst c25
           have H1 : (if 0 ≤ a1 then (if a1 ≤ x5_2 then (if x5_2 ≤ (a0.size : Int) then (some (a0.extract (a1 : Int).toNat (x5_2 : Int).toNat)) else (none)) else (none)) else (none)) = some r := by rw [if_neg (show ¬ (false = true) by decide)] at H;exact H
           clear H
           have H := H1
           clear H1
           by_cases c26 : 0 ≤ a1
           ·rw [if_pos c26] at H
            have c26b0 := eq_true c26
            have c26b1 : decide (0 ≤ a1) = true := decide_eq_true c26
            clear c26
            by_cases c27 : a1 ≤ x5_2
            ·rw [if_pos c27] at H
             have c27b0 := eq_true c27
             have c27b1 : decide (a1 ≤ x5_2) = true := decide_eq_true c27
             clear c27
             by_cases c28 : x5_2 ≤ (a0.size : Int)
             ·rw [if_pos c28] at H
              have c28b0 := eq_true c28
              have c28b1 : decide (x5_2 ≤ (a0.size : Int)) = true := decide_eq_true c28
              clear c28
              obtain rfl := Option.some.inj H
              have p23 : 0 ≤ (x5_2 : Int) := of_decide_eq_true (by first|(with_reducible assumption)|assumption)
              have q23 : x5_2 < (a0.size : Int) := of_decide_eq_true (by first|(with_reducible assumption)|assumption)
              have hx23 := bt_at a0 x5_2
              replace p23 := eq_true p23
              replace q23 := eq_true q23
              go_wp2_with (first|(go_at_call 65;(with_reducible refine (spec_l6Inner.calls (bt a0 x5_2) false _ A24.out).mono ?_);rintro e w' ⟨rfl, ⟨nd, rfl⟩⟩))
              go_ret
              exact ⟨by first|rfl|(simp;done)|(simp [*];done), by repeat (first|exact Drawn0.refl _|apply Drawn0.step)⟩
             ·rw [if_neg c28] at H
              exact absurd H (by simp)
            ·rw [if_neg c27] at H
             exact absurd H (by simp)
           ·rw [if_neg c26] at H
            exact absurd H (by simp)
         ·rw [if_neg c22] at H
          exact absurd H (by simp)
        ·rw [if_neg c21] at H
         have c21b0 : decide (x5_2 < (a0.size : Int)) = false := decide_eq_false c21
         clear c21
         by_cases c29 : 0 ≤ a1
         ·rw [if_pos c29] at H
          have c29b0 := eq_true c29
          have c29b1 : decide (0 ≤ a1) = true := decide_eq_true c29
          clear c29
          by_cases c30 : a1 ≤ x5_2
          ·rw [if_pos c30] at H
           have c30b0 := eq_true c30
           have c30b1 : decide (a1 ≤ x5_2) = true := decide_eq_true c30
           clear c30
           by_cases c31 : x5_2 ≤ (a0.size : Int)
           ·rw [if_pos c31] at H
            have c31b0 := eq_true c31
            have c31b1 : decide (x5_2 ≤ (a0.size : Int)) = true := decide_eq_true c31
            clear c31
            obtain rfl := Option.some.inj H
            go_wp2
            go_ret
            exact ⟨by first|rfl|(simp;done)|(simp [*];done), by repeat (first|exact Drawn0.refl _|apply Drawn0.step)⟩
           ·rw [if_neg c31] at H
            exact absurd H (by simp)
          ·rw [if_neg c30] at H
           exact absurd H (by simp)
         ·rw [if_neg c29] at H
          exact absurd H (by simp)
   ·rw [if_neg c5] at H
    exact absurd H (by simp)
  ·rw [if_neg c4] at H
   exact absurd H (by simp)

/-! ### spec_l6IsName: function 63 -/
def spec_l6IsName.f (k : Nat) (a0 : ByteArray) : Option (Bool) := if a0.toList = ([] : List UInt8) then (some false) else ((spec_l6Name.f k a0 0).bind fun t108 => (some (t108.toList == a0.toList)))
theorem spec_l6IsName.mono : ∀ a0 k, LeO (spec_l6IsName.f k a0) (spec_l6IsName.f (k + 1) a0) := by
 intro a0 k
 unfold spec_l6IsName.f
 repeat' first
  |(with_reducible exact spec_l6Name.mono _ _ _)
  |(with_reducible exact LeO.refl _)
  |(with_reducible exact LeO.none _)
  |(with_reducible refine LeO.ite ?_ ?_)
  |(with_reducible refine LeO.bind ?_ (fun _ => ?_))
  |exact spec_l6Name.mono _ _ _
  |exact LeO.none _
  |refine LeO.ite ?_ ?_
  |refine LeO.bind ?_ (fun _ => ?_)
set_option maxHeartbeats 8000000 in
set_option maxRecDepth 100000 in
theorem spec_l6IsName.calls (k : Nat) (a0 : ByteArray) (r : Bool) (w : World) (h : spec_l6IsName.f k a0 = some r) :
  Calls Try.prog 63 #[.string a0] w fun e w' => e = .returned (.bool r) ∧ Drawn0 w w' := by
 have H : (if a0.toList = ([] : List UInt8) then (some false) else ((spec_l6Name.f k a0 0).bind fun t108 => (some (t108.toList == a0.toList)))) = some r := h
 clear h
 by_cases c2 : a0.toList = ([] : List UInt8)
 ·rw [if_pos c2] at H
  have c2b0 : (a0.toList == ([] : List UInt8)) = true := beq_iff_eq.mpr c2
  have c2b1 : (a0.toList != ([] : List UInt8)) = false := bne_eq_false_iff_eq.mpr c2
  clear c2
  obtain rfl := Option.some.inj H
  go_enter Try.func63, Try.ntmps63
  go_wp2
  go_ret
  exact ⟨by first|rfl|(simp;done)|(simp [*];done), by repeat (first|exact Drawn0.refl _|apply Drawn0.step)⟩
 ·rw [if_neg c2] at H
  have c2b0 : (a0.toList == ([] : List UInt8)) = false := beq_eq_false_iff_ne.mpr c2
  have c2b1 : (a0.toList != ([] : List UInt8)) = true := bne_iff_ne.mpr c2
  replace H := Option.bind_eq_some_iff.mp H
  obtain ⟨t108, A30, H⟩ := H
  replace H : (some (t108.toList == a0.toList)) = some r := H
  have A3 := Aside0.mk A30
  clear A30
  obtain rfl := Option.some.inj H
  go_enter Try.func63, Try.ntmps63
  go_wp2_with (first|(go_at_call 80;(with_reducible refine (spec_l6Name.calls k a0 0 t108 _ A3.out).mono ?_);rintro e w' ⟨rfl, ⟨nd, rfl⟩⟩))
  go_ret
  exact ⟨by first|rfl|(simp;done)|(simp [*];done), by repeat (first|exact Drawn0.refl _|apply Drawn0.step)⟩

/-! ### spec_l1LowerByte: function 81 -/
def spec_l1LowerByte.f (a0 : Int) : Option (Int) := if a0 ≥ 65 then (if a0 ≤ 90 then (some ((a0 + 32) % 256)) else (some a0)) else (some a0)
set_option maxHeartbeats 8000000 in
set_option maxRecDepth 100000 in
theorem spec_l1LowerByte.calls (a0 : Int) (r : Int) (w : World) (h : spec_l1LowerByte.f a0 = some r) :
  Calls Try.prog 81 #[.int .u8 a0] w fun e w' => e = .returned (.int .u8 r) ∧ Drawn0 w w' := by
 have H : (if a0 ≥ 65 then (if a0 ≤ 90 then (some ((a0 + 32) % 256)) else (some a0)) else (some a0)) = some r := h
 clear h
 by_cases c2 : a0 ≥ 65
 ·rw [if_pos c2] at H
  have c2b0 : decide (65 ≤ a0) = true := decide_eq_true c2
  clear c2
  by_cases c3 : a0 ≤ 90
  ·rw [if_pos c3] at H
   have c3b0 : decide (a0 ≤ 90) = true := decide_eq_true c3
   clear c3
   obtain rfl := Option.some.inj H
   go_enter Try.func81, Try.ntmps81
   go_wp2
   go_ret
   exact ⟨by first|rfl|(simp;done)|(simp [*];done), by repeat (first|exact Drawn0.refl _|apply Drawn0.step)⟩
  ·rw [if_neg c3] at H
   have c3b0 : decide (a0 ≤ 90) = false := decide_eq_false c3
   clear c3
   obtain rfl := Option.some.inj H
   go_enter Try.func81, Try.ntmps81
   go_wp2
   go_ret
   exact ⟨by first|rfl|(simp;done)|(simp [*];done), by repeat (first|exact Drawn0.refl _|apply Drawn0.step)⟩
 ·rw [if_neg c2] at H
  have c2b0 : decide (65 ≤ a0) = false := decide_eq_false c2
  clear c2
  obtain rfl := Option.some.inj H
  go_enter Try.func81, Try.ntmps81
  go_wp2
  go_ret
  exact ⟨by first|rfl|(simp;done)|(simp [*];done), by repeat (first|exact Drawn0.refl _|apply Drawn0.step)⟩

/-! ### spec_l1Lower: function 64 -/
def spec_l1Lower.l0 : Nat → ByteArray → List Int → Int → Option (ByteArray)
  | 0, _, _, _ => none
  | k + 1, x0, x3, x4 => if x4 < (x0.size : Int) then (if 0 ≤ x4 then ((spec_l1LowerByte.f (bt x0 x4)).bind fun t112 => (if x3.length < 140737488355328 then (spec_l1Lower.l0 k x0 (x3 ++ [t112]) (wrap64 (x4 + 1))) else (none))) else (none)) else (some (strOfNums x3))
def spec_l1Lower.f (k : Nat) (a0 : ByteArray) : Option (ByteArray) := spec_l1Lower.l0 k a0 (([] : List Int)) 0
theorem spec_l1Lower.mono_l : ∀ k, (∀ y0 y1 y2, LeO (spec_l1Lower.l0 k y0 y1 y2) (spec_l1Lower.l0 (k + 1) y0 y1 y2))
 | 0 => fun _ _ _ r h => by simp [spec_l1Lower.l0] at h
 | k + 1 => by
  have ih0 := spec_l1Lower.mono_l k
  ·intro y0 y1 y2
   unfold spec_l1Lower.l0
   repeat' first
  |(with_reducible exact ih0 _ _ _)
  |(with_reducible exact LeO.refl _)
  |(with_reducible exact LeO.none _)
  |(with_reducible refine LeO.ite ?_ ?_)
  |(with_reducible refine LeO.bind ?_ (fun _ => ?_))
  |exact ih0 _ _ _
  |exact LeO.none _
  |refine LeO.ite ?_ ?_
  |refine LeO.bind ?_ (fun _ => ?_)
theorem spec_l1Lower.mono : ∀ a0 k, LeO (spec_l1Lower.f k a0) (spec_l1Lower.f (k + 1) a0) := by
 intro a0 k
 have ih0 := spec_l1Lower.mono_l k
 unfold spec_l1Lower.f
 repeat' first
  |(with_reducible exact ih0 _ _ _)
  |(with_reducible exact LeO.refl _)
  |(with_reducible exact LeO.none _)
  |(with_reducible refine LeO.ite ?_ ?_)
  |(with_reducible refine LeO.bind ?_ (fun _ => ?_))
  |exact ih0 _ _ _
  |exact LeO.none _
  |refine LeO.ite ?_ ?_
  |refine LeO.bind ?_ (fun _ => ?_)
set_option maxHeartbeats 8000000 in
set_option maxRecDepth 100000 in
theorem spec_l1Lower.calls (k : Nat) (a0 : ByteArray) (r : ByteArray) (w : World) (h : spec_l1Lower.f k a0 = some r) :
  Calls Try.prog 64 #[.string a0] w fun e w' => e = .returned (.string r) ∧ Below w.heap.size w w' := by
 have HB := Aside0.mk (Below.refl w.heap.size w)
 have H : (spec_l1Lower.l0 k a0 (([] : List Int)) 0) = some r := h
 clear h
 obtain ⟨y109, hy109⟩ : ∃ y_ : List Int, y_ = (([] : List Int)) := ⟨_, rfl⟩
 replace H : (spec_l1Lower.l0 k a0 y109 0) = some r := by first|(rw [hy109];with_reducible exact H)|(have H2_ := (Option.bind_some _ _).symm.trans H;rw [hy109];with_reducible exact H2_)|(have H2_ := (Option.bind_some _ _).symm.trans H;with_reducible exact H2_)|with_reducible exact H|(rw [hy109];exact H)|exact H
 have Ny109 := Aside0.mk hy109
 clear hy109
 have H' := Aside0.mk H
 clear H
 go_enter Try.func64, Try.ntmps64
 go_wp2_with (first|((with_reducible refine gate_dst (N := 5) rfl ?_);refine Kd.R_lit (Kd.int .u8) _ 5 ?hg (N := 5) ?hd (xs := ([] : List Int)) (inner := []) (ok := fun _ => True) (okp := fun _ => True) ?hr ?hp (fun _ hk => hk) trivial (Below.refl _ _) (Nat.le_refl _) (by simp) ?_;(case hd => rfl);(case hg => rfl);(case hr => first|(go_simp;done)|(go_simp;rfl));(case hp => exact (Reps.none _ _));intro v110 w2 ho3 hb hg_ hnew_;clear hg_ hnew_;(first|rw [← Ny109.out] at ho3|(simp only [Int.reduceToNat] at ho3;rw [← Ny109.out] at ho3));have n0_ := Aside0.mk (Kd.R_lower ho3 (below_size (by repeat (first|(with_reducible first|exact HB.out|apply below_alloc|apply pw_below_drewN|apply below_drew1)|exact HB.out))));have n1_ := Aside0.mk (below_step (by repeat (first|(with_reducible first|exact HB.out|apply below_alloc|apply pw_below_drewN|apply below_drew1)|exact HB.out)) hb);clear HB;have HO111 := n0_;have HB := n1_;clear n0_ n1_;clear hb ho3))
 go_loopg [3, 4] k (fun kq v3 v4 w' => ∃ (x3_1 : List Int) (x4_1 : Int), v4 = .int .i64 x4_1 ∧ Aside0 (spec_l1Lower.l0 kq a0 x3_1 x4_1 = some r) ∧ Aside0 (kq ≤ k) ∧ Aside0 (Kd.R (Kd.int .u8) 5 w' w.heap.size (fun _ => True) v3 x3_1) ∧ Aside0 (Below w.heap.size w w'))
 case atStart => exact ⟨(y109),(0),(by first|rfl|(simp;done)|(simp [*];done)), H', ⟨Nat.le_refl _⟩,⟨by (with_reducible repeat (first|apply Kd.R_alloc|apply Kd.R_drewN|apply Kd.R_drew));exact HO111.out⟩,⟨by repeat (first|(with_reducible first|exact HB.out|apply below_alloc|apply pw_below_drewN|apply below_drew1)|exact HB.out)⟩⟩
 case round =>
  clear H'
  try clear p2
  obtain ⟨x3_1, x4_1, rfl, HA, HK1, HO_3, HB⟩ := hrel
  cases gk with
 |zero => exact absurd HA.out (by simp [spec_l1Lower.l0])
 |succ k1 =>
   have H := HA.out
   clear HA
   simp only [spec_l1Lower.l0] at H
   by_cases c4 : x4_1 < (a0.size : Int)
   ·rw [if_pos c4] at H
    have c4b0 : decide (x4_1 < (a0.size : Int)) = true := decide_eq_true c4
    clear c4
    by_cases c5 : 0 ≤ x4_1
    ·rw [if_pos c5] at H
     have c5b0 : decide (0 ≤ x4_1) = true := decide_eq_true c5
     clear c5
     replace H := Option.bind_eq_some_iff.mp H
     obtain ⟨t112, A70, H⟩ := H
     replace H : (if x3_1.length < 140737488355328 then (spec_l1Lower.l0 k1 a0 (x3_1 ++ [t112]) (wrap64 (x4_1 + 1))) else (none)) = some r := H
     have A7 := Aside0.mk A70
     clear A70
     by_cases c8 : x3_1.length < 140737488355328
     ·rw [if_pos c8] at H
      have LMc8 := Aside0.mk c8
      clear c8
      obtain ⟨y113, hy113⟩ : ∃ y_ : List Int, y_ = (x3_1 ++ [t112]) := ⟨_, rfl⟩
      replace H : (spec_l1Lower.l0 k1 a0 y113 (wrap64 (x4_1 + 1))) = some r := by first|(rw [hy113];with_reducible exact H)|(have H2_ := (Option.bind_some _ _).symm.trans H;rw [hy113];with_reducible exact H2_)|(have H2_ := (Option.bind_some _ _).symm.trans H;with_reducible exact H2_)|with_reducible exact H|(rw [hy113];exact H)|exact H
      have Ny113 := Aside0.mk hy113
      clear hy113
      have H' := Aside0.mk H
      clear H
      have p6 : 0 ≤ (x4_1 : Int) := of_decide_eq_true (by first|(with_reducible assumption)|assumption)
      have q6 : x4_1 < (a0.size : Int) := of_decide_eq_true (by first|(with_reducible assumption)|assumption)
      have hx6 := bt_at a0 x4_1
      replace p6 := eq_true p6
      replace q6 := eq_true q6
      go_wp2_with (first|((with_reducible refine gate_callee (f := 81) rfl ?_);refine goesL_ (some 16) rfl rfl Try.func81 (by kernel_rfl) rfl #[.int .u8 (bt a0 x4_1)] rfl (by (try simp only [List.map_toArray, List.map_cons, List.map_nil]);first|done|rfl|(simp only [List.length_drop, List.length_take];rfl)) ?_;(with_reducible refine (spec_l1LowerByte.calls (bt a0 x4_1) t112 _ A7.out).mono ?_);rintro e w' ⟨rfl, ⟨nd, rfl⟩⟩;refine ⟨_, rfl, ?_⟩)|((with_reducible refine gate_builtin (b := .append) (xs := #[.tmp 12, .tmp 17]) rfl ?_);at_builtin;refine Kd.R_append (Kd.int .u8) (w0 := w) w.heap.size rfl (.tmp 12) (.tmp 17) 54 5 (.int .u8 0) 1 rfl Try.underlying54 info5 rfl (by decide) (by omega) u3 x3_1 t112 [.int .u8 t112] (fun _ => True) (fun _ => False) rfl rfl ?aP (fun _ hk => hk.elim) ?aF ?aO ?aB ?aS ?aL ?_;(case aP => exact rfl);(case aB => exact (by repeat (first|(with_reducible first|exact HB.out|apply below_alloc|apply pw_below_drewN|apply below_drew1)|exact HB.out)));(case aF => exact (fun _ _ => trivial));(case aO => exact (by (with_reducible repeat (first|apply Kd.R_alloc|apply Kd.R_drewN|apply Kd.R_drew));exact HO_3.out));(case aS => exact (below_size (by repeat (first|(with_reducible first|exact HB.out|apply below_alloc|apply pw_below_drewN|apply below_drew1)|exact HB.out))));(case aL => have := LMc8.out;omega);intro v114 w9 ho hb hg hat;rw [← Ny113.out] at ho;have n0_ := Aside0.mk (hb);have n1_ := Aside0.mk (ho);clear HB;clear HO_3;have HB := n0_;have HO115 := n1_;clear n0_ n1_;clear ho hb hg hat))
      go_roundg k1
      case measure => have := HK1.out;omega
      case rel => exact ⟨(y113),(wrap64 (x4_1 + 1)),(by first|rfl|(simp;done)|(simp [*];done)), H', ⟨by have := HK1.out;omega⟩,⟨by (with_reducible repeat (first|apply Kd.R_alloc|apply Kd.R_drewN|apply Kd.R_drew));exact HO115.out⟩,⟨by repeat (first|(with_reducible first|exact HB.out|apply below_alloc|apply pw_below_drewN|apply below_drew1)|exact HB.out)⟩⟩
     ·rw [if_neg c8] at H
      exact absurd H (by simp)
    ·rw [if_neg c5] at H
     exact absurd H (by simp)
   ·rw [if_neg c4] at H
    have c4b0 : decide (x4_1 < (a0.size : Int)) = false := decide_eq_false c4
    clear c4
    obtain rfl := Option.some.inj H
    have hcv10 := own_string (P := Try.prog) Try.underlying54 Try.underlying5 Try.underlying9 (Kd.own_of_R HO_3.out)
    go_wp2
    go_ret
    exact ⟨by first|rfl|(simp [errW_none, errW_some] <;> rfl)|(simp [*, errW_none, errW_some] <;> rfl), by repeat (first|(with_reducible first|exact HB.out|apply below_alloc|apply pw_below_drewN|apply below_drew1)|exact HB.out)⟩

end Go.Proofs.Ytnobgcnldnlbiaa.QFnExactWordOk
