/- Written by a program (wip/tools/own_print.py) out of the walk that the kit's printer made; turned where it fell. -/
-- PRINTED by print.py (a twelfth state) out of the translation. Not trusted: Lean checks it.
import Derived.Test.YtnobgcnldnlbiaaQFnExactWordOkx0
import Derived.Test.YtnobgcnldnlbiaaQFnExactWordOkx1
import Derived.Test.YtnobgcnldnlbiaaQFnExactWordOkx3
import Derived.Test.YtnobgcnldnlbiaaQFnExactWordOkx4
import Derived.Test.YtnobgcnldnlbiaaQFnExactWordOkx5
namespace Go.Proofs.Ytnobgcnldnlbiaa.QFnExactWordOk
open Go.RowKit Go.Proofs.YtnobgcnldnlbiaaW.PrintWords Go.Proofs.YtnobgcnldnlbiaaW.PrintLast Go.Proofs.YtnobgcnldnlbiaaW.PrintMore
attribute [local go_sem] max2_int min2_int max_two min_two max_three min_three max_four min_four   -- for this text's walks alone
set_option linter.unusedVariables false
set_option linter.unusedSimpArgs false

/-! ### laws_FnExactWordOk: function 13 -/
def laws_FnExactWordOk.f (k : Nat) (a0_0 : Int) (a0_1 : ByteArray) (a0_2 : Int) (a0_3 : ByteArray) : Option (Bool) := (laws_szWord.f a0_0 a0_1 a0_2 a0_3 1048576).bind fun t158 => (if t158 < 0 then (some true) else ((laws_toWord.f a0_0 a0_1 a0_2 a0_3).bind fun bt159 => ((spec_WordOk.f k bt159.1 bt159.2.1 bt159.2.2.1 bt159.2.2.2).bind fun t163 => ((laws_toWord.f a0_0 a0_1 a0_2 a0_3).bind fun bt164 => ((impl_WordOk.f k bt164.1 bt164.2.1 bt164.2.2.1 bt164.2.2.2).bind fun t168 => (if (t168 != t163) = true then (none) else (some true)))))))
theorem laws_FnExactWordOk.mono : ∀ a0 a1 a2 a3 k, LeO (laws_FnExactWordOk.f k a0 a1 a2 a3) (laws_FnExactWordOk.f (k + 1) a0 a1 a2 a3) := by
 intro a0 a1 a2 a3 k
 unfold laws_FnExactWordOk.f
 repeat' first
  |(with_reducible exact impl_WordOk.mono _ _ _ _ _)
  |(with_reducible exact spec_WordOk.mono _ _ _ _ _)
  |(with_reducible exact LeO.refl _)
  |(with_reducible exact LeO.none _)
  |(with_reducible refine LeO.ite ?_ ?_)
  |(with_reducible refine LeO.bind ?_ (fun _ => ?_))
  |exact impl_WordOk.mono _ _ _ _ _
  |exact spec_WordOk.mono _ _ _ _ _
  |exact LeO.none _
  |refine LeO.ite ?_ ?_
  |refine LeO.bind ?_ (fun _ => ?_)
set_option maxHeartbeats 8000000 in
set_option maxRecDepth 100000 in
theorem laws_FnExactWordOk.calls (k : Nat) (a0_0 : Int) (a0_1 : ByteArray) (a0_2 : Int) (a0_3 : ByteArray) (r : Bool) (w : World) (h : laws_FnExactWordOk.f k a0_0 a0_1 a0_2 a0_3 = some r) :
  Calls Try.prog 13 #[.agg #[.int .i64 a0_0, .string a0_1, .int .i64 a0_2, .string a0_3]] w fun e w' => e = .returned (.bool r) ∧ Below w.heap.size w w' := by
 have hu60 := Try.underlying60
 have HB := Aside0.mk (Below.refl w.heap.size w)
 have H : ((laws_szWord.f a0_0 a0_1 a0_2 a0_3 1048576).bind fun t158 => (if t158 < 0 then (some true) else ((laws_toWord.f a0_0 a0_1 a0_2 a0_3).bind fun bt159 => ((spec_WordOk.f k bt159.1 bt159.2.1 bt159.2.2.1 bt159.2.2.2).bind fun t163 => ((laws_toWord.f a0_0 a0_1 a0_2 a0_3).bind fun bt164 => ((impl_WordOk.f k bt164.1 bt164.2.1 bt164.2.2.1 bt164.2.2.2).bind fun t168 => (if (t168 != t163) = true then (none) else (some true)))))))) = some r := h
 clear h
 replace H := Option.bind_eq_some_iff.mp H
 obtain ⟨t158, A20, H⟩ := H
 replace H : (if t158 < 0 then (some true) else ((laws_toWord.f a0_0 a0_1 a0_2 a0_3).bind fun bt159 => ((spec_WordOk.f k bt159.1 bt159.2.1 bt159.2.2.1 bt159.2.2.2).bind fun t163 => ((laws_toWord.f a0_0 a0_1 a0_2 a0_3).bind fun bt164 => ((impl_WordOk.f k bt164.1 bt164.2.1 bt164.2.2.1 bt164.2.2.2).bind fun t168 => (if (t168 != t163) = true then (none) else (some true))))))) = some r := H
 have A2 := Aside0.mk A20
 clear A20
 by_cases c3 : t158 < 0
 ·rw [if_pos c3] at H
  have c3b0 : decide (t158 < 0) = true := decide_eq_true c3
  clear c3
  obtain rfl := Option.some.inj H
  go_enter Try.func13, Try.ntmps13
  go_wp2_with (first|((with_reducible refine gate_dst (N := 1) rfl ?_);refine box_event ?hg (N := 1) ?hd (cs := #[.int .i64 a0_0, .string a0_1, .int .i64 a0_2, .string a0_3]) (t := 60) ?hr ?_;(case hd => rfl);(case hg => rfl);(case hr => first|(go_simp;done)|(go_simp;rfl));intro gb157 hg w4 hbox hb;have n0_ := Aside0.mk (below_step (by repeat (first|(with_reducible first|exact HB.out|apply below_alloc|apply pw_below_drewN|apply below_drew1)|exact HB.out)) hb);have n1_ := Aside0.mk (hbox);have n2_ := Aside0.mk ((by rw [hg];exact (below_size (by repeat (first|(with_reducible first|exact HB.out|apply below_alloc|apply pw_below_drewN|apply below_drew1)|exact HB.out))) : w.heap.size ≤ gb157));have n3_ := Aside0.mk ((by rw [hg];exact (below_size (by repeat (first|(with_reducible first|exact HB.out|apply below_alloc|apply pw_below_drewN|apply below_drew1)|exact HB.out))) : w.heap.size ≤ gb157));clear HB;have HB := n0_;have BK157 := n1_;have GW157 := n2_;have GE157 := n3_;clear n0_ n1_ n2_ n3_;clear hb hbox hg;have hcz5_0 : w4.cell? ⟨gb157, 0, none⟩ = some (.int .i64 a0_0) := (blk_cell BK157.out 0).trans rfl;have hcz5_1 : w4.cell? ⟨gb157, 1, none⟩ = some (.string a0_1) := (blk_cell BK157.out 1).trans rfl;have hcz5_2 : w4.cell? ⟨gb157, 2, none⟩ = some (.int .i64 a0_2) := (blk_cell BK157.out 2).trans rfl;have hcz5_3 : w4.cell? ⟨gb157, 3, none⟩ = some (.string a0_3) := (blk_cell BK157.out 3).trans rfl;have hfz5_0 := blk_frozen BK157.out 0;have hfz5_1 := blk_frozen BK157.out 1;have hfz5_2 := blk_frozen BK157.out 2;have hfz5_3 := blk_frozen BK157.out 3)|((with_reducible refine gate_callee (f := 40) rfl ?_);refine goesL_ (some 8) rfl rfl Try.func40 (by kernel_rfl) rfl #[.agg #[.int .i64 a0_0, .string a0_1, .int .i64 a0_2, .string a0_3], .int .i64 1048576] rfl (by (try simp only [List.map_toArray, List.map_cons, List.map_nil]);first|done|rfl|(simp only [List.length_drop, List.length_take];rfl)) ?_;(with_reducible refine (laws_szWord.calls a0_0 a0_1 a0_2 a0_3 1048576 t158 _ A2.out).mono ?_);rintro e w6 ⟨rfl, hb⟩;refine ⟨_, rfl, ?_⟩;have n0_ := Aside0.mk (blk_below (g := gb157) (o := .cells #[.int .i64 a0_0, .string a0_1, .int .i64 a0_2, .string a0_3] 60 (0, 0)) (by (with_reducible repeat (first|refine blk_drewN ?_ _|refine blk_drew ?_|refine blk_alloc ?_ _));exact BK157.out) hb);have n1_ := Aside0.mk (below_step (by repeat (first|(with_reducible first|exact HB.out|apply below_alloc|apply pw_below_drewN|apply below_drew1|refine below_set ?_ GE157.out)|exact HB.out)) hb);clear BK157;clear HB;have BK157 := n0_;have HB := n1_;clear n0_ n1_;(try clear hb);(try clear hb2);(try clear hk);(try clear hi)))
  go_ret
  exact ⟨by first|rfl|(simp [errW_none, errW_some] <;> rfl)|(simp [*, errW_none, errW_some] <;> rfl), by repeat (first|(with_reducible first|exact HB.out|apply below_alloc|apply pw_below_drewN|apply below_drew1|refine below_set ?_ GE157.out)|exact HB.out)⟩
 ·rw [if_neg c3] at H
  have c3b0 : decide (t158 < 0) = false := decide_eq_false c3
  clear c3
  replace H := Option.bind_eq_some_iff.mp H
  obtain ⟨⟨t159, t160, t161, t162⟩, A70, H⟩ := H
  replace H : ((spec_WordOk.f k t159 t160 t161 t162).bind fun t163 => ((laws_toWord.f a0_0 a0_1 a0_2 a0_3).bind fun bt164 => ((impl_WordOk.f k bt164.1 bt164.2.1 bt164.2.2.1 bt164.2.2.2).bind fun t168 => (if (t168 != t163) = true then (none) else (some true))))) = some r := H
  have A7 := Aside0.mk A70
  clear A70
  replace H := Option.bind_eq_some_iff.mp H
  obtain ⟨t163, A80, H⟩ := H
  replace H : ((laws_toWord.f a0_0 a0_1 a0_2 a0_3).bind fun bt164 => ((impl_WordOk.f k bt164.1 bt164.2.1 bt164.2.2.1 bt164.2.2.2).bind fun t168 => (if (t168 != t163) = true then (none) else (some true)))) = some r := H
  have A8 := Aside0.mk A80
  clear A80
  replace H := Option.bind_eq_some_iff.mp H
  obtain ⟨⟨t164, t165, t166, t167⟩, A90, H⟩ := H
  replace H : ((impl_WordOk.f k t164 t165 t166 t167).bind fun t168 => (if (t168 != t163) = true then (none) else (some true))) = some r := H
  have A9 := Aside0.mk A90
  clear A90
  replace H := Option.bind_eq_some_iff.mp H
  obtain ⟨t168, A100, H⟩ := H
  replace H : (if (t168 != t163) = true then (none) else (some true)) = some r := H
  have A10 := Aside0.mk A100
  clear A100
  by_cases c11 : (t168 != t163) = true
  ·rw [if_pos c11] at H
   exact absurd H (by simp)
  ·rw [if_neg c11] at H
   have c11b0 : (t168 != t163) = false := by simpa using c11
   (try (have c11b1 : decide (t168 = t163) = true := by simpa using c11))
   (try (have c11b2 : (t168 == t163) = true := by simpa using c11))
   clear c11
   obtain rfl := Option.some.inj H
   go_enter Try.func13, Try.ntmps13
   go_wp2_with (first|((with_reducible refine gate_dst (N := 1) rfl ?_);refine box_event ?hg (N := 1) ?hd (cs := #[.int .i64 a0_0, .string a0_1, .int .i64 a0_2, .string a0_3]) (t := 60) ?hr ?_;(case hd => rfl);(case hg => rfl);(case hr => first|(go_simp;done)|(go_simp;rfl));intro gb157 hg w21 hbox hb;have n0_ := Aside0.mk (below_step (by repeat (first|(with_reducible first|exact HB.out|apply below_alloc|apply pw_below_drewN|apply below_drew1)|exact HB.out)) hb);have n1_ := Aside0.mk (hbox);have n2_ := Aside0.mk ((by rw [hg];exact (below_size (by repeat (first|(with_reducible first|exact HB.out|apply below_alloc|apply pw_below_drewN|apply below_drew1)|exact HB.out))) : w.heap.size ≤ gb157));have n3_ := Aside0.mk ((by rw [hg];exact (below_size (by repeat (first|(with_reducible first|exact HB.out|apply below_alloc|apply pw_below_drewN|apply below_drew1)|exact HB.out))) : w.heap.size ≤ gb157));clear HB;have HB := n0_;have BK157 := n1_;have GW157 := n2_;have GE157 := n3_;clear n0_ n1_ n2_ n3_;clear hb hbox hg;have hcz22_0 : w21.cell? ⟨gb157, 0, none⟩ = some (.int .i64 a0_0) := (blk_cell BK157.out 0).trans rfl;have hcz22_1 : w21.cell? ⟨gb157, 1, none⟩ = some (.string a0_1) := (blk_cell BK157.out 1).trans rfl;have hcz22_2 : w21.cell? ⟨gb157, 2, none⟩ = some (.int .i64 a0_2) := (blk_cell BK157.out 2).trans rfl;have hcz22_3 : w21.cell? ⟨gb157, 3, none⟩ = some (.string a0_3) := (blk_cell BK157.out 3).trans rfl;have hfz22_0 := blk_frozen BK157.out 0;have hfz22_1 := blk_frozen BK157.out 1;have hfz22_2 := blk_frozen BK157.out 2;have hfz22_3 := blk_frozen BK157.out 3)|((with_reducible refine gate_callee (f := 40) rfl ?_);refine goesL_ (some 8) rfl rfl Try.func40 (by kernel_rfl) rfl #[.agg #[.int .i64 a0_0, .string a0_1, .int .i64 a0_2, .string a0_3], .int .i64 1048576] rfl (by (try simp only [List.map_toArray, List.map_cons, List.map_nil]);first|done|rfl|(simp only [List.length_drop, List.length_take];rfl)) ?_;(with_reducible refine (laws_szWord.calls a0_0 a0_1 a0_2 a0_3 1048576 t158 _ A2.out).mono ?_);rintro e w23 ⟨rfl, hb⟩;refine ⟨_, rfl, ?_⟩;have n0_ := Aside0.mk (blk_below (g := gb157) (o := .cells #[.int .i64 a0_0, .string a0_1, .int .i64 a0_2, .string a0_3] 60 (0, 0)) (by (with_reducible repeat (first|refine blk_drewN ?_ _|refine blk_drew ?_|refine blk_alloc ?_ _));exact BK157.out) hb);have n1_ := Aside0.mk (below_step (by repeat (first|(with_reducible first|exact HB.out|apply below_alloc|apply pw_below_drewN|apply below_drew1|refine below_set ?_ GE157.out)|exact HB.out)) hb);clear BK157;clear HB;have BK157 := n0_;have HB := n1_;clear n0_ n1_;(try clear hb);(try clear hb2);(try clear hk);(try clear hi);have hcz24_0 : w23.cell? ⟨gb157, 0, none⟩ = some (.int .i64 a0_0) := (blk_cell BK157.out 0).trans rfl;have hcz24_1 : w23.cell? ⟨gb157, 1, none⟩ = some (.string a0_1) := (blk_cell BK157.out 1).trans rfl;have hcz24_2 : w23.cell? ⟨gb157, 2, none⟩ = some (.int .i64 a0_2) := (blk_cell BK157.out 2).trans rfl;have hcz24_3 : w23.cell? ⟨gb157, 3, none⟩ = some (.string a0_3) := (blk_cell BK157.out 3).trans rfl;have hfz24_0 := blk_frozen BK157.out 0;have hfz24_1 := blk_frozen BK157.out 1;have hfz24_2 := blk_frozen BK157.out 2;have hfz24_3 := blk_frozen BK157.out 3)|((with_reducible refine gate_callee (f := 42) rfl ?_);refine goesL_ (some 12) rfl rfl Try.func42 (by kernel_rfl) rfl #[.agg #[.int .i64 a0_0, .string a0_1, .int .i64 a0_2, .string a0_3]] rfl (by (try simp only [List.map_toArray, List.map_cons, List.map_nil]);first|done|rfl|(simp only [List.length_drop, List.length_take];rfl)) ?_;(with_reducible refine (laws_toWord.calls a0_0 a0_1 a0_2 a0_3 t159 t160 t161 t162 _ A7.out).mono ?_);rintro e w25 ⟨rfl, hb⟩;refine ⟨_, rfl, ?_⟩;have n0_ := Aside0.mk (blk_below (g := gb157) (o := .cells #[.int .i64 a0_0, .string a0_1, .int .i64 a0_2, .string a0_3] 60 (0, 0)) (by (with_reducible repeat (first|refine blk_drewN ?_ _|refine blk_drew ?_|refine blk_alloc ?_ _));exact BK157.out) hb);have n1_ := Aside0.mk (below_step (by repeat (first|(with_reducible first|exact HB.out|apply below_alloc|apply pw_below_drewN|apply below_drew1|refine below_set ?_ GE157.out)|exact HB.out)) hb);clear BK157;clear HB;have BK157 := n0_;have HB := n1_;clear n0_ n1_;(try clear hb);(try clear hb2);(try clear hk);(try clear hi))|((with_reducible refine gate_callee (f := 41) rfl ?_);refine goesL_ (some 13) rfl rfl Try.func41 (by kernel_rfl) rfl #[.agg #[.int .i64 t159, .string t160, .int .i64 t161, .string t162]] rfl (by (try simp only [List.map_toArray, List.map_cons, List.map_nil]);first|done|rfl|(simp only [List.length_drop, List.length_take];rfl)) ?_;(with_reducible refine (spec_WordOk.calls k t159 t160 t161 t162 t163 _ A8.out).mono ?_);rintro e w26 ⟨rfl, hb⟩;refine ⟨_, rfl, ?_⟩;have n0_ := Aside0.mk (blk_below (g := gb157) (o := .cells #[.int .i64 a0_0, .string a0_1, .int .i64 a0_2, .string a0_3] 60 (0, 0)) (by (with_reducible repeat (first|refine blk_drewN ?_ _|refine blk_drew ?_|refine blk_alloc ?_ _));exact BK157.out) hb);have n1_ := Aside0.mk (below_step (by repeat (first|(with_reducible first|exact HB.out|apply below_alloc|apply pw_below_drewN|apply below_drew1|refine below_set ?_ GE157.out)|exact HB.out)) hb);clear BK157;clear HB;have BK157 := n0_;have HB := n1_;clear n0_ n1_;(try clear hb);(try clear hb2);(try clear hk);(try clear hi);have hcz27_0 : w26.cell? ⟨gb157, 0, none⟩ = some (.int .i64 a0_0) := (blk_cell BK157.out 0).trans rfl;have hcz27_1 : w26.cell? ⟨gb157, 1, none⟩ = some (.string a0_1) := (blk_cell BK157.out 1).trans rfl;have hcz27_2 : w26.cell? ⟨gb157, 2, none⟩ = some (.int .i64 a0_2) := (blk_cell BK157.out 2).trans rfl;have hcz27_3 : w26.cell? ⟨gb157, 3, none⟩ = some (.string a0_3) := (blk_cell BK157.out 3).trans rfl;have hfz27_0 := blk_frozen BK157.out 0;have hfz27_1 := blk_frozen BK157.out 1;have hfz27_2 := blk_frozen BK157.out 2;have hfz27_3 := blk_frozen BK157.out 3)|((with_reducible refine gate_callee (f := 42) rfl ?_);refine goesL_ (some 15) rfl rfl Try.func42 (by kernel_rfl) rfl #[.agg #[.int .i64 a0_0, .string a0_1, .int .i64 a0_2, .string a0_3]] rfl (by (try simp only [List.map_toArray, List.map_cons, List.map_nil]);first|done|rfl|(simp only [List.length_drop, List.length_take];rfl)) ?_;(with_reducible refine (laws_toWord.calls a0_0 a0_1 a0_2 a0_3 t164 t165 t166 t167 _ A9.out).mono ?_);rintro e w28 ⟨rfl, hb⟩;refine ⟨_, rfl, ?_⟩;have n0_ := Aside0.mk (blk_below (g := gb157) (o := .cells #[.int .i64 a0_0, .string a0_1, .int .i64 a0_2, .string a0_3] 60 (0, 0)) (by (with_reducible repeat (first|refine blk_drewN ?_ _|refine blk_drew ?_|refine blk_alloc ?_ _));exact BK157.out) hb);have n1_ := Aside0.mk (below_step (by repeat (first|(with_reducible first|exact HB.out|apply below_alloc|apply pw_below_drewN|apply below_drew1|refine below_set ?_ GE157.out)|exact HB.out)) hb);clear BK157;clear HB;have BK157 := n0_;have HB := n1_;clear n0_ n1_;(try clear hb);(try clear hb2);(try clear hk);(try clear hi))|((with_reducible refine gate_callee (f := 43) rfl ?_);refine goesL_ (some 16) rfl rfl Try.func43 (by kernel_rfl) rfl #[.agg #[.int .i64 t164, .string t165, .int .i64 t166, .string t167]] rfl (by (try simp only [List.map_toArray, List.map_cons, List.map_nil]);first|done|rfl|(simp only [List.length_drop, List.length_take];rfl)) ?_;(with_reducible refine (impl_WordOk.calls k t164 t165 t166 t167 t168 _ A10.out).mono ?_);rintro e w29 ⟨rfl, hb⟩;refine ⟨_, rfl, ?_⟩;have n0_ := Aside0.mk (blk_below (g := gb157) (o := .cells #[.int .i64 a0_0, .string a0_1, .int .i64 a0_2, .string a0_3] 60 (0, 0)) (by (with_reducible repeat (first|refine blk_drewN ?_ _|refine blk_drew ?_|refine blk_alloc ?_ _));exact BK157.out) hb);have n1_ := Aside0.mk (below_step (by repeat (first|(with_reducible first|exact HB.out|apply below_alloc|apply pw_below_drewN|apply below_drew1|refine below_set ?_ GE157.out)|exact HB.out)) hb);clear BK157;clear HB;have BK157 := n0_;have HB := n1_;clear n0_ n1_;(try clear hb);(try clear hb2);(try clear hk);(try clear hi)))
   go_ret
   exact ⟨by first|rfl|(simp [errW_none, errW_some] <;> rfl)|(simp [*, errW_none, errW_some] <;> rfl), by repeat (first|(with_reducible first|exact HB.out|apply below_alloc|apply pw_below_drewN|apply below_drew1|refine below_set ?_ GE157.out)|exact HB.out)⟩

end Go.Proofs.Ytnobgcnldnlbiaa.QFnExactWordOk
