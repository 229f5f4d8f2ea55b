/- Written by a program (wip/tools/own_print.py) out of the walk that the kit's printer made; turned where it fell. -/
-- PRINTED by print.py (a twelfth state) out of the translation. Not trusted: Lean checks it.
import Derived.Test.YtbogfagafdokeaaQFnExactSpotLessx13
import Derived.Test.YtbogfagafdokeaaQFnExactSpotLessx0
import Derived.Test.YtbogfagafdokeaaQFnExactSpotLessx1
import Derived.Test.YtbogfagafdokeaaQFnExactSpotLessx7
import Derived.Test.YtbogfagafdokeaaQFnExactSpotLessx10
import Derived.Test.YtbogfagafdokeaaQFnExactSpotLessx12
namespace Go.Proofs.Ytbogfagafdokeaa.QFnExactSpotLess
open Go.RowKit Go.Proofs.YtbogfagafdokeaaV.PrintWords Go.Proofs.YtbogfagafdokeaaV.PrintLast Go.Proofs.YtbogfagafdokeaaV.PrintMore
attribute [local go_sem] max2_int min2_int max_two min_two max_three min_three max_four min_four   -- for this text's walks alone
set_option linter.unusedVariables false
set_option linter.unusedSimpArgs false

/-! ### laws_FnExactSpotLess: function 3 -/
noncomputable def laws_FnExactSpotLess.f (k : Nat) (l0_0 : List (S64)) (a1_0 : Int) (a1_1 : Int) (a2_0 : Int) (a2_1 : Int) : Option (Bool) := (laws_szTree.f k l0_0 1048576).bind fun t327 => (if t327 < 0 then (some true) else ((laws_toTree.f k l0_0).bind fun t328 => ((laws_toSpot.f a1_0 a1_1).bind fun bt331 => ((laws_toSpot.f a2_0 a2_1).bind fun bt333 => ((spec_SpotLess.f k t328 bt331.1 bt331.2 bt333.1 bt333.2).bind fun t335 => ((laws_toTree.f k l0_0).bind fun t336 => ((laws_toSpot.f a1_0 a1_1).bind fun bt340 => ((laws_toSpot.f a2_0 a2_1).bind fun bt342 => ((impl_SpotLess.f k t336 bt340.1 bt340.2 bt342.1 bt342.2).bind fun t344 => (if (t344 != t335) = true then (none) else ((laws_toTree.f k l0_0).bind fun t345 => ((laws_eqTree.f k t336 t345).bind fun t348 => (if t348 = true then (some true) else (none))))))))))))))
theorem laws_FnExactSpotLess.mono : ∀ a0 a1 a2 a3 a4 k, LeO (laws_FnExactSpotLess.f k a0 a1 a2 a3 a4) (laws_FnExactSpotLess.f (k + 1) a0 a1 a2 a3 a4) := by
 intro a0 a1 a2 a3 a4 k
 unfold laws_FnExactSpotLess.f
 repeat' first
  |(with_reducible exact impl_SpotLess.mono _ _ _ _ _ _)
  |(with_reducible exact laws_eqTree.mono _ _ _)
  |(with_reducible exact laws_szTree.mono _ _ _)
  |(with_reducible exact laws_toTree.mono _ _)
  |(with_reducible exact spec_SpotLess.mono _ _ _ _ _ _)
  |(with_reducible exact LeO.refl _)
  |(with_reducible exact LeO.none _)
  |(with_reducible refine LeO.ite ?_ ?_)
  |(with_reducible refine LeO.bind ?_ (fun _ => ?_))
  |exact impl_SpotLess.mono _ _ _ _ _ _
  |exact laws_eqTree.mono _ _ _
  |exact laws_szTree.mono _ _ _
  |exact laws_toTree.mono _ _
  |exact spec_SpotLess.mono _ _ _ _ _ _
  |exact LeO.none _
  |refine LeO.ite ?_ ?_
  |refine LeO.bind ?_ (fun _ => ?_)
def laws_FnExactSpotLess.T5 : Bool × List (List Nat × List Nat) := (true, [([], []), ([0], [0]), ([], []), ([2, 1], [2]), ([], []), ([4, 3], [4]), ([1, 3, 5, 5], [1, 3, 5]), ([6, 6, 0, 1, 2, 3, 4, 5, 6], [6])])
def laws_FnExactSpotLess.B5 : List Nat := [0, 1, 0, 7, 0, 31, 63, 127]
theorem laws_FnExactSpotLess.tab5 : rtab .any (opsOf Try.f3 5) = laws_FnExactSpotLess.T5 := by kernel_rfl
theorem laws_FnExactSpotLess.bits5 : waitsOk laws_FnExactSpotLess.T5.2 laws_FnExactSpotLess.B5 = true := by kernel_rfl
set_option maxHeartbeats 8000000 in
set_option maxRecDepth 100000 in
theorem laws_FnExactSpotLess.calls (k : Nat) (A0_0 : Option Addr) (c0_0 : Nat) (l0_0 : List (S64)) (a1_0 : Int) (a1_1 : Int) (a2_0 : Int) (a2_1 : Int) (r : Bool) (w : World) (hr0_0 : Kd.C k64 w A0_0 l0_0.length l0_0) (hc0_0 : l0_0.length ≤ c0_0) (h : laws_FnExactSpotLess.f k l0_0 a1_0 a1_1 a2_0 a2_1 = some r) :
  Calls Try.prog 3 #[.agg #[.slice A0_0 l0_0.length c0_0], .agg #[.int .i64 a1_0, .int .i64 a1_1], .agg #[.int .i64 a2_0, .int .i64 a2_1]] w fun e w' => e = .returned (.bool r) ∧ Below w.heap.size w w' := by
 have hu24 := Try.underlying24
 have hu26 := Try.underlying26
 have hu31 := Try.underlying31
 have HR0_0 := Aside0.mk hr0_0
 have HC0_0 := Aside0.mk hc0_0
 clear hr0_0 hc0_0
 have HB := Aside0.mk (Below.refl w.heap.size w)
 have H : ((laws_szTree.f k l0_0 1048576).bind fun t327 => (if t327 < 0 then (some true) else ((laws_toTree.f k l0_0).bind fun t328 => ((laws_toSpot.f a1_0 a1_1).bind fun bt331 => ((laws_toSpot.f a2_0 a2_1).bind fun bt333 => ((spec_SpotLess.f k t328 bt331.1 bt331.2 bt333.1 bt333.2).bind fun t335 => ((laws_toTree.f k l0_0).bind fun t336 => ((laws_toSpot.f a1_0 a1_1).bind fun bt340 => ((laws_toSpot.f a2_0 a2_1).bind fun bt342 => ((impl_SpotLess.f k t336 bt340.1 bt340.2 bt342.1 bt342.2).bind fun t344 => (if (t344 != t335) = true then (none) else ((laws_toTree.f k l0_0).bind fun t345 => ((laws_eqTree.f k t336 t345).bind fun t348 => (if t348 = true then (some true) else (none))))))))))))))) = some r := h
 clear h
 replace H := Option.bind_eq_some_iff.mp H
 obtain ⟨t327, A40, H⟩ := H
 replace H : (if t327 < 0 then (some true) else ((laws_toTree.f k l0_0).bind fun t328 => ((laws_toSpot.f a1_0 a1_1).bind fun bt331 => ((laws_toSpot.f a2_0 a2_1).bind fun bt333 => ((spec_SpotLess.f k t328 bt331.1 bt331.2 bt333.1 bt333.2).bind fun t335 => ((laws_toTree.f k l0_0).bind fun t336 => ((laws_toSpot.f a1_0 a1_1).bind fun bt340 => ((laws_toSpot.f a2_0 a2_1).bind fun bt342 => ((impl_SpotLess.f k t336 bt340.1 bt340.2 bt342.1 bt342.2).bind fun t344 => (if (t344 != t335) = true then (none) else ((laws_toTree.f k l0_0).bind fun t345 => ((laws_eqTree.f k t336 t345).bind fun t348 => (if t348 = true then (some true) else (none)))))))))))))) = some r := H
 have A4 := Aside0.mk A40
 clear A40
 by_cases c5 : t327 < 0
 ·rw [if_pos c5] at H
  have c5b0 : decide (t327 < 0) = true := decide_eq_true c5
  clear c5
  obtain rfl := Option.some.inj H
  go_enter Try.func3, Try.ntmps3
  go_wp2_with (first|((with_reducible refine gate_dst (N := 3) rfl ?_);refine box_event ?hg (N := 3) ?hd (cs := #[.slice A0_0 l0_0.length c0_0]) (t := 24) ?hr ?_;(case hd => rfl);(case hg => rfl);(case hr => first|(go_simp;done)|(go_simp;rfl));intro gb324 hg w6 hbox hb;have n0_ := Aside0.mk (below_step (by repeat (first|(with_reducible first|exact HB.out|apply below_alloc|apply pw_below_drewN|apply below_drew1)|exact HB.out)) hb);have n1_ := Aside0.mk (hbox);have n2_ := Aside0.mk ((by rw [hg];exact (below_size (by repeat (first|(with_reducible first|exact HB.out|apply below_alloc|apply pw_below_drewN|apply below_drew1)|exact HB.out))) : w.heap.size ≤ gb324));have n3_ := Aside0.mk ((by rw [hg];exact (below_size (by repeat (first|(with_reducible first|exact HB.out|apply below_alloc|apply pw_below_drewN|apply below_drew1)|exact HB.out))) : w.heap.size ≤ gb324));clear HB;have HB := n0_;have BK324 := n1_;have GW324 := n2_;have GE324 := n3_;clear n0_ n1_ n2_ n3_;clear hb hbox hg)|((with_reducible refine gate_dst (N := 4) rfl ?_);refine box_event ?hg (N := 4) ?hd (cs := #[.int .i64 a1_0, .int .i64 a1_1]) (t := 26) ?hr ?_;(case hd => rfl);(case hg => rfl);(case hr => first|(go_simp;done)|(go_simp;rfl));intro gb325 hg w7 hbox hb;have n0_ := Aside0.mk (blk_below (g := gb324) (o := .cells #[.slice A0_0 l0_0.length c0_0] 24 (0, 0)) (by (with_reducible repeat (first|refine blk_drewN ?_ _|refine blk_drew ?_|refine blk_alloc ?_ _));exact BK324.out) hb);have n1_ := Aside0.mk (below_step (by repeat (first|exact HB.out|apply below_alloc|apply pw_below_drewN|apply below_drew1|refine below_set ?_ GE324.out)) hb);have n2_ := Aside0.mk (hbox);have n3_ := Aside0.mk ((by rw [hg];exact (below_size (by repeat (first|exact HB.out|apply below_alloc|apply pw_below_drewN|apply below_drew1|refine below_set ?_ GE324.out))) : w.heap.size ≤ gb325));have n4_ := Aside0.mk ((by rw [hg];exact (below_size (by repeat (first|exact HB.out|apply below_alloc|apply pw_below_drewN|apply below_drew1|refine below_set ?_ GE324.out))) : w.heap.size ≤ gb325));have n5_ := Aside0.mk ((by rw [hg];exact Nat.ne_of_lt (blk_lt (g := gb324) (o := .cells #[.slice A0_0 l0_0.length c0_0] 24 (0, 0)) (by (with_reducible repeat (first|refine blk_drewN ?_ _|refine blk_drew ?_|refine blk_alloc ?_ _));exact BK324.out)) : gb324 ≠ gb325));have n6_ := Aside0.mk ((by rw [hg];exact Nat.ne_of_gt (blk_lt (g := gb324) (o := .cells #[.slice A0_0 l0_0.length c0_0] 24 (0, 0)) (by (with_reducible repeat (first|refine blk_drewN ?_ _|refine blk_drew ?_|refine blk_alloc ?_ _));exact BK324.out)) : gb325 ≠ gb324));clear BK324;clear HB;have BK324 := n0_;have HB := n1_;have BK325 := n2_;have GW325 := n3_;have GE325 := n4_;have NB324_325 := n5_;have NB325_324 := n6_;clear n0_ n1_ n2_ n3_ n4_ n5_ n6_;clear hb hbox hg)|((with_reducible refine gate_dst (N := 5) rfl ?_);refine box_event ?hg (N := 5) ?hd (cs := #[.int .i64 a2_0, .int .i64 a2_1]) (t := 26) ?hr ?_;(case hd => rfl);(case hg => rfl);(case hr => first|(go_simp;done)|(go_simp;rfl));intro gb326 hg w8 hbox hb;have n0_ := Aside0.mk (blk_below (g := gb324) (o := .cells #[.slice A0_0 l0_0.length c0_0] 24 (0, 0)) (by (with_reducible repeat (first|refine blk_drewN ?_ _|refine blk_drew ?_|refine blk_alloc ?_ _));exact BK324.out) hb);have n1_ := Aside0.mk (blk_below (g := gb325) (o := .cells #[.int .i64 a1_0, .int .i64 a1_1] 26 (0, 0)) (by (with_reducible repeat (first|refine blk_drewN ?_ _|refine blk_drew ?_|refine blk_alloc ?_ _));exact BK325.out) hb);have n2_ := Aside0.mk (below_step (by repeat (first|exact HB.out|apply below_alloc|apply pw_below_drewN|apply below_drew1|refine below_set ?_ GE324.out|refine below_set ?_ GE325.out)) hb);have n3_ := Aside0.mk (hbox);have n4_ := Aside0.mk ((by rw [hg];exact (below_size (by repeat (first|exact HB.out|apply below_alloc|apply pw_below_drewN|apply below_drew1|refine below_set ?_ GE324.out|refine below_set ?_ GE325.out))) : w.heap.size ≤ gb326));have n5_ := Aside0.mk ((by rw [hg];exact (below_size (by repeat (first|exact HB.out|apply below_alloc|apply pw_below_drewN|apply below_drew1|refine below_set ?_ GE324.out|refine below_set ?_ GE325.out))) : w.heap.size ≤ gb326));have n6_ := Aside0.mk ((by rw [hg];exact Nat.ne_of_lt (blk_lt (g := gb324) (o := .cells #[.slice A0_0 l0_0.length c0_0] 24 (0, 0)) (by (with_reducible repeat (first|refine blk_drewN ?_ _|refine blk_drew ?_|refine blk_alloc ?_ _));exact BK324.out)) : gb324 ≠ gb326));have n7_ := Aside0.mk ((by rw [hg];exact Nat.ne_of_gt (blk_lt (g := gb324) (o := .cells #[.slice A0_0 l0_0.length c0_0] 24 (0, 0)) (by (with_reducible repeat (first|refine blk_drewN ?_ _|refine blk_drew ?_|refine blk_alloc ?_ _));exact BK324.out)) : gb326 ≠ gb324));have n8_ := Aside0.mk ((by rw [hg];exact Nat.ne_of_lt (blk_lt (g := gb325) (o := .cells #[.int .i64 a1_0, .int .i64 a1_1] 26 (0, 0)) (by (with_reducible repeat (first|refine blk_drewN ?_ _|refine blk_drew ?_|refine blk_alloc ?_ _));exact BK325.out)) : gb325 ≠ gb326));have n9_ := Aside0.mk ((by rw [hg];exact Nat.ne_of_gt (blk_lt (g := gb325) (o := .cells #[.int .i64 a1_0, .int .i64 a1_1] 26 (0, 0)) (by (with_reducible repeat (first|refine blk_drewN ?_ _|refine blk_drew ?_|refine blk_alloc ?_ _));exact BK325.out)) : gb326 ≠ gb325));clear BK324;clear BK325;clear HB;have BK324 := n0_;have BK325 := n1_;have HB := n2_;have BK326 := n3_;have GW326 := n4_;have GE326 := n5_;have NB324_326 := n6_;have NB326_324 := n7_;have NB325_326 := n8_;have NB326_325 := n9_;clear n0_ n1_ n2_ n3_ n4_ n5_ n6_ n7_ n8_ n9_;clear hb hbox hg;have hnb9 := NB324_325.out;have hnc9 := NB325_324.out;have hnb10 := NB324_326.out;have hnc10 := NB326_324.out;have hcz11_0 : w8.cell? ⟨gb324, 0, none⟩ = some (.slice A0_0 l0_0.length c0_0) := (blk_cell BK324.out 0).trans rfl;have hfz11_0 := blk_frozen BK324.out 0)|((with_reducible refine gate_callee (f := 5) rfl ?_);refine goesL_ (some 13) rfl rfl Try.func5 (by kernel_rfl) rfl #[.agg #[.slice A0_0 l0_0.length c0_0], .int .i64 1048576] rfl (by (try simp only [List.map_toArray, List.map_cons, List.map_nil]);first|done|rfl|(simp only [List.length_drop, List.length_take];rfl)) ?_;(with_reducible refine (laws_szTree.calls k _ _ l0_0 1048576 t327 _ ?side1 ?side2 A4.out).mono ?_);(case side1 => repeat (first|exact (Kd.C_below HR0_0.out HB.out)|(with_reducible refine Kd.C_alloc ?_ _)|(with_reducible refine Kd.C_drewN ?_ _)|(with_reducible refine Kd.C_drew ?_)));(case side2 => exact HC0_0.out);rintro e w12 ⟨rfl, hb⟩;refine ⟨_, rfl, ?_⟩;have n0_ := Aside0.mk (blk_below (g := gb324) (o := .cells #[.slice A0_0 l0_0.length c0_0] 24 (0, 0)) (by (with_reducible repeat (first|refine blk_drewN ?_ _|refine blk_drew ?_|refine blk_alloc ?_ _));exact BK324.out) hb);have n1_ := Aside0.mk (blk_below (g := gb325) (o := .cells #[.int .i64 a1_0, .int .i64 a1_1] 26 (0, 0)) (by (with_reducible repeat (first|refine blk_drewN ?_ _|refine blk_drew ?_|refine blk_alloc ?_ _));exact BK325.out) hb);have n2_ := Aside0.mk (blk_below (g := gb326) (o := .cells #[.int .i64 a2_0, .int .i64 a2_1] 26 (0, 0)) (by (with_reducible repeat (first|refine blk_drewN ?_ _|refine blk_drew ?_|refine blk_alloc ?_ _));exact BK326.out) hb);have n3_ := Aside0.mk (below_step (by repeat (first|exact HB.out|apply below_alloc|apply pw_below_drewN|apply below_drew1|refine below_set ?_ GE324.out|refine below_set ?_ GE325.out|refine below_set ?_ GE326.out)) hb);clear BK324;clear BK325;clear BK326;clear HB;have BK324 := n0_;have BK325 := n1_;have BK326 := n2_;have HB := n3_;clear n0_ n1_ n2_ n3_;(try clear hb);(try clear hb2);(try clear hk);(try clear hi)))
  go_ret
  exact ⟨by first|rfl|(simp [errW_none, errW_some] <;> rfl)|(simp [*, errW_none, errW_some] <;> rfl), by repeat (first|exact HB.out|apply below_alloc|apply pw_below_drewN|apply below_drew1|refine below_set ?_ GE324.out|refine below_set ?_ GE325.out|refine below_set ?_ GE326.out)⟩
 ·rw [if_neg c5] at H
  have c5b0 : decide (t327 < 0) = false := decide_eq_false c5
  clear c5
  replace H := Option.bind_eq_some_iff.mp H
  obtain ⟨t328, A130, H⟩ := H
  replace H : ((laws_toSpot.f a1_0 a1_1).bind fun bt331 => ((laws_toSpot.f a2_0 a2_1).bind fun bt333 => ((spec_SpotLess.f k t328 bt331.1 bt331.2 bt333.1 bt333.2).bind fun t335 => ((laws_toTree.f k l0_0).bind fun t336 => ((laws_toSpot.f a1_0 a1_1).bind fun bt340 => ((laws_toSpot.f a2_0 a2_1).bind fun bt342 => ((impl_SpotLess.f k t336 bt340.1 bt340.2 bt342.1 bt342.2).bind fun t344 => (if (t344 != t335) = true then (none) else ((laws_toTree.f k l0_0).bind fun t345 => ((laws_eqTree.f k t336 t345).bind fun t348 => (if t348 = true then (some true) else (none)))))))))))) = some r := H
  have A13 := Aside0.mk A130
  clear A130
  replace H := Option.bind_eq_some_iff.mp H
  obtain ⟨⟨t331, t332⟩, A140, H⟩ := H
  replace H : ((laws_toSpot.f a2_0 a2_1).bind fun bt333 => ((spec_SpotLess.f k t328 t331 t332 bt333.1 bt333.2).bind fun t335 => ((laws_toTree.f k l0_0).bind fun t336 => ((laws_toSpot.f a1_0 a1_1).bind fun bt340 => ((laws_toSpot.f a2_0 a2_1).bind fun bt342 => ((impl_SpotLess.f k t336 bt340.1 bt340.2 bt342.1 bt342.2).bind fun t344 => (if (t344 != t335) = true then (none) else ((laws_toTree.f k l0_0).bind fun t345 => ((laws_eqTree.f k t336 t345).bind fun t348 => (if t348 = true then (some true) else (none))))))))))) = some r := H
  have A14 := Aside0.mk A140
  clear A140
  replace H := Option.bind_eq_some_iff.mp H
  obtain ⟨⟨t333, t334⟩, A150, H⟩ := H
  replace H : ((spec_SpotLess.f k t328 t331 t332 t333 t334).bind fun t335 => ((laws_toTree.f k l0_0).bind fun t336 => ((laws_toSpot.f a1_0 a1_1).bind fun bt340 => ((laws_toSpot.f a2_0 a2_1).bind fun bt342 => ((impl_SpotLess.f k t336 bt340.1 bt340.2 bt342.1 bt342.2).bind fun t344 => (if (t344 != t335) = true then (none) else ((laws_toTree.f k l0_0).bind fun t345 => ((laws_eqTree.f k t336 t345).bind fun t348 => (if t348 = true then (some true) else (none)))))))))) = some r := H
  have A15 := Aside0.mk A150
  clear A150
  replace H := Option.bind_eq_some_iff.mp H
  obtain ⟨t335, A160, H⟩ := H
  replace H : ((laws_toTree.f k l0_0).bind fun t336 => ((laws_toSpot.f a1_0 a1_1).bind fun bt340 => ((laws_toSpot.f a2_0 a2_1).bind fun bt342 => ((impl_SpotLess.f k t336 bt340.1 bt340.2 bt342.1 bt342.2).bind fun t344 => (if (t344 != t335) = true then (none) else ((laws_toTree.f k l0_0).bind fun t345 => ((laws_eqTree.f k t336 t345).bind fun t348 => (if t348 = true then (some true) else (none))))))))) = some r := H
  have A16 := Aside0.mk A160
  clear A160
  replace H := Option.bind_eq_some_iff.mp H
  obtain ⟨t336, A170, H⟩ := H
  replace H : ((laws_toSpot.f a1_0 a1_1).bind fun bt340 => ((laws_toSpot.f a2_0 a2_1).bind fun bt342 => ((impl_SpotLess.f k t336 bt340.1 bt340.2 bt342.1 bt342.2).bind fun t344 => (if (t344 != t335) = true then (none) else ((laws_toTree.f k l0_0).bind fun t345 => ((laws_eqTree.f k t336 t345).bind fun t348 => (if t348 = true then (some true) else (none)))))))) = some r := H
  have A17 := Aside0.mk A170
  clear A170
  replace H := Option.bind_eq_some_iff.mp H
  obtain ⟨⟨t340, t341⟩, A180, H⟩ := H
  replace H : ((laws_toSpot.f a2_0 a2_1).bind fun bt342 => ((impl_SpotLess.f k t336 t340 t341 bt342.1 bt342.2).bind fun t344 => (if (t344 != t335) = true then (none) else ((laws_toTree.f k l0_0).bind fun t345 => ((laws_eqTree.f k t336 t345).bind fun t348 => (if t348 = true then (some true) else (none))))))) = some r := H
  have A18 := Aside0.mk A180
  clear A180
  replace H := Option.bind_eq_some_iff.mp H
  obtain ⟨⟨t342, t343⟩, A190, H⟩ := H
  replace H : ((impl_SpotLess.f k t336 t340 t341 t342 t343).bind fun t344 => (if (t344 != t335) = true then (none) else ((laws_toTree.f k l0_0).bind fun t345 => ((laws_eqTree.f k t336 t345).bind fun t348 => (if t348 = true then (some true) else (none)))))) = some r := H
  have A19 := Aside0.mk A190
  clear A190
  replace H := Option.bind_eq_some_iff.mp H
  obtain ⟨t344, A200, H⟩ := H
  replace H : (if (t344 != t335) = true then (none) else ((laws_toTree.f k l0_0).bind fun t345 => ((laws_eqTree.f k t336 t345).bind fun t348 => (if t348 = true then (some true) else (none))))) = some r := H
  have A20 := Aside0.mk A200
  clear A200
  by_cases c21 : (t344 != t335) = true
  ·rw [if_pos c21] at H
   exact absurd H (by simp)
  ·rw [if_neg c21] at H
   have c21b0 : (t344 != t335) = false := by simpa using c21
   (try (have c21b1 : decide (t344 = t335) = true := by simpa using c21))
   (try (have c21b2 : (t344 == t335) = true := by simpa using c21))
   clear c21
   replace H := Option.bind_eq_some_iff.mp H
   obtain ⟨t345, A480, H⟩ := H
   replace H : ((laws_eqTree.f k t336 t345).bind fun t348 => (if t348 = true then (some true) else (none))) = some r := H
   have A48 := Aside0.mk A480
   clear A480
   replace H := Option.bind_eq_some_iff.mp H
   obtain ⟨t348, A490, H⟩ := H
   replace H : (if t348 = true then (some true) else (none)) = some r := H
   have A49 := Aside0.mk A490
   clear A490
   by_cases c50 : t348 = true
   ·subst c50
    have H1 : (some true) = some r := by rw [if_pos rfl] at H;exact H
    clear H
    have H := H1
    clear H1
    obtain rfl := Option.some.inj H
    go_enter Try.func3, Try.ntmps3
    try go_wp2_with (first|((with_reducible refine gate_dst (N := 3) rfl ?_);refine box_event ?hg (N := 3) ?hd (cs := #[.slice A0_0 l0_0.length c0_0]) (t := 24) ?hr ?_;(case hd => rfl);(case hg => rfl);(case hr => first|(go_simp;done)|(go_simp;rfl));intro gb324 hg w51 hbox hb;have n0_ := Aside0.mk (below_step (by repeat (first|(with_reducible first|exact HB.out|apply below_alloc|apply pw_below_drewN|apply below_drew1)|exact HB.out)) hb);have n1_ := Aside0.mk (hbox);have n2_ := Aside0.mk ((by rw [hg];exact (below_size (by repeat (first|(with_reducible first|exact HB.out|apply below_alloc|apply pw_below_drewN|apply below_drew1)|exact HB.out))) : w.heap.size ≤ gb324));have n3_ := Aside0.mk ((by rw [hg];exact (below_size (by repeat (first|(with_reducible first|exact HB.out|apply below_alloc|apply pw_below_drewN|apply below_drew1)|exact HB.out))) : w.heap.size ≤ gb324));clear HB;have HB := n0_;have BK324 := n1_;have GW324 := n2_;have GE324 := n3_;clear n0_ n1_ n2_ n3_;clear hb hbox hg)|((with_reducible refine gate_dst (N := 4) rfl ?_);refine box_event ?hg (N := 4) ?hd (cs := #[.int .i64 a1_0, .int .i64 a1_1]) (t := 26) ?hr ?_;(case hd => rfl);(case hg => rfl);(case hr => first|(go_simp;done)|(go_simp;rfl));intro gb325 hg w52 hbox hb;have n0_ := Aside0.mk (blk_below (g := gb324) (o := .cells #[.slice A0_0 l0_0.length c0_0] 24 (0, 0)) (by (with_reducible repeat (first|refine blk_drewN ?_ _|refine blk_drew ?_|refine blk_alloc ?_ _));exact BK324.out) hb);have n1_ := Aside0.mk (below_step (by repeat (first|exact HB.out|apply below_alloc|apply pw_below_drewN|apply below_drew1|refine below_set ?_ GE324.out)) hb);have n2_ := Aside0.mk (hbox);have n3_ := Aside0.mk ((by rw [hg];exact (below_size (by repeat (first|exact HB.out|apply below_alloc|apply pw_below_drewN|apply below_drew1|refine below_set ?_ GE324.out))) : w.heap.size ≤ gb325));have n4_ := Aside0.mk ((by rw [hg];exact (below_size (by repeat (first|exact HB.out|apply below_alloc|apply pw_below_drewN|apply below_drew1|refine below_set ?_ GE324.out))) : w.heap.size ≤ gb325));have n5_ := Aside0.mk ((by rw [hg];exact Nat.ne_of_lt (blk_lt (g := gb324) (o := .cells #[.slice A0_0 l0_0.length c0_0] 24 (0, 0)) (by (with_reducible repeat (first|refine blk_drewN ?_ _|refine blk_drew ?_|refine blk_alloc ?_ _));exact BK324.out)) : gb324 ≠ gb325));have n6_ := Aside0.mk ((by rw [hg];exact Nat.ne_of_gt (blk_lt (g := gb324) (o := .cells #[.slice A0_0 l0_0.length c0_0] 24 (0, 0)) (by (with_reducible repeat (first|refine blk_drewN ?_ _|refine blk_drew ?_|refine blk_alloc ?_ _));exact BK324.out)) : gb325 ≠ gb324));clear BK324;clear HB;have BK324 := n0_;have HB := n1_;have BK325 := n2_;have GW325 := n3_;have GE325 := n4_;have NB324_325 := n5_;have NB325_324 := n6_;clear n0_ n1_ n2_ n3_ n4_ n5_ n6_;clear hb hbox hg)|((with_reducible refine gate_dst (N := 5) rfl ?_);refine box_event ?hg (N := 5) ?hd (cs := #[.int .i64 a2_0, .int .i64 a2_1]) (t := 26) ?hr ?_;(case hd => rfl);(case hg => rfl);(case hr => first|(go_simp;done)|(go_simp;rfl));intro gb326 hg w53 hbox hb;have n0_ := Aside0.mk (blk_below (g := gb324) (o := .cells #[.slice A0_0 l0_0.length c0_0] 24 (0, 0)) (by (with_reducible repeat (first|refine blk_drewN ?_ _|refine blk_drew ?_|refine blk_alloc ?_ _));exact BK324.out) hb);have n1_ := Aside0.mk (blk_below (g := gb325) (o := .cells #[.int .i64 a1_0, .int .i64 a1_1] 26 (0, 0)) (by (with_reducible repeat (first|refine blk_drewN ?_ _|refine blk_drew ?_|refine blk_alloc ?_ _));exact BK325.out) hb);have n2_ := Aside0.mk (below_step (by repeat (first|exact HB.out|apply below_alloc|apply pw_below_drewN|apply below_drew1|refine below_set ?_ GE324.out|refine below_set ?_ GE325.out)) hb);have n3_ := Aside0.mk (hbox);have n4_ := Aside0.mk ((by rw [hg];exact (below_size (by repeat (first|exact HB.out|apply below_alloc|apply pw_below_drewN|apply below_drew1|refine below_set ?_ GE324.out|refine below_set ?_ GE325.out))) : w.heap.size ≤ gb326));have n5_ := Aside0.mk ((by rw [hg];exact (below_size (by repeat (first|exact HB.out|apply below_alloc|apply pw_below_drewN|apply below_drew1|refine below_set ?_ GE324.out|refine below_set ?_ GE325.out))) : w.heap.size ≤ gb326));have n6_ := Aside0.mk ((by rw [hg];exact Nat.ne_of_lt (blk_lt (g := gb324) (o := .cells #[.slice A0_0 l0_0.length c0_0] 24 (0, 0)) (by (with_reducible repeat (first|refine blk_drewN ?_ _|refine blk_drew ?_|refine blk_alloc ?_ _));exact BK324.out)) : gb324 ≠ gb326));have n7_ := Aside0.mk ((by rw [hg];exact Nat.ne_of_gt (blk_lt (g := gb324) (o := .cells #[.slice A0_0 l0_0.length c0_0] 24 (0, 0)) (by (with_reducible repeat (first|refine blk_drewN ?_ _|refine blk_drew ?_|refine blk_alloc ?_ _));exact BK324.out)) : gb326 ≠ gb324));have n8_ := Aside0.mk ((by rw [hg];exact Nat.ne_of_lt (blk_lt (g := gb325) (o := .cells #[.int .i64 a1_0, .int .i64 a1_1] 26 (0, 0)) (by (with_reducible repeat (first|refine blk_drewN ?_ _|refine blk_drew ?_|refine blk_alloc ?_ _));exact BK325.out)) : gb325 ≠ gb326));have n9_ := Aside0.mk ((by rw [hg];exact Nat.ne_of_gt (blk_lt (g := gb325) (o := .cells #[.int .i64 a1_0, .int .i64 a1_1] 26 (0, 0)) (by (with_reducible repeat (first|refine blk_drewN ?_ _|refine blk_drew ?_|refine blk_alloc ?_ _));exact BK325.out)) : gb326 ≠ gb325));clear BK324;clear BK325;clear HB;have BK324 := n0_;have BK325 := n1_;have HB := n2_;have BK326 := n3_;have GW326 := n4_;have GE326 := n5_;have NB324_326 := n6_;have NB326_324 := n7_;have NB325_326 := n8_;have NB326_325 := n9_;clear n0_ n1_ n2_ n3_ n4_ n5_ n6_ n7_ n8_ n9_;clear hb hbox hg;have hnb54 := NB324_325.out;have hnc54 := NB325_324.out;have hnb55 := NB324_326.out;have hnc55 := NB326_324.out;have hcz56_0 : w53.cell? ⟨gb324, 0, none⟩ = some (.slice A0_0 l0_0.length c0_0) := (blk_cell BK324.out 0).trans rfl;have hfz56_0 := blk_frozen BK324.out 0)|((with_reducible refine gate_callee (f := 5) rfl ?_);refine goesL_ (some 13) rfl rfl Try.func5 (by kernel_rfl) rfl #[.agg #[.slice A0_0 l0_0.length c0_0], .int .i64 1048576] rfl (by (try simp only [List.map_toArray, List.map_cons, List.map_nil]);first|done|rfl|(simp only [List.length_drop, List.length_take];rfl)) ?_;(with_reducible refine (laws_szTree.calls k _ _ l0_0 1048576 t327 _ ?side1 ?side2 A4.out).mono ?_);(case side1 => repeat (first|exact (Kd.C_below HR0_0.out HB.out)|(with_reducible refine Kd.C_alloc ?_ _)|(with_reducible refine Kd.C_drewN ?_ _)|(with_reducible refine Kd.C_drew ?_)));(case side2 => exact HC0_0.out);rintro e w57 ⟨rfl, hb⟩;refine ⟨_, rfl, ?_⟩;have n0_ := Aside0.mk (blk_below (g := gb324) (o := .cells #[.slice A0_0 l0_0.length c0_0] 24 (0, 0)) (by (with_reducible repeat (first|refine blk_drewN ?_ _|refine blk_drew ?_|refine blk_alloc ?_ _));exact BK324.out) hb);have n1_ := Aside0.mk (blk_below (g := gb325) (o := .cells #[.int .i64 a1_0, .int .i64 a1_1] 26 (0, 0)) (by (with_reducible repeat (first|refine blk_drewN ?_ _|refine blk_drew ?_|refine blk_alloc ?_ _));exact BK325.out) hb);have n2_ := Aside0.mk (blk_below (g := gb326) (o := .cells #[.int .i64 a2_0, .int .i64 a2_1] 26 (0, 0)) (by (with_reducible repeat (first|refine blk_drewN ?_ _|refine blk_drew ?_|refine blk_alloc ?_ _));exact BK326.out) hb);have n3_ := Aside0.mk (below_step (by repeat (first|exact HB.out|apply below_alloc|apply pw_below_drewN|apply below_drew1|refine below_set ?_ GE324.out|refine below_set ?_ GE325.out|refine below_set ?_ GE326.out)) hb);clear BK324;clear BK325;clear BK326;clear HB;have BK324 := n0_;have BK325 := n1_;have BK326 := n2_;have HB := n3_;clear n0_ n1_ n2_ n3_;(try clear hb);(try clear hb2);(try clear hk);(try clear hi)))
    have n0_ := Aside0.mk (blk_drew BK324.out)
    have n1_ := Aside0.mk (blk_drew BK325.out)
    have n2_ := Aside0.mk (blk_drew BK326.out)
    have n3_ := Aside0.mk (below_drew1 HB.out)
    clear BK324
    clear BK325
    clear BK326
    clear HB
    have BK324 := n0_
    have BK325 := n1_
    have BK326 := n2_
    have HB := n3_
    clear n0_ n1_ n2_ n3_
    refine start_ (n := 8) (S := fun w' => w'.cell? ⟨gb324, 0, none⟩ = some (.slice A0_0 l0_0.length c0_0) ∧ w'.cell? ⟨gb325, 0, none⟩ = some (.int .i64 a1_0) ∧ w'.cell? ⟨gb325, 1, none⟩ = some (.int .i64 a1_1) ∧ w'.cell? ⟨gb326, 0, none⟩ = some (.int .i64 a2_0) ∧ w'.cell? ⟨gb326, 1, none⟩ = some (.int .i64 a2_1)) (ds := []) #[false, false, false, false, false, false, false, false] (by kernel_rfl) rfl rfl ⟨(blk_cell BK324.out 0).trans rfl, (blk_cell BK325.out 0).trans rfl, (blk_cell BK325.out 1).trans rfl, (blk_cell BK326.out 0).trans rfl, (blk_cell BK326.out 1).trans rfl⟩ (fun hHeld => ?_);refine with_tabW laws_FnExactSpotLess.tab5 laws_FnExactSpotLess.bits5 (fun HT_ HW_ => ?_)
    generalize w57.drew = w58 at BK324 BK325 BK326 HB hHeld ⊢
    refine take_ (i := 0) (N := some 16) (v := ?_) (a' := ?_) #[true, false, false, false, false, false, false, false] rfl rfl (take_ofW HT_.out HW_.out (by kernel_rfl)) (fun _ _ _ h => h) (Or.inl ⟨by rfl, ?_⟩) hHeld ?_ ?_
    rotate_left
    ·rintro w' ⟨s0, s1, s2, s3, s4⟩
     go_simp
     with_reducible rfl
    rotate_left
    ·simp only [Act.put, List.setIfInBounds_toArray, List.set_cons_zero, List.set_cons_succ, i64_w, i32_w]
     rfl
    refine take_ (i := 2) (N := some 18) (v := ?_) (a' := ?_) #[true, false, true, false, false, false, false, false] rfl rfl (take_ofW HT_.out HW_.out (by kernel_rfl)) (fun _ _ _ h => h) (Or.inl ⟨by rfl, ?_⟩) hHeld ?_ ?_
    rotate_left
    ·rintro w' ⟨s0, s1, s2, s3, s4⟩
     go_simp
     with_reducible rfl
    rotate_left
    ·simp only [Act.put, List.setIfInBounds_toArray, List.set_cons_zero, List.set_cons_succ, i64_w, i32_w]
     rfl
    refine take_ (i := 4) (N := some 20) (v := ?_) (a' := ?_) #[true, false, true, false, true, false, false, false] rfl rfl (take_ofW HT_.out HW_.out (by kernel_rfl)) (fun _ _ _ h => h) (Or.inl ⟨by rfl, ?_⟩) hHeld ?_ ?_
    rotate_left
    ·rintro w' ⟨s0, s1, s2, s3, s4⟩
     go_simp
     with_reducible rfl
    rotate_left
    ·simp only [Act.put, List.setIfInBounds_toArray, List.set_cons_zero, List.set_cons_succ, i64_w, i32_w]
     rfl
    refine one_ (i := 1) (N := some 17) #[true, true, true, false, true, false, false, false] rfl rfl (one_of HT_.out (by kernel_rfl)) (by decide) (fun K hK => ?_)
    refine goes_ Try.func7 (by kernel_rfl) rfl #[.agg #[.slice A0_0 l0_0.length c0_0]] (by rfl) rfl rfl (by (try simp only [List.map_toArray, List.map_cons, List.map_nil]);first|done|rfl|(simp only [List.length_drop, List.length_take];rfl)) ?_
    with_reducible refine (laws_toTree.calls k _ _ l0_0 t328 _ ?side1 ?side2 A13.out).mono ?_
    (case side1 => repeat (first|exact (Kd.C_below HR0_0.out HB.out)|(with_reducible refine Kd.C_alloc ?_ _)|(with_reducible refine Kd.C_drewN ?_ _)|(with_reducible refine Kd.C_drew ?_)))
    (case side2 => exact HC0_0.out)
    rintro e w59 ⟨v329, rfl, ho0, hb⟩
    refine ⟨_, rfl, ?_⟩
    have n0_ := Aside0.mk (Kd.S_lower ho0 (below_size (by repeat (first|exact HB.out|apply below_alloc|apply pw_below_drewN|apply below_drew1|refine below_set ?_ GE324.out|refine below_set ?_ GE325.out|refine below_set ?_ GE326.out))))
    have n1_ := Aside0.mk (blk_below (g := gb324) (o := .cells #[.slice A0_0 l0_0.length c0_0] 24 (0, 0)) (by (with_reducible repeat (first|refine blk_drewN ?_ _|refine blk_drew ?_|refine blk_alloc ?_ _));exact BK324.out) hb)
    have n2_ := Aside0.mk (blk_below (g := gb325) (o := .cells #[.int .i64 a1_0, .int .i64 a1_1] 26 (0, 0)) (by (with_reducible repeat (first|refine blk_drewN ?_ _|refine blk_drew ?_|refine blk_alloc ?_ _));exact BK325.out) hb)
    have n3_ := Aside0.mk (blk_below (g := gb326) (o := .cells #[.int .i64 a2_0, .int .i64 a2_1] 26 (0, 0)) (by (with_reducible repeat (first|refine blk_drewN ?_ _|refine blk_drew ?_|refine blk_alloc ?_ _));exact BK326.out) hb)
    have n4_ := Aside0.mk (below_step (by repeat (first|exact HB.out|apply below_alloc|apply pw_below_drewN|apply below_drew1|refine below_set ?_ GE324.out|refine below_set ?_ GE325.out|refine below_set ?_ GE326.out)) hb)
    clear BK324
    clear BK325
    clear BK326
    clear HB
    have HO330 := n0_
    have BK324 := n1_
    have BK325 := n2_
    have BK326 := n3_
    have HB := n4_
    clear n0_ n1_ n2_ n3_ n4_
    (try clear hb)
    (try clear hb2)
    (try clear hk)
    (try clear hi)
    (try clear ho0)
    refine hK.out _ _ ⟨(blk_cell BK324.out 0).trans rfl, (blk_cell BK325.out 0).trans rfl, (blk_cell BK325.out 1).trans rfl, (blk_cell BK326.out 0).trans rfl, (blk_cell BK326.out 1).trans rfl⟩ (fun hHeld => ?_)
    clear hK K
    refine norm_ (a' := ?_) ?_ ?_
    rotate_left
    ·show Act.put _ (some 17) _ = _
     simp only [Act.put, List.setIfInBounds_toArray, List.set_cons_zero, List.set_cons_succ, i64_w, i32_w]
     rfl
    refine one_ (i := 3) (N := some 19) #[true, true, true, true, true, false, false, false] rfl rfl (one_of HT_.out (by kernel_rfl)) (by decide) (fun K hK => ?_)
    refine goes_ Try.func8 (by kernel_rfl) rfl #[.agg #[.int .i64 a1_0, .int .i64 a1_1]] (by rfl) rfl rfl (by (try simp only [List.map_toArray, List.map_cons, List.map_nil]);first|done|rfl|(simp only [List.length_drop, List.length_take];rfl)) ?_
    with_reducible refine (laws_toSpot.calls a1_0 a1_1 t331 t332 _ A14.out).mono ?_
    rintro e w60 ⟨rfl, hb⟩
    refine ⟨_, rfl, ?_⟩
    have n0_ := Aside0.mk (Kd.S_below (by (with_reducible repeat (first|apply Kd.S_alloc|apply Kd.S_drewN|apply Kd.S_drew));exact HO330.out) hb)
    have n1_ := Aside0.mk (blk_below (g := gb324) (o := .cells #[.slice A0_0 l0_0.length c0_0] 24 (0, 0)) (by (with_reducible repeat (first|refine blk_drewN ?_ _|refine blk_drew ?_|refine blk_alloc ?_ _));exact BK324.out) hb)
    have n2_ := Aside0.mk (blk_below (g := gb325) (o := .cells #[.int .i64 a1_0, .int .i64 a1_1] 26 (0, 0)) (by (with_reducible repeat (first|refine blk_drewN ?_ _|refine blk_drew ?_|refine blk_alloc ?_ _));exact BK325.out) hb)
    have n3_ := Aside0.mk (blk_below (g := gb326) (o := .cells #[.int .i64 a2_0, .int .i64 a2_1] 26 (0, 0)) (by (with_reducible repeat (first|refine blk_drewN ?_ _|refine blk_drew ?_|refine blk_alloc ?_ _));exact BK326.out) hb)
    have n4_ := Aside0.mk (below_step (by repeat (first|exact HB.out|apply below_alloc|apply pw_below_drewN|apply below_drew1|refine below_set ?_ GE324.out|refine below_set ?_ GE325.out|refine below_set ?_ GE326.out)) hb)
    clear HO330
    clear BK324
    clear BK325
    clear BK326
    clear HB
    have HO330 := n0_
    have BK324 := n1_
    have BK325 := n2_
    have BK326 := n3_
    have HB := n4_
    clear n0_ n1_ n2_ n3_ n4_
    (try clear hb)
    (try clear hb2)
    (try clear hk)
    (try clear hi)
    refine hK.out _ _ ⟨(blk_cell BK324.out 0).trans rfl, (blk_cell BK325.out 0).trans rfl, (blk_cell BK325.out 1).trans rfl, (blk_cell BK326.out 0).trans rfl, (blk_cell BK326.out 1).trans rfl⟩ (fun hHeld => ?_)
    clear hK K
    refine norm_ (a' := ?_) ?_ ?_
    rotate_left
    ·show Act.put _ (some 19) _ = _
     simp only [Act.put, List.setIfInBounds_toArray, List.set_cons_zero, List.set_cons_succ, i64_w, i32_w]
     rfl
    refine one_ (i := 5) (N := some 21) #[true, true, true, true, true, true, false, false] rfl rfl (one_of HT_.out (by kernel_rfl)) (by decide) (fun K hK => ?_)
    refine goes_ Try.func8 (by kernel_rfl) rfl #[.agg #[.int .i64 a2_0, .int .i64 a2_1]] (by rfl) rfl rfl (by (try simp only [List.map_toArray, List.map_cons, List.map_nil]);first|done|rfl|(simp only [List.length_drop, List.length_take];rfl)) ?_
    with_reducible refine (laws_toSpot.calls a2_0 a2_1 t333 t334 _ A15.out).mono ?_
    rintro e w61 ⟨rfl, hb⟩
    refine ⟨_, rfl, ?_⟩
    have n0_ := Aside0.mk (Kd.S_below (by (with_reducible repeat (first|apply Kd.S_alloc|apply Kd.S_drewN|apply Kd.S_drew));exact HO330.out) hb)
    have n1_ := Aside0.mk (blk_below (g := gb324) (o := .cells #[.slice A0_0 l0_0.length c0_0] 24 (0, 0)) (by (with_reducible repeat (first|refine blk_drewN ?_ _|refine blk_drew ?_|refine blk_alloc ?_ _));exact BK324.out) hb)
    have n2_ := Aside0.mk (blk_below (g := gb325) (o := .cells #[.int .i64 a1_0, .int .i64 a1_1] 26 (0, 0)) (by (with_reducible repeat (first|refine blk_drewN ?_ _|refine blk_drew ?_|refine blk_alloc ?_ _));exact BK325.out) hb)
    have n3_ := Aside0.mk (blk_below (g := gb326) (o := .cells #[.int .i64 a2_0, .int .i64 a2_1] 26 (0, 0)) (by (with_reducible repeat (first|refine blk_drewN ?_ _|refine blk_drew ?_|refine blk_alloc ?_ _));exact BK326.out) hb)
    have n4_ := Aside0.mk (below_step (by repeat (first|exact HB.out|apply below_alloc|apply pw_below_drewN|apply below_drew1|refine below_set ?_ GE324.out|refine below_set ?_ GE325.out|refine below_set ?_ GE326.out)) hb)
    clear HO330
    clear BK324
    clear BK325
    clear BK326
    clear HB
    have HO330 := n0_
    have BK324 := n1_
    have BK325 := n2_
    have BK326 := n3_
    have HB := n4_
    clear n0_ n1_ n2_ n3_ n4_
    (try clear hb)
    (try clear hb2)
    (try clear hk)
    (try clear hi)
    obtain ⟨Ao62, co62, eo62⟩ := Kd.S_slice HO330.out
    (first|subst eo62|(injection eo62 with f1_ f2_ f3_;have f4_ := f1_.symm;have f5_ := f3_.symm;clear f1_ f2_ f3_;subst f4_;subst f5_))
    refine hK.out _ _ ⟨(blk_cell BK324.out 0).trans rfl, (blk_cell BK325.out 0).trans rfl, (blk_cell BK325.out 1).trans rfl, (blk_cell BK326.out 0).trans rfl, (blk_cell BK326.out 1).trans rfl⟩ (fun hHeld => ?_)
    clear hK K
    refine norm_ (a' := ?_) ?_ ?_
    rotate_left
    ·show Act.put _ (some 21) _ = _
     simp only [Act.put, List.setIfInBounds_toArray, List.set_cons_zero, List.set_cons_succ, i64_w, i32_w]
     rfl
    refine one_ (i := 6) (N := some 22) #[true, true, true, true, true, true, true, false] rfl rfl (one_of HT_.out (by kernel_rfl)) (by decide) (fun K hK => ?_)
    refine goes_ Try.func6 (by kernel_rfl) rfl #[.agg #[.slice Ao62 t328.length co62], .agg #[.int .i64 t331, .int .i64 t332], .agg #[.int .i64 t333, .int .i64 t334]] (by rfl) rfl rfl (by (try simp only [List.map_toArray, List.map_cons, List.map_nil]);first|done|rfl|(simp only [List.length_drop, List.length_take];rfl)) ?_
    with_reducible refine (spec_SpotLess.calls k _ _ t328 t331 t332 t333 t334 t335 _ ?side1 ?side2 A16.out).mono ?_
    (case side1 => repeat (first|exact (Kd.S_reads' HO330.out).2.2|(with_reducible refine Kd.C_alloc ?_ _)|(with_reducible refine Kd.C_drewN ?_ _)|(with_reducible refine Kd.C_drew ?_)))
    (case side2 => exact (Kd.S_reads' HO330.out).2.1)
    rintro e w63 ⟨rfl, hb⟩
    refine ⟨_, rfl, ?_⟩
    have n0_ := Aside0.mk (Kd.S_below (by (with_reducible repeat (first|apply Kd.S_alloc|apply Kd.S_drewN|apply Kd.S_drew));exact HO330.out) hb)
    have n1_ := Aside0.mk (blk_below (g := gb324) (o := .cells #[.slice A0_0 l0_0.length c0_0] 24 (0, 0)) (by (with_reducible repeat (first|refine blk_drewN ?_ _|refine blk_drew ?_|refine blk_alloc ?_ _));exact BK324.out) hb)
    have n2_ := Aside0.mk (blk_below (g := gb325) (o := .cells #[.int .i64 a1_0, .int .i64 a1_1] 26 (0, 0)) (by (with_reducible repeat (first|refine blk_drewN ?_ _|refine blk_drew ?_|refine blk_alloc ?_ _));exact BK325.out) hb)
    have n3_ := Aside0.mk (blk_below (g := gb326) (o := .cells #[.int .i64 a2_0, .int .i64 a2_1] 26 (0, 0)) (by (with_reducible repeat (first|refine blk_drewN ?_ _|refine blk_drew ?_|refine blk_alloc ?_ _));exact BK326.out) hb)
    have n4_ := Aside0.mk (below_step (by repeat (first|exact HB.out|apply below_alloc|apply pw_below_drewN|apply below_drew1|refine below_set ?_ GE324.out|refine below_set ?_ GE325.out|refine below_set ?_ GE326.out)) hb)
    clear HO330
    clear BK324
    clear BK325
    clear BK326
    clear HB
    have HO330 := n0_
    have BK324 := n1_
    have BK325 := n2_
    have BK326 := n3_
    have HB := n4_
    clear n0_ n1_ n2_ n3_ n4_
    (try clear hb)
    (try clear hb2)
    (try clear hk)
    (try clear hi)
    refine hK.out _ _ ⟨(blk_cell BK324.out 0).trans rfl, (blk_cell BK325.out 0).trans rfl, (blk_cell BK325.out 1).trans rfl, (blk_cell BK326.out 0).trans rfl, (blk_cell BK326.out 1).trans rfl⟩ (fun hHeld => ?_)
    clear hK K
    refine norm_ (a' := ?_) ?_ ?_
    rotate_left
    ·show Act.put _ (some 22) _ = _
     simp only [Act.put, List.setIfInBounds_toArray, List.set_cons_zero, List.set_cons_succ, i64_w, i32_w]
     rfl
    refine pure_ (i := 7) (N := some 8) (v := ?_) (a' := ?_) #[true, true, true, true, true, true, true, true] rfl rfl (any_of HT_.out (by kernel_rfl)) (fun _ _ _ h => h) (Or.inl ⟨by rfl, ?_⟩) ?_ ?_
    rotate_left
    ·intro w'
     go_simp
     with_reducible rfl
    rotate_left
    ·simp only [Act.put, List.setIfInBounds_toArray, List.set_cons_zero, List.set_cons_succ, i64_w, i32_w]
     rfl
    refine done_ (done_of HT_.out (by kernel_rfl)) ?_
    have hcz64_0 : w63.cell? ⟨gb324, 0, none⟩ = some (.slice A0_0 l0_0.length c0_0) := (blk_cell BK324.out 0).trans rfl
    have hfz64_0 := blk_frozen BK324.out 0
    try go_wp2_with (first|((with_reducible refine gate_callee (f := 7) rfl ?_);refine goesL_ (some 24) rfl rfl Try.func7 (by kernel_rfl) rfl #[.agg #[.slice A0_0 l0_0.length c0_0]] rfl (by (try simp only [List.map_toArray, List.map_cons, List.map_nil]);first|done|rfl|(simp only [List.length_drop, List.length_take];rfl)) ?_;(with_reducible refine (laws_toTree.calls k _ _ l0_0 t336 _ ?side1 ?side2 A17.out).mono ?_);(case side1 => repeat (first|exact (Kd.C_below HR0_0.out HB.out)|(with_reducible refine Kd.C_alloc ?_ _)|(with_reducible refine Kd.C_drewN ?_ _)|(with_reducible refine Kd.C_drew ?_)));(case side2 => exact HC0_0.out);rintro e w65 ⟨v337, rfl, ho0, hb⟩;refine ⟨_, rfl, ?_⟩;have n0_ := Aside0.mk (Kd.S_elder' (by (with_reducible repeat (first|apply Kd.S_alloc|apply Kd.S_drewN|apply Kd.S_drew));exact HO330.out) (Kd.S_base ho0) hb);have n1_ := Aside0.mk (Kd.S_lower (Kd.S_new' ho0 (Kd.S_lt (by (with_reducible repeat (first|apply Kd.S_alloc|apply Kd.S_drewN|apply Kd.S_drew));exact HO330.out))) (below_size (by repeat (first|exact HB.out|apply below_alloc|apply pw_below_drewN|apply below_drew1|refine below_set ?_ GE324.out|refine below_set ?_ GE325.out|refine below_set ?_ GE326.out))));have n2_ := Aside0.mk (blk_below (g := gb324) (o := .cells #[.slice A0_0 l0_0.length c0_0] 24 (0, 0)) (by (with_reducible repeat (first|refine blk_drewN ?_ _|refine blk_drew ?_|refine blk_alloc ?_ _));exact BK324.out) hb);have n3_ := Aside0.mk (blk_below (g := gb325) (o := .cells #[.int .i64 a1_0, .int .i64 a1_1] 26 (0, 0)) (by (with_reducible repeat (first|refine blk_drewN ?_ _|refine blk_drew ?_|refine blk_alloc ?_ _));exact BK325.out) hb);have n4_ := Aside0.mk (blk_below (g := gb326) (o := .cells #[.int .i64 a2_0, .int .i64 a2_1] 26 (0, 0)) (by (with_reducible repeat (first|refine blk_drewN ?_ _|refine blk_drew ?_|refine blk_alloc ?_ _));exact BK326.out) hb);have n5_ := Aside0.mk (below_step (by repeat (first|exact HB.out|apply below_alloc|apply pw_below_drewN|apply below_drew1|refine below_set ?_ GE324.out|refine below_set ?_ GE325.out|refine below_set ?_ GE326.out)) hb);clear HO330;clear BK324;clear BK325;clear BK326;clear HB;have HO330 := n0_;have HO338 := n1_;have BK324 := n2_;have BK325 := n3_;have BK326 := n4_;have HB := n5_;clear n0_ n1_ n2_ n3_ n4_ n5_;(try clear hb);(try clear hb2);(try clear hk);(try clear hi);(try clear ho0))|((with_reducible refine gate_dst (N := 9) rfl ?_);refine box_event ?hg (N := 9) ?hd (cs := #[.slice none 0 0]) (t := 31) ?hr ?_;(case hd => rfl);(case hg => rfl);(case hr => first|(go_simp;done)|(go_simp;rfl));intro gb339 hg w66 hbox hb;have n0_ := Aside0.mk (Kd.S_below (by (with_reducible repeat (first|apply Kd.S_alloc|apply Kd.S_drewN|apply Kd.S_drew));exact HO330.out) hb);have n1_ := Aside0.mk (Kd.S_below (by (with_reducible repeat (first|apply Kd.S_alloc|apply Kd.S_drewN|apply Kd.S_drew));exact HO338.out) hb);have n2_ := Aside0.mk (blk_below (g := gb324) (o := .cells #[.slice A0_0 l0_0.length c0_0] 24 (0, 0)) (by (with_reducible repeat (first|refine blk_drewN ?_ _|refine blk_drew ?_|refine blk_alloc ?_ _));exact BK324.out) hb);have n3_ := Aside0.mk (blk_below (g := gb325) (o := .cells #[.int .i64 a1_0, .int .i64 a1_1] 26 (0, 0)) (by (with_reducible repeat (first|refine blk_drewN ?_ _|refine blk_drew ?_|refine blk_alloc ?_ _));exact BK325.out) hb);have n4_ := Aside0.mk (blk_below (g := gb326) (o := .cells #[.int .i64 a2_0, .int .i64 a2_1] 26 (0, 0)) (by (with_reducible repeat (first|refine blk_drewN ?_ _|refine blk_drew ?_|refine blk_alloc ?_ _));exact BK326.out) hb);have n5_ := Aside0.mk (below_step (by repeat (first|exact HB.out|apply below_alloc|apply pw_below_drewN|apply below_drew1|refine below_set ?_ GE324.out|refine below_set ?_ GE325.out|refine below_set ?_ GE326.out)) hb);have n6_ := Aside0.mk (hbox);have n7_ := Aside0.mk ((by rw [hg];exact (below_size (by repeat (first|exact HB.out|apply below_alloc|apply pw_below_drewN|apply below_drew1|refine below_set ?_ GE324.out|refine below_set ?_ GE325.out|refine below_set ?_ GE326.out))) : w.heap.size ≤ gb339));have n8_ := Aside0.mk ((by rw [hg];exact (below_size (by repeat (first|exact HB.out|apply below_alloc|apply pw_below_drewN|apply below_drew1|refine below_set ?_ GE324.out|refine below_set ?_ GE325.out|refine below_set ?_ GE326.out))) : w.heap.size ≤ gb339));have n9_ := Aside0.mk ((by rw [hg];exact Nat.ne_of_lt (blk_lt (g := gb324) (o := .cells #[.slice A0_0 l0_0.length c0_0] 24 (0, 0)) (by (with_reducible repeat (first|refine blk_drewN ?_ _|refine blk_drew ?_|refine blk_alloc ?_ _));exact BK324.out)) : gb324 ≠ gb339));have n10_ := Aside0.mk ((by rw [hg];exact Nat.ne_of_gt (blk_lt (g := gb324) (o := .cells #[.slice A0_0 l0_0.length c0_0] 24 (0, 0)) (by (with_reducible repeat (first|refine blk_drewN ?_ _|refine blk_drew ?_|refine blk_alloc ?_ _));exact BK324.out)) : gb339 ≠ gb324));have n11_ := Aside0.mk ((by rw [hg];exact Nat.ne_of_lt (blk_lt (g := gb325) (o := .cells #[.int .i64 a1_0, .int .i64 a1_1] 26 (0, 0)) (by (with_reducible repeat (first|refine blk_drewN ?_ _|refine blk_drew ?_|refine blk_alloc ?_ _));exact BK325.out)) : gb325 ≠ gb339));have n12_ := Aside0.mk ((by rw [hg];exact Nat.ne_of_gt (blk_lt (g := gb325) (o := .cells #[.int .i64 a1_0, .int .i64 a1_1] 26 (0, 0)) (by (with_reducible repeat (first|refine blk_drewN ?_ _|refine blk_drew ?_|refine blk_alloc ?_ _));exact BK325.out)) : gb339 ≠ gb325));have n13_ := Aside0.mk ((by rw [hg];exact Nat.ne_of_lt (blk_lt (g := gb326) (o := .cells #[.int .i64 a2_0, .int .i64 a2_1] 26 (0, 0)) (by (with_reducible repeat (first|refine blk_drewN ?_ _|refine blk_drew ?_|refine blk_alloc ?_ _));exact BK326.out)) : gb326 ≠ gb339));have n14_ := Aside0.mk ((by rw [hg];exact Nat.ne_of_gt (blk_lt (g := gb326) (o := .cells #[.int .i64 a2_0, .int .i64 a2_1] 26 (0, 0)) (by (with_reducible repeat (first|refine blk_drewN ?_ _|refine blk_drew ?_|refine blk_alloc ?_ _));exact BK326.out)) : gb339 ≠ gb326));clear HO330;clear HO338;clear BK324;clear BK325;clear BK326;clear HB;have HO330 := n0_;have HO338 := n1_;have BK324 := n2_;have BK325 := n3_;have BK326 := n4_;have HB := n5_;have BK339 := n6_;have GW339 := n7_;have GE339 := n8_;have NB324_339 := n9_;have NB339_324 := n10_;have NB325_339 := n11_;have NB339_325 := n12_;have NB326_339 := n13_;have NB339_326 := n14_;clear n0_ n1_ n2_ n3_ n4_ n5_ n6_ n7_ n8_ n9_ n10_ n11_ n12_ n13_ n14_;clear hb hbox hg;obtain ⟨Ao67, co67, eo67⟩ := Kd.S_slice HO338.out;subst eo67;have hnb68 := NB339_324.out;have hnc68 := NB324_339.out;have hnb69 := NB339_325.out;have hnc69 := NB325_339.out;have hnb70 := NB339_326.out;have hnc70 := NB326_339.out;have hcz71_0 : w66.cell? ⟨gb339, 0, none⟩ = some (.slice none 0 0) := (blk_cell BK339.out 0).trans rfl;have hfz71_0 := blk_frozen BK339.out 0))
    have n0_ : Aside0 (Kd.S k59 59 (w66.setCell ⟨gb339, 0, none⟩ (.slice Ao67 t336.length co67)) w.heap.size (fun k_ => some k_ ≠ (.slice Ao67 t336.length co67 : Value).ownBlock) (.slice Ao62 t328.length co62) t328) := ⟨by (with_reducible repeat (first|apply Kd.S_alloc|apply Kd.S_drewN|apply Kd.S_drew));exact Kd.S_mono (Kd.S_far (p := ⟨gb339, 0, none⟩) (Kd.S_types HO330.out BK339.out (by decide)) (fun _ hk => hk.2) (.slice Ao67 t336.length co67)) (fun _ hk => hk.1.2)⟩
    have n1_ : Aside0 (Kd.S k59 59 (w66.setCell ⟨gb339, 0, none⟩ (.slice Ao67 t336.length co67)) w.heap.size (fun k_ => some k_ ≠ (.slice Ao62 t328.length co62 : Value).ownBlock) (.slice Ao67 t336.length co67) t336) := ⟨by (with_reducible repeat (first|apply Kd.S_alloc|apply Kd.S_drewN|apply Kd.S_drew));exact Kd.S_mono (Kd.S_far (p := ⟨gb339, 0, none⟩) (Kd.S_types HO338.out BK339.out (by decide)) (fun _ hk => hk.2) (.slice Ao67 t336.length co67)) (fun _ hk => hk.1.2)⟩
    have n2_ : Aside0 ((w66.setCell ⟨gb339, 0, none⟩ (.slice Ao67 t336.length co67)).heap[gb324]? = some (.cells #[.slice A0_0 l0_0.length c0_0] 24 (0, 0))) := ⟨by (with_reducible repeat (first|refine blk_drewN ?_ _|refine blk_drew ?_|refine blk_alloc ?_ _));refine blk_far ?_ NB324_339.out _;(with_reducible repeat (first|refine blk_drewN ?_ _|refine blk_drew ?_|refine blk_alloc ?_ _));exact BK324.out⟩
    have n3_ : Aside0 ((w66.setCell ⟨gb339, 0, none⟩ (.slice Ao67 t336.length co67)).heap[gb325]? = some (.cells #[.int .i64 a1_0, .int .i64 a1_1] 26 (0, 0))) := ⟨by (with_reducible repeat (first|refine blk_drewN ?_ _|refine blk_drew ?_|refine blk_alloc ?_ _));refine blk_far ?_ NB325_339.out _;(with_reducible repeat (first|refine blk_drewN ?_ _|refine blk_drew ?_|refine blk_alloc ?_ _));exact BK325.out⟩
    have n4_ : Aside0 ((w66.setCell ⟨gb339, 0, none⟩ (.slice Ao67 t336.length co67)).heap[gb326]? = some (.cells #[.int .i64 a2_0, .int .i64 a2_1] 26 (0, 0))) := ⟨by (with_reducible repeat (first|refine blk_drewN ?_ _|refine blk_drew ?_|refine blk_alloc ?_ _));refine blk_far ?_ NB326_339.out _;(with_reducible repeat (first|refine blk_drewN ?_ _|refine blk_drew ?_|refine blk_alloc ?_ _));exact BK326.out⟩
    have n5_ : Aside0 ((w66.setCell ⟨gb339, 0, none⟩ (.slice Ao67 t336.length co67)).heap[gb339]? = some (.cells #[.slice Ao67 t336.length co67] 31 (0, 0))) := ⟨by (with_reducible repeat (first|refine blk_drewN ?_ _|refine blk_drew ?_|refine blk_alloc ?_ _));refine blk_put (cs := #[.slice none 0 0]) ?_ 0 _ rfl;(with_reducible repeat (first|refine blk_drewN ?_ _|refine blk_drew ?_|refine blk_alloc ?_ _));exact BK339.out⟩
    have n6_ : Aside0 (Below w.heap.size w (w66.setCell ⟨gb339, 0, none⟩ (.slice Ao67 t336.length co67))) := ⟨by repeat (first|exact HB.out|apply below_alloc|apply pw_below_drewN|apply below_drew1|refine below_set ?_ GE324.out|refine below_set ?_ GE325.out|refine below_set ?_ GE326.out|refine below_set ?_ GE339.out)⟩
    (try clear HO330)
    (try clear HO338)
    (try clear BK324)
    (try clear BK325)
    (try clear BK326)
    (try clear BK339)
    (try clear HB)
    generalize (w66.setCell ⟨gb339, 0, none⟩ (.slice Ao67 t336.length co67)) = w72 at n0_ n1_ n2_ n3_ n4_ n5_ n6_ ⊢
    have HO330 := n0_
    have HO338 := n1_
    have BK324 := n2_
    have BK325 := n3_
    have BK326 := n4_
    have BK339 := n5_
    have HB := n6_
    clear n0_ n1_ n2_ n3_ n4_ n5_ n6_
    have n0_ := Aside0.mk (Kd.S_drew HO330.out)
    have n1_ := Aside0.mk (Kd.S_drew HO338.out)
    have n2_ := Aside0.mk (blk_drew BK324.out)
    have n3_ := Aside0.mk (blk_drew BK325.out)
    have n4_ := Aside0.mk (blk_drew BK326.out)
    have n5_ := Aside0.mk (blk_drew BK339.out)
    have n6_ := Aside0.mk (below_drew1 HB.out)
    clear HO330
    clear HO338
    clear BK324
    clear BK325
    clear BK326
    clear BK339
    clear HB
    have HO330 := n0_
    have HO338 := n1_
    have BK324 := n2_
    have BK325 := n3_
    have BK326 := n4_
    have BK339 := n5_
    have HB := n6_
    clear n0_ n1_ n2_ n3_ n4_ n5_ n6_
    refine start_ (n := 7) (S := fun w' => w'.cell? ⟨gb339, 0, none⟩ = some (.slice Ao67 t336.length co67) ∧ w'.cell? ⟨gb325, 0, none⟩ = some (.int .i64 a1_0) ∧ w'.cell? ⟨gb325, 1, none⟩ = some (.int .i64 a1_1) ∧ w'.cell? ⟨gb326, 0, none⟩ = some (.int .i64 a2_0) ∧ w'.cell? ⟨gb326, 1, none⟩ = some (.int .i64 a2_1)) (ds := []) #[false, false, false, false, false, false, false] (by kernel_rfl) rfl rfl ⟨(blk_cell BK339.out 0).trans rfl, (blk_cell BK325.out 0).trans rfl, (blk_cell BK325.out 1).trans rfl, (blk_cell BK326.out 0).trans rfl, (blk_cell BK326.out 1).trans rfl⟩ (fun hHeld => ?_)
    generalize w72.drew = w73 at HO330 HO338 BK324 BK325 BK326 BK339 HB hHeld ⊢
    refine take_ (i := 0) (N := some 25) (v := ?_) (a' := ?_) #[true, false, false, false, false, false, false] rfl rfl (by kernel_rfl) (fun _ _ _ h => h) (Or.inl ⟨by rfl, ?_⟩) hHeld ?_ ?_
    rotate_left
    ·rintro w' ⟨s0, s1, s2, s3, s4⟩
     go_simp
     with_reducible rfl
    rotate_left
    ·simp only [Act.put, List.setIfInBounds_toArray, List.set_cons_zero, List.set_cons_succ, i64_w, i32_w]
     rfl
    refine take_ (i := 1) (N := some 26) (v := ?_) (a' := ?_) #[true, true, false, false, false, false, false] rfl rfl (by kernel_rfl) (fun _ _ _ h => h) (Or.inl ⟨by rfl, ?_⟩) hHeld ?_ ?_
    rotate_left
    ·rintro w' ⟨s0, s1, s2, s3, s4⟩
     go_simp
     with_reducible rfl
    rotate_left
    ·simp only [Act.put, List.setIfInBounds_toArray, List.set_cons_zero, List.set_cons_succ, i64_w, i32_w]
     rfl
    refine take_ (i := 3) (N := some 28) (v := ?_) (a' := ?_) #[true, true, false, true, false, false, false] rfl rfl (by kernel_rfl) (fun _ _ _ h => h) (Or.inl ⟨by rfl, ?_⟩) hHeld ?_ ?_
    rotate_left
    ·rintro w' ⟨s0, s1, s2, s3, s4⟩
     go_simp
     with_reducible rfl
    rotate_left
    ·simp only [Act.put, List.setIfInBounds_toArray, List.set_cons_zero, List.set_cons_succ, i64_w, i32_w]
     rfl
    refine one_ (i := 2) (N := some 27) #[true, true, true, true, false, false, false] rfl rfl (by kernel_rfl) (by decide) (fun K hK => ?_)
    refine goes_ Try.func8 (by kernel_rfl) rfl #[.agg #[.int .i64 a1_0, .int .i64 a1_1]] (by rfl) rfl rfl (by (try simp only [List.map_toArray, List.map_cons, List.map_nil]);first|done|rfl|(simp only [List.length_drop, List.length_take];rfl)) ?_
    with_reducible refine (laws_toSpot.calls a1_0 a1_1 t340 t341 _ A18.out).mono ?_
    rintro e w74 ⟨rfl, hb⟩
    refine ⟨_, rfl, ?_⟩
    have n0_ := Aside0.mk (Kd.S_below (by (with_reducible repeat (first|apply Kd.S_alloc|apply Kd.S_drewN|apply Kd.S_drew));exact HO330.out) hb)
    have n1_ := Aside0.mk (Kd.S_below (by (with_reducible repeat (first|apply Kd.S_alloc|apply Kd.S_drewN|apply Kd.S_drew));exact HO338.out) hb)
    have n2_ := Aside0.mk (blk_below (g := gb324) (o := .cells #[.slice A0_0 l0_0.length c0_0] 24 (0, 0)) (by (with_reducible repeat (first|refine blk_drewN ?_ _|refine blk_drew ?_|refine blk_alloc ?_ _));exact BK324.out) hb)
    have n3_ := Aside0.mk (blk_below (g := gb325) (o := .cells #[.int .i64 a1_0, .int .i64 a1_1] 26 (0, 0)) (by (with_reducible repeat (first|refine blk_drewN ?_ _|refine blk_drew ?_|refine blk_alloc ?_ _));exact BK325.out) hb)
    have n4_ := Aside0.mk (blk_below (g := gb326) (o := .cells #[.int .i64 a2_0, .int .i64 a2_1] 26 (0, 0)) (by (with_reducible repeat (first|refine blk_drewN ?_ _|refine blk_drew ?_|refine blk_alloc ?_ _));exact BK326.out) hb)
    have n5_ := Aside0.mk (blk_below (g := gb339) (o := .cells #[.slice Ao67 t336.length co67] 31 (0, 0)) (by (with_reducible repeat (first|refine blk_drewN ?_ _|refine blk_drew ?_|refine blk_alloc ?_ _));exact BK339.out) hb)
    have n6_ := Aside0.mk (below_step (by repeat (first|exact HB.out|apply below_alloc|apply pw_below_drewN|apply below_drew1|refine below_set ?_ GE324.out|refine below_set ?_ GE325.out|refine below_set ?_ GE326.out|refine below_set ?_ GE339.out)) hb)
    clear HO330
    clear HO338
    clear BK324
    clear BK325
    clear BK326
    clear BK339
    clear HB
    have HO330 := n0_
    have HO338 := n1_
    have BK324 := n2_
    have BK325 := n3_
    have BK326 := n4_
    have BK339 := n5_
    have HB := n6_
    clear n0_ n1_ n2_ n3_ n4_ n5_ n6_
    (try clear hb)
    (try clear hb2)
    (try clear hk)
    (try clear hi)
    refine hK.out _ _ ⟨(blk_cell BK339.out 0).trans rfl, (blk_cell BK325.out 0).trans rfl, (blk_cell BK325.out 1).trans rfl, (blk_cell BK326.out 0).trans rfl, (blk_cell BK326.out 1).trans rfl⟩ (fun hHeld => ?_)
    clear hK K
    refine norm_ (a' := ?_) ?_ ?_
    rotate_left
    ·show Act.put _ (some 27) _ = _
     simp only [Act.put, List.setIfInBounds_toArray, List.set_cons_zero, List.set_cons_succ, i64_w, i32_w]
     rfl
    refine one_ (i := 4) (N := some 29) #[true, true, true, true, true, false, false] rfl rfl (by kernel_rfl) (by decide) (fun K hK => ?_)
    refine goes_ Try.func8 (by kernel_rfl) rfl #[.agg #[.int .i64 a2_0, .int .i64 a2_1]] (by rfl) rfl rfl (by (try simp only [List.map_toArray, List.map_cons, List.map_nil]);first|done|rfl|(simp only [List.length_drop, List.length_take];rfl)) ?_
    with_reducible refine (laws_toSpot.calls a2_0 a2_1 t342 t343 _ A19.out).mono ?_
    rintro e w75 ⟨rfl, hb⟩
    refine ⟨_, rfl, ?_⟩
    have n0_ := Aside0.mk (Kd.S_below (by (with_reducible repeat (first|apply Kd.S_alloc|apply Kd.S_drewN|apply Kd.S_drew));exact HO330.out) hb)
    have n1_ := Aside0.mk (Kd.S_below (by (with_reducible repeat (first|apply Kd.S_alloc|apply Kd.S_drewN|apply Kd.S_drew));exact HO338.out) hb)
    have n2_ := Aside0.mk (blk_below (g := gb324) (o := .cells #[.slice A0_0 l0_0.length c0_0] 24 (0, 0)) (by (with_reducible repeat (first|refine blk_drewN ?_ _|refine blk_drew ?_|refine blk_alloc ?_ _));exact BK324.out) hb)
    have n3_ := Aside0.mk (blk_below (g := gb325) (o := .cells #[.int .i64 a1_0, .int .i64 a1_1] 26 (0, 0)) (by (with_reducible repeat (first|refine blk_drewN ?_ _|refine blk_drew ?_|refine blk_alloc ?_ _));exact BK325.out) hb)
    have n4_ := Aside0.mk (blk_below (g := gb326) (o := .cells #[.int .i64 a2_0, .int .i64 a2_1] 26 (0, 0)) (by (with_reducible repeat (first|refine blk_drewN ?_ _|refine blk_drew ?_|refine blk_alloc ?_ _));exact BK326.out) hb)
    have n5_ := Aside0.mk (blk_below (g := gb339) (o := .cells #[.slice Ao67 t336.length co67] 31 (0, 0)) (by (with_reducible repeat (first|refine blk_drewN ?_ _|refine blk_drew ?_|refine blk_alloc ?_ _));exact BK339.out) hb)
    have n6_ := Aside0.mk (below_step (by repeat (first|exact HB.out|apply below_alloc|apply pw_below_drewN|apply below_drew1|refine below_set ?_ GE324.out|refine below_set ?_ GE325.out|refine below_set ?_ GE326.out|refine below_set ?_ GE339.out)) hb)
    clear HO330
    clear HO338
    clear BK324
    clear BK325
    clear BK326
    clear BK339
    clear HB
    have HO330 := n0_
    have HO338 := n1_
    have BK324 := n2_
    have BK325 := n3_
    have BK326 := n4_
    have BK339 := n5_
    have HB := n6_
    clear n0_ n1_ n2_ n3_ n4_ n5_ n6_
    (try clear hb)
    (try clear hb2)
    (try clear hk)
    (try clear hi)
    refine hK.out _ _ ⟨(blk_cell BK339.out 0).trans rfl, (blk_cell BK325.out 0).trans rfl, (blk_cell BK325.out 1).trans rfl, (blk_cell BK326.out 0).trans rfl, (blk_cell BK326.out 1).trans rfl⟩ (fun hHeld => ?_)
    clear hK K
    refine norm_ (a' := ?_) ?_ ?_
    rotate_left
    ·show Act.put _ (some 29) _ = _
     simp only [Act.put, List.setIfInBounds_toArray, List.set_cons_zero, List.set_cons_succ, i64_w, i32_w]
     rfl
    refine one_ (i := 5) (N := some 30) #[true, true, true, true, true, true, false] rfl rfl (by kernel_rfl) (by decide) (fun K hK => ?_)
    refine goes_ Try.func9 (by kernel_rfl) rfl #[.agg #[.slice Ao67 t336.length co67], .agg #[.int .i64 t340, .int .i64 t341], .agg #[.int .i64 t342, .int .i64 t343]] (by rfl) rfl rfl (by (try simp only [List.map_toArray, List.map_cons, List.map_nil]);first|done|rfl|(simp only [List.length_drop, List.length_take];rfl)) ?_
    with_reducible refine (impl_SpotLess.calls k _ _ t336 t340 t341 t342 t343 t344 _ ?side1 ?side2 A20.out).mono ?_
    (case side1 => repeat (first|exact (Kd.S_reads' HO338.out).2.2|(with_reducible refine Kd.C_alloc ?_ _)|(with_reducible refine Kd.C_drewN ?_ _)|(with_reducible refine Kd.C_drew ?_)))
    (case side2 => exact (Kd.S_reads' HO338.out).2.1)
    rintro e w76 ⟨rfl, hb⟩
    refine ⟨_, rfl, ?_⟩
    have n0_ := Aside0.mk (Kd.S_below (by (with_reducible repeat (first|apply Kd.S_alloc|apply Kd.S_drewN|apply Kd.S_drew));exact HO330.out) hb)
    have n1_ := Aside0.mk (Kd.S_below (by (with_reducible repeat (first|apply Kd.S_alloc|apply Kd.S_drewN|apply Kd.S_drew));exact HO338.out) hb)
    have n2_ := Aside0.mk (blk_below (g := gb324) (o := .cells #[.slice A0_0 l0_0.length c0_0] 24 (0, 0)) (by (with_reducible repeat (first|refine blk_drewN ?_ _|refine blk_drew ?_|refine blk_alloc ?_ _));exact BK324.out) hb)
    have n3_ := Aside0.mk (blk_below (g := gb325) (o := .cells #[.int .i64 a1_0, .int .i64 a1_1] 26 (0, 0)) (by (with_reducible repeat (first|refine blk_drewN ?_ _|refine blk_drew ?_|refine blk_alloc ?_ _));exact BK325.out) hb)
    have n4_ := Aside0.mk (blk_below (g := gb326) (o := .cells #[.int .i64 a2_0, .int .i64 a2_1] 26 (0, 0)) (by (with_reducible repeat (first|refine blk_drewN ?_ _|refine blk_drew ?_|refine blk_alloc ?_ _));exact BK326.out) hb)
    have n5_ := Aside0.mk (blk_below (g := gb339) (o := .cells #[.slice Ao67 t336.length co67] 31 (0, 0)) (by (with_reducible repeat (first|refine blk_drewN ?_ _|refine blk_drew ?_|refine blk_alloc ?_ _));exact BK339.out) hb)
    have n6_ := Aside0.mk (below_step (by repeat (first|exact HB.out|apply below_alloc|apply pw_below_drewN|apply below_drew1|refine below_set ?_ GE324.out|refine below_set ?_ GE325.out|refine below_set ?_ GE326.out|refine below_set ?_ GE339.out)) hb)
    clear HO330
    clear HO338
    clear BK324
    clear BK325
    clear BK326
    clear BK339
    clear HB
    have HO330 := n0_
    have HO338 := n1_
    have BK324 := n2_
    have BK325 := n3_
    have BK326 := n4_
    have BK339 := n5_
    have HB := n6_
    clear n0_ n1_ n2_ n3_ n4_ n5_ n6_
    (try clear hb)
    (try clear hb2)
    (try clear hk)
    (try clear hi)
    refine hK.out _ _ ⟨(blk_cell BK339.out 0).trans rfl, (blk_cell BK325.out 0).trans rfl, (blk_cell BK325.out 1).trans rfl, (blk_cell BK326.out 0).trans rfl, (blk_cell BK326.out 1).trans rfl⟩ (fun hHeld => ?_)
    clear hK K
    refine norm_ (a' := ?_) ?_ ?_
    rotate_left
    ·show Act.put _ (some 30) _ = _
     simp only [Act.put, List.setIfInBounds_toArray, List.set_cons_zero, List.set_cons_succ, i64_w, i32_w]
     rfl
    refine pure_ (i := 6) (N := some 10) (v := ?_) (a' := ?_) #[true, true, true, true, true, true, true] rfl rfl (by kernel_rfl) (fun _ _ _ h => h) (Or.inl ⟨by rfl, ?_⟩) ?_ ?_
    rotate_left
    ·intro w'
     go_simp
     with_reducible rfl
    rotate_left
    ·simp only [Act.put, List.setIfInBounds_toArray, List.set_cons_zero, List.set_cons_succ, i64_w, i32_w]
     rfl
    refine done_ (by kernel_rfl) ?_
    try go_wp2
    have n0_ := Aside0.mk (Kd.S_drew HO330.out)
    have n1_ := Aside0.mk (Kd.S_drew HO338.out)
    have n2_ := Aside0.mk (blk_drew BK324.out)
    have n3_ := Aside0.mk (blk_drew BK325.out)
    have n4_ := Aside0.mk (blk_drew BK326.out)
    have n5_ := Aside0.mk (blk_drew BK339.out)
    have n6_ := Aside0.mk (below_drew1 HB.out)
    clear HO330
    clear HO338
    clear BK324
    clear BK325
    clear BK326
    clear BK339
    clear HB
    have HO330 := n0_
    have HO338 := n1_
    have BK324 := n2_
    have BK325 := n3_
    have BK326 := n4_
    have BK339 := n5_
    have HB := n6_
    clear n0_ n1_ n2_ n3_ n4_ n5_ n6_
    refine start_ (n := 5) (S := fun w' => w'.cell? ⟨gb339, 0, none⟩ = some (.slice Ao67 t336.length co67) ∧ w'.cell? ⟨gb324, 0, none⟩ = some (.slice A0_0 l0_0.length c0_0)) (ds := []) #[false, false, false, false, false] (by kernel_rfl) rfl rfl ⟨(blk_cell BK339.out 0).trans rfl, (blk_cell BK324.out 0).trans rfl⟩ (fun hHeld => ?_)
    generalize w76.drew = w77 at HO330 HO338 BK324 BK325 BK326 BK339 HB hHeld ⊢
    refine take_ (i := 0) (N := some 34) (v := ?_) (a' := ?_) #[true, false, false, false, false] rfl rfl (by kernel_rfl) (fun _ _ _ h => h) (Or.inl ⟨by rfl, ?_⟩) hHeld ?_ ?_
    rotate_left
    ·rintro w' ⟨s0, s1⟩
     go_simp
     with_reducible rfl
    rotate_left
    ·simp only [Act.put, List.setIfInBounds_toArray, List.set_cons_zero, List.set_cons_succ, i64_w, i32_w]
     rfl
    refine take_ (i := 1) (N := some 35) (v := ?_) (a' := ?_) #[true, true, false, false, false] rfl rfl (by kernel_rfl) (fun _ _ _ h => h) (Or.inl ⟨by rfl, ?_⟩) hHeld ?_ ?_
    rotate_left
    ·rintro w' ⟨s0, s1⟩
     go_simp
     with_reducible rfl
    rotate_left
    ·simp only [Act.put, List.setIfInBounds_toArray, List.set_cons_zero, List.set_cons_succ, i64_w, i32_w]
     rfl
    refine one_ (i := 2) (N := some 36) #[true, true, true, false, false] rfl rfl (by kernel_rfl) (by decide) (fun K hK => ?_)
    refine goes_ Try.func7 (by kernel_rfl) rfl #[.agg #[.slice A0_0 l0_0.length c0_0]] (by rfl) rfl rfl (by (try simp only [List.map_toArray, List.map_cons, List.map_nil]);first|done|rfl|(simp only [List.length_drop, List.length_take];rfl)) ?_
    with_reducible refine (laws_toTree.calls k _ _ l0_0 t345 _ ?side1 ?side2 A48.out).mono ?_
    (case side1 => repeat (first|exact (Kd.C_below HR0_0.out HB.out)|(with_reducible refine Kd.C_alloc ?_ _)|(with_reducible refine Kd.C_drewN ?_ _)|(with_reducible refine Kd.C_drew ?_)))
    (case side2 => exact HC0_0.out)
    rintro e w78 ⟨v346, rfl, ho0, hb⟩
    refine ⟨_, rfl, ?_⟩
    have n0_ := Aside0.mk (Kd.S_elder' (by (with_reducible repeat (first|apply Kd.S_alloc|apply Kd.S_drewN|apply Kd.S_drew));exact HO330.out) (Kd.S_base ho0) hb)
    have n1_ := Aside0.mk (Kd.S_elder' (by (with_reducible repeat (first|apply Kd.S_alloc|apply Kd.S_drewN|apply Kd.S_drew));exact HO338.out) (Kd.S_base ho0) hb)
    have n2_ := Aside0.mk (Kd.S_lower (Kd.S_new' (Kd.S_new' ho0 (Kd.S_lt (by (with_reducible repeat (first|apply Kd.S_alloc|apply Kd.S_drewN|apply Kd.S_drew));exact HO330.out))) (Kd.S_lt (by (with_reducible repeat (first|apply Kd.S_alloc|apply Kd.S_drewN|apply Kd.S_drew));exact HO338.out))) (below_size (by repeat (first|exact HB.out|apply below_alloc|apply pw_below_drewN|apply below_drew1|refine below_set ?_ GE324.out|refine below_set ?_ GE325.out|refine below_set ?_ GE326.out|refine below_set ?_ GE339.out))))
    have n3_ := Aside0.mk (blk_below (g := gb324) (o := .cells #[.slice A0_0 l0_0.length c0_0] 24 (0, 0)) (by (with_reducible repeat (first|refine blk_drewN ?_ _|refine blk_drew ?_|refine blk_alloc ?_ _));exact BK324.out) hb)
    have n4_ := Aside0.mk (blk_below (g := gb325) (o := .cells #[.int .i64 a1_0, .int .i64 a1_1] 26 (0, 0)) (by (with_reducible repeat (first|refine blk_drewN ?_ _|refine blk_drew ?_|refine blk_alloc ?_ _));exact BK325.out) hb)
    have n5_ := Aside0.mk (blk_below (g := gb326) (o := .cells #[.int .i64 a2_0, .int .i64 a2_1] 26 (0, 0)) (by (with_reducible repeat (first|refine blk_drewN ?_ _|refine blk_drew ?_|refine blk_alloc ?_ _));exact BK326.out) hb)
    have n6_ := Aside0.mk (blk_below (g := gb339) (o := .cells #[.slice Ao67 t336.length co67] 31 (0, 0)) (by (with_reducible repeat (first|refine blk_drewN ?_ _|refine blk_drew ?_|refine blk_alloc ?_ _));exact BK339.out) hb)
    have n7_ := Aside0.mk (below_step (by repeat (first|exact HB.out|apply below_alloc|apply pw_below_drewN|apply below_drew1|refine below_set ?_ GE324.out|refine below_set ?_ GE325.out|refine below_set ?_ GE326.out|refine below_set ?_ GE339.out)) hb)
    clear HO330
    clear HO338
    clear BK324
    clear BK325
    clear BK326
    clear BK339
    clear HB
    have HO330 := n0_
    have HO338 := n1_
    have HO347 := n2_
    have BK324 := n3_
    have BK325 := n4_
    have BK326 := n5_
    have BK339 := n6_
    have HB := n7_
    clear n0_ n1_ n2_ n3_ n4_ n5_ n6_ n7_
    (try clear hb)
    (try clear hb2)
    (try clear hk)
    (try clear hi)
    (try clear ho0)
    obtain ⟨Ao79, co79, eo79⟩ := Kd.S_slice HO347.out
    (first|subst eo79|(injection eo79 with f1_ f2_ f3_;have f4_ := f1_.symm;have f5_ := f3_.symm;clear f1_ f2_ f3_;subst f4_;subst f5_))
    refine hK.out _ _ ⟨(blk_cell BK339.out 0).trans rfl, (blk_cell BK324.out 0).trans rfl⟩ (fun hHeld => ?_)
    clear hK K
    refine norm_ (a' := ?_) ?_ ?_
    rotate_left
    ·show Act.put _ (some 36) _ = _
     simp only [Act.put, List.setIfInBounds_toArray, List.set_cons_zero, List.set_cons_succ, i64_w, i32_w]
     rfl
    refine one_ (i := 3) (N := some 37) #[true, true, true, true, false] rfl rfl (by kernel_rfl) (by decide) (fun K hK => ?_)
    refine goes_ Try.func10 (by kernel_rfl) rfl #[.agg #[.slice Ao67 t336.length co67], .agg #[.slice Ao79 t345.length co79]] (by rfl) rfl rfl (by (try simp only [List.map_toArray, List.map_cons, List.map_nil]);first|done|rfl|(simp only [List.length_drop, List.length_take];rfl)) ?_
    with_reducible refine (laws_eqTree.calls k _ _ t336 _ _ t345 true _ ?side1 ?side2 ?side3 ?side4 A49.out).mono ?_
    (case side1 => repeat (first|exact (Kd.S_reads' HO338.out).2.2|(with_reducible refine Kd.C_alloc ?_ _)|(with_reducible refine Kd.C_drewN ?_ _)|(with_reducible refine Kd.C_drew ?_)))
    (case side2 => exact (Kd.S_reads' HO338.out).2.1)
    (case side3 => repeat (first|exact (Kd.S_reads' HO347.out).2.2|(with_reducible refine Kd.C_alloc ?_ _)|(with_reducible refine Kd.C_drewN ?_ _)|(with_reducible refine Kd.C_drew ?_)))
    (case side4 => exact (Kd.S_reads' HO347.out).2.1)
    rintro e w80 ⟨rfl, hb⟩
    refine ⟨_, rfl, ?_⟩
    have n0_ := Aside0.mk (Kd.S_below (by (with_reducible repeat (first|apply Kd.S_alloc|apply Kd.S_drewN|apply Kd.S_drew));exact HO330.out) hb)
    have n1_ := Aside0.mk (Kd.S_below (by (with_reducible repeat (first|apply Kd.S_alloc|apply Kd.S_drewN|apply Kd.S_drew));exact HO338.out) hb)
    have n2_ := Aside0.mk (Kd.S_below (by (with_reducible repeat (first|apply Kd.S_alloc|apply Kd.S_drewN|apply Kd.S_drew));exact HO347.out) hb)
    have n3_ := Aside0.mk (blk_below (g := gb324) (o := .cells #[.slice A0_0 l0_0.length c0_0] 24 (0, 0)) (by (with_reducible repeat (first|refine blk_drewN ?_ _|refine blk_drew ?_|refine blk_alloc ?_ _));exact BK324.out) hb)
    have n4_ := Aside0.mk (blk_below (g := gb325) (o := .cells #[.int .i64 a1_0, .int .i64 a1_1] 26 (0, 0)) (by (with_reducible repeat (first|refine blk_drewN ?_ _|refine blk_drew ?_|refine blk_alloc ?_ _));exact BK325.out) hb)
    have n5_ := Aside0.mk (blk_below (g := gb326) (o := .cells #[.int .i64 a2_0, .int .i64 a2_1] 26 (0, 0)) (by (with_reducible repeat (first|refine blk_drewN ?_ _|refine blk_drew ?_|refine blk_alloc ?_ _));exact BK326.out) hb)
    have n6_ := Aside0.mk (blk_below (g := gb339) (o := .cells #[.slice Ao67 t336.length co67] 31 (0, 0)) (by (with_reducible repeat (first|refine blk_drewN ?_ _|refine blk_drew ?_|refine blk_alloc ?_ _));exact BK339.out) hb)
    have n7_ := Aside0.mk (below_step (by repeat (first|exact HB.out|apply below_alloc|apply pw_below_drewN|apply below_drew1|refine below_set ?_ GE324.out|refine below_set ?_ GE325.out|refine below_set ?_ GE326.out|refine below_set ?_ GE339.out)) hb)
    clear HO330
    clear HO338
    clear HO347
    clear BK324
    clear BK325
    clear BK326
    clear BK339
    clear HB
    have HO330 := n0_
    have HO338 := n1_
    have HO347 := n2_
    have BK324 := n3_
    have BK325 := n4_
    have BK326 := n5_
    have BK339 := n6_
    have HB := n7_
    clear n0_ n1_ n2_ n3_ n4_ n5_ n6_ n7_
    (try clear hb)
    (try clear hb2)
    (try clear hk)
    (try clear hi)
    refine hK.out _ _ ⟨(blk_cell BK339.out 0).trans rfl, (blk_cell BK324.out 0).trans rfl⟩ (fun hHeld => ?_)
    clear hK K
    refine norm_ (a' := ?_) ?_ ?_
    rotate_left
    ·show Act.put _ (some 37) _ = _
     simp only [Act.put, List.setIfInBounds_toArray, List.set_cons_zero, List.set_cons_succ, i64_w, i32_w]
     rfl
    refine pure_ (i := 4) (N := some 38) (v := ?_) (a' := ?_) #[true, true, true, true, true] rfl rfl (by kernel_rfl) (fun _ _ _ h => h) (Or.inl ⟨by rfl, ?_⟩) ?_ ?_
    rotate_left
    ·intro w'
     go_simp
     with_reducible rfl
    rotate_left
    ·simp only [Act.put, List.setIfInBounds_toArray, List.set_cons_zero, List.set_cons_succ, i64_w, i32_w]
     rfl
    refine done_ (by kernel_rfl) ?_
    try go_wp2
    go_ret
    exact ⟨by first|rfl|(simp [errW_none, errW_some] <;> rfl)|(simp [*, errW_none, errW_some] <;> rfl), by repeat (first|exact HB.out|apply below_alloc|apply pw_below_drewN|apply below_drew1|refine below_set ?_ GE324.out|refine below_set ?_ GE325.out|refine below_set ?_ GE326.out|refine below_set ?_ GE339.out)⟩
   ·replace c50 := Bool.eq_false_iff.mpr c50
    subst c50
    exact absurd H (by simp)

end Go.Proofs.Ytbogfagafdokeaa.QFnExactSpotLess
