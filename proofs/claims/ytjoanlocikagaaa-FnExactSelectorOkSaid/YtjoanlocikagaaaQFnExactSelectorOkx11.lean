/- Written by a program (wip/tools/own_print.py) out of the walk that the kit's printer made; turned where it fell. -/
import Derived.Test.YtjoanlocikagaaaQFnExactSelectorOkx0
import Derived.Test.YtjoanlocikagaaaQFnExactSelectorOkx9
import Derived.Test.YtjoanlocikagaaaQFnExactSelectorOkx10
namespace Go.Proofs.Ytjoanlocikagaaa.QFnExactSelectorOk
open Go.RowKit Go.Proofs.YtjoanlocikagaaaW.PrintWords Go.Proofs.YtjoanlocikagaaaW.PrintLast Go.Proofs.YtjoanlocikagaaaW.PrintMore
attribute [local go_sem] max2_int min2_int max_two min_two max_three min_three max_four min_four   -- for this text's walks alone
set_option linter.unusedVariables false
set_option linter.unusedSimpArgs false

/-! ### laws_eqSimple: function 161 -/
def laws_eqSimple.f (k : Nat) (a0_0 : Int) (a0_1 : ByteArray) (a0_2 : ByteArray) (a0_3 : Int) (a0_4 : Int) (l0_5 : List (S228)) (a1_0 : Int) (a1_1 : ByteArray) (a1_2 : ByteArray) (a1_3 : Int) (a1_4 : Int) (l1_5 : List (S228)) : Option (Bool) := (laws_eqBasic.f a0_0 a0_1 a0_2 a0_3 a0_4 a1_0 a1_1 a1_2 a1_3 a1_4).bind fun t231 => (if t231 = true then ((laws_eqAltS.f k l0_5 l1_5).bind fun t232 => (if t232 = true then (some true) else (none))) else (none))
theorem laws_eqSimple.mono : ∀ a0 a1 a2 a3 a4 a5 a6 a7 a8 a9 a10 a11 k, LeO (laws_eqSimple.f k a0 a1 a2 a3 a4 a5 a6 a7 a8 a9 a10 a11) (laws_eqSimple.f (k + 1) a0 a1 a2 a3 a4 a5 a6 a7 a8 a9 a10 a11) := by
 intro a0 a1 a2 a3 a4 a5 a6 a7 a8 a9 a10 a11 k
 unfold laws_eqSimple.f
 repeat' first
  |(with_reducible exact laws_eqAltS.mono _ _ _)
  |(with_reducible exact LeO.refl _)
  |(with_reducible exact LeO.none _)
  |(with_reducible refine LeO.ite ?_ ?_)
  |(with_reducible refine LeO.bind ?_ (fun _ => ?_))
  |exact laws_eqAltS.mono _ _ _
  |exact LeO.none _
  |refine LeO.ite ?_ ?_
  |refine LeO.bind ?_ (fun _ => ?_)
set_option maxHeartbeats 8000000 in
set_option maxRecDepth 100000 in
theorem laws_eqSimple.calls (k : Nat) (a0_0 : Int) (a0_1 : ByteArray) (a0_2 : ByteArray) (a0_3 : Int) (a0_4 : Int) (A0_5 : Option Addr) (c0_5 : Nat) (l0_5 : List (S228)) (a1_0 : Int) (a1_1 : ByteArray) (a1_2 : ByteArray) (a1_3 : Int) (a1_4 : Int) (A1_5 : Option Addr) (c1_5 : Nat) (l1_5 : List (S228)) (r : Bool) (w : World) (hr0_5 : Kd.C k228 w A0_5 l0_5.length l0_5) (hc0_5 : l0_5.length ≤ c0_5) (hr1_5 : Kd.C k228 w A1_5 l1_5.length l1_5) (hc1_5 : l1_5.length ≤ c1_5) (h : laws_eqSimple.f k a0_0 a0_1 a0_2 a0_3 a0_4 l0_5 a1_0 a1_1 a1_2 a1_3 a1_4 l1_5 = some r) :
  Calls Try.prog 161 #[.agg #[.int .i64 a0_0, .string a0_1, .string a0_2, .int .i64 a0_3, .int .i64 a0_4, .slice A0_5 l0_5.length c0_5], .agg #[.int .i64 a1_0, .string a1_1, .string a1_2, .int .i64 a1_3, .int .i64 a1_4, .slice A1_5 l1_5.length c1_5]] w fun e w' => e = .returned (.bool r) ∧ Below w.heap.size w w' := by
 have hu164 := Try.underlying164
 have hu161 := Try.underlying161
 have HR0_5 := Aside0.mk hr0_5
 have HC0_5 := Aside0.mk hc0_5
 clear hr0_5 hc0_5
 have HR1_5 := Aside0.mk hr1_5
 have HC1_5 := Aside0.mk hc1_5
 clear hr1_5 hc1_5
 have HB := Aside0.mk (Below.refl w.heap.size w)
 have H : ((laws_eqBasic.f a0_0 a0_1 a0_2 a0_3 a0_4 a1_0 a1_1 a1_2 a1_3 a1_4).bind fun t231 => (if t231 = true then ((laws_eqAltS.f k l0_5 l1_5).bind fun t232 => (if t232 = true then (some true) else (none))) else (none))) = some r := h
 clear h
 replace H := Option.bind_eq_some_iff.mp H
 obtain ⟨t231, A30, H⟩ := H
 replace H : (if t231 = true then ((laws_eqAltS.f k l0_5 l1_5).bind fun t232 => (if t232 = true then (some true) else (none))) else (none)) = some r := H
 have A3 := Aside0.mk A30
 clear A30
 by_cases c4 : t231 = true
 ·subst c4
  have H1 : ((laws_eqAltS.f k l0_5 l1_5).bind fun t232 => (if t232 = true then (some true) else (none))) = some r := by rw [if_pos rfl] at H;exact H
  clear H
  have H := H1
  clear H1
  replace H := Option.bind_eq_some_iff.mp H
  obtain ⟨t232, A50, H⟩ := H
  replace H : (if t232 = true then (some true) else (none)) = some r := H
  have A5 := Aside0.mk A50
  clear A50
  by_cases c6 : t232 = true
  ·subst c6
   have H1 : (some true) = some r := by rw [if_pos rfl] at H;exact H
   clear H
   have H := H1
   clear H1
   obtain rfl := Option.some.inj H
   go_enter Try.func161, Try.ntmps161
   go_wp2_with (first|((with_reducible refine gate_dst (N := 2) rfl ?_);refine box_event ?hg (N := 2) ?hd (cs := #[.int .i64 a0_0, .string a0_1, .string a0_2, .int .i64 a0_3, .int .i64 a0_4, .slice A0_5 l0_5.length c0_5]) (t := 164) ?hr ?_;(case hd => rfl);(case hg => rfl);(case hr => first|(go_simp;done)|(go_simp;rfl));intro gb229 hg w7 hbox hb;have n0_ := Aside0.mk (below_step (by repeat (first|(with_reducible first|exact HB.out|apply below_alloc|apply pw_below_drewN|apply below_drew1)|exact HB.out)) hb);have n1_ := Aside0.mk (hbox);have n2_ := Aside0.mk ((by rw [hg];exact (below_size (by repeat (first|(with_reducible first|exact HB.out|apply below_alloc|apply pw_below_drewN|apply below_drew1)|exact HB.out))) : w.heap.size ≤ gb229));have n3_ := Aside0.mk ((by rw [hg];exact (below_size (by repeat (first|(with_reducible first|exact HB.out|apply below_alloc|apply pw_below_drewN|apply below_drew1)|exact HB.out))) : w.heap.size ≤ gb229));clear HB;have HB := n0_;have BK229 := n1_;have GW229 := n2_;have GE229 := n3_;clear n0_ n1_ n2_ n3_;clear hb hbox hg)|((with_reducible refine gate_dst (N := 3) rfl ?_);refine box_event ?hg (N := 3) ?hd (cs := #[.int .i64 a1_0, .string a1_1, .string a1_2, .int .i64 a1_3, .int .i64 a1_4, .slice A1_5 l1_5.length c1_5]) (t := 164) ?hr ?_;(case hd => rfl);(case hg => rfl);(case hr => first|(go_simp;done)|(go_simp;rfl));intro gb230 hg w8 hbox hb;have n0_ := Aside0.mk (blk_below (g := gb229) (o := .cells #[.int .i64 a0_0, .string a0_1, .string a0_2, .int .i64 a0_3, .int .i64 a0_4, .slice A0_5 l0_5.length c0_5] 164 (0, 0)) (by (with_reducible repeat (first|refine blk_drewN ?_ _|refine blk_drew ?_|refine blk_alloc ?_ _));exact BK229.out) hb);have n1_ := Aside0.mk (below_step (by repeat (first|(with_reducible first|exact HB.out|apply below_alloc|apply pw_below_drewN|apply below_drew1|refine below_set ?_ GE229.out)|exact HB.out)) hb);have n2_ := Aside0.mk (hbox);have n3_ := Aside0.mk ((by rw [hg];exact (below_size (by repeat (first|(with_reducible first|exact HB.out|apply below_alloc|apply pw_below_drewN|apply below_drew1|refine below_set ?_ GE229.out)|exact HB.out))) : w.heap.size ≤ gb230));have n4_ := Aside0.mk ((by rw [hg];exact (below_size (by repeat (first|(with_reducible first|exact HB.out|apply below_alloc|apply pw_below_drewN|apply below_drew1|refine below_set ?_ GE229.out)|exact HB.out))) : w.heap.size ≤ gb230));have n5_ := Aside0.mk ((by rw [hg];exact Nat.ne_of_lt (blk_lt (g := gb229) (o := .cells #[.int .i64 a0_0, .string a0_1, .string a0_2, .int .i64 a0_3, .int .i64 a0_4, .slice A0_5 l0_5.length c0_5] 164 (0, 0)) (by (with_reducible repeat (first|refine blk_drewN ?_ _|refine blk_drew ?_|refine blk_alloc ?_ _));exact BK229.out)) : gb229 ≠ gb230));have n6_ := Aside0.mk ((by rw [hg];exact Nat.ne_of_gt (blk_lt (g := gb229) (o := .cells #[.int .i64 a0_0, .string a0_1, .string a0_2, .int .i64 a0_3, .int .i64 a0_4, .slice A0_5 l0_5.length c0_5] 164 (0, 0)) (by (with_reducible repeat (first|refine blk_drewN ?_ _|refine blk_drew ?_|refine blk_alloc ?_ _));exact BK229.out)) : gb230 ≠ gb229));clear BK229;clear HB;have BK229 := n0_;have HB := n1_;have BK230 := n2_;have GW230 := n3_;have GE230 := n4_;have NB229_230 := n5_;have NB230_229 := n6_;clear n0_ n1_ n2_ n3_ n4_ n5_ n6_;clear hb hbox hg;have hnb9 := NB229_230.out;have hnc9 := NB230_229.out;have hcz10_0 : w8.cell? ⟨gb229, 0, none⟩ = some (.int .i64 a0_0) := (blk_cell BK229.out 0).trans rfl;have hcz10_1 : w8.cell? ⟨gb229, 1, none⟩ = some (.string a0_1) := (blk_cell BK229.out 1).trans rfl;have hcz10_2 : w8.cell? ⟨gb229, 2, none⟩ = some (.string a0_2) := (blk_cell BK229.out 2).trans rfl;have hcz10_3 : w8.cell? ⟨gb229, 3, none⟩ = some (.int .i64 a0_3) := (blk_cell BK229.out 3).trans rfl;have hcz10_4 : w8.cell? ⟨gb229, 4, none⟩ = some (.int .i64 a0_4) := (blk_cell BK229.out 4).trans rfl;have hcz10_5 : w8.cell? ⟨gb229, 5, none⟩ = some (.slice A0_5 l0_5.length c0_5) := (blk_cell BK229.out 5).trans rfl;have hfz10_0 := blk_frozen BK229.out 0;have hfz10_1 := blk_frozen BK229.out 1;have hfz10_2 := blk_frozen BK229.out 2;have hfz10_3 := blk_frozen BK229.out 3;have hfz10_4 := blk_frozen BK229.out 4;have hfz10_5 := blk_frozen BK229.out 5;have hcz11_0 : w8.cell? ⟨gb230, 0, none⟩ = some (.int .i64 a1_0) := (blk_cell BK230.out 0).trans rfl;have hcz11_1 : w8.cell? ⟨gb230, 1, none⟩ = some (.string a1_1) := (blk_cell BK230.out 1).trans rfl;have hcz11_2 : w8.cell? ⟨gb230, 2, none⟩ = some (.string a1_2) := (blk_cell BK230.out 2).trans rfl;have hcz11_3 : w8.cell? ⟨gb230, 3, none⟩ = some (.int .i64 a1_3) := (blk_cell BK230.out 3).trans rfl;have hcz11_4 : w8.cell? ⟨gb230, 4, none⟩ = some (.int .i64 a1_4) := (blk_cell BK230.out 4).trans rfl;have hcz11_5 : w8.cell? ⟨gb230, 5, none⟩ = some (.slice A1_5 l1_5.length c1_5) := (blk_cell BK230.out 5).trans rfl;have hfz11_0 := blk_frozen BK230.out 0;have hfz11_1 := blk_frozen BK230.out 1;have hfz11_2 := blk_frozen BK230.out 2;have hfz11_3 := blk_frozen BK230.out 3;have hfz11_4 := blk_frozen BK230.out 4;have hfz11_5 := blk_frozen BK230.out 5)|((with_reducible refine gate_callee (f := 172) rfl ?_);refine goesL_ (some 9) rfl rfl Try.func172 (by kernel_rfl) rfl #[.agg #[.int .i64 a0_0, .string a0_1, .string a0_2, .int .i64 a0_3, .int .i64 a0_4], .agg #[.int .i64 a1_0, .string a1_1, .string a1_2, .int .i64 a1_3, .int .i64 a1_4]] rfl (by (try simp only [List.map_toArray, List.map_cons, List.map_nil]);first|done|rfl|(simp only [List.length_drop, List.length_take];rfl)) ?_;(with_reducible refine (laws_eqBasic.calls a0_0 a0_1 a0_2 a0_3 a0_4 a1_0 a1_1 a1_2 a1_3 a1_4 true _ A3.out).mono ?_);rintro e w12 ⟨rfl, hb⟩;refine ⟨_, rfl, ?_⟩;have n0_ := Aside0.mk (blk_below (g := gb229) (o := .cells #[.int .i64 a0_0, .string a0_1, .string a0_2, .int .i64 a0_3, .int .i64 a0_4, .slice A0_5 l0_5.length c0_5] 164 (0, 0)) (by (with_reducible repeat (first|refine blk_drewN ?_ _|refine blk_drew ?_|refine blk_alloc ?_ _));exact BK229.out) hb);have n1_ := Aside0.mk (blk_below (g := gb230) (o := .cells #[.int .i64 a1_0, .string a1_1, .string a1_2, .int .i64 a1_3, .int .i64 a1_4, .slice A1_5 l1_5.length c1_5] 164 (0, 0)) (by (with_reducible repeat (first|refine blk_drewN ?_ _|refine blk_drew ?_|refine blk_alloc ?_ _));exact BK230.out) hb);have n2_ := Aside0.mk (below_step (by repeat (first|(with_reducible first|exact HB.out|apply below_alloc|apply pw_below_drewN|apply below_drew1|refine below_set ?_ GE229.out|refine below_set ?_ GE230.out)|exact HB.out)) hb);clear BK229;clear BK230;clear HB;have BK229 := n0_;have BK230 := n1_;have HB := n2_;clear n0_ n1_ n2_;(try clear hb);(try clear hb2);(try clear hk);(try clear hi);have hcz13_0 : w12.cell? ⟨gb229, 0, none⟩ = some (.int .i64 a0_0) := (blk_cell BK229.out 0).trans rfl;have hcz13_1 : w12.cell? ⟨gb229, 1, none⟩ = some (.string a0_1) := (blk_cell BK229.out 1).trans rfl;have hcz13_2 : w12.cell? ⟨gb229, 2, none⟩ = some (.string a0_2) := (blk_cell BK229.out 2).trans rfl;have hcz13_3 : w12.cell? ⟨gb229, 3, none⟩ = some (.int .i64 a0_3) := (blk_cell BK229.out 3).trans rfl;have hcz13_4 : w12.cell? ⟨gb229, 4, none⟩ = some (.int .i64 a0_4) := (blk_cell BK229.out 4).trans rfl;have hcz13_5 : w12.cell? ⟨gb229, 5, none⟩ = some (.slice A0_5 l0_5.length c0_5) := (blk_cell BK229.out 5).trans rfl;have hfz13_0 := blk_frozen BK229.out 0;have hfz13_1 := blk_frozen BK229.out 1;have hfz13_2 := blk_frozen BK229.out 2;have hfz13_3 := blk_frozen BK229.out 3;have hfz13_4 := blk_frozen BK229.out 4;have hfz13_5 := blk_frozen BK229.out 5;have hcz14_0 : w12.cell? ⟨gb230, 0, none⟩ = some (.int .i64 a1_0) := (blk_cell BK230.out 0).trans rfl;have hcz14_1 : w12.cell? ⟨gb230, 1, none⟩ = some (.string a1_1) := (blk_cell BK230.out 1).trans rfl;have hcz14_2 : w12.cell? ⟨gb230, 2, none⟩ = some (.string a1_2) := (blk_cell BK230.out 2).trans rfl;have hcz14_3 : w12.cell? ⟨gb230, 3, none⟩ = some (.int .i64 a1_3) := (blk_cell BK230.out 3).trans rfl;have hcz14_4 : w12.cell? ⟨gb230, 4, none⟩ = some (.int .i64 a1_4) := (blk_cell BK230.out 4).trans rfl;have hcz14_5 : w12.cell? ⟨gb230, 5, none⟩ = some (.slice A1_5 l1_5.length c1_5) := (blk_cell BK230.out 5).trans rfl;have hfz14_0 := blk_frozen BK230.out 0;have hfz14_1 := blk_frozen BK230.out 1;have hfz14_2 := blk_frozen BK230.out 2;have hfz14_3 := blk_frozen BK230.out 3;have hfz14_4 := blk_frozen BK230.out 4;have hfz14_5 := blk_frozen BK230.out 5)|((with_reducible refine gate_callee (f := 173) rfl ?_);refine goesL_ (some 15) rfl rfl Try.func173 (by kernel_rfl) rfl #[.slice A0_5 l0_5.length c0_5, .slice A1_5 l1_5.length c1_5] rfl (by (try simp only [List.map_toArray, List.map_cons, List.map_nil]);first|done|rfl|(simp only [List.length_drop, List.length_take];rfl)) ?_;(with_reducible refine (laws_eqAltS.calls k _ _ l0_5 _ _ l1_5 true _ ?side1 ?side2 ?side3 ?side4 A5.out).mono ?_);(case side1 => repeat (first|exact (Kd.C_below HR0_5.out HB.out)|(with_reducible refine Kd.C_alloc ?_ _)|(with_reducible refine Kd.C_drewN ?_ _)|(with_reducible refine Kd.C_drew ?_)));(case side2 => exact HC0_5.out);(case side3 => repeat (first|exact (Kd.C_below HR1_5.out HB.out)|(with_reducible refine Kd.C_alloc ?_ _)|(with_reducible refine Kd.C_drewN ?_ _)|(with_reducible refine Kd.C_drew ?_)));(case side4 => exact HC1_5.out);rintro e w15 ⟨rfl, hb⟩;refine ⟨_, rfl, ?_⟩;have n0_ := Aside0.mk (blk_below (g := gb229) (o := .cells #[.int .i64 a0_0, .string a0_1, .string a0_2, .int .i64 a0_3, .int .i64 a0_4, .slice A0_5 l0_5.length c0_5] 164 (0, 0)) (by (with_reducible repeat (first|refine blk_drewN ?_ _|refine blk_drew ?_|refine blk_alloc ?_ _));exact BK229.out) hb);have n1_ := Aside0.mk (blk_below (g := gb230) (o := .cells #[.int .i64 a1_0, .string a1_1, .string a1_2, .int .i64 a1_3, .int .i64 a1_4, .slice A1_5 l1_5.length c1_5] 164 (0, 0)) (by (with_reducible repeat (first|refine blk_drewN ?_ _|refine blk_drew ?_|refine blk_alloc ?_ _));exact BK230.out) hb);have n2_ := Aside0.mk (below_step (by repeat (first|(with_reducible first|exact HB.out|apply below_alloc|apply pw_below_drewN|apply below_drew1|refine below_set ?_ GE229.out|refine below_set ?_ GE230.out)|exact HB.out)) hb);clear BK229;clear BK230;clear HB;have BK229 := n0_;have BK230 := n1_;have HB := n2_;clear n0_ n1_ n2_;(try clear hb);(try clear hb2);(try clear hk);(try clear hi)))
   go_ret
   exact ⟨by first|rfl|(simp [errW_none, errW_some] <;> rfl)|(simp [*, errW_none, errW_some] <;> rfl), by repeat (first|(with_reducible first|exact HB.out|apply below_alloc|apply pw_below_drewN|apply below_drew1|refine below_set ?_ GE229.out|refine below_set ?_ GE230.out)|exact HB.out)⟩
  ·replace c6 := Bool.eq_false_iff.mpr c6
   subst c6
   exact absurd H (by simp)
 ·replace c4 := Bool.eq_false_iff.mpr c4
  subst c4
  exact absurd H (by simp)

/-! ### laws_eqSimpleS: function 148 -/
def laws_eqSimpleS.l0 : Nat → List (S164) → List (S164) → Int → Option (Bool)
  | 0, _, _, _ => none
  | k + 1, x0, x1, x5 => if x5 < (x0.length : Int) then (if 0 ≤ x5 then (if x5 < (x1.length : Int) then ((laws_eqSimple.f k ((rd_T164 x0 x5).f0.f0) ((rd_T164 x0 x5).f0.f1) ((rd_T164 x0 x5).f0.f2) ((rd_T164 x0 x5).f0.f3) ((rd_T164 x0 x5).f0.f4) ((rd_T164 x0 x5).f1) ((rd_T164 x1 x5).f0.f0) ((rd_T164 x1 x5).f0.f1) ((rd_T164 x1 x5).f0.f2) ((rd_T164 x1 x5).f0.f3) ((rd_T164 x1 x5).f0.f4) ((rd_T164 x1 x5).f1)).bind fun t235 => (if t235 = true then (laws_eqSimpleS.l0 k x0 x1 (wrap64 (x5 + 1))) else (none))) else (none)) else (none)) else (some true)
def laws_eqSimpleS.f (k : Nat) (l0 : List (S164)) (l1 : List (S164)) : Option (Bool) := if (l0.length : Int) = (l1.length : Int) then (laws_eqSimpleS.l0 k l0 l1 0) else (none)
theorem laws_eqSimpleS.mono_l : ∀ k, (∀ y0 y1 y2, LeO (laws_eqSimpleS.l0 k y0 y1 y2) (laws_eqSimpleS.l0 (k + 1) y0 y1 y2))
 | 0 => fun _ _ _ r h => by simp [laws_eqSimpleS.l0] at h
 | k + 1 => by
  have ih0 := laws_eqSimpleS.mono_l k
  ·intro y0 y1 y2
   unfold laws_eqSimpleS.l0
   repeat' first
  |(with_reducible exact ih0 _ _ _)
  |(with_reducible exact laws_eqSimple.mono _ _ _ _ _ _ _ _ _ _ _ _ _)
  |(with_reducible exact LeO.refl _)
  |(with_reducible exact LeO.none _)
  |(with_reducible refine LeO.ite ?_ ?_)
  |(with_reducible refine LeO.bind ?_ (fun _ => ?_))
  |exact ih0 _ _ _
  |exact laws_eqSimple.mono _ _ _ _ _ _ _ _ _ _ _ _ _
  |exact LeO.none _
  |refine LeO.ite ?_ ?_
  |refine LeO.bind ?_ (fun _ => ?_)
theorem laws_eqSimpleS.mono : ∀ a0 a1 k, LeO (laws_eqSimpleS.f k a0 a1) (laws_eqSimpleS.f (k + 1) a0 a1) := by
 intro a0 a1 k
 have ih0 := laws_eqSimpleS.mono_l k
 unfold laws_eqSimpleS.f
 repeat' first
  |(with_reducible exact ih0 _ _ _)
  |(with_reducible exact laws_eqSimple.mono _ _ _ _ _ _ _ _ _ _ _ _ _)
  |(with_reducible exact LeO.refl _)
  |(with_reducible exact LeO.none _)
  |(with_reducible refine LeO.ite ?_ ?_)
  |(with_reducible refine LeO.bind ?_ (fun _ => ?_))
  |exact ih0 _ _ _
  |exact laws_eqSimple.mono _ _ _ _ _ _ _ _ _ _ _ _ _
  |exact LeO.none _
  |refine LeO.ite ?_ ?_
  |refine LeO.bind ?_ (fun _ => ?_)
def laws_eqSimpleS.T6 : Bool × List (List Nat × List Nat) := (true, [([], []), ([], []), ([0, 1], [0, 1]), ([2], [2]), ([], []), ([], []), ([4, 5], [4, 5]), ([6], [6]), ([3, 7], [3, 7]), ([8], [8])])
def laws_eqSimpleS.B6 : List Nat := [0, 0, 3, 7, 0, 0, 48, 112, 255, 511]
theorem laws_eqSimpleS.tab6 : rtab .any (opsOf Try.f148 6) = laws_eqSimpleS.T6 := by kernel_rfl
theorem laws_eqSimpleS.bits6 : waitsOk laws_eqSimpleS.T6.2 laws_eqSimpleS.B6 = true := by kernel_rfl
set_option maxHeartbeats 8000000 in
set_option maxRecDepth 100000 in
theorem laws_eqSimpleS.calls (k : Nat) (A0 : Option Addr) (c0 : Nat) (l0 : List (S164)) (A1 : Option Addr) (c1 : Nat) (l1 : List (S164)) (r : Bool) (w : World) (hr0 : Kd.C k164 w A0 l0.length l0) (hc0 : l0.length ≤ c0) (hr1 : Kd.C k164 w A1 l1.length l1) (hc1 : l1.length ≤ c1) (h : laws_eqSimpleS.f k l0 l1 = some r) :
  Calls Try.prog 148 #[.slice A0 l0.length c0, .slice A1 l1.length c1] w fun e w' => e = .returned (.bool r) ∧ Below w.heap.size w w' := by
 have hu164 := Try.underlying164
 have HR0 := Aside0.mk hr0
 have HC0 := Aside0.mk hc0
 clear hr0 hc0
 have HR1 := Aside0.mk hr1
 have HC1 := Aside0.mk hc1
 clear hr1 hc1
 have HB := Aside0.mk (Below.refl w.heap.size w)
 have H : (if (l0.length : Int) = (l1.length : Int) then (laws_eqSimpleS.l0 k l0 l1 0) else (none)) = some r := h
 clear h
 by_cases c3 : (l0.length : Int) = (l1.length : Int)
 ·rw [if_pos c3] at H
  have c3b0 : ((l0.length : Int) == (l1.length : Int)) = true := beq_iff_eq.mpr c3
  have c3b1 : ((l0.length : Int) != (l1.length : Int)) = false := bne_eq_false_iff_eq.mpr c3
  have c3b2 : (l0.length == l1.length) = true := by first|simpa using c3|(simp at c3 ⊢;omega)
  clear c3
  have H' := Aside0.mk H
  clear H
  go_enter Try.func148, Try.ntmps148
  go_wp2
  go_loopg [5] k (fun kq v5 w' => ∃ (x5_1 : Int), v5 = .int .i64 x5_1 ∧ Aside0 (laws_eqSimpleS.l0 kq l0 l1 x5_1 = some r) ∧ Aside0 (kq ≤ k) ∧ Aside0 (Below w.heap.size w w'))
  case atStart => exact ⟨(0),(by first|rfl|(simp;done)|(simp [*];done)), H', ⟨Nat.le_refl _⟩,⟨by repeat (first|(with_reducible first|exact HB.out|apply below_alloc|apply pw_below_drewN|apply below_drew1)|exact HB.out)⟩⟩
  case round =>
   clear H'
   try clear c1;try clear p2;try clear c3;try clear c3b0;try clear c3b1;try clear c3b2
   obtain ⟨x5_1, rfl, HA, HK1, HB⟩ := hrel
   cases gk with
  |zero => exact absurd HA.out (by simp [laws_eqSimpleS.l0])
  |succ k1 =>
    have H := HA.out
    clear HA
    simp only [laws_eqSimpleS.l0] at H
    by_cases c4 : x5_1 < (l0.length : Int)
    ·rw [if_pos c4] at H
     have c4b0 : decide (x5_1 < (l0.length : Int)) = true := decide_eq_true c4
     clear c4
     by_cases c5 : 0 ≤ x5_1
     ·rw [if_pos c5] at H
      have c5b0 : decide (0 ≤ x5_1) = true := decide_eq_true c5
      clear c5
      by_cases c6 : x5_1 < (l1.length : Int)
      ·rw [if_pos c6] at H
       have c6b0 : decide (x5_1 < (l1.length : Int)) = true := decide_eq_true c6
       clear c6
       replace H := Option.bind_eq_some_iff.mp H
       obtain ⟨t235, A70, H⟩ := H
       replace H : (if t235 = true then (laws_eqSimpleS.l0 k1 l0 l1 (wrap64 (x5_1 + 1))) else (none)) = some r := H
       have A7 := Aside0.mk A70
       clear A70
       by_cases c8 : t235 = true
       ·subst c8
        have H1 : (laws_eqSimpleS.l0 k1 l0 l1 (wrap64 (x5_1 + 1))) = some r := by rw [if_pos rfl] at H;exact H
        clear H
        have H := H1
        clear H1
        have H' := Aside0.mk H
        clear H
        try go_wp2
        have n0_ := Aside0.mk (below_drew1 HB.out)
        clear HB
        have HB := n0_
        clear n0_
        have p233 : 0 ≤ (x5_1 : Int) := of_decide_eq_true (by first|(with_reducible assumption)|assumption)
        have q233 : x5_1 < (l0.length : Int) := of_decide_eq_true (by first|(with_reducible assumption)|assumption)
        obtain ⟨ad233, A233_5, c233_5, e233, hx233_0, hx233_1, hx233_2, hx233_3, hx233_4, hx233_5, hl233_5, hi233_5⟩ := at_T164 HR0.out x5_1 p233 q233
        have hw233_5 := hx233_5
        have hw233_4 := hx233_4
        have hw233_3 := hx233_3
        have hw233_2 := hx233_2
        have hw233_1 := hx233_1
        have hw233_0 := hx233_0
        cases e233
        replace hx233_0 := (HB.out.cell (World.block_lt_of_cell? w _ hx233_0)).trans hx233_0
        replace hx233_1 := (HB.out.cell (World.block_lt_of_cell? w _ hx233_1)).trans hx233_1
        replace hx233_2 := (HB.out.cell (World.block_lt_of_cell? w _ hx233_2)).trans hx233_2
        replace hx233_3 := (HB.out.cell (World.block_lt_of_cell? w _ hx233_3)).trans hx233_3
        replace hx233_4 := (HB.out.cell (World.block_lt_of_cell? w _ hx233_4)).trans hx233_4
        replace hx233_5 := (HB.out.cell (World.block_lt_of_cell? w _ hx233_5)).trans hx233_5
        have HR233_5 := Aside0.mk hi233_5
        have HC233_5 := Aside0.mk hl233_5
        clear hi233_5 hl233_5
        replace p233 := eq_true p233
        replace q233 := eq_true q233
        have p234 : 0 ≤ (x5_1 : Int) := of_decide_eq_true (by first|(with_reducible assumption)|assumption)
        have q234 : x5_1 < (l1.length : Int) := of_decide_eq_true (by first|(with_reducible assumption)|assumption)
        obtain ⟨ad234, A234_5, c234_5, e234, hx234_0, hx234_1, hx234_2, hx234_3, hx234_4, hx234_5, hl234_5, hi234_5⟩ := at_T164 HR1.out x5_1 p234 q234
        have hw234_5 := hx234_5
        have hw234_4 := hx234_4
        have hw234_3 := hx234_3
        have hw234_2 := hx234_2
        have hw234_1 := hx234_1
        have hw234_0 := hx234_0
        cases e234
        replace hx234_0 := (HB.out.cell (World.block_lt_of_cell? w _ hx234_0)).trans hx234_0
        replace hx234_1 := (HB.out.cell (World.block_lt_of_cell? w _ hx234_1)).trans hx234_1
        replace hx234_2 := (HB.out.cell (World.block_lt_of_cell? w _ hx234_2)).trans hx234_2
        replace hx234_3 := (HB.out.cell (World.block_lt_of_cell? w _ hx234_3)).trans hx234_3
        replace hx234_4 := (HB.out.cell (World.block_lt_of_cell? w _ hx234_4)).trans hx234_4
        replace hx234_5 := (HB.out.cell (World.block_lt_of_cell? w _ hx234_5)).trans hx234_5
        have HR234_5 := Aside0.mk hi234_5
        have HC234_5 := Aside0.mk hl234_5
        clear hi234_5 hl234_5
        replace p234 := eq_true p234
        replace q234 := eq_true q234
        refine start_ (n := 10) (S := fun w' => w'.cell? (ad233.add ((x5_1).toNat * 6)) = some (.int .i64 ((rd_T164 l0 x5_1).f0.f0)) ∧ w'.cell? ⟨(ad233.add ((x5_1).toNat * 6)).block, (ad233.add ((x5_1).toNat * 6)).off + 1, none⟩ = some (.string ((rd_T164 l0 x5_1).f0.f1)) ∧ w'.cell? ⟨(ad233.add ((x5_1).toNat * 6)).block, (ad233.add ((x5_1).toNat * 6)).off + 2, none⟩ = some (.string ((rd_T164 l0 x5_1).f0.f2)) ∧ w'.cell? ⟨(ad233.add ((x5_1).toNat * 6)).block, (ad233.add ((x5_1).toNat * 6)).off + 3, none⟩ = some (.int .i64 ((rd_T164 l0 x5_1).f0.f3)) ∧ w'.cell? ⟨(ad233.add ((x5_1).toNat * 6)).block, (ad233.add ((x5_1).toNat * 6)).off + 4, none⟩ = some (.int .i64 ((rd_T164 l0 x5_1).f0.f4)) ∧ w'.cell? ⟨(ad233.add ((x5_1).toNat * 6)).block, (ad233.add ((x5_1).toNat * 6)).off + 5, none⟩ = some (.slice A233_5 ((rd_T164 l0 x5_1).f1).length c233_5) ∧ w'.cell? (ad234.add ((x5_1).toNat * 6)) = some (.int .i64 ((rd_T164 l1 x5_1).f0.f0)) ∧ w'.cell? ⟨(ad234.add ((x5_1).toNat * 6)).block, (ad234.add ((x5_1).toNat * 6)).off + 1, none⟩ = some (.string ((rd_T164 l1 x5_1).f0.f1)) ∧ w'.cell? ⟨(ad234.add ((x5_1).toNat * 6)).block, (ad234.add ((x5_1).toNat * 6)).off + 2, none⟩ = some (.string ((rd_T164 l1 x5_1).f0.f2)) ∧ w'.cell? ⟨(ad234.add ((x5_1).toNat * 6)).block, (ad234.add ((x5_1).toNat * 6)).off + 3, none⟩ = some (.int .i64 ((rd_T164 l1 x5_1).f0.f3)) ∧ w'.cell? ⟨(ad234.add ((x5_1).toNat * 6)).block, (ad234.add ((x5_1).toNat * 6)).off + 4, none⟩ = some (.int .i64 ((rd_T164 l1 x5_1).f0.f4)) ∧ w'.cell? ⟨(ad234.add ((x5_1).toNat * 6)).block, (ad234.add ((x5_1).toNat * 6)).off + 5, none⟩ = some (.slice A234_5 ((rd_T164 l1 x5_1).f1).length c234_5)) (ds := []) #[false, false, false, false, false, false, false, false, false, false] (by kernel_rfl) rfl rfl ⟨((HB.out.cell (World.block_lt_of_cell? w _ hw233_0)).trans hw233_0),((HB.out.cell (World.block_lt_of_cell? w _ hw233_1)).trans hw233_1),((HB.out.cell (World.block_lt_of_cell? w _ hw233_2)).trans hw233_2),((HB.out.cell (World.block_lt_of_cell? w _ hw233_3)).trans hw233_3),((HB.out.cell (World.block_lt_of_cell? w _ hw233_4)).trans hw233_4),((HB.out.cell (World.block_lt_of_cell? w _ hw233_5)).trans hw233_5),((HB.out.cell (World.block_lt_of_cell? w _ hw234_0)).trans hw234_0),((HB.out.cell (World.block_lt_of_cell? w _ hw234_1)).trans hw234_1),((HB.out.cell (World.block_lt_of_cell? w _ hw234_2)).trans hw234_2),((HB.out.cell (World.block_lt_of_cell? w _ hw234_3)).trans hw234_3),((HB.out.cell (World.block_lt_of_cell? w _ hw234_4)).trans hw234_4),((HB.out.cell (World.block_lt_of_cell? w _ hw234_5)).trans hw234_5)⟩ (fun hHeld => ?_);refine with_tabW laws_eqSimpleS.tab6 laws_eqSimpleS.bits6 (fun HT_ HW_ => ?_)
        generalize wr.drew = w9 at HB HR233_5 HR234_5 hx233_0 hx233_1 hx233_2 hx233_3 hx233_4 hx233_5 hx234_0 hx234_1 hx234_2 hx234_3 hx234_4 hx234_5 hHeld ⊢
        refine pure_ (i := 0) (N := some 17) (v := ?_) (a' := ?_) #[true, false, false, false, false, false, false, false, false, false] rfl rfl (any_of HT_.out (by kernel_rfl)) (fun _ _ _ h => h) (Or.inl ⟨by rfl, ?_⟩) ?_ ?_
        rotate_left
        ·intro w'
         go_simp
         with_reducible rfl
        rotate_left
        ·simp only [Act.put, List.setIfInBounds_toArray, List.set_cons_zero, List.set_cons_succ, i64_w, i32_w]
         rfl
        refine pure_ (i := 1) (N := some 18) (v := ?_) (a' := ?_) #[true, true, false, false, false, false, false, false, false, false] rfl rfl (any_of HT_.out (by kernel_rfl)) (fun _ _ _ h => h) (Or.inl ⟨by rfl, ?_⟩) ?_ ?_
        rotate_left
        ·intro w'
         go_simp
         with_reducible rfl
        rotate_left
        ·simp only [Act.put, List.setIfInBounds_toArray, List.set_cons_zero, List.set_cons_succ, i64_w, i32_w]
         rfl
        refine pure_ (i := 2) (N := some 19) (v := ?_) (a' := ?_) #[true, true, true, false, false, false, false, false, false, false] rfl rfl (any_of HT_.out (by kernel_rfl)) (fun _ _ _ h => h) (Or.inl ⟨by rfl, ?_⟩) ?_ ?_
        rotate_left
        ·intro w'
         go_simp
         with_reducible rfl
        rotate_left
        ·simp only [Act.put, List.setIfInBounds_toArray, List.set_cons_zero, List.set_cons_succ, i64_w, i32_w]
         rfl
        refine pure_ (i := 4) (N := some 21) (v := ?_) (a' := ?_) #[true, true, true, false, true, false, false, false, false, false] rfl rfl (any_of HT_.out (by kernel_rfl)) (fun _ _ _ h => h) (Or.inl ⟨by rfl, ?_⟩) ?_ ?_
        rotate_left
        ·intro w'
         go_simp
         with_reducible rfl
        rotate_left
        ·simp only [Act.put, List.setIfInBounds_toArray, List.set_cons_zero, List.set_cons_succ, i64_w, i32_w]
         rfl
        refine pure_ (i := 5) (N := some 22) (v := ?_) (a' := ?_) #[true, true, true, false, true, true, false, false, false, false] rfl rfl (any_of HT_.out (by kernel_rfl)) (fun _ _ _ h => h) (Or.inl ⟨by rfl, ?_⟩) ?_ ?_
        rotate_left
        ·intro w'
         go_simp
         with_reducible rfl
        rotate_left
        ·simp only [Act.put, List.setIfInBounds_toArray, List.set_cons_zero, List.set_cons_succ, i64_w, i32_w]
         rfl
        refine pure_ (i := 6) (N := some 23) (v := ?_) (a' := ?_) #[true, true, true, false, true, true, true, false, false, false] rfl rfl (any_of HT_.out (by kernel_rfl)) (fun _ _ _ h => h) (Or.inl ⟨by rfl, ?_⟩) ?_ ?_
        rotate_left
        ·intro w'
         go_simp
         with_reducible rfl
        rotate_left
        ·simp only [Act.put, List.setIfInBounds_toArray, List.set_cons_zero, List.set_cons_succ, i64_w, i32_w]
         rfl
        refine take_ (i := 3) (N := some 20) (v := ?_) (a' := ?_) #[true, true, true, true, true, true, true, false, false, false] rfl rfl (take_ofW HT_.out HW_.out (by kernel_rfl)) (fun _ _ _ h => h) (Or.inl ⟨by rfl, ?_⟩) hHeld ?_ ?_
        rotate_left
        ·rintro w' ⟨s0, s1, s2, s3, s4, s5, s6, s7, s8, s9, s10, s11⟩
         go_simp
         with_reducible rfl
        rotate_left
        ·simp only [Act.put, List.setIfInBounds_toArray, List.set_cons_zero, List.set_cons_succ, i64_w, i32_w]
         rfl
        refine take_ (i := 7) (N := some 24) (v := ?_) (a' := ?_) #[true, true, true, true, true, true, true, true, false, false] rfl rfl (take_ofW HT_.out HW_.out (by kernel_rfl)) (fun _ _ _ h => h) (Or.inl ⟨by rfl, ?_⟩) hHeld ?_ ?_
        rotate_left
        ·rintro w' ⟨s0, s1, s2, s3, s4, s5, s6, s7, s8, s9, s10, s11⟩
         go_simp
         with_reducible rfl
        rotate_left
        ·simp only [Act.put, List.setIfInBounds_toArray, List.set_cons_zero, List.set_cons_succ, i64_w, i32_w]
         rfl
        refine one_ (i := 8) (N := some 25) #[true, true, true, true, true, true, true, true, true, false] rfl rfl (one_of HT_.out (by kernel_rfl)) (by decide) (fun K hK => ?_)
        refine goes_ Try.func161 (by kernel_rfl) rfl #[.agg #[.int .i64 ((rd_T164 l0 x5_1).f0.f0), .string ((rd_T164 l0 x5_1).f0.f1), .string ((rd_T164 l0 x5_1).f0.f2), .int .i64 ((rd_T164 l0 x5_1).f0.f3), .int .i64 ((rd_T164 l0 x5_1).f0.f4), .slice A233_5 ((rd_T164 l0 x5_1).f1).length c233_5], .agg #[.int .i64 ((rd_T164 l1 x5_1).f0.f0), .string ((rd_T164 l1 x5_1).f0.f1), .string ((rd_T164 l1 x5_1).f0.f2), .int .i64 ((rd_T164 l1 x5_1).f0.f3), .int .i64 ((rd_T164 l1 x5_1).f0.f4), .slice A234_5 ((rd_T164 l1 x5_1).f1).length c234_5]] (by rfl) rfl rfl (by (try simp only [List.map_toArray, List.map_cons, List.map_nil]);first|done|rfl|(simp only [List.length_drop, List.length_take];rfl)) ?_
        with_reducible refine (laws_eqSimple.calls k1 ((rd_T164 l0 x5_1).f0.f0) ((rd_T164 l0 x5_1).f0.f1) ((rd_T164 l0 x5_1).f0.f2) ((rd_T164 l0 x5_1).f0.f3) ((rd_T164 l0 x5_1).f0.f4) _ _ ((rd_T164 l0 x5_1).f1) ((rd_T164 l1 x5_1).f0.f0) ((rd_T164 l1 x5_1).f0.f1) ((rd_T164 l1 x5_1).f0.f2) ((rd_T164 l1 x5_1).f0.f3) ((rd_T164 l1 x5_1).f0.f4) _ _ ((rd_T164 l1 x5_1).f1) true _ ?side1 ?side2 ?side3 ?side4 A7.out).mono ?_
        (case side1 => repeat (first|exact (Kd.C_below HR233_5.out HB.out)|(with_reducible refine Kd.C_alloc ?_ _)|(with_reducible refine Kd.C_drewN ?_ _)|(with_reducible refine Kd.C_drew ?_)))
        (case side2 => exact HC233_5.out)
        (case side3 => repeat (first|exact (Kd.C_below HR234_5.out HB.out)|(with_reducible refine Kd.C_alloc ?_ _)|(with_reducible refine Kd.C_drewN ?_ _)|(with_reducible refine Kd.C_drew ?_)))
        (case side4 => exact HC234_5.out)
        rintro e w10 ⟨rfl, hb⟩
        refine ⟨_, rfl, ?_⟩
        have n0_ := Aside0.mk (below_step (by repeat (first|(with_reducible first|exact HB.out|apply below_alloc|apply pw_below_drewN|apply below_drew1)|exact HB.out)) hb)
        clear HB
        have HB := n0_
        clear n0_
        (try clear hb)
        (try clear hb2)
        (try clear hk)
        (try clear hi)
        refine hK.out _ _ ⟨((HB.out.cell (World.block_lt_of_cell? w _ hw233_0)).trans hw233_0),((HB.out.cell (World.block_lt_of_cell? w _ hw233_1)).trans hw233_1),((HB.out.cell (World.block_lt_of_cell? w _ hw233_2)).trans hw233_2),((HB.out.cell (World.block_lt_of_cell? w _ hw233_3)).trans hw233_3),((HB.out.cell (World.block_lt_of_cell? w _ hw233_4)).trans hw233_4),((HB.out.cell (World.block_lt_of_cell? w _ hw233_5)).trans hw233_5),((HB.out.cell (World.block_lt_of_cell? w _ hw234_0)).trans hw234_0),((HB.out.cell (World.block_lt_of_cell? w _ hw234_1)).trans hw234_1),((HB.out.cell (World.block_lt_of_cell? w _ hw234_2)).trans hw234_2),((HB.out.cell (World.block_lt_of_cell? w _ hw234_3)).trans hw234_3),((HB.out.cell (World.block_lt_of_cell? w _ hw234_4)).trans hw234_4),((HB.out.cell (World.block_lt_of_cell? w _ hw234_5)).trans hw234_5)⟩ (fun hHeld => ?_)
        clear hK K
        refine norm_ (a' := ?_) ?_ ?_
        rotate_left
        ·show Act.put _ (some 25) _ = _
         simp only [Act.put, List.setIfInBounds_toArray, List.set_cons_zero, List.set_cons_succ, i64_w, i32_w]
         rfl
        refine pure_ (i := 9) (N := some 26) (v := ?_) (a' := ?_) #[true, true, true, true, true, true, true, true, true, true] rfl rfl (any_of HT_.out (by kernel_rfl)) (fun _ _ _ h => h) (Or.inl ⟨by rfl, ?_⟩) ?_ ?_
        rotate_left
        ·intro w'
         go_simp
         with_reducible rfl
        rotate_left
        ·simp only [Act.put, List.setIfInBounds_toArray, List.set_cons_zero, List.set_cons_succ, i64_w, i32_w]
         rfl
        refine done_ (done_of HT_.out (by kernel_rfl)) ?_
        try go_wp2
        go_roundg k1
        case measure => have := HK1.out;omega
        case rel => exact ⟨(wrap64 (x5_1 + 1)),(by first|rfl|(simp;done)|(simp [*];done)), H', ⟨by have := HK1.out;omega⟩,⟨by repeat (first|(with_reducible first|exact HB.out|apply below_alloc|apply pw_below_drewN|apply below_drew1)|exact HB.out)⟩⟩
       ·replace c8 := Bool.eq_false_iff.mpr c8
        subst c8
        exact absurd H (by simp)
      ·rw [if_neg c6] at H
       exact absurd H (by simp)
     ·rw [if_neg c5] at H
      exact absurd H (by simp)
    ·rw [if_neg c4] at H
     have c4b0 : decide (x5_1 < (l0.length : Int)) = false := decide_eq_false c4
     clear c4
     obtain rfl := Option.some.inj H
     go_wp2
     go_ret
     exact ⟨by first|rfl|(simp [errW_none, errW_some] <;> rfl)|(simp [*, errW_none, errW_some] <;> rfl), by repeat (first|(with_reducible first|exact HB.out|apply below_alloc|apply pw_below_drewN|apply below_drew1)|exact HB.out)⟩
 ·rw [if_neg c3] at H
  exact absurd H (by simp)

/-! ### laws_eqCompound: function 136 -/
def laws_eqCompound.f (k : Nat) (a0_0 : Int) (l0_1 : List (S164)) (a1_0 : Int) (l1_1 : List (S164)) : Option (Bool) := if a0_0 = a1_0 then ((laws_eqSimpleS.f k l0_1 l1_1).bind fun t238 => (if t238 = true then (some true) else (none))) else (none)
theorem laws_eqCompound.mono : ∀ a0 a1 a2 a3 k, LeO (laws_eqCompound.f k a0 a1 a2 a3) (laws_eqCompound.f (k + 1) a0 a1 a2 a3) := by
 intro a0 a1 a2 a3 k
 unfold laws_eqCompound.f
 repeat' first
  |(with_reducible exact laws_eqSimpleS.mono _ _ _)
  |(with_reducible exact LeO.refl _)
  |(with_reducible exact LeO.none _)
  |(with_reducible refine LeO.ite ?_ ?_)
  |(with_reducible refine LeO.bind ?_ (fun _ => ?_))
  |exact laws_eqSimpleS.mono _ _ _
  |exact LeO.none _
  |refine LeO.ite ?_ ?_
  |refine LeO.bind ?_ (fun _ => ?_)
set_option maxHeartbeats 8000000 in
set_option maxRecDepth 100000 in
theorem laws_eqCompound.calls (k : Nat) (a0_0 : Int) (A0_1 : Option Addr) (c0_1 : Nat) (l0_1 : List (S164)) (a1_0 : Int) (A1_1 : Option Addr) (c1_1 : Nat) (l1_1 : List (S164)) (r : Bool) (w : World) (hr0_1 : Kd.C k164 w A0_1 l0_1.length l0_1) (hc0_1 : l0_1.length ≤ c0_1) (hr1_1 : Kd.C k164 w A1_1 l1_1.length l1_1) (hc1_1 : l1_1.length ≤ c1_1) (h : laws_eqCompound.f k a0_0 l0_1 a1_0 l1_1 = some r) :
  Calls Try.prog 136 #[.agg #[.int .i64 a0_0, .slice A0_1 l0_1.length c0_1], .agg #[.int .i64 a1_0, .slice A1_1 l1_1.length c1_1]] w fun e w' => e = .returned (.bool r) ∧ Below w.heap.size w w' := by
 have hu158 := Try.underlying158
 have HR0_1 := Aside0.mk hr0_1
 have HC0_1 := Aside0.mk hc0_1
 clear hr0_1 hc0_1
 have HR1_1 := Aside0.mk hr1_1
 have HC1_1 := Aside0.mk hc1_1
 clear hr1_1 hc1_1
 have HB := Aside0.mk (Below.refl w.heap.size w)
 have H : (if a0_0 = a1_0 then ((laws_eqSimpleS.f k l0_1 l1_1).bind fun t238 => (if t238 = true then (some true) else (none))) else (none)) = some r := h
 clear h
 by_cases c3 : a0_0 = a1_0
 ·rw [if_pos c3] at H
  have c3b0 : (a0_0 == a1_0) = true := beq_iff_eq.mpr c3
  have c3b1 : (a0_0 != a1_0) = false := bne_eq_false_iff_eq.mpr c3
  clear c3
  replace H := Option.bind_eq_some_iff.mp H
  obtain ⟨t238, A40, H⟩ := H
  replace H : (if t238 = true then (some true) else (none)) = some r := H
  have A4 := Aside0.mk A40
  clear A40
  by_cases c5 : t238 = true
  ·subst c5
   have H1 : (some true) = some r := by rw [if_pos rfl] at H;exact H
   clear H
   have H := H1
   clear H1
   obtain rfl := Option.some.inj H
   go_enter Try.func136, Try.ntmps136
   go_wp2_with (first|((with_reducible refine gate_dst (N := 2) rfl ?_);refine box_event ?hg (N := 2) ?hd (cs := #[.int .i64 a0_0, .slice A0_1 l0_1.length c0_1]) (t := 158) ?hr ?_;(case hd => rfl);(case hg => rfl);(case hr => first|(go_simp;done)|(go_simp;rfl));intro gb236 hg w6 hbox hb;have n0_ := Aside0.mk (below_step (by repeat (first|(with_reducible first|exact HB.out|apply below_alloc|apply pw_below_drewN|apply below_drew1)|exact HB.out)) hb);have n1_ := Aside0.mk (hbox);have n2_ := Aside0.mk ((by rw [hg];exact (below_size (by repeat (first|(with_reducible first|exact HB.out|apply below_alloc|apply pw_below_drewN|apply below_drew1)|exact HB.out))) : w.heap.size ≤ gb236));have n3_ := Aside0.mk ((by rw [hg];exact (below_size (by repeat (first|(with_reducible first|exact HB.out|apply below_alloc|apply pw_below_drewN|apply below_drew1)|exact HB.out))) : w.heap.size ≤ gb236));clear HB;have HB := n0_;have BK236 := n1_;have GW236 := n2_;have GE236 := n3_;clear n0_ n1_ n2_ n3_;clear hb hbox hg)|((with_reducible refine gate_dst (N := 3) rfl ?_);refine box_event ?hg (N := 3) ?hd (cs := #[.int .i64 a1_0, .slice A1_1 l1_1.length c1_1]) (t := 158) ?hr ?_;(case hd => rfl);(case hg => rfl);(case hr => first|(go_simp;done)|(go_simp;rfl));intro gb237 hg w7 hbox hb;have n0_ := Aside0.mk (blk_below (g := gb236) (o := .cells #[.int .i64 a0_0, .slice A0_1 l0_1.length c0_1] 158 (0, 0)) (by (with_reducible repeat (first|refine blk_drewN ?_ _|refine blk_drew ?_|refine blk_alloc ?_ _));exact BK236.out) hb);have n1_ := Aside0.mk (below_step (by repeat (first|(with_reducible first|exact HB.out|apply below_alloc|apply pw_below_drewN|apply below_drew1|refine below_set ?_ GE236.out)|exact HB.out)) hb);have n2_ := Aside0.mk (hbox);have n3_ := Aside0.mk ((by rw [hg];exact (below_size (by repeat (first|(with_reducible first|exact HB.out|apply below_alloc|apply pw_below_drewN|apply below_drew1|refine below_set ?_ GE236.out)|exact HB.out))) : w.heap.size ≤ gb237));have n4_ := Aside0.mk ((by rw [hg];exact (below_size (by repeat (first|(with_reducible first|exact HB.out|apply below_alloc|apply pw_below_drewN|apply below_drew1|refine below_set ?_ GE236.out)|exact HB.out))) : w.heap.size ≤ gb237));have n5_ := Aside0.mk ((by rw [hg];exact Nat.ne_of_lt (blk_lt (g := gb236) (o := .cells #[.int .i64 a0_0, .slice A0_1 l0_1.length c0_1] 158 (0, 0)) (by (with_reducible repeat (first|refine blk_drewN ?_ _|refine blk_drew ?_|refine blk_alloc ?_ _));exact BK236.out)) : gb236 ≠ gb237));have n6_ := Aside0.mk ((by rw [hg];exact Nat.ne_of_gt (blk_lt (g := gb236) (o := .cells #[.int .i64 a0_0, .slice A0_1 l0_1.length c0_1] 158 (0, 0)) (by (with_reducible repeat (first|refine blk_drewN ?_ _|refine blk_drew ?_|refine blk_alloc ?_ _));exact BK236.out)) : gb237 ≠ gb236));clear BK236;clear HB;have BK236 := n0_;have HB := n1_;have BK237 := n2_;have GW237 := n3_;have GE237 := n4_;have NB236_237 := n5_;have NB237_236 := n6_;clear n0_ n1_ n2_ n3_ n4_ n5_ n6_;clear hb hbox hg;have hnb8 := NB236_237.out;have hnc8 := NB237_236.out;have hcz9_0 : w7.cell? ⟨gb236, 0, none⟩ = some (.int .i64 a0_0) := (blk_cell BK236.out 0).trans rfl;have hcz9_1 : w7.cell? ⟨gb236, 1, none⟩ = some (.slice A0_1 l0_1.length c0_1) := (blk_cell BK236.out 1).trans rfl;have hfz9_0 := blk_frozen BK236.out 0;have hfz9_1 := blk_frozen BK236.out 1;have hcz10_0 : w7.cell? ⟨gb237, 0, none⟩ = some (.int .i64 a1_0) := (blk_cell BK237.out 0).trans rfl;have hcz10_1 : w7.cell? ⟨gb237, 1, none⟩ = some (.slice A1_1 l1_1.length c1_1) := (blk_cell BK237.out 1).trans rfl;have hfz10_0 := blk_frozen BK237.out 0;have hfz10_1 := blk_frozen BK237.out 1)|((with_reducible refine gate_callee (f := 148) rfl ?_);refine goesL_ (some 14) rfl rfl Try.func148 (by kernel_rfl) rfl #[.slice A0_1 l0_1.length c0_1, .slice A1_1 l1_1.length c1_1] rfl (by (try simp only [List.map_toArray, List.map_cons, List.map_nil]);first|done|rfl|(simp only [List.length_drop, List.length_take];rfl)) ?_;(with_reducible refine (laws_eqSimpleS.calls k _ _ l0_1 _ _ l1_1 true _ ?side1 ?side2 ?side3 ?side4 A4.out).mono ?_);(case side1 => repeat (first|exact (Kd.C_below HR0_1.out HB.out)|(with_reducible refine Kd.C_alloc ?_ _)|(with_reducible refine Kd.C_drewN ?_ _)|(with_reducible refine Kd.C_drew ?_)));(case side2 => exact HC0_1.out);(case side3 => repeat (first|exact (Kd.C_below HR1_1.out HB.out)|(with_reducible refine Kd.C_alloc ?_ _)|(with_reducible refine Kd.C_drewN ?_ _)|(with_reducible refine Kd.C_drew ?_)));(case side4 => exact HC1_1.out);rintro e w11 ⟨rfl, hb⟩;refine ⟨_, rfl, ?_⟩;have n0_ := Aside0.mk (blk_below (g := gb236) (o := .cells #[.int .i64 a0_0, .slice A0_1 l0_1.length c0_1] 158 (0, 0)) (by (with_reducible repeat (first|refine blk_drewN ?_ _|refine blk_drew ?_|refine blk_alloc ?_ _));exact BK236.out) hb);have n1_ := Aside0.mk (blk_below (g := gb237) (o := .cells #[.int .i64 a1_0, .slice A1_1 l1_1.length c1_1] 158 (0, 0)) (by (with_reducible repeat (first|refine blk_drewN ?_ _|refine blk_drew ?_|refine blk_alloc ?_ _));exact BK237.out) hb);have n2_ := Aside0.mk (below_step (by repeat (first|(with_reducible first|exact HB.out|apply below_alloc|apply pw_below_drewN|apply below_drew1|refine below_set ?_ GE236.out|refine below_set ?_ GE237.out)|exact HB.out)) hb);clear BK236;clear BK237;clear HB;have BK236 := n0_;have BK237 := n1_;have HB := n2_;clear n0_ n1_ n2_;(try clear hb);(try clear hb2);(try clear hk);(try clear hi)))
   go_ret
   exact ⟨by first|rfl|(simp [errW_none, errW_some] <;> rfl)|(simp [*, errW_none, errW_some] <;> rfl), by repeat (first|(with_reducible first|exact HB.out|apply below_alloc|apply pw_below_drewN|apply below_drew1|refine below_set ?_ GE236.out|refine below_set ?_ GE237.out)|exact HB.out)⟩
  ·replace c5 := Bool.eq_false_iff.mpr c5
   subst c5
   exact absurd H (by simp)
 ·rw [if_neg c3] at H
  exact absurd H (by simp)

end Go.Proofs.Ytjoanlocikagaaa.QFnExactSelectorOk
