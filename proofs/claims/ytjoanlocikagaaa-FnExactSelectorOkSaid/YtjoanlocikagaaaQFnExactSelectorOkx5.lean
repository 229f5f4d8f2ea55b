/- Written by a program (wip/tools/own_print.py) out of the walk that the kit's printer made; turned where it fell. -/
import Derived.Test.YtjoanlocikagaaaQFnExactSelectorOkx0
import Derived.Test.YtjoanlocikagaaaQFnExactSelectorOkx4
namespace Go.Proofs.Ytjoanlocikagaaa.QFnExactSelectorOk
open Go.RowKit Go.Proofs.YtjoanlocikagaaaW.PrintWords Go.Proofs.YtjoanlocikagaaaW.PrintLast Go.Proofs.YtjoanlocikagaaaW.PrintMore
attribute [local go_sem] max2_int min2_int max_two min_two max_three min_three max_four min_four   -- for this text's walks alone
set_option linter.unusedVariables false
set_option linter.unusedSimpArgs false

/-! ### spec_SelectorOk: function 48 -/
mutual
def spec_SelectorOk.j0 : Nat → Int → Bool → List (S158) → Option (Bool)
  | 0, _, _, _ => none
  | k + 1, x3, x15, x128000 => if x15 = true then (some false) else (spec_SelectorOk.l0 k x3 0 x128000)
def spec_SelectorOk.l0 : Nat → Int → Int → List (S158) → Option (Bool)
  | 0, _, _, _ => none
  | k + 1, x3, x4, x128000 => if x4 < x3 then (if 0 ≤ x4 then (if x4 < (x128000.length : Int) then (if ((((rd_T158 x128000 x4).f0) == 0) != (x4 == 0)) = true then (spec_SelectorOk.j2 k x3 x4 true x128000 ((rd_T158 x128000 x4).f0) ((rd_T158 x128000 x4).f1)) else (if ((rd_T158 x128000 x4).f0) < 0 then (spec_SelectorOk.j2 k x3 x4 true x128000 ((rd_T158 x128000 x4).f0) ((rd_T158 x128000 x4).f1)) else (if ((rd_T158 x128000 x4).f0) > 4 then (spec_SelectorOk.j2 k x3 x4 true x128000 ((rd_T158 x128000 x4).f0) ((rd_T158 x128000 x4).f1)) else (if (((rd_T158 x128000 x4).f1).length : Int) < 1 then (spec_SelectorOk.j2 k x3 x4 true x128000 ((rd_T158 x128000 x4).f0) ((rd_T158 x128000 x4).f1)) else (spec_SelectorOk.j2 k x3 x4 (decide ((((rd_T158 x128000 x4).f1).length : Int) > 20)) x128000 ((rd_T158 x128000 x4).f0) ((rd_T158 x128000 x4).f1)))))) else (none)) else (none)) else (some true)
def spec_SelectorOk.j2 : Nat → Int → Int → Bool → List (S158) → Int → List (S164) → Option (Bool)
  | 0, _, _, _, _, _, _ => none
  | k + 1, x3, x4, x53, x128000, x130000, x130001 => if x53 = true then (some false) else (spec_SelectorOk.l1 k x3 x4 0 x128000 x130000 x130001)
def spec_SelectorOk.l1 : Nat → Int → Int → Int → List (S158) → Int → List (S164) → Option (Bool)
  | 0, _, _, _, _, _, _ => none
  | k + 1, x3, x4, x6, x128000, x130000, x130001 => if x6 < (x130001.length : Int) then (if 0 ≤ x6 then ((spec_l8SimpleOk.f k ((rd_T164 x130001 x6).f0.f0) ((rd_T164 x130001 x6).f0.f1) ((rd_T164 x130001 x6).f0.f2) ((rd_T164 x130001 x6).f0.f3) ((rd_T164 x130001 x6).f0.f4) ((rd_T164 x130001 x6).f1) (x6 == 0)).bind fun t131 => (if t131 = true then (spec_SelectorOk.l1 k x3 x4 (wrap64 (x6 + 1)) x128000 x130000 x130001) else (some false))) else (none)) else (spec_SelectorOk.l0 k x3 (wrap64 (x4 + 1)) x128000)
end
def spec_SelectorOk.f (k : Nat) (l0_0 : List (S158)) : Option (Bool) := if (l0_0.length : Int) < 1 then (spec_SelectorOk.j0 k (l0_0.length : Int) true l0_0) else (spec_SelectorOk.j0 k (l0_0.length : Int) (decide ((l0_0.length : Int) > 20)) l0_0)
theorem spec_SelectorOk.mono_l : ∀ k, (∀ y0 y1 y2, LeO (spec_SelectorOk.j0 k y0 y1 y2) (spec_SelectorOk.j0 (k + 1) y0 y1 y2)) ∧ (∀ y0 y1 y2, LeO (spec_SelectorOk.l0 k y0 y1 y2) (spec_SelectorOk.l0 (k + 1) y0 y1 y2)) ∧ (∀ y0 y1 y2 y3 y4 y5, LeO (spec_SelectorOk.j2 k y0 y1 y2 y3 y4 y5) (spec_SelectorOk.j2 (k + 1) y0 y1 y2 y3 y4 y5)) ∧ (∀ y0 y1 y2 y3 y4 y5, LeO (spec_SelectorOk.l1 k y0 y1 y2 y3 y4 y5) (spec_SelectorOk.l1 (k + 1) y0 y1 y2 y3 y4 y5))
 | 0 => ⟨fun _ _ _ r h => by simp [spec_SelectorOk.j0] at h, fun _ _ _ r h => by simp [spec_SelectorOk.l0] at h, fun _ _ _ _ _ _ r h => by simp [spec_SelectorOk.j2] at h, fun _ _ _ _ _ _ r h => by simp [spec_SelectorOk.l1] at h⟩
 | k + 1 => by
  obtain ⟨ih0, ih1, ih2, ih3⟩ := spec_SelectorOk.mono_l k
  refine ⟨?_, ?_, ?_, ?_⟩
  ·intro y0 y1 y2
   unfold spec_SelectorOk.j0
   repeat' first
  |(with_reducible exact ih0 _ _ _)
  |(with_reducible exact ih1 _ _ _)
  |(with_reducible exact ih2 _ _ _ _ _ _)
  |(with_reducible exact ih3 _ _ _ _ _ _)
  |(with_reducible exact spec_l8SimpleOk.mono _ _ _ _ _ _ _ _)
  |(with_reducible exact LeO.refl _)
  |(with_reducible exact LeO.none _)
  |(with_reducible refine LeO.ite ?_ ?_)
  |(with_reducible refine LeO.bind ?_ (fun _ => ?_))
  |exact ih0 _ _ _
  |exact ih1 _ _ _
  |exact ih2 _ _ _ _ _ _
  |exact ih3 _ _ _ _ _ _
  |exact spec_l8SimpleOk.mono _ _ _ _ _ _ _ _
  |exact LeO.none _
  |refine LeO.ite ?_ ?_
  |refine LeO.bind ?_ (fun _ => ?_)
  ·intro y0 y1 y2
   unfold spec_SelectorOk.l0
   repeat' first
  |(with_reducible exact ih0 _ _ _)
  |(with_reducible exact ih1 _ _ _)
  |(with_reducible exact ih2 _ _ _ _ _ _)
  |(with_reducible exact ih3 _ _ _ _ _ _)
  |(with_reducible exact spec_l8SimpleOk.mono _ _ _ _ _ _ _ _)
  |(with_reducible exact LeO.refl _)
  |(with_reducible exact LeO.none _)
  |(with_reducible refine LeO.ite ?_ ?_)
  |(with_reducible refine LeO.bind ?_ (fun _ => ?_))
  |exact ih0 _ _ _
  |exact ih1 _ _ _
  |exact ih2 _ _ _ _ _ _
  |exact ih3 _ _ _ _ _ _
  |exact spec_l8SimpleOk.mono _ _ _ _ _ _ _ _
  |exact LeO.none _
  |refine LeO.ite ?_ ?_
  |refine LeO.bind ?_ (fun _ => ?_)
  ·intro y0 y1 y2 y3 y4 y5
   unfold spec_SelectorOk.j2
   repeat' first
  |(with_reducible exact ih0 _ _ _)
  |(with_reducible exact ih1 _ _ _)
  |(with_reducible exact ih2 _ _ _ _ _ _)
  |(with_reducible exact ih3 _ _ _ _ _ _)
  |(with_reducible exact spec_l8SimpleOk.mono _ _ _ _ _ _ _ _)
  |(with_reducible exact LeO.refl _)
  |(with_reducible exact LeO.none _)
  |(with_reducible refine LeO.ite ?_ ?_)
  |(with_reducible refine LeO.bind ?_ (fun _ => ?_))
  |exact ih0 _ _ _
  |exact ih1 _ _ _
  |exact ih2 _ _ _ _ _ _
  |exact ih3 _ _ _ _ _ _
  |exact spec_l8SimpleOk.mono _ _ _ _ _ _ _ _
  |exact LeO.none _
  |refine LeO.ite ?_ ?_
  |refine LeO.bind ?_ (fun _ => ?_)
  ·intro y0 y1 y2 y3 y4 y5
   unfold spec_SelectorOk.l1
   repeat' first
  |(with_reducible exact ih0 _ _ _)
  |(with_reducible exact ih1 _ _ _)
  |(with_reducible exact ih2 _ _ _ _ _ _)
  |(with_reducible exact ih3 _ _ _ _ _ _)
  |(with_reducible exact spec_l8SimpleOk.mono _ _ _ _ _ _ _ _)
  |(with_reducible exact LeO.refl _)
  |(with_reducible exact LeO.none _)
  |(with_reducible refine LeO.ite ?_ ?_)
  |(with_reducible refine LeO.bind ?_ (fun _ => ?_))
  |exact ih0 _ _ _
  |exact ih1 _ _ _
  |exact ih2 _ _ _ _ _ _
  |exact ih3 _ _ _ _ _ _
  |exact spec_l8SimpleOk.mono _ _ _ _ _ _ _ _
  |exact LeO.none _
  |refine LeO.ite ?_ ?_
  |refine LeO.bind ?_ (fun _ => ?_)
theorem spec_SelectorOk.mono : ∀ a0 k, LeO (spec_SelectorOk.f k a0) (spec_SelectorOk.f (k + 1) a0) := by
 intro a0 k
 obtain ⟨ih0, ih1, ih2, ih3⟩ := spec_SelectorOk.mono_l k
 unfold spec_SelectorOk.f
 repeat' first
  |(with_reducible exact ih0 _ _ _)
  |(with_reducible exact ih1 _ _ _)
  |(with_reducible exact ih2 _ _ _ _ _ _)
  |(with_reducible exact ih3 _ _ _ _ _ _)
  |(with_reducible exact spec_l8SimpleOk.mono _ _ _ _ _ _ _ _)
  |(with_reducible exact LeO.refl _)
  |(with_reducible exact LeO.none _)
  |(with_reducible refine LeO.ite ?_ ?_)
  |(with_reducible refine LeO.bind ?_ (fun _ => ?_))
  |exact ih0 _ _ _
  |exact ih1 _ _ _
  |exact ih2 _ _ _ _ _ _
  |exact ih3 _ _ _ _ _ _
  |exact spec_l8SimpleOk.mono _ _ _ _ _ _ _ _
  |exact LeO.none _
  |refine LeO.ite ?_ ?_
  |refine LeO.bind ?_ (fun _ => ?_)
set_option maxHeartbeats 8000000 in
set_option maxRecDepth 100000 in
theorem spec_SelectorOk.calls (k : Nat) (A0_0 : Option Addr) (c0_0 : Nat) (l0_0 : List (S158)) (r : Bool) (w : World) (hr0_0 : Kd.C k158 w A0_0 l0_0.length l0_0) (hc0_0 : l0_0.length ≤ c0_0) (h : spec_SelectorOk.f k l0_0 = some r) :
  Calls Try.prog 48 #[.agg #[.slice A0_0 l0_0.length c0_0]] w fun e w' => e = .returned (.bool r) ∧ Below w.heap.size w w' := by
 have hu82 := Try.underlying82
 have hu158 := Try.underlying158
 have hu164 := Try.underlying164
 have HR0_0 := Aside0.mk hr0_0
 have HC0_0 := Aside0.mk hc0_0
 clear hr0_0 hc0_0
 have HB := Aside0.mk (Below.refl w.heap.size w)
 have H : (if (l0_0.length : Int) < 1 then (spec_SelectorOk.j0 k (l0_0.length : Int) true l0_0) else (spec_SelectorOk.j0 k (l0_0.length : Int) (decide ((l0_0.length : Int) > 20)) l0_0)) = some r := h
 clear h
 have HC2 := Aside0.mk H
 clear H
 go_enter Try.func48, Try.ntmps48
 go_upto_region 2 with (first|((with_reducible refine gate_dst (N := 1) rfl ?_);(try (refine gate_guard (by rfl) ?_;dsimp only));refine box_event ?hg (N := 1) ?hd (cs := #[.slice A0_0 l0_0.length c0_0]) (t := 82) ?hr ?_;(case hd => rfl);(case hg => rfl);(case hr => first|(go_simp;done)|(go_simp;rfl));intro gb127 hg w3 hbox hb;have n0_ := Aside0.mk (below_step (by repeat (first|(with_reducible first|exact HB.out|apply below_alloc|apply pw_below_drewN|apply below_drew1)|exact HB.out)) hb);have n1_ := Aside0.mk (hbox);have n2_ := Aside0.mk ((by rw [hg];exact (below_size (by repeat (first|(with_reducible first|exact HB.out|apply below_alloc|apply pw_below_drewN|apply below_drew1)|exact HB.out))) : w.heap.size ≤ gb127));have n3_ := Aside0.mk ((by rw [hg];exact (below_size (by repeat (first|(with_reducible first|exact HB.out|apply below_alloc|apply pw_below_drewN|apply below_drew1)|exact HB.out))) : w.heap.size ≤ gb127));clear HB;have HB := n0_;have BK127 := n1_;have GW127 := n2_;have GE127 := n3_;clear n0_ n1_ n2_ n3_;clear hb hbox hg;have hcz4_0 : w3.cell? ⟨gb127, 0, none⟩ = some (.slice A0_0 l0_0.length c0_0) := (blk_cell BK127.out 0).trans rfl;have hfz4_0 := blk_frozen BK127.out 0))
 (try simp only [Act.put, List.setIfInBounds_toArray, List.set_cons_zero, List.set_cons_succ])
 go_cut [15] (fun v15 wc => ∃ (kq : Nat) (x15_1 : Bool), v15 = .bool x15_1 ∧ Aside0 (spec_SelectorOk.j0 kq (l0_0.length : Int) x15_1 l0_0 = some r) ∧ Aside0 (kq ≤ k) ∧ Aside0 (wc.heap[gb127]? = some (.cells #[(.slice A0_0 l0_0.length c0_0)] 82 (0, 0))) ∧ Aside0 (Below w.heap.size w wc))
 case first =>
  have H := HC2.out
  clear HC2
  by_cases c5 : (l0_0.length : Int) < 1
  ·rw [if_pos c5] at H
   have c5b0 : decide ((l0_0.length : Int) < 1) = true := decide_eq_true c5
   have c5b1 : decide (l0_0.length < 1) = true := decide_eq_true (by omega)
   clear c5
   (first|rw [c5b0]|(simp only [i64_w, i32_w];rw [c5b0])|skip)
   have H' := Aside0.mk H
   clear H
   go_wp2
   go_meet
   case rel => exact ⟨_, (true),(by first|rfl|(simp;done)|(simp [*];done)), H', ⟨by first|omega|exact Nat.le_refl _⟩,⟨by (with_reducible repeat (first|refine blk_drewN ?_ _|refine blk_drew ?_|refine blk_alloc ?_ _));exact BK127.out⟩,⟨by repeat (first|(with_reducible first|exact HB.out|apply below_alloc|apply pw_below_drewN|apply below_drew1|refine below_set ?_ GE127.out)|exact HB.out)⟩⟩
  ·rw [if_neg c5] at H
   have c5b0 : decide ((l0_0.length : Int) < 1) = false := decide_eq_false c5
   have c5b1 : decide (l0_0.length < 1) = false := decide_eq_false (by omega)
   clear c5
   (first|rw [c5b0]|(simp only [i64_w, i32_w];rw [c5b0])|skip)
   have H' := Aside0.mk H
   clear H
   go_wp2
   go_meet
   case rel => exact ⟨_, (decide ((l0_0.length : Int) > 20)),(by first|rfl|(simp;done)|(simp [*];done)), H', ⟨by first|omega|exact Nat.le_refl _⟩,⟨by (with_reducible repeat (first|refine blk_drewN ?_ _|refine blk_drew ?_|refine blk_alloc ?_ _));exact BK127.out⟩,⟨by repeat (first|(with_reducible first|exact HB.out|apply below_alloc|apply pw_below_drewN|apply below_drew1|refine below_set ?_ GE127.out)|exact HB.out)⟩⟩
 case rest =>
  clear HC2
  try clear p2;try clear c4;try clear c5;try clear c5b0;try clear c5b1;try clear hcz4_0;try clear hfz4_0
  obtain ⟨kq, x15_1, rfl, HA, HJ1, BK127, HB⟩ := hcut
  cases kq with
 |zero => exact absurd HA.out (by simp [spec_SelectorOk.j0])
 |succ kj1 =>
   have H := HA.out
   clear HA
   simp only [spec_SelectorOk.j0] at H
   by_cases c6 : x15_1 = true
   ·subst c6
    have H1 : (some false) = some r := by rw [if_pos rfl] at H;exact H
    clear H
    have H := H1
    clear H1
    obtain rfl := Option.some.inj H
    go_wp2
    go_ret
    exact ⟨by first|rfl|(simp [errW_none, errW_some] <;> rfl)|(simp [*, errW_none, errW_some] <;> rfl), by repeat (first|(with_reducible first|exact HB.out|apply below_alloc|apply pw_below_drewN|apply below_drew1|refine below_set ?_ GE127.out)|exact HB.out)⟩
   ·replace c6 := Bool.eq_false_iff.mpr c6
    subst c6
    have H1 : (spec_SelectorOk.l0 kj1 (l0_0.length : Int) 0 l0_0) = some r := by rw [if_neg (show ¬ (false = true) by decide)] at H;exact H
    clear H
    have H := H1
    clear H1
    have H' := Aside0.mk H
    clear H
    go_wp2
    go_loopg [4] kj1 (fun kq v4 w' => ∃ (x4_2 : Int), v4 = .int .i64 x4_2 ∧ Aside0 (spec_SelectorOk.l0 kq (l0_0.length : Int) x4_2 l0_0 = some r) ∧ Aside0 (kq ≤ kj1) ∧ Aside0 (w'.heap[gb127]? = some (.cells #[(.slice A0_0 l0_0.length c0_0)] 82 (0, 0))) ∧ Aside0 (Below w.heap.size w w'))
    case atStart => exact ⟨(0),(by first|rfl|(simp;done)|(simp [*];done)), H', ⟨Nat.le_refl _⟩,⟨by (with_reducible repeat (first|refine blk_drewN ?_ _|refine blk_drew ?_|refine blk_alloc ?_ _));exact BK127.out⟩,⟨by repeat (first|(with_reducible first|exact HB.out|apply below_alloc|apply pw_below_drewN|apply below_drew1|refine below_set ?_ GE127.out)|exact HB.out)⟩⟩
    case round =>
     clear H'
     try clear p2;try clear c4;try clear c5;try clear c5b0;try clear c5b1;try clear c6;try clear hcz4_0;try clear hfz4_0;try clear p2
     obtain ⟨x4_2, rfl, HA, HK2, BK127, HB⟩ := hrel
     cases gk with
    |zero => exact absurd HA.out (by simp [spec_SelectorOk.l0])
    |succ k2 =>
      have H := HA.out
      clear HA
      simp only [spec_SelectorOk.l0] at H
      by_cases c7 : x4_2 < (l0_0.length : Int)
      ·rw [if_pos c7] at H
       have c7b0 : decide (x4_2 < (l0_0.length : Int)) = true := decide_eq_true c7
       clear c7
       by_cases c8 : 0 ≤ x4_2
       ·rw [if_pos c8] at H
        have c8b0 : decide (0 ≤ x4_2) = true := decide_eq_true c8
        clear c8
        by_cases c9 : x4_2 < (l0_0.length : Int)
        ·rw [if_pos c9] at H
         have c9b0 : decide (x4_2 < (l0_0.length : Int)) = true := decide_eq_true c9
         clear c9
         have HC10 := Aside0.mk H
         clear H
         have hcz11_0 : wr.cell? ⟨gb127, 0, none⟩ = some (.slice A0_0 l0_0.length c0_0) := (blk_cell BK127.out 0).trans rfl
         have hfz11_0 := blk_frozen BK127.out 0
         have p128 : 0 ≤ (x4_2 : Int) := of_decide_eq_true (by first|(with_reducible assumption)|assumption)
         have q128 : x4_2 < (l0_0.length : Int) := of_decide_eq_true (by first|(with_reducible assumption)|assumption)
         obtain ⟨ad128, A128_1, c128_1, e128, hx128_0, hx128_1, hl128_1, hi128_1⟩ := at_T158 HR0_0.out x4_2 p128 q128
         cases e128
         replace hx128_0 := (HB.out.cell (World.block_lt_of_cell? w _ hx128_0)).trans hx128_0
         replace hx128_1 := (HB.out.cell (World.block_lt_of_cell? w _ hx128_1)).trans hx128_1
         have HR128_1 := Aside0.mk hi128_1
         have HC128_1 := Aside0.mk hl128_1
         clear hi128_1 hl128_1
         replace p128 := eq_true p128
         replace q128 := eq_true q128
         go_upto_region 8 with (first|((with_reducible refine gate_dst (N := 5) rfl ?_);(try (refine gate_guard (by rfl) ?_;dsimp only));refine box_event ?hg (N := 5) ?hd (cs := #[.int .i64 0, .slice none 0 0]) (t := 158) ?hr ?_;(case hd => rfl);(case hg => rfl);(case hr => first|(go_simp;done)|(go_simp;rfl));intro gb129 hg w12 hbox hb;have n0_ := Aside0.mk (blk_below (g := gb127) (o := .cells #[.slice (some ad128) l0_0.length c0_0] 82 (0, 0)) (by (with_reducible repeat (first|refine blk_drewN ?_ _|refine blk_drew ?_|refine blk_alloc ?_ _));exact BK127.out) hb);have n1_ := Aside0.mk (below_step (by repeat (first|(with_reducible first|exact HB.out|apply below_alloc|apply pw_below_drewN|apply below_drew1|refine below_set ?_ GE127.out)|exact HB.out)) hb);have n2_ := Aside0.mk (hbox);have n3_ := Aside0.mk ((by rw [hg];exact (below_size (by repeat (first|(with_reducible first|exact HB.out|apply below_alloc|apply pw_below_drewN|apply below_drew1|refine below_set ?_ GE127.out)|exact HB.out))) : w.heap.size ≤ gb129));have n4_ := Aside0.mk ((by rw [hg];exact (below_size (by repeat (first|(with_reducible first|exact HB.out|apply below_alloc|apply pw_below_drewN|apply below_drew1|refine below_set ?_ GE127.out)|exact HB.out))) : w.heap.size ≤ gb129));have n5_ := Aside0.mk ((by rw [hg];exact Nat.ne_of_lt (blk_lt (g := gb127) (o := .cells #[.slice (some ad128) l0_0.length c0_0] 82 (0, 0)) (by (with_reducible repeat (first|refine blk_drewN ?_ _|refine blk_drew ?_|refine blk_alloc ?_ _));exact BK127.out)) : gb127 ≠ gb129));have n6_ := Aside0.mk ((by rw [hg];exact Nat.ne_of_gt (blk_lt (g := gb127) (o := .cells #[.slice (some ad128) l0_0.length c0_0] 82 (0, 0)) (by (with_reducible repeat (first|refine blk_drewN ?_ _|refine blk_drew ?_|refine blk_alloc ?_ _));exact BK127.out)) : gb129 ≠ gb127));clear BK127;clear HB;have BK127 := n0_;have HB := n1_;have BK129 := n2_;have GW129 := n3_;have GE129 := n4_;have NB127_129 := n5_;have NB129_127 := n6_;clear n0_ n1_ n2_ n3_ n4_ n5_ n6_;clear hb hbox hg;have hnb13 := NB129_127.out;have hnc13 := NB127_129.out;have hcz14_0 : w12.cell? ⟨gb129, 0, none⟩ = some (.int .i64 0) := (blk_cell BK129.out 0).trans rfl;have hcz14_1 : w12.cell? ⟨gb129, 1, none⟩ = some (.slice none 0 0) := (blk_cell BK129.out 1).trans rfl;have hfz14_0 := blk_frozen BK129.out 0;have hfz14_1 := blk_frozen BK129.out 1))
         (try simp only [Act.put, List.setIfInBounds_toArray, List.set_cons_zero, List.set_cons_succ])
         go_cut [53] (fun v53 wc => ∃ (kq : Nat) (x53_9 : Bool), v53 = .bool x53_9 ∧ Aside0 (spec_SelectorOk.j2 kq (l0_0.length : Int) x4_2 x53_9 l0_0 ((rd_T158 l0_0 x4_2).f0) ((rd_T158 l0_0 x4_2).f1) = some r) ∧ Aside0 (kq ≤ k2) ∧ Aside0 (wc.heap[gb127]? = some (.cells #[(.slice (some ad128) l0_0.length c0_0)] 82 (0, 0))) ∧ Aside0 (wc.heap[gb129]? = some (.cells #[.int .i64 ((rd_T158 l0_0 x4_2).f0),(.slice A128_1 ((rd_T158 l0_0 x4_2).f1).length c128_1)] 158 (0, 0))) ∧ Aside0 (Below w.heap.size w wc))
         case first =>
          have H := HC10.out
          clear HC10
          by_cases c15 : ((((rd_T158 l0_0 x4_2).f0) == 0) != (x4_2 == 0)) = true
          ·rw [if_pos c15] at H
           have c15b0 : ((((rd_T158 l0_0 x4_2).f0) == 0) != (x4_2 == 0)) = true := c15
           (try (have c15b1 : decide ((((rd_T158 l0_0 x4_2).f0) == 0) = (x4_2 == 0)) = false := by simpa using c15))
           (try (have c15b2 : ((((rd_T158 l0_0 x4_2).f0) == 0) == (x4_2 == 0)) = false := by simpa using c15))
           (try (have c15b3 : ¬ ((((rd_T158 l0_0 x4_2).f0) == 0) = (x4_2 == 0)) := by simpa using c15))
           clear c15
           (first|rw [c15b0]|(simp only [i64_w, i32_w];rw [c15b0])|skip)
           have H' := Aside0.mk H
           clear H
           have hnb16 := NB129_127.out
           have hnc16 := NB127_129.out
           have hcz17_0 : w12.cell? ⟨gb129, 0, none⟩ = some (.int .i64 0) := (blk_cell BK129.out 0).trans rfl
           have hcz17_1 : w12.cell? ⟨gb129, 1, none⟩ = some (.slice none 0 0) := (blk_cell BK129.out 1).trans rfl
           have hfz17_0 := blk_frozen BK129.out 0
           have hfz17_1 := blk_frozen BK129.out 1
           go_wp2
           go_meet
           case rel => exact ⟨_, (true),(by first|rfl|(simp;done)|(simp [*];done)), H', ⟨by have := HJ1.out;have := HK2.out;first|omega|exact Nat.le_refl _⟩,⟨by (with_reducible repeat (first|refine blk_drewN ?_ _|refine blk_drew ?_|refine blk_alloc ?_ _));refine blk_far ?_ NB127_129.out _;(with_reducible repeat (first|refine blk_drewN ?_ _|refine blk_drew ?_|refine blk_alloc ?_ _));refine blk_far ?_ NB127_129.out _;(with_reducible repeat (first|refine blk_drewN ?_ _|refine blk_drew ?_|refine blk_alloc ?_ _));exact BK127.out⟩,⟨by (with_reducible repeat (first|refine blk_drewN ?_ _|refine blk_drew ?_|refine blk_alloc ?_ _));refine blk_put (cs := #[.int .i64 ((rd_T158 l0_0 x4_2).f0), .slice none 0 0]) ?_ 1 _ rfl;(with_reducible repeat (first|refine blk_drewN ?_ _|refine blk_drew ?_|refine blk_alloc ?_ _));refine blk_put (cs := #[.int .i64 0, .slice none 0 0]) ?_ 0 _ rfl;(with_reducible repeat (first|refine blk_drewN ?_ _|refine blk_drew ?_|refine blk_alloc ?_ _));exact BK129.out⟩,⟨by repeat (first|(with_reducible first|exact HB.out|apply below_alloc|apply pw_below_drewN|apply below_drew1|refine below_set ?_ GE127.out|refine below_set ?_ GE129.out)|exact HB.out)⟩⟩
          ·rw [if_neg c15] at H
           have c15b0 : ((((rd_T158 l0_0 x4_2).f0) == 0) != (x4_2 == 0)) = false := by simpa using c15
           (try (have c15b1 : decide ((((rd_T158 l0_0 x4_2).f0) == 0) = (x4_2 == 0)) = true := by simpa using c15))
           (try (have c15b2 : ((((rd_T158 l0_0 x4_2).f0) == 0) == (x4_2 == 0)) = true := by simpa using c15))
           clear c15
           (first|rw [c15b0]|(simp only [i64_w, i32_w];rw [c15b0])|skip)
           by_cases c18 : ((rd_T158 l0_0 x4_2).f0) < 0
           ·rw [if_pos c18] at H
            have c18b0 : decide (((rd_T158 l0_0 x4_2).f0) < 0) = true := decide_eq_true c18
            clear c18
            have H' := Aside0.mk H
            clear H
            have hnb19 := NB129_127.out
            have hnc19 := NB127_129.out
            have hcz20_0 : w12.cell? ⟨gb129, 0, none⟩ = some (.int .i64 0) := (blk_cell BK129.out 0).trans rfl
            have hcz20_1 : w12.cell? ⟨gb129, 1, none⟩ = some (.slice none 0 0) := (blk_cell BK129.out 1).trans rfl
            have hfz20_0 := blk_frozen BK129.out 0
            have hfz20_1 := blk_frozen BK129.out 1
            go_wp2
            go_meet
            case rel => exact ⟨_, (true),(by first|rfl|(simp;done)|(simp [*];done)), H', ⟨by have := HJ1.out;have := HK2.out;first|omega|exact Nat.le_refl _⟩,⟨by (with_reducible repeat (first|refine blk_drewN ?_ _|refine blk_drew ?_|refine blk_alloc ?_ _));refine blk_far ?_ NB127_129.out _;(with_reducible repeat (first|refine blk_drewN ?_ _|refine blk_drew ?_|refine blk_alloc ?_ _));refine blk_far ?_ NB127_129.out _;(with_reducible repeat (first|refine blk_drewN ?_ _|refine blk_drew ?_|refine blk_alloc ?_ _));exact BK127.out⟩,⟨by (with_reducible repeat (first|refine blk_drewN ?_ _|refine blk_drew ?_|refine blk_alloc ?_ _));refine blk_put (cs := #[.int .i64 ((rd_T158 l0_0 x4_2).f0), .slice none 0 0]) ?_ 1 _ rfl;(with_reducible repeat (first|refine blk_drewN ?_ _|refine blk_drew ?_|refine blk_alloc ?_ _));refine blk_put (cs := #[.int .i64 0, .slice none 0 0]) ?_ 0 _ rfl;(with_reducible repeat (first|refine blk_drewN ?_ _|refine blk_drew ?_|refine blk_alloc ?_ _));exact BK129.out⟩,⟨by repeat (first|(with_reducible first|exact HB.out|apply below_alloc|apply pw_below_drewN|apply below_drew1|refine below_set ?_ GE127.out|refine below_set ?_ GE129.out)|exact HB.out)⟩⟩
           ·rw [if_neg c18] at H
            have c18b0 : decide (((rd_T158 l0_0 x4_2).f0) < 0) = false := decide_eq_false c18
            clear c18
            by_cases c21 : ((rd_T158 l0_0 x4_2).f0) > 4
            ·rw [if_pos c21] at H
             have c21b0 : decide (4 < ((rd_T158 l0_0 x4_2).f0)) = true := decide_eq_true c21
             clear c21
             have H' := Aside0.mk H
             clear H
             have hnb22 := NB129_127.out
             have hnc22 := NB127_129.out
             have hcz23_0 : w12.cell? ⟨gb129, 0, none⟩ = some (.int .i64 0) := (blk_cell BK129.out 0).trans rfl
             have hcz23_1 : w12.cell? ⟨gb129, 1, none⟩ = some (.slice none 0 0) := (blk_cell BK129.out 1).trans rfl
             have hfz23_0 := blk_frozen BK129.out 0
             have hfz23_1 := blk_frozen BK129.out 1
             go_wp2
             go_meet
             case rel => exact ⟨_, (true),(by first|rfl|(simp;done)|(simp [*];done)), H', ⟨by have := HJ1.out;have := HK2.out;first|omega|exact Nat.le_refl _⟩,⟨by (with_reducible repeat (first|refine blk_drewN ?_ _|refine blk_drew ?_|refine blk_alloc ?_ _));refine blk_far ?_ NB127_129.out _;(with_reducible repeat (first|refine blk_drewN ?_ _|refine blk_drew ?_|refine blk_alloc ?_ _));refine blk_far ?_ NB127_129.out _;(with_reducible repeat (first|refine blk_drewN ?_ _|refine blk_drew ?_|refine blk_alloc ?_ _));exact BK127.out⟩,⟨by (with_reducible repeat (first|refine blk_drewN ?_ _|refine blk_drew ?_|refine blk_alloc ?_ _));refine blk_put (cs := #[.int .i64 ((rd_T158 l0_0 x4_2).f0), .slice none 0 0]) ?_ 1 _ rfl;(with_reducible repeat (first|refine blk_drewN ?_ _|refine blk_drew ?_|refine blk_alloc ?_ _));refine blk_put (cs := #[.int .i64 0, .slice none 0 0]) ?_ 0 _ rfl;(with_reducible repeat (first|refine blk_drewN ?_ _|refine blk_drew ?_|refine blk_alloc ?_ _));exact BK129.out⟩,⟨by repeat (first|(with_reducible first|exact HB.out|apply below_alloc|apply pw_below_drewN|apply below_drew1|refine below_set ?_ GE127.out|refine below_set ?_ GE129.out)|exact HB.out)⟩⟩
            ·rw [if_neg c21] at H
             have c21b0 : decide (4 < ((rd_T158 l0_0 x4_2).f0)) = false := decide_eq_false c21
             clear c21
             by_cases c24 : (((rd_T158 l0_0 x4_2).f1).length : Int) < 1
             ·rw [if_pos c24] at H
              have c24b0 : decide ((((rd_T158 l0_0 x4_2).f1).length : Int) < 1) = true := decide_eq_true c24
              have c24b1 : decide (((rd_T158 l0_0 x4_2).f1).length < 1) = true := decide_eq_true (by omega)
              clear c24
              have H' := Aside0.mk H
              clear H
              have hnb25 := NB129_127.out
              have hnc25 := NB127_129.out
              have hcz26_0 : w12.cell? ⟨gb129, 0, none⟩ = some (.int .i64 0) := (blk_cell BK129.out 0).trans rfl
              have hcz26_1 : w12.cell? ⟨gb129, 1, none⟩ = some (.slice none 0 0) := (blk_cell BK129.out 1).trans rfl
              have hfz26_0 := blk_frozen BK129.out 0
              have hfz26_1 := blk_frozen BK129.out 1
              go_wp2
              go_meet
              case rel => exact ⟨_, (true),(by first|rfl|(simp;done)|(simp [*];done)), H', ⟨by have := HJ1.out;have := HK2.out;first|omega|exact Nat.le_refl _⟩,⟨by (with_reducible repeat (first|refine blk_drewN ?_ _|refine blk_drew ?_|refine blk_alloc ?_ _));refine blk_far ?_ NB127_129.out _;(with_reducible repeat (first|refine blk_drewN ?_ _|refine blk_drew ?_|refine blk_alloc ?_ _));refine blk_far ?_ NB127_129.out _;(with_reducible repeat (first|refine blk_drewN ?_ _|refine blk_drew ?_|refine blk_alloc ?_ _));exact BK127.out⟩,⟨by (with_reducible repeat (first|refine blk_drewN ?_ _|refine blk_drew ?_|refine blk_alloc ?_ _));refine blk_put (cs := #[.int .i64 ((rd_T158 l0_0 x4_2).f0), .slice none 0 0]) ?_ 1 _ rfl;(with_reducible repeat (first|refine blk_drewN ?_ _|refine blk_drew ?_|refine blk_alloc ?_ _));refine blk_put (cs := #[.int .i64 0, .slice none 0 0]) ?_ 0 _ rfl;(with_reducible repeat (first|refine blk_drewN ?_ _|refine blk_drew ?_|refine blk_alloc ?_ _));exact BK129.out⟩,⟨by repeat (first|(with_reducible first|exact HB.out|apply below_alloc|apply pw_below_drewN|apply below_drew1|refine below_set ?_ GE127.out|refine below_set ?_ GE129.out)|exact HB.out)⟩⟩
             ·rw [if_neg c24] at H
              have c24b0 : decide ((((rd_T158 l0_0 x4_2).f1).length : Int) < 1) = false := decide_eq_false c24
              have c24b1 : decide (((rd_T158 l0_0 x4_2).f1).length < 1) = false := decide_eq_false (by omega)
              clear c24
              have H' := Aside0.mk H
              clear H
              have hnb27 := NB129_127.out
              have hnc27 := NB127_129.out
              have hcz28_0 : w12.cell? ⟨gb129, 0, none⟩ = some (.int .i64 0) := (blk_cell BK129.out 0).trans rfl
              have hcz28_1 : w12.cell? ⟨gb129, 1, none⟩ = some (.slice none 0 0) := (blk_cell BK129.out 1).trans rfl
              have hfz28_0 := blk_frozen BK129.out 0
              have hfz28_1 := blk_frozen BK129.out 1
              go_wp2
              go_meet
              case rel => exact ⟨_, (decide ((((rd_T158 l0_0 x4_2).f1).length : Int) > 20)),(by first|rfl|(simp;done)|(simp [*];done)), H', ⟨by have := HJ1.out;have := HK2.out;first|omega|exact Nat.le_refl _⟩,⟨by (with_reducible repeat (first|refine blk_drewN ?_ _|refine blk_drew ?_|refine blk_alloc ?_ _));refine blk_far ?_ NB127_129.out _;(with_reducible repeat (first|refine blk_drewN ?_ _|refine blk_drew ?_|refine blk_alloc ?_ _));refine blk_far ?_ NB127_129.out _;(with_reducible repeat (first|refine blk_drewN ?_ _|refine blk_drew ?_|refine blk_alloc ?_ _));exact BK127.out⟩,⟨by (with_reducible repeat (first|refine blk_drewN ?_ _|refine blk_drew ?_|refine blk_alloc ?_ _));refine blk_put (cs := #[.int .i64 ((rd_T158 l0_0 x4_2).f0), .slice none 0 0]) ?_ 1 _ rfl;(with_reducible repeat (first|refine blk_drewN ?_ _|refine blk_drew ?_|refine blk_alloc ?_ _));refine blk_put (cs := #[.int .i64 0, .slice none 0 0]) ?_ 0 _ rfl;(with_reducible repeat (first|refine blk_drewN ?_ _|refine blk_drew ?_|refine blk_alloc ?_ _));exact BK129.out⟩,⟨by repeat (first|(with_reducible first|exact HB.out|apply below_alloc|apply pw_below_drewN|apply below_drew1|refine below_set ?_ GE127.out|refine below_set ?_ GE129.out)|exact HB.out)⟩⟩
         case rest =>
          clear HC10
          try clear c1;try clear p1;try clear q1;try clear hx1;try clear c2;try clear p2;try clear c4;try clear c5;try clear c5b0;try clear c5b1;try clear c6;try clear c7;try clear c7b0;try clear c8;try clear c8b0;try clear c9;try clear c9b0;try clear c12;try clear p12;try clear q12;try clear hx12;try clear c13;try clear c15;try clear c15b0;try clear c15b1;try clear c15b2;try clear c16;try clear c18;try clear c18b0;try clear c19;try clear c21;try clear c21b0;try clear c22;try clear c24;try clear c24b0;try clear c24b1;try clear c25;try clear c27;try clear hcz11_0;try clear hcz14_0;try clear hcz14_1;try clear hcz17_0;try clear hcz17_1;try clear hcz20_0;try clear hcz20_1;try clear hcz23_0;try clear hcz23_1;try clear hcz26_0;try clear hcz26_1;try clear hcz28_0;try clear hcz28_1;try clear hcz4_0;try clear hfz11_0;try clear hfz14_0;try clear hfz14_1;try clear hfz17_0;try clear hfz17_1;try clear hfz20_0;try clear hfz20_1;try clear hfz23_0;try clear hfz23_1;try clear hfz26_0;try clear hfz26_1;try clear hfz28_0;try clear hfz28_1;try clear hfz4_0;try clear hx128_0;try clear hx128_1;try clear p128;try clear p2;try clear q128
          obtain ⟨kq, x53_9, rfl, HA, HJ9, BK127, BK129, HB⟩ := hcut
          cases kq with
         |zero => exact absurd HA.out (by simp [spec_SelectorOk.j2])
         |succ kj9 =>
           have H := HA.out
           clear HA
           simp only [spec_SelectorOk.j2] at H
           by_cases c29 : x53_9 = true
           ·subst c29
            have H1 : (some false) = some r := by rw [if_pos rfl] at H;exact H
            clear H
            have H := H1
            clear H1
            obtain rfl := Option.some.inj H
            go_wp2
            go_ret
            exact ⟨by first|rfl|(simp [errW_none, errW_some] <;> rfl)|(simp [*, errW_none, errW_some] <;> rfl), by repeat (first|(with_reducible first|exact HB.out|apply below_alloc|apply pw_below_drewN|apply below_drew1|refine below_set ?_ GE127.out|refine below_set ?_ GE129.out)|exact HB.out)⟩
           ·replace c29 := Bool.eq_false_iff.mpr c29
            subst c29
            have H1 : (spec_SelectorOk.l1 kj9 (l0_0.length : Int) x4_2 0 l0_0 ((rd_T158 l0_0 x4_2).f0) ((rd_T158 l0_0 x4_2).f1)) = some r := by rw [if_neg (show ¬ (false = true) by decide)] at H;exact H
            clear H
            have H := H1
            clear H1
            have H' := Aside0.mk H
            clear H
            go_wp2
            go_loopg [6] kj9 (fun kq v6 w' => ∃ (x6_4 : Int), v6 = .int .i64 x6_4 ∧ Aside0 (spec_SelectorOk.l1 kq (l0_0.length : Int) x4_2 x6_4 l0_0 ((rd_T158 l0_0 x4_2).f0) ((rd_T158 l0_0 x4_2).f1) = some r) ∧ Aside0 (kq ≤ kj9) ∧ Aside0 (w'.heap[gb127]? = some (.cells #[(.slice (some ad128) l0_0.length c0_0)] 82 (0, 0))) ∧ Aside0 (w'.heap[gb129]? = some (.cells #[.int .i64 ((rd_T158 l0_0 x4_2).f0),(.slice A128_1 ((rd_T158 l0_0 x4_2).f1).length c128_1)] 158 (0, 0))) ∧ Aside0 (Below w.heap.size w w'))
            case atStart => exact ⟨(0),(by first|rfl|(simp;done)|(simp [*];done)), H', ⟨Nat.le_refl _⟩,⟨by (with_reducible repeat (first|refine blk_drewN ?_ _|refine blk_drew ?_|refine blk_alloc ?_ _));exact BK127.out⟩,⟨by (with_reducible repeat (first|refine blk_drewN ?_ _|refine blk_drew ?_|refine blk_alloc ?_ _));exact BK129.out⟩,⟨by repeat (first|(with_reducible first|exact HB.out|apply below_alloc|apply pw_below_drewN|apply below_drew1|refine below_set ?_ GE127.out|refine below_set ?_ GE129.out)|exact HB.out)⟩⟩
            case round =>
             clear H'
             try clear c1;try clear p1;try clear q1;try clear hx1;try clear c2;try clear p2;try clear c4;try clear c5;try clear c5b0;try clear c5b1;try clear c6;try clear c7;try clear c7b0;try clear c8;try clear c8b0;try clear c9;try clear c9b0;try clear c12;try clear p12;try clear q12;try clear hx12;try clear c13;try clear c15;try clear c15b0;try clear c15b1;try clear c15b2;try clear c16;try clear c18;try clear c18b0;try clear c19;try clear c21;try clear c21b0;try clear c22;try clear c24;try clear c24b0;try clear c24b1;try clear c25;try clear c27;try clear c29;try clear hcz11_0;try clear hcz14_0;try clear hcz14_1;try clear hcz17_0;try clear hcz17_1;try clear hcz20_0;try clear hcz20_1;try clear hcz23_0;try clear hcz23_1;try clear hcz26_0;try clear hcz26_1;try clear hcz28_0;try clear hcz28_1;try clear hcz4_0;try clear hfz11_0;try clear hfz14_0;try clear hfz14_1;try clear hfz17_0;try clear hfz17_1;try clear hfz20_0;try clear hfz20_1;try clear hfz23_0;try clear hfz23_1;try clear hfz26_0;try clear hfz26_1;try clear hfz28_0;try clear hfz28_1;try clear hfz4_0;try clear hx128_0;try clear hx128_1;try clear p1;try clear p12;try clear p128;try clear p2;try clear q1;try clear q12;try clear q128
             obtain ⟨x6_4, rfl, HA, HK4, BK127, BK129, HB⟩ := hrel
             cases gk with
            |zero => exact absurd HA.out (by simp [spec_SelectorOk.l1])
            |succ k4 =>
              have H := HA.out
              clear HA
              simp only [spec_SelectorOk.l1] at H
              by_cases c30 : x6_4 < (((rd_T158 l0_0 x4_2).f1).length : Int)
              ·rw [if_pos c30] at H
               have c30b0 : decide (x6_4 < (((rd_T158 l0_0 x4_2).f1).length : Int)) = true := decide_eq_true c30
               clear c30
               by_cases c31 : 0 ≤ x6_4
               ·rw [if_pos c31] at H
                have c31b0 : decide (0 ≤ x6_4) = true := decide_eq_true c31
                clear c31
                replace H := Option.bind_eq_some_iff.mp H
                obtain ⟨t131, A320, H⟩ := H
                replace H : (if t131 = true then (spec_SelectorOk.l1 k4 (l0_0.length : Int) x4_2 (wrap64 (x6_4 + 1)) l0_0 ((rd_T158 l0_0 x4_2).f0) ((rd_T158 l0_0 x4_2).f1)) else (some false)) = some r := H
                have A32 := Aside0.mk A320
                clear A320
                by_cases c33 : t131 = true
                ·subst c33
                 have H1 : (spec_SelectorOk.l1 k4 (l0_0.length : Int) x4_2 (wrap64 (x6_4 + 1)) l0_0 ((rd_T158 l0_0 x4_2).f0) ((rd_T158 l0_0 x4_2).f1)) = some r := by rw [if_pos rfl] at H;exact H
                 clear H
                 have H := H1
                 clear H1
                 have H' := Aside0.mk H
                 clear H
                 have hnb34 := NB129_127.out
                 have hnc34 := NB127_129.out
                 have hcz35_0 : wr.cell? ⟨gb129, 0, none⟩ = some (.int .i64 ((rd_T158 l0_0 x4_2).f0)) := (blk_cell BK129.out 0).trans rfl
                 have hcz35_1 : wr.cell? ⟨gb129, 1, none⟩ = some (.slice A128_1 ((rd_T158 l0_0 x4_2).f1).length c128_1) := (blk_cell BK129.out 1).trans rfl
                 have hfz35_0 := blk_frozen BK129.out 0
                 have hfz35_1 := blk_frozen BK129.out 1
                 have p130 : 0 ≤ (x6_4 : Int) := of_decide_eq_true (by first|(with_reducible assumption)|assumption)
                 have q130 : x6_4 < (((rd_T158 l0_0 x4_2).f1).length : Int) := of_decide_eq_true (by first|(with_reducible assumption)|assumption)
                 obtain ⟨ad130, A130_5, c130_5, e130, hx130_0, hx130_1, hx130_2, hx130_3, hx130_4, hx130_5, hl130_5, hi130_5⟩ := at_T164 HR128_1.out x6_4 p130 q130
                 cases e130
                 replace hx130_0 := (HB.out.cell (World.block_lt_of_cell? w _ hx130_0)).trans hx130_0
                 replace hx130_1 := (HB.out.cell (World.block_lt_of_cell? w _ hx130_1)).trans hx130_1
                 replace hx130_2 := (HB.out.cell (World.block_lt_of_cell? w _ hx130_2)).trans hx130_2
                 replace hx130_3 := (HB.out.cell (World.block_lt_of_cell? w _ hx130_3)).trans hx130_3
                 replace hx130_4 := (HB.out.cell (World.block_lt_of_cell? w _ hx130_4)).trans hx130_4
                 replace hx130_5 := (HB.out.cell (World.block_lt_of_cell? w _ hx130_5)).trans hx130_5
                 have HR130_5 := Aside0.mk hi130_5
                 have HC130_5 := Aside0.mk hl130_5
                 clear hi130_5 hl130_5
                 replace p130 := eq_true p130
                 replace q130 := eq_true q130
                 go_wp2_with (first|((with_reducible refine gate_callee (f := 103) rfl ?_);refine goesL_ (some 68) rfl rfl Try.func103 (by kernel_rfl) rfl #[.agg #[.int .i64 ((rd_T164 ((rd_T158 l0_0 x4_2).f1) x6_4).f0.f0), .string ((rd_T164 ((rd_T158 l0_0 x4_2).f1) x6_4).f0.f1), .string ((rd_T164 ((rd_T158 l0_0 x4_2).f1) x6_4).f0.f2), .int .i64 ((rd_T164 ((rd_T158 l0_0 x4_2).f1) x6_4).f0.f3), .int .i64 ((rd_T164 ((rd_T158 l0_0 x4_2).f1) x6_4).f0.f4), .slice A130_5 ((rd_T164 ((rd_T158 l0_0 x4_2).f1) x6_4).f1).length c130_5], .bool (x6_4 == 0)] rfl (by (try simp only [List.map_toArray, List.map_cons, List.map_nil]);first|done|rfl|(simp only [List.length_drop, List.length_take];rfl)) ?_;(with_reducible refine (spec_l8SimpleOk.calls k4 ((rd_T164 ((rd_T158 l0_0 x4_2).f1) x6_4).f0.f0) ((rd_T164 ((rd_T158 l0_0 x4_2).f1) x6_4).f0.f1) ((rd_T164 ((rd_T158 l0_0 x4_2).f1) x6_4).f0.f2) ((rd_T164 ((rd_T158 l0_0 x4_2).f1) x6_4).f0.f3) ((rd_T164 ((rd_T158 l0_0 x4_2).f1) x6_4).f0.f4) _ _ ((rd_T164 ((rd_T158 l0_0 x4_2).f1) x6_4).f1) (x6_4 == 0) true _ ?side1 ?side2 A32.out).mono ?_);(case side1 => repeat (first|exact (Kd.C_below HR130_5.out HB.out)|(with_reducible refine Kd.C_alloc ?_ _)|(with_reducible refine Kd.C_drewN ?_ _)|(with_reducible refine Kd.C_drew ?_)));(case side2 => exact HC130_5.out);rintro e w36 ⟨rfl, hb⟩;refine ⟨_, rfl, ?_⟩;have n0_ := Aside0.mk (blk_below (g := gb127) (o := .cells #[.slice (some ad128) l0_0.length c0_0] 82 (0, 0)) (by (with_reducible repeat (first|refine blk_drewN ?_ _|refine blk_drew ?_|refine blk_alloc ?_ _));exact BK127.out) hb);have n1_ := Aside0.mk (blk_below (g := gb129) (o := .cells #[.int .i64 ((rd_T158 l0_0 x4_2).f0), .slice (some ad130) ((rd_T158 l0_0 x4_2).f1).length c128_1] 158 (0, 0)) (by (with_reducible repeat (first|refine blk_drewN ?_ _|refine blk_drew ?_|refine blk_alloc ?_ _));exact BK129.out) hb);have n2_ := Aside0.mk (below_step (by repeat (first|(with_reducible first|exact HB.out|apply below_alloc|apply pw_below_drewN|apply below_drew1|refine below_set ?_ GE127.out|refine below_set ?_ GE129.out)|exact HB.out)) hb);clear BK127;clear BK129;clear HB;have BK127 := n0_;have BK129 := n1_;have HB := n2_;clear n0_ n1_ n2_;(try clear hb);(try clear hb2);(try clear hk);(try clear hi)))
                 go_roundg k4
                 case measure => have := HJ1.out;have := HK2.out;have := HJ9.out;have := HK4.out;omega
                 case rel => exact ⟨(wrap64 (x6_4 + 1)),(by first|rfl|(simp;done)|(simp [*];done)), H', ⟨by have := HJ1.out;have := HK2.out;have := HJ9.out;have := HK4.out;omega⟩,⟨by (with_reducible repeat (first|refine blk_drewN ?_ _|refine blk_drew ?_|refine blk_alloc ?_ _));exact BK127.out⟩,⟨by (with_reducible repeat (first|refine blk_drewN ?_ _|refine blk_drew ?_|refine blk_alloc ?_ _));exact BK129.out⟩,⟨by repeat (first|(with_reducible first|exact HB.out|apply below_alloc|apply pw_below_drewN|apply below_drew1|refine below_set ?_ GE127.out|refine below_set ?_ GE129.out)|exact HB.out)⟩⟩
                ·replace c33 := Bool.eq_false_iff.mpr c33
                 subst c33
                 have H1 : (some false) = some r := by rw [if_neg (show ¬ (false = true) by decide)] at H;exact H
                 clear H
                 have H := H1
                 clear H1
                 obtain rfl := Option.some.inj H
                 have hnb37 := NB129_127.out
                 have hnc37 := NB127_129.out
                 have hcz38_0 : wr.cell? ⟨gb129, 0, none⟩ = some (.int .i64 ((rd_T158 l0_0 x4_2).f0)) := (blk_cell BK129.out 0).trans rfl
                 have hcz38_1 : wr.cell? ⟨gb129, 1, none⟩ = some (.slice A128_1 ((rd_T158 l0_0 x4_2).f1).length c128_1) := (blk_cell BK129.out 1).trans rfl
                 have hfz38_0 := blk_frozen BK129.out 0
                 have hfz38_1 := blk_frozen BK129.out 1
                 have p130 : 0 ≤ (x6_4 : Int) := of_decide_eq_true (by first|(with_reducible assumption)|assumption)
                 have q130 : x6_4 < (((rd_T158 l0_0 x4_2).f1).length : Int) := of_decide_eq_true (by first|(with_reducible assumption)|assumption)
                 obtain ⟨ad130, A130_5, c130_5, e130, hx130_0, hx130_1, hx130_2, hx130_3, hx130_4, hx130_5, hl130_5, hi130_5⟩ := at_T164 HR128_1.out x6_4 p130 q130
                 cases e130
                 replace hx130_0 := (HB.out.cell (World.block_lt_of_cell? w _ hx130_0)).trans hx130_0
                 replace hx130_1 := (HB.out.cell (World.block_lt_of_cell? w _ hx130_1)).trans hx130_1
                 replace hx130_2 := (HB.out.cell (World.block_lt_of_cell? w _ hx130_2)).trans hx130_2
                 replace hx130_3 := (HB.out.cell (World.block_lt_of_cell? w _ hx130_3)).trans hx130_3
                 replace hx130_4 := (HB.out.cell (World.block_lt_of_cell? w _ hx130_4)).trans hx130_4
                 replace hx130_5 := (HB.out.cell (World.block_lt_of_cell? w _ hx130_5)).trans hx130_5
                 have HR130_5 := Aside0.mk hi130_5
                 have HC130_5 := Aside0.mk hl130_5
                 clear hi130_5 hl130_5
                 replace p130 := eq_true p130
                 replace q130 := eq_true q130
                 go_wp2_with (first|((with_reducible refine gate_callee (f := 103) rfl ?_);refine goesL_ (some 68) rfl rfl Try.func103 (by kernel_rfl) rfl #[.agg #[.int .i64 ((rd_T164 ((rd_T158 l0_0 x4_2).f1) x6_4).f0.f0), .string ((rd_T164 ((rd_T158 l0_0 x4_2).f1) x6_4).f0.f1), .string ((rd_T164 ((rd_T158 l0_0 x4_2).f1) x6_4).f0.f2), .int .i64 ((rd_T164 ((rd_T158 l0_0 x4_2).f1) x6_4).f0.f3), .int .i64 ((rd_T164 ((rd_T158 l0_0 x4_2).f1) x6_4).f0.f4), .slice A130_5 ((rd_T164 ((rd_T158 l0_0 x4_2).f1) x6_4).f1).length c130_5], .bool (x6_4 == 0)] rfl (by (try simp only [List.map_toArray, List.map_cons, List.map_nil]);first|done|rfl|(simp only [List.length_drop, List.length_take];rfl)) ?_;(with_reducible refine (spec_l8SimpleOk.calls k4 ((rd_T164 ((rd_T158 l0_0 x4_2).f1) x6_4).f0.f0) ((rd_T164 ((rd_T158 l0_0 x4_2).f1) x6_4).f0.f1) ((rd_T164 ((rd_T158 l0_0 x4_2).f1) x6_4).f0.f2) ((rd_T164 ((rd_T158 l0_0 x4_2).f1) x6_4).f0.f3) ((rd_T164 ((rd_T158 l0_0 x4_2).f1) x6_4).f0.f4) _ _ ((rd_T164 ((rd_T158 l0_0 x4_2).f1) x6_4).f1) (x6_4 == 0) false _ ?side1 ?side2 A32.out).mono ?_);(case side1 => repeat (first|exact (Kd.C_below HR130_5.out HB.out)|(with_reducible refine Kd.C_alloc ?_ _)|(with_reducible refine Kd.C_drewN ?_ _)|(with_reducible refine Kd.C_drew ?_)));(case side2 => exact HC130_5.out);rintro e w39 ⟨rfl, hb⟩;refine ⟨_, rfl, ?_⟩;have n0_ := Aside0.mk (blk_below (g := gb127) (o := .cells #[.slice (some ad128) l0_0.length c0_0] 82 (0, 0)) (by (with_reducible repeat (first|refine blk_drewN ?_ _|refine blk_drew ?_|refine blk_alloc ?_ _));exact BK127.out) hb);have n1_ := Aside0.mk (blk_below (g := gb129) (o := .cells #[.int .i64 ((rd_T158 l0_0 x4_2).f0), .slice (some ad130) ((rd_T158 l0_0 x4_2).f1).length c128_1] 158 (0, 0)) (by (with_reducible repeat (first|refine blk_drewN ?_ _|refine blk_drew ?_|refine blk_alloc ?_ _));exact BK129.out) hb);have n2_ := Aside0.mk (below_step (by repeat (first|(with_reducible first|exact HB.out|apply below_alloc|apply pw_below_drewN|apply below_drew1|refine below_set ?_ GE127.out|refine below_set ?_ GE129.out)|exact HB.out)) hb);clear BK127;clear BK129;clear HB;have BK127 := n0_;have BK129 := n1_;have HB := n2_;clear n0_ n1_ n2_;(try clear hb);(try clear hb2);(try clear hk);(try clear hi)))
                 go_ret
                 exact ⟨by first|rfl|(simp [errW_none, errW_some] <;> rfl)|(simp [*, errW_none, errW_some] <;> rfl), by repeat (first|(with_reducible first|exact HB.out|apply below_alloc|apply pw_below_drewN|apply below_drew1|refine below_set ?_ GE127.out|refine below_set ?_ GE129.out)|exact HB.out)⟩
               ·rw [if_neg c31] at H
                exact absurd H (by simp)
              ·rw [if_neg c30] at H
               have c30b0 : decide (x6_4 < (((rd_T158 l0_0 x4_2).f1).length : Int)) = false := decide_eq_false c30
               clear c30
               have H' := Aside0.mk H
               clear H
               have hnb40 := NB129_127.out
               have hnc40 := NB127_129.out
               have hcz41_0 : wr.cell? ⟨gb129, 0, none⟩ = some (.int .i64 ((rd_T158 l0_0 x4_2).f0)) := (blk_cell BK129.out 0).trans rfl
               have hcz41_1 : wr.cell? ⟨gb129, 1, none⟩ = some (.slice A128_1 ((rd_T158 l0_0 x4_2).f1).length c128_1) := (blk_cell BK129.out 1).trans rfl
               have hfz41_0 := blk_frozen BK129.out 0
               have hfz41_1 := blk_frozen BK129.out 1
               go_wp2
               go_roundg k4
               case measure => have := HJ1.out;have := HK2.out;have := HJ9.out;have := HK4.out;omega
               case rel => exact ⟨(wrap64 (x4_2 + 1)),(by first|rfl|(simp;done)|(simp [*];done)), H', ⟨by have := HJ1.out;have := HK2.out;have := HJ9.out;have := HK4.out;omega⟩,⟨by (with_reducible repeat (first|refine blk_drewN ?_ _|refine blk_drew ?_|refine blk_alloc ?_ _));exact BK127.out⟩,⟨by repeat (first|(with_reducible first|exact HB.out|apply below_alloc|apply pw_below_drewN|apply below_drew1|refine below_set ?_ GE127.out|refine below_set ?_ GE129.out)|exact HB.out)⟩⟩
        ·rw [if_neg c9] at H
         exact absurd H (by simp)
       ·rw [if_neg c8] at H
        exact absurd H (by simp)
      ·rw [if_neg c7] at H
       have c7b0 : decide (x4_2 < (l0_0.length : Int)) = false := decide_eq_false c7
       clear c7
       obtain rfl := Option.some.inj H
       go_wp2
       go_ret
       exact ⟨by first|rfl|(simp [errW_none, errW_some] <;> rfl)|(simp [*, errW_none, errW_some] <;> rfl), by repeat (first|(with_reducible first|exact HB.out|apply below_alloc|apply pw_below_drewN|apply below_drew1|refine below_set ?_ GE127.out)|exact HB.out)⟩

/-! ### laws_toBasic: function 170 -/
def laws_toBasic.f (a0_0 : Int) (a0_1 : ByteArray) (a0_2 : ByteArray) (a0_3 : Int) (a0_4 : Int) : Option (Int × ByteArray × ByteArray × Int × Int) := some (a0_0, a0_1, a0_2, a0_3, a0_4)
set_option maxHeartbeats 8000000 in
set_option maxRecDepth 100000 in
theorem laws_toBasic.calls (a0_0 : Int) (a0_1 : ByteArray) (a0_2 : ByteArray) (a0_3 : Int) (a0_4 : Int) (r1 : Int) (r2 : ByteArray) (r3 : ByteArray) (r4 : Int) (r5 : Int) (w : World) (h : laws_toBasic.f a0_0 a0_1 a0_2 a0_3 a0_4 = some (r1, r2, r3, r4, r5)) :
  Calls Try.prog 170 #[.agg #[.int .i64 a0_0, .string a0_1, .string a0_2, .int .i64 a0_3, .int .i64 a0_4]] w fun e w' => e = .returned (.agg #[.int .i64 r1, .string r2, .string r3, .int .i64 r4, .int .i64 r5]) ∧ Below w.heap.size w w' := by
 have hu270 := Try.underlying270
 have hu161 := Try.underlying161
 have HB := Aside0.mk (Below.refl w.heap.size w)
 have H : (some (a0_0, a0_1, a0_2, a0_3, a0_4)) = some (r1, r2, r3, r4, r5) := h
 clear h
 simp only [Option.some.injEq, Prod.mk.injEq] at H
 obtain ⟨rfl, rfl, rfl, rfl, rfl⟩ := H
 go_enter Try.func170, Try.ntmps170
 go_wp2_with (first|((with_reducible refine gate_dst (N := 1) rfl ?_);refine box_event ?hg (N := 1) ?hd (cs := #[.int .i64 a0_0, .string a0_1, .string a0_2, .int .i64 a0_3, .int .i64 a0_4]) (t := 270) ?hr ?_;(case hd => rfl);(case hg => rfl);(case hr => first|(go_simp;done)|(go_simp;rfl));intro gb132 hg w2 hbox hb;have n0_ := Aside0.mk (below_step (by repeat (first|(with_reducible first|exact HB.out|apply below_alloc|apply pw_below_drewN|apply below_drew1)|exact HB.out)) hb);have n1_ := Aside0.mk (hbox);have n2_ := Aside0.mk ((by rw [hg];exact (below_size (by repeat (first|(with_reducible first|exact HB.out|apply below_alloc|apply pw_below_drewN|apply below_drew1)|exact HB.out))) : w.heap.size ≤ gb132));have n3_ := Aside0.mk ((by rw [hg];exact (below_size (by repeat (first|(with_reducible first|exact HB.out|apply below_alloc|apply pw_below_drewN|apply below_drew1)|exact HB.out))) : w.heap.size ≤ gb132));clear HB;have HB := n0_;have BK132 := n1_;have GW132 := n2_;have GE132 := n3_;clear n0_ n1_ n2_ n3_;clear hb hbox hg)|((with_reducible refine gate_dst (N := 2) rfl ?_);refine box_event ?hg (N := 2) ?hd (cs := #[.int .i64 0, .string (⟨#[]⟩ : ByteArray), .string (⟨#[]⟩ : ByteArray), .int .i64 0, .int .i64 0]) (t := 161) ?hr ?_;(case hd => rfl);(case hg => rfl);(case hr => first|(go_simp;done)|(go_simp;rfl));intro gb133 hg w3 hbox hb;have n0_ := Aside0.mk (blk_below (g := gb132) (o := .cells #[.int .i64 a0_0, .string a0_1, .string a0_2, .int .i64 a0_3, .int .i64 a0_4] 270 (0, 0)) (by (with_reducible repeat (first|refine blk_drewN ?_ _|refine blk_drew ?_|refine blk_alloc ?_ _));exact BK132.out) hb);have n1_ := Aside0.mk (below_step (by repeat (first|(with_reducible first|exact HB.out|apply below_alloc|apply pw_below_drewN|apply below_drew1|refine below_set ?_ GE132.out)|exact HB.out)) hb);have n2_ := Aside0.mk (hbox);have n3_ := Aside0.mk ((by rw [hg];exact (below_size (by repeat (first|(with_reducible first|exact HB.out|apply below_alloc|apply pw_below_drewN|apply below_drew1|refine below_set ?_ GE132.out)|exact HB.out))) : w.heap.size ≤ gb133));have n4_ := Aside0.mk ((by rw [hg];exact (below_size (by repeat (first|(with_reducible first|exact HB.out|apply below_alloc|apply pw_below_drewN|apply below_drew1|refine below_set ?_ GE132.out)|exact HB.out))) : w.heap.size ≤ gb133));have n5_ := Aside0.mk ((by rw [hg];exact Nat.ne_of_lt (blk_lt (g := gb132) (o := .cells #[.int .i64 a0_0, .string a0_1, .string a0_2, .int .i64 a0_3, .int .i64 a0_4] 270 (0, 0)) (by (with_reducible repeat (first|refine blk_drewN ?_ _|refine blk_drew ?_|refine blk_alloc ?_ _));exact BK132.out)) : gb132 ≠ gb133));have n6_ := Aside0.mk ((by rw [hg];exact Nat.ne_of_gt (blk_lt (g := gb132) (o := .cells #[.int .i64 a0_0, .string a0_1, .string a0_2, .int .i64 a0_3, .int .i64 a0_4] 270 (0, 0)) (by (with_reducible repeat (first|refine blk_drewN ?_ _|refine blk_drew ?_|refine blk_alloc ?_ _));exact BK132.out)) : gb133 ≠ gb132));clear BK132;clear HB;have BK132 := n0_;have HB := n1_;have BK133 := n2_;have GW133 := n3_;have GE133 := n4_;have NB132_133 := n5_;have NB133_132 := n6_;clear n0_ n1_ n2_ n3_ n4_ n5_ n6_;clear hb hbox hg)|((with_reducible refine gate_dst (N := 3) rfl ?_);refine box_event ?hg (N := 3) ?hd (cs := #[.int .i64 0, .string (⟨#[]⟩ : ByteArray), .string (⟨#[]⟩ : ByteArray), .int .i64 0, .int .i64 0]) (t := 161) ?hr ?_;(case hd => rfl);(case hg => rfl);(case hr => first|(go_simp;done)|(go_simp;rfl));intro gb134 hg w4 hbox hb;have n0_ := Aside0.mk (blk_below (g := gb132) (o := .cells #[.int .i64 a0_0, .string a0_1, .string a0_2, .int .i64 a0_3, .int .i64 a0_4] 270 (0, 0)) (by (with_reducible repeat (first|refine blk_drewN ?_ _|refine blk_drew ?_|refine blk_alloc ?_ _));exact BK132.out) hb);have n1_ := Aside0.mk (blk_below (g := gb133) (o := .cells #[.int .i64 0, .string (⟨#[]⟩ : ByteArray), .string (⟨#[]⟩ : ByteArray), .int .i64 0, .int .i64 0] 161 (0, 0)) (by (with_reducible repeat (first|refine blk_drewN ?_ _|refine blk_drew ?_|refine blk_alloc ?_ _));exact BK133.out) hb);have n2_ := Aside0.mk (below_step (by repeat (first|(with_reducible first|exact HB.out|apply below_alloc|apply pw_below_drewN|apply below_drew1|refine below_set ?_ GE132.out|refine below_set ?_ GE133.out)|exact HB.out)) hb);have n3_ := Aside0.mk (hbox);have n4_ := Aside0.mk ((by rw [hg];exact (below_size (by repeat (first|(with_reducible first|exact HB.out|apply below_alloc|apply pw_below_drewN|apply below_drew1|refine below_set ?_ GE132.out|refine below_set ?_ GE133.out)|exact HB.out))) : w.heap.size ≤ gb134));have n5_ := Aside0.mk ((by rw [hg];exact (below_size (by repeat (first|(with_reducible first|exact HB.out|apply below_alloc|apply pw_below_drewN|apply below_drew1|refine below_set ?_ GE132.out|refine below_set ?_ GE133.out)|exact HB.out))) : w.heap.size ≤ gb134));have n6_ := Aside0.mk ((by rw [hg];exact Nat.ne_of_lt (blk_lt (g := gb132) (o := .cells #[.int .i64 a0_0, .string a0_1, .string a0_2, .int .i64 a0_3, .int .i64 a0_4] 270 (0, 0)) (by (with_reducible repeat (first|refine blk_drewN ?_ _|refine blk_drew ?_|refine blk_alloc ?_ _));exact BK132.out)) : gb132 ≠ gb134));have n7_ := Aside0.mk ((by rw [hg];exact Nat.ne_of_gt (blk_lt (g := gb132) (o := .cells #[.int .i64 a0_0, .string a0_1, .string a0_2, .int .i64 a0_3, .int .i64 a0_4] 270 (0, 0)) (by (with_reducible repeat (first|refine blk_drewN ?_ _|refine blk_drew ?_|refine blk_alloc ?_ _));exact BK132.out)) : gb134 ≠ gb132));have n8_ := Aside0.mk ((by rw [hg];exact Nat.ne_of_lt (blk_lt (g := gb133) (o := .cells #[.int .i64 0, .string (⟨#[]⟩ : ByteArray), .string (⟨#[]⟩ : ByteArray), .int .i64 0, .int .i64 0] 161 (0, 0)) (by (with_reducible repeat (first|refine blk_drewN ?_ _|refine blk_drew ?_|refine blk_alloc ?_ _));exact BK133.out)) : gb133 ≠ gb134));have n9_ := Aside0.mk ((by rw [hg];exact Nat.ne_of_gt (blk_lt (g := gb133) (o := .cells #[.int .i64 0, .string (⟨#[]⟩ : ByteArray), .string (⟨#[]⟩ : ByteArray), .int .i64 0, .int .i64 0] 161 (0, 0)) (by (with_reducible repeat (first|refine blk_drewN ?_ _|refine blk_drew ?_|refine blk_alloc ?_ _));exact BK133.out)) : gb134 ≠ gb133));clear BK132;clear BK133;clear HB;have BK132 := n0_;have BK133 := n1_;have HB := n2_;have BK134 := n3_;have GW134 := n4_;have GE134 := n5_;have NB132_134 := n6_;have NB134_132 := n7_;have NB133_134 := n8_;have NB134_133 := n9_;clear n0_ n1_ n2_ n3_ n4_ n5_ n6_ n7_ n8_ n9_;clear hb hbox hg;have hnb5 := NB132_133.out;have hnc5 := NB133_132.out;have hnb6 := NB132_134.out;have hnc6 := NB134_132.out;have hcz7_0 : w4.cell? ⟨gb132, 0, none⟩ = some (.int .i64 a0_0) := (blk_cell BK132.out 0).trans rfl;have hcz7_1 : w4.cell? ⟨gb132, 1, none⟩ = some (.string a0_1) := (blk_cell BK132.out 1).trans rfl;have hcz7_2 : w4.cell? ⟨gb132, 2, none⟩ = some (.string a0_2) := (blk_cell BK132.out 2).trans rfl;have hcz7_3 : w4.cell? ⟨gb132, 3, none⟩ = some (.int .i64 a0_3) := (blk_cell BK132.out 3).trans rfl;have hcz7_4 : w4.cell? ⟨gb132, 4, none⟩ = some (.int .i64 a0_4) := (blk_cell BK132.out 4).trans rfl;have hfz7_0 := blk_frozen BK132.out 0;have hfz7_1 := blk_frozen BK132.out 1;have hfz7_2 := blk_frozen BK132.out 2;have hfz7_3 := blk_frozen BK132.out 3;have hfz7_4 := blk_frozen BK132.out 4;have hnb8 := NB134_133.out;have hnc8 := NB133_134.out;have hcz9_0 : w4.cell? ⟨gb134, 0, none⟩ = some (.int .i64 0) := (blk_cell BK134.out 0).trans rfl;have hcz9_1 : w4.cell? ⟨gb134, 1, none⟩ = some (.string (⟨#[]⟩ : ByteArray)) := (blk_cell BK134.out 1).trans rfl;have hcz9_2 : w4.cell? ⟨gb134, 2, none⟩ = some (.string (⟨#[]⟩ : ByteArray)) := (blk_cell BK134.out 2).trans rfl;have hcz9_3 : w4.cell? ⟨gb134, 3, none⟩ = some (.int .i64 0) := (blk_cell BK134.out 3).trans rfl;have hcz9_4 : w4.cell? ⟨gb134, 4, none⟩ = some (.int .i64 0) := (blk_cell BK134.out 4).trans rfl;have hfz9_0 := blk_frozen BK134.out 0;have hfz9_1 := blk_frozen BK134.out 1;have hfz9_2 := blk_frozen BK134.out 2;have hfz9_3 := blk_frozen BK134.out 3;have hfz9_4 := blk_frozen BK134.out 4;have hcz10_0 : w4.cell? ⟨gb133, 0, none⟩ = some (.int .i64 0) := (blk_cell BK133.out 0).trans rfl;have hcz10_1 : w4.cell? ⟨gb133, 1, none⟩ = some (.string (⟨#[]⟩ : ByteArray)) := (blk_cell BK133.out 1).trans rfl;have hcz10_2 : w4.cell? ⟨gb133, 2, none⟩ = some (.string (⟨#[]⟩ : ByteArray)) := (blk_cell BK133.out 2).trans rfl;have hcz10_3 : w4.cell? ⟨gb133, 3, none⟩ = some (.int .i64 0) := (blk_cell BK133.out 3).trans rfl;have hcz10_4 : w4.cell? ⟨gb133, 4, none⟩ = some (.int .i64 0) := (blk_cell BK133.out 4).trans rfl;have hfz10_0 := blk_frozen BK133.out 0;have hfz10_1 := blk_frozen BK133.out 1;have hfz10_2 := blk_frozen BK133.out 2;have hfz10_3 := blk_frozen BK133.out 3;have hfz10_4 := blk_frozen BK133.out 4))
 refine bodyPost_ret (results_cell_row rfl _ _ gb133 161 #[.int .i64 a0_0, .string a0_1, .string a0_2, .int .i64 a0_3, .int .i64 a0_4] (0, 0) _ rfl (by (with_reducible repeat (first|refine blk_drewN ?_ _|refine blk_drew ?_|refine blk_alloc ?_ _));refine blk_put (cs := #[.int .i64 a0_0, .string a0_1, .string a0_2, .int .i64 a0_3, .int .i64 0]) ?_ 4 _ rfl;(with_reducible repeat (first|refine blk_drewN ?_ _|refine blk_drew ?_|refine blk_alloc ?_ _));refine blk_put (cs := #[.int .i64 a0_0, .string a0_1, .string a0_2, .int .i64 0, .int .i64 0]) ?_ 3 _ rfl;(with_reducible repeat (first|refine blk_drewN ?_ _|refine blk_drew ?_|refine blk_alloc ?_ _));refine blk_put (cs := #[.int .i64 a0_0, .string a0_1, .string (⟨#[]⟩ : ByteArray), .int .i64 0, .int .i64 0]) ?_ 2 _ rfl;(with_reducible repeat (first|refine blk_drewN ?_ _|refine blk_drew ?_|refine blk_alloc ?_ _));refine blk_put (cs := #[.int .i64 a0_0, .string (⟨#[]⟩ : ByteArray), .string (⟨#[]⟩ : ByteArray), .int .i64 0, .int .i64 0]) ?_ 1 _ rfl;(with_reducible repeat (first|refine blk_drewN ?_ _|refine blk_drew ?_|refine blk_alloc ?_ _));refine blk_put (cs := #[.int .i64 0, .string (⟨#[]⟩ : ByteArray), .string (⟨#[]⟩ : ByteArray), .int .i64 0, .int .i64 0]) ?_ 0 _ rfl;(with_reducible repeat (first|refine blk_drewN ?_ _|refine blk_drew ?_|refine blk_alloc ?_ _));refine blk_far ?_ NB133_134.out _;(with_reducible repeat (first|refine blk_drewN ?_ _|refine blk_drew ?_|refine blk_alloc ?_ _));refine blk_far ?_ NB133_134.out _;(with_reducible repeat (first|refine blk_drewN ?_ _|refine blk_drew ?_|refine blk_alloc ?_ _));refine blk_far ?_ NB133_134.out _;(with_reducible repeat (first|refine blk_drewN ?_ _|refine blk_drew ?_|refine blk_alloc ?_ _));refine blk_far ?_ NB133_134.out _;(with_reducible repeat (first|refine blk_drewN ?_ _|refine blk_drew ?_|refine blk_alloc ?_ _));refine blk_far ?_ NB133_134.out _;(with_reducible repeat (first|refine blk_drewN ?_ _|refine blk_drew ?_|refine blk_alloc ?_ _));exact BK133.out) Try.underlying161 rfl (by kernel_rfl)) rfl ?_
 exact ⟨by first|rfl|(simp [errW_none, errW_some] <;> rfl)|(simp [*, errW_none, errW_some] <;> rfl), by repeat (first|(with_reducible first|exact HB.out|apply below_alloc|apply pw_below_drewN|apply below_drew1|refine below_set ?_ GE132.out|refine below_set ?_ GE133.out|refine below_set ?_ GE134.out)|exact HB.out)⟩

/-! ### laws_toBasicS: function 196 -/
def laws_toBasicS.l0 : Nat → List (S270) → List (S161) → Int → Option ((List (S161)))
  | 0, _, _, _ => none
  | k + 1, x0, x3, x4 => if x4 < (x0.length : Int) then (if 0 ≤ x4 then ((laws_toBasic.f ((rd_T270 x0 x4).f0) ((rd_T270 x0 x4).f1) ((rd_T270 x0 x4).f2) ((rd_T270 x0 x4).f3) ((rd_T270 x0 x4).f4)).bind fun bt139 => (if x4 < (x3.length : Int) then (laws_toBasicS.l0 k x0 (x3.set (x4 : Int).toNat (⟨bt139.1, bt139.2.1, bt139.2.2.1, bt139.2.2.2.1, bt139.2.2.2.2⟩ : S161)) (wrap64 (x4 + 1))) else (none))) else (none)) else (some x3)
def laws_toBasicS.f (k : Nat) (l0 : List (S270)) : Option ((List (S161))) := if 0 ≤ (l0.length : Int) then (if ((l0.length : Int) : Int).toNat ≤ 5026338869833 then (laws_toBasicS.l0 k l0 (List.replicate ((l0.length : Int) : Int).toNat z161) 0) else (none)) else (none)
theorem laws_toBasicS.mono_l : ∀ k, (∀ y0 y1 y2, LeO (laws_toBasicS.l0 k y0 y1 y2) (laws_toBasicS.l0 (k + 1) y0 y1 y2))
 | 0 => fun _ _ _ r h => by simp [laws_toBasicS.l0] at h
 | k + 1 => by
  have ih0 := laws_toBasicS.mono_l k
  ·intro y0 y1 y2
   unfold laws_toBasicS.l0
   repeat' first
  |(with_reducible exact ih0 _ _ _)
  |(with_reducible exact LeO.refl _)
  |(with_reducible exact LeO.none _)
  |(with_reducible refine LeO.ite ?_ ?_)
  |(with_reducible refine LeO.bind ?_ (fun _ => ?_))
  |exact ih0 _ _ _
  |exact LeO.none _
  |refine LeO.ite ?_ ?_
  |refine LeO.bind ?_ (fun _ => ?_)
theorem laws_toBasicS.mono : ∀ a0 k, LeO (laws_toBasicS.f k a0) (laws_toBasicS.f (k + 1) a0) := by
 intro a0 k
 have ih0 := laws_toBasicS.mono_l k
 unfold laws_toBasicS.f
 repeat' first
  |(with_reducible exact ih0 _ _ _)
  |(with_reducible exact LeO.refl _)
  |(with_reducible exact LeO.none _)
  |(with_reducible refine LeO.ite ?_ ?_)
  |(with_reducible refine LeO.bind ?_ (fun _ => ?_))
  |exact ih0 _ _ _
  |exact LeO.none _
  |refine LeO.ite ?_ ?_
  |refine LeO.bind ?_ (fun _ => ?_)
set_option maxHeartbeats 8000000 in
set_option maxRecDepth 100000 in
theorem laws_toBasicS.calls (k : Nat) (A0 : Option Addr) (c0 : Nat) (l0 : List (S270)) (r : List (S161)) (w : World) (hr0 : Kd.C k270 w A0 l0.length l0) (hc0 : l0.length ≤ c0) (h : laws_toBasicS.f k l0 = some r) :
  Calls Try.prog 196 #[.slice A0 l0.length c0] w fun e w' => ∃ v0_ : Value, e = .returned (v0_) ∧ Kd.R k161 161 w' w.heap.size (fun _ => True) v0_ r ∧ Below w.heap.size w w' := by
 have hu270 := Try.underlying270
 have hu161 := Try.underlying161
 have HR0 := Aside0.mk hr0
 have HC0 := Aside0.mk hc0
 clear hr0 hc0
 have HB := Aside0.mk (Below.refl w.heap.size w)
 have H : (if 0 ≤ (l0.length : Int) then (if ((l0.length : Int) : Int).toNat ≤ 5026338869833 then (laws_toBasicS.l0 k l0 (List.replicate ((l0.length : Int) : Int).toNat z161) 0) else (none)) else (none)) = some r := h
 clear h
 by_cases c2 : 0 ≤ (l0.length : Int)
 ·rw [if_pos c2] at H
  have c2b0 := eq_true c2
  have c2b1 : decide (0 ≤ (l0.length : Int)) = true := decide_eq_true c2
  clear c2
  by_cases c3 : ((l0.length : Int) : Int).toNat ≤ 5026338869833
  ·rw [if_pos c3] at H
   have c3b0 := eq_true c3
   have c3b1 : decide (((l0.length : Int) : Int).toNat ≤ 5026338869833) = true := decide_eq_true c3
   clear c3
   obtain ⟨y135, hy135⟩ : ∃ y_ : List (S161), y_ = (List.replicate ((l0.length : Int) : Int).toNat z161) := ⟨_, rfl⟩
   replace H : (laws_toBasicS.l0 k l0 y135 0) = some r := by first|(rw [hy135];with_reducible exact H)|(have H2_ := (Option.bind_some _ _).symm.trans H;rw [hy135];with_reducible exact H2_)|(have H2_ := (Option.bind_some _ _).symm.trans H;with_reducible exact H2_)|with_reducible exact H|(rw [hy135];exact H)|exact H
   have Ny135 := Aside0.mk hy135
   clear hy135
   have H' := Aside0.mk H
   clear H
   go_enter Try.func196, Try.ntmps196
   go_wp2_with (first|((with_reducible refine gate_dst (N := 7) rfl ?_);refine Kd.R_make k161 _ 161 rfl (N := 7) rfl 226 _ _ rfl (l0.length : Int) rfl rfl Try.underlying226 (.agg #[(.int .i64 0),(.string ⟨#[]⟩),(.string ⟨#[]⟩),(.int .i64 0),(.int .i64 0)]) 56 info161 rfl (by decide) (by omega) z161 (ok := fun _ => True) (okp := fun _ => True) (k161_mkM _ _ _ z161 ) (fun _ hk => hk) trivial (of_decide_eq_true (by first|(with_reducible assumption)|assumption)) (Nat.le_trans (Nat.mul_le_mul_right _ (of_decide_eq_true (by first|(with_reducible assumption)|assumption) : (l0.length : Int).toNat ≤ 5026338869833)) (by omega)) (Below.refl _ _) (Nat.le_refl _) ?_;intro v136 w4 ho5 hb hg_ hnew_;clear hg_ hnew_;(first|rw [← Ny135.out] at ho5|(simp only [Int.reduceToNat] at ho5;rw [← Ny135.out] at ho5));have n0_ := Aside0.mk (Kd.R_lower ho5 (below_size (by repeat (first|(with_reducible first|exact HB.out|apply below_alloc|apply pw_below_drewN|apply below_drew1)|exact HB.out))));have n1_ := Aside0.mk (below_step (by repeat (first|(with_reducible first|exact HB.out|apply below_alloc|apply pw_below_drewN|apply below_drew1)|exact HB.out)) hb);clear HB;have HO137 := n0_;have HB := n1_;clear n0_ n1_;clear hb ho5))
   go_loopg [4] k (fun kq v4 w' => ∃ (x3_1 : List (S161)) (x4_1 : Int), v4 = .int .i64 x4_1 ∧ Aside0 (laws_toBasicS.l0 kq l0 x3_1 x4_1 = some r) ∧ Aside0 (kq ≤ k) ∧ Aside0 (Kd.R k161 161 w' w.heap.size (fun _ => True) v136 x3_1) ∧ Aside0 (Below w.heap.size w w'))
   case atStart => exact ⟨(y135),(0),(by first|rfl|(simp;done)|(simp [*];done)), H', ⟨Nat.le_refl _⟩,⟨by (with_reducible repeat (first|apply Kd.R_alloc|apply Kd.R_drewN|apply Kd.R_drew));exact HO137.out⟩,⟨by repeat (first|(with_reducible first|exact HB.out|apply below_alloc|apply pw_below_drewN|apply below_drew1)|exact HB.out)⟩⟩
   case round =>
    clear H'
    try clear c1;try clear c2;try clear c2b0;try clear c2b1;try clear p2;try clear c3;try clear c3b0;try clear c3b1
    obtain ⟨x3_1, x4_1, rfl, HA, HK1, HO_3, HB⟩ := hrel
    cases gk with
   |zero => exact absurd HA.out (by simp [laws_toBasicS.l0])
   |succ k1 =>
     have H := HA.out
     clear HA
     simp only [laws_toBasicS.l0] at H
     by_cases c6 : x4_1 < (l0.length : Int)
     ·rw [if_pos c6] at H
      have c6b0 : decide (x4_1 < (l0.length : Int)) = true := decide_eq_true c6
      clear c6
      by_cases c7 : 0 ≤ x4_1
      ·rw [if_pos c7] at H
       have c7b0 : decide (0 ≤ x4_1) = true := decide_eq_true c7
       clear c7
       replace H := Option.bind_eq_some_iff.mp H
       obtain ⟨⟨t139, t140, t141, t142, t143⟩, A80, H⟩ := H
       replace H : (if x4_1 < (x3_1.length : Int) then (laws_toBasicS.l0 k1 l0 (x3_1.set (x4_1 : Int).toNat (⟨t139, t140, t141, t142, t143⟩ : S161)) (wrap64 (x4_1 + 1))) else (none)) = some r := H
       have A8 := Aside0.mk A80
       clear A80
       by_cases c9 : x4_1 < (x3_1.length : Int)
       ·rw [if_pos c9] at H
        have c9b0 : decide (x4_1 < (x3_1.length : Int)) = true := decide_eq_true c9
        clear c9
        obtain ⟨y144, hy144⟩ : ∃ y_ : List (S161), y_ = (x3_1.set (x4_1 : Int).toNat (⟨t139, t140, t141, t142, t143⟩ : S161)) := ⟨_, rfl⟩
        replace H : (laws_toBasicS.l0 k1 l0 y144 (wrap64 (x4_1 + 1))) = some r := by first|(rw [hy144];with_reducible exact H)|(have H2_ := (Option.bind_some _ _).symm.trans H;rw [hy144];with_reducible exact H2_)|(have H2_ := (Option.bind_some _ _).symm.trans H;with_reducible exact H2_)|with_reducible exact H|(rw [hy144];exact H)|exact H
        have Ny144 := Aside0.mk hy144
        clear hy144
        have H' := Aside0.mk H
        clear H
        have p138 : 0 ≤ (x4_1 : Int) := of_decide_eq_true (by first|(with_reducible assumption)|assumption)
        have q138 : x4_1 < (l0.length : Int) := of_decide_eq_true (by first|(with_reducible assumption)|assumption)
        obtain ⟨ad138, e138, hx138_0, hx138_1, hx138_2, hx138_3, hx138_4⟩ := at_T270 HR0.out x4_1 p138 q138
        cases e138
        replace hx138_0 := (HB.out.cell (World.block_lt_of_cell? w _ hx138_0)).trans hx138_0
        replace hx138_1 := (HB.out.cell (World.block_lt_of_cell? w _ hx138_1)).trans hx138_1
        replace hx138_2 := (HB.out.cell (World.block_lt_of_cell? w _ hx138_2)).trans hx138_2
        replace hx138_3 := (HB.out.cell (World.block_lt_of_cell? w _ hx138_3)).trans hx138_3
        replace hx138_4 := (HB.out.cell (World.block_lt_of_cell? w _ hx138_4)).trans hx138_4
        replace p138 := eq_true p138
        replace q138 := eq_true q138
        go_wp2_with (first|((with_reducible refine gate_callee (f := 170) rfl ?_);refine goesL_ (some 20) rfl rfl Try.func170 (by kernel_rfl) rfl #[.agg #[.int .i64 ((rd_T270 l0 x4_1).f0), .string ((rd_T270 l0 x4_1).f1), .string ((rd_T270 l0 x4_1).f2), .int .i64 ((rd_T270 l0 x4_1).f3), .int .i64 ((rd_T270 l0 x4_1).f4)]] rfl (by (try simp only [List.map_toArray, List.map_cons, List.map_nil]);first|done|rfl|(simp only [List.length_drop, List.length_take];rfl)) ?_;(with_reducible refine (laws_toBasic.calls ((rd_T270 l0 x4_1).f0) ((rd_T270 l0 x4_1).f1) ((rd_T270 l0 x4_1).f2) ((rd_T270 l0 x4_1).f3) ((rd_T270 l0 x4_1).f4) t139 t140 t141 t142 t143 _ A8.out).mono ?_);rintro e w11 ⟨rfl, hb⟩;refine ⟨_, rfl, ?_⟩;have n0_ := Aside0.mk (Kd.R_below (by (with_reducible repeat (first|apply Kd.R_alloc|apply Kd.R_drewN|apply Kd.R_drew));exact HO_3.out) hb);have n1_ := Aside0.mk (below_step (by repeat (first|(with_reducible first|exact HB.out|apply below_alloc|apply pw_below_drewN|apply below_drew1)|exact HB.out)) hb);clear HO_3;clear HB;have HO_3 := n0_;have HB := n1_;clear n0_ n1_;(try clear hb);(try clear hb2);(try clear hk);(try clear hi);have p10 : 0 ≤ (x4_1 : Int) := of_decide_eq_true (by first|(with_reducible assumption)|assumption);have q10 : (x4_1 : Int) < ((x3_1.length : Int) : Int) := of_decide_eq_true (by first|(with_reducible assumption)|assumption);obtain ⟨go10, co10, eo10, gb10, gl10, cl10, HG10⟩ := Kd.R_form HO_3.out (by omega);(first|cases eo10|(injection eo10 with ea_ en_ ec_;(first|subst ea_|(injection ea_ with ea_;subst ea_));subst ec_;clear en_));have GB10 := Aside0.mk gb10;have GG10 := Aside0.mk HG10;clear gb10 gl10 HG10;obtain ⟨ce10, hcl10, hM10, hcc10, hfr10⟩ := Kd.R_elem HO_3.out z161 (x4_1 : Int) p10 q10;obtain rfl := k161_openM hM10;have hx10_0 : w11.cell? ⟨go10, (x4_1 : Int).toNat * 5, none⟩ = some (.int .i64 ((rd_T161 x3_1 x4_1).f0)) := hcc10 0 _ rfl;have hx10_1 : w11.cell? ⟨go10, (x4_1 : Int).toNat * 5 + 1, none⟩ = some (.string ((rd_T161 x3_1 x4_1).f1)) := hcc10 1 _ rfl;have hx10_2 : w11.cell? ⟨go10, (x4_1 : Int).toNat * 5 + 2, none⟩ = some (.string ((rd_T161 x3_1 x4_1).f2)) := hcc10 2 _ rfl;have hx10_3 : w11.cell? ⟨go10, (x4_1 : Int).toNat * 5 + 3, none⟩ = some (.int .i64 ((rd_T161 x3_1 x4_1).f3)) := hcc10 3 _ rfl;have hx10_4 : w11.cell? ⟨go10, (x4_1 : Int).toNat * 5 + 4, none⟩ = some (.int .i64 ((rd_T161 x3_1 x4_1).f4)) := hcc10 4 _ rfl;have hf10_0 : w11.frozen? ⟨go10, (x4_1 : Int).toNat * 5, none⟩ = false := hfr10 0;have hf10_1 : w11.frozen? ⟨go10, (x4_1 : Int).toNat * 5 + 1, none⟩ = false := hfr10 1;have hf10_2 : w11.frozen? ⟨go10, (x4_1 : Int).toNat * 5 + 2, none⟩ = false := hfr10 2;have hf10_3 : w11.frozen? ⟨go10, (x4_1 : Int).toNat * 5 + 3, none⟩ = false := hfr10 3;have hf10_4 : w11.frozen? ⟨go10, (x4_1 : Int).toNat * 5 + 4, none⟩ = false := hfr10 4;clear hcl10 hcc10 hfr10 hM10;replace p10 := eq_true p10;replace q10 := eq_true q10;have HX12 := Aside0.mk (show Kd.R k161 161 w11 w.heap.size (fun _ => True) (.slice (some ⟨go10, 0, none⟩) x3_1.length co10) x3_1 from (by (with_reducible repeat (first|apply Kd.R_alloc|apply Kd.R_drewN|apply Kd.R_drew));exact HO_3.out));obtain ⟨ce12, hcl12, hM12, hcc12, hfr12⟩ := Kd.R_elem HX12.out z161 (x4_1 : Int) (of_decide_eq_true (by first|(with_reducible assumption)|assumption)) (by have h_ : (x4_1 : Int) < ((x3_1.length : Int) : Int) := of_decide_eq_true (by first|(with_reducible assumption)|assumption);first|exact h_|(have e_ := (Kd.R_reads' HO_3.out).1;omega)|simpa using h_);obtain rfl := k161_openM hM12;have HP12 := Kd.R_seg HX12.out (x4_1 : Int) (of_decide_eq_true (by first|(with_reducible assumption)|assumption)) (by have h_ : (x4_1 : Int) < ((x3_1.length : Int) : Int) := of_decide_eq_true (by first|(with_reducible assumption)|assumption);first|exact h_|(have e_ := (Kd.R_reads' HO_3.out).1;omega)|simpa using h_) (seg := [.int .i64 t139, .string t140, .string t141, .int .i64 t142, .int .i64 t143]) (j := 0) hcl12 hcc12 (show 5 ≤ 5 from by decide) (x' := (⟨t139, t140, t141, t142, t143⟩ : S161)) (k161_mkM _ _ _ (⟨t139, t140, t141, t142, t143⟩ : S161) ) (fun _ hk => hk);have hx12_0 := hcc12 0 _ rfl;(try simp only [show (k161).sz = 5 from rfl, Nat.mul_one, Nat.add_zero] at hx12_0);have hf12_0 := hfr12 0;(try simp only [show (k161).sz = 5 from rfl, Nat.mul_one, Nat.add_zero] at hf12_0);have hx12_1 := hcc12 1 _ rfl;(try simp only [show (k161).sz = 5 from rfl, Nat.mul_one, Nat.add_zero] at hx12_1);have hf12_1 := hfr12 1;(try simp only [show (k161).sz = 5 from rfl, Nat.mul_one, Nat.add_zero] at hf12_1);have hx12_2 := hcc12 2 _ rfl;(try simp only [show (k161).sz = 5 from rfl, Nat.mul_one, Nat.add_zero] at hx12_2);have hf12_2 := hfr12 2;(try simp only [show (k161).sz = 5 from rfl, Nat.mul_one, Nat.add_zero] at hf12_2);have hx12_3 := hcc12 3 _ rfl;(try simp only [show (k161).sz = 5 from rfl, Nat.mul_one, Nat.add_zero] at hx12_3);have hf12_3 := hfr12 3;(try simp only [show (k161).sz = 5 from rfl, Nat.mul_one, Nat.add_zero] at hf12_3);have hx12_4 := hcc12 4 _ rfl;(try simp only [show (k161).sz = 5 from rfl, Nat.mul_one, Nat.add_zero] at hx12_4);have hf12_4 := hfr12 4;(try simp only [show (k161).sz = 5 from rfl, Nat.mul_one, Nat.add_zero] at hf12_4);clear hcl12 hcc12 hfr12 hM12)|((with_reducible refine gate_store (t := 161) (p := 21) rfl ?_);refine store_event (t := 161) (p := 21) (v := ?vo_w13) (w1 := (((((w11.setCell ⟨go10, (x4_1 : Int).toNat * 5, none⟩ (.int .i64 t139)).setCell ⟨go10, (x4_1 : Int).toNat * 5 + 1, none⟩ (.string t140)).setCell ⟨go10, (x4_1 : Int).toNat * 5 + 2, none⟩ (.string t141)).setCell ⟨go10, (x4_1 : Int).toNat * 5 + 3, none⟩ (.int .i64 t142)).setCell ⟨go10, (x4_1 : Int).toNat * 5 + 4, none⟩ (.int .i64 t143))) ?hg ?ho ?hn ?hr ?_;(case ho => rfl);(case hg => rfl);(case hn => rfl);(case hr => first|(go_simp;done)|(go_simp;rfl));intro w13 hw;have hg : w11.grownBy w13 (some go10) := (by rw [hw];exact HP12.2);have hp_ : Kd.R k161 161 w13 w.heap.size (fun _ => True) (.slice (some ⟨go10, 0, none⟩) x3_1.length co10) y144 := (by rw [hw, Ny144.out];exact HP12.1);clear HP12;have n0_ := Aside0.mk (hp_);have n1_ := Aside0.mk ((by rw [hw];exact below_set (below_set (below_set (below_set (below_set (HB.out) GB10.out) GB10.out) GB10.out) GB10.out) GB10.out : Below w.heap.size w w13));clear HO_3;clear HB;have HO_3 := n0_;have HB := n1_;clear n0_ n1_;clear hg hw hp_))
        go_roundg k1
        case measure => have := HK1.out;omega
        case rel => exact ⟨(y144),(wrap64 (x4_1 + 1)),(by first|rfl|(simp;done)|(simp [*];done)), H', ⟨by have := HK1.out;omega⟩,⟨by (with_reducible repeat (first|apply Kd.R_alloc|apply Kd.R_drewN|apply Kd.R_drew));exact HO_3.out⟩,⟨by repeat (first|(with_reducible first|exact HB.out|apply below_alloc|apply pw_below_drewN|apply below_drew1)|exact HB.out)⟩⟩
       ·rw [if_neg c9] at H
        exact absurd H (by simp)
      ·rw [if_neg c7] at H
       exact absurd H (by simp)
     ·rw [if_neg c6] at H
      have c6b0 : decide (x4_1 < (l0.length : Int)) = false := decide_eq_false c6
      clear c6
      obtain rfl := Option.some.inj H
      go_wp2
      go_ret
      exact ⟨_, by first|rfl|(simp [errW_none, errW_some] <;> rfl)|(simp [*, errW_none, errW_some] <;> rfl), by (with_reducible repeat (first|apply Kd.R_alloc|apply Kd.R_drewN|apply Kd.R_drew));exact HO_3.out, by repeat (first|(with_reducible first|exact HB.out|apply below_alloc|apply pw_below_drewN|apply below_drew1)|exact HB.out)⟩
  ·rw [if_neg c3] at H
   exact absurd H (by simp)
 ·rw [if_neg c2] at H
  exact absurd H (by simp)

/-! ### laws_toAlt: function 185 -/
def laws_toAlt.f (k : Nat) (l0_0 : List (S270)) : Option ((List (S161))) := (laws_toBasicS.f k l0_0).bind fun t148 => (some t148)
theorem laws_toAlt.mono : ∀ a0 k, LeO (laws_toAlt.f k a0) (laws_toAlt.f (k + 1) a0) := by
 intro a0 k
 unfold laws_toAlt.f
 repeat' first
  |(with_reducible exact laws_toBasicS.mono _ _)
  |(with_reducible exact LeO.refl _)
  |(with_reducible exact LeO.none _)
  |(with_reducible refine LeO.ite ?_ ?_)
  |(with_reducible refine LeO.bind ?_ (fun _ => ?_))
  |exact laws_toBasicS.mono _ _
  |exact LeO.none _
  |refine LeO.ite ?_ ?_
  |refine LeO.bind ?_ (fun _ => ?_)
set_option maxHeartbeats 8000000 in
set_option maxRecDepth 100000 in
theorem laws_toAlt.calls (k : Nat) (A0_0 : Option Addr) (c0_0 : Nat) (l0_0 : List (S270)) (r : List (S161)) (w : World) (hr0_0 : Kd.C k270 w A0_0 l0_0.length l0_0) (hc0_0 : l0_0.length ≤ c0_0) (h : laws_toAlt.f k l0_0 = some r) :
  Calls Try.prog 185 #[.agg #[.slice A0_0 l0_0.length c0_0]] w fun e w' => ∃ v0_ : Value, e = .returned (.agg #[v0_]) ∧ Kd.R k161 161 w' w.heap.size (fun _ => True) v0_ r ∧ Below w.heap.size w w' := by
 have hu310 := Try.underlying310
 have hu228 := Try.underlying228
 have HR0_0 := Aside0.mk hr0_0
 have HC0_0 := Aside0.mk hc0_0
 clear hr0_0 hc0_0
 have HB := Aside0.mk (Below.refl w.heap.size w)
 have H : ((laws_toBasicS.f k l0_0).bind fun t148 => (some t148)) = some r := h
 clear h
 replace H := Option.bind_eq_some_iff.mp H
 obtain ⟨t148, A20, H⟩ := H
 replace H : (some t148) = some r := H
 have A2 := Aside0.mk A20
 clear A20
 obtain rfl := Option.some.inj H
 go_enter Try.func185, Try.ntmps185
 go_wp2_with (first|((with_reducible refine gate_dst (N := 1) rfl ?_);refine box_event ?hg (N := 1) ?hd (cs := #[.slice A0_0 l0_0.length c0_0]) (t := 310) ?hr ?_;(case hd => rfl);(case hg => rfl);(case hr => first|(go_simp;done)|(go_simp;rfl));intro gb145 hg w3 hbox hb;have n0_ := Aside0.mk (below_step (by repeat (first|(with_reducible first|exact HB.out|apply below_alloc|apply pw_below_drewN|apply below_drew1)|exact HB.out)) hb);have n1_ := Aside0.mk (hbox);have n2_ := Aside0.mk ((by rw [hg];exact (below_size (by repeat (first|(with_reducible first|exact HB.out|apply below_alloc|apply pw_below_drewN|apply below_drew1)|exact HB.out))) : w.heap.size ≤ gb145));have n3_ := Aside0.mk ((by rw [hg];exact (below_size (by repeat (first|(with_reducible first|exact HB.out|apply below_alloc|apply pw_below_drewN|apply below_drew1)|exact HB.out))) : w.heap.size ≤ gb145));clear HB;have HB := n0_;have BK145 := n1_;have GW145 := n2_;have GE145 := n3_;clear n0_ n1_ n2_ n3_;clear hb hbox hg)|((with_reducible refine gate_dst (N := 2) rfl ?_);refine box_event ?hg (N := 2) ?hd (cs := #[.slice none 0 0]) (t := 228) ?hr ?_;(case hd => rfl);(case hg => rfl);(case hr => first|(go_simp;done)|(go_simp;rfl));intro gb146 hg w4 hbox hb;have n0_ := Aside0.mk (blk_below (g := gb145) (o := .cells #[.slice A0_0 l0_0.length c0_0] 310 (0, 0)) (by (with_reducible repeat (first|refine blk_drewN ?_ _|refine blk_drew ?_|refine blk_alloc ?_ _));exact BK145.out) hb);have n1_ := Aside0.mk (below_step (by repeat (first|(with_reducible first|exact HB.out|apply below_alloc|apply pw_below_drewN|apply below_drew1|refine below_set ?_ GE145.out)|exact HB.out)) hb);have n2_ := Aside0.mk (hbox);have n3_ := Aside0.mk ((by rw [hg];exact (below_size (by repeat (first|(with_reducible first|exact HB.out|apply below_alloc|apply pw_below_drewN|apply below_drew1|refine below_set ?_ GE145.out)|exact HB.out))) : w.heap.size ≤ gb146));have n4_ := Aside0.mk ((by rw [hg];exact (below_size (by repeat (first|(with_reducible first|exact HB.out|apply below_alloc|apply pw_below_drewN|apply below_drew1|refine below_set ?_ GE145.out)|exact HB.out))) : w.heap.size ≤ gb146));have n5_ := Aside0.mk ((by rw [hg];exact Nat.ne_of_lt (blk_lt (g := gb145) (o := .cells #[.slice A0_0 l0_0.length c0_0] 310 (0, 0)) (by (with_reducible repeat (first|refine blk_drewN ?_ _|refine blk_drew ?_|refine blk_alloc ?_ _));exact BK145.out)) : gb145 ≠ gb146));have n6_ := Aside0.mk ((by rw [hg];exact Nat.ne_of_gt (blk_lt (g := gb145) (o := .cells #[.slice A0_0 l0_0.length c0_0] 310 (0, 0)) (by (with_reducible repeat (first|refine blk_drewN ?_ _|refine blk_drew ?_|refine blk_alloc ?_ _));exact BK145.out)) : gb146 ≠ gb145));clear BK145;clear HB;have BK145 := n0_;have HB := n1_;have BK146 := n2_;have GW146 := n3_;have GE146 := n4_;have NB145_146 := n5_;have NB146_145 := n6_;clear n0_ n1_ n2_ n3_ n4_ n5_ n6_;clear hb hbox hg)|((with_reducible refine gate_dst (N := 3) rfl ?_);refine box_event ?hg (N := 3) ?hd (cs := #[.slice none 0 0]) (t := 228) ?hr ?_;(case hd => rfl);(case hg => rfl);(case hr => first|(go_simp;done)|(go_simp;rfl));intro gb147 hg w5 hbox hb;have n0_ := Aside0.mk (blk_below (g := gb145) (o := .cells #[.slice A0_0 l0_0.length c0_0] 310 (0, 0)) (by (with_reducible repeat (first|refine blk_drewN ?_ _|refine blk_drew ?_|refine blk_alloc ?_ _));exact BK145.out) hb);have n1_ := Aside0.mk (blk_below (g := gb146) (o := .cells #[.slice none 0 0] 228 (0, 0)) (by (with_reducible repeat (first|refine blk_drewN ?_ _|refine blk_drew ?_|refine blk_alloc ?_ _));exact BK146.out) hb);have n2_ := Aside0.mk (below_step (by repeat (first|(with_reducible first|exact HB.out|apply below_alloc|apply pw_below_drewN|apply below_drew1|refine below_set ?_ GE145.out|refine below_set ?_ GE146.out)|exact HB.out)) hb);have n3_ := Aside0.mk (hbox);have n4_ := Aside0.mk ((by rw [hg];exact (below_size (by repeat (first|(with_reducible first|exact HB.out|apply below_alloc|apply pw_below_drewN|apply below_drew1|refine below_set ?_ GE145.out|refine below_set ?_ GE146.out)|exact HB.out))) : w.heap.size ≤ gb147));have n5_ := Aside0.mk ((by rw [hg];exact (below_size (by repeat (first|(with_reducible first|exact HB.out|apply below_alloc|apply pw_below_drewN|apply below_drew1|refine below_set ?_ GE145.out|refine below_set ?_ GE146.out)|exact HB.out))) : w.heap.size ≤ gb147));have n6_ := Aside0.mk ((by rw [hg];exact Nat.ne_of_lt (blk_lt (g := gb145) (o := .cells #[.slice A0_0 l0_0.length c0_0] 310 (0, 0)) (by (with_reducible repeat (first|refine blk_drewN ?_ _|refine blk_drew ?_|refine blk_alloc ?_ _));exact BK145.out)) : gb145 ≠ gb147));have n7_ := Aside0.mk ((by rw [hg];exact Nat.ne_of_gt (blk_lt (g := gb145) (o := .cells #[.slice A0_0 l0_0.length c0_0] 310 (0, 0)) (by (with_reducible repeat (first|refine blk_drewN ?_ _|refine blk_drew ?_|refine blk_alloc ?_ _));exact BK145.out)) : gb147 ≠ gb145));have n8_ := Aside0.mk ((by rw [hg];exact Nat.ne_of_lt (blk_lt (g := gb146) (o := .cells #[.slice none 0 0] 228 (0, 0)) (by (with_reducible repeat (first|refine blk_drewN ?_ _|refine blk_drew ?_|refine blk_alloc ?_ _));exact BK146.out)) : gb146 ≠ gb147));have n9_ := Aside0.mk ((by rw [hg];exact Nat.ne_of_gt (blk_lt (g := gb146) (o := .cells #[.slice none 0 0] 228 (0, 0)) (by (with_reducible repeat (first|refine blk_drewN ?_ _|refine blk_drew ?_|refine blk_alloc ?_ _));exact BK146.out)) : gb147 ≠ gb146));clear BK145;clear BK146;clear HB;have BK145 := n0_;have BK146 := n1_;have HB := n2_;have BK147 := n3_;have GW147 := n4_;have GE147 := n5_;have NB145_147 := n6_;have NB147_145 := n7_;have NB146_147 := n8_;have NB147_146 := n9_;clear n0_ n1_ n2_ n3_ n4_ n5_ n6_ n7_ n8_ n9_;clear hb hbox hg;have hnb6 := NB145_146.out;have hnc6 := NB146_145.out;have hnb7 := NB145_147.out;have hnc7 := NB147_145.out;have hcz8_0 : w5.cell? ⟨gb145, 0, none⟩ = some (.slice A0_0 l0_0.length c0_0) := (blk_cell BK145.out 0).trans rfl;have hfz8_0 := blk_frozen BK145.out 0)|((with_reducible refine gate_callee (f := 196) rfl ?_);refine goesL_ (some 6) rfl rfl Try.func196 (by kernel_rfl) rfl #[.slice A0_0 l0_0.length c0_0] rfl (by (try simp only [List.map_toArray, List.map_cons, List.map_nil]);first|done|rfl|(simp only [List.length_drop, List.length_take];rfl)) ?_;(with_reducible refine (laws_toBasicS.calls k _ _ l0_0 t148 _ ?side1 ?side2 A2.out).mono ?_);(case side1 => repeat (first|exact (Kd.C_below HR0_0.out HB.out)|(with_reducible refine Kd.C_alloc ?_ _)|(with_reducible refine Kd.C_drewN ?_ _)|(with_reducible refine Kd.C_drew ?_)));(case side2 => exact HC0_0.out);rintro e w9 ⟨v149, rfl, ho0, hb⟩;refine ⟨_, rfl, ?_⟩;have n0_ := Aside0.mk (Kd.R_lower ho0 (below_size (by repeat (first|(with_reducible first|exact HB.out|apply below_alloc|apply pw_below_drewN|apply below_drew1|refine below_set ?_ GE145.out|refine below_set ?_ GE146.out|refine below_set ?_ GE147.out)|exact HB.out))));have n1_ := Aside0.mk (blk_below (g := gb145) (o := .cells #[.slice A0_0 l0_0.length c0_0] 310 (0, 0)) (by (with_reducible repeat (first|refine blk_drewN ?_ _|refine blk_drew ?_|refine blk_alloc ?_ _));exact BK145.out) hb);have n2_ := Aside0.mk (blk_below (g := gb146) (o := .cells #[.slice none 0 0] 228 (0, 0)) (by (with_reducible repeat (first|refine blk_drewN ?_ _|refine blk_drew ?_|refine blk_alloc ?_ _));exact BK146.out) hb);have n3_ := Aside0.mk (blk_below (g := gb147) (o := .cells #[.slice none 0 0] 228 (0, 0)) (by (with_reducible repeat (first|refine blk_drewN ?_ _|refine blk_drew ?_|refine blk_alloc ?_ _));exact BK147.out) hb);have n4_ := Aside0.mk (below_step (by repeat (first|(with_reducible first|exact HB.out|apply below_alloc|apply pw_below_drewN|apply below_drew1|refine below_set ?_ GE145.out|refine below_set ?_ GE146.out|refine below_set ?_ GE147.out)|exact HB.out)) hb);clear BK145;clear BK146;clear BK147;clear HB;have HO150 := n0_;have BK145 := n1_;have BK146 := n2_;have BK147 := n3_;have HB := n4_;clear n0_ n1_ n2_ n3_ n4_;(try clear hb);(try clear hb2);(try clear hk);(try clear hi);(try clear ho0);obtain ⟨Ao10, co10, eo10⟩ := Kd.R_slice HO150.out;subst eo10;have hnb11 := NB147_146.out;have hnc11 := NB146_147.out;have hcz12_0 : w9.cell? ⟨gb147, 0, none⟩ = some (.slice none 0 0) := (blk_cell BK147.out 0).trans rfl;have hfz12_0 := blk_frozen BK147.out 0;have hcz13_0 : w9.cell? ⟨gb146, 0, none⟩ = some (.slice none 0 0) := (blk_cell BK146.out 0).trans rfl;have hfz13_0 := blk_frozen BK146.out 0))
 refine bodyPost_ret (results_cell_row rfl _ _ gb146 228 #[.slice Ao10 t148.length co10] (0, 0) _ rfl (by (with_reducible repeat (first|refine blk_drewN ?_ _|refine blk_drew ?_|refine blk_alloc ?_ _));refine blk_put (cs := #[.slice none 0 0]) ?_ 0 _ rfl;(with_reducible repeat (first|refine blk_drewN ?_ _|refine blk_drew ?_|refine blk_alloc ?_ _));refine blk_far ?_ NB146_147.out _;(with_reducible repeat (first|refine blk_drewN ?_ _|refine blk_drew ?_|refine blk_alloc ?_ _));exact BK146.out) Try.underlying228 rfl (by kernel_rfl)) rfl ?_
 exact ⟨_, by first|rfl|(simp [errW_none, errW_some] <;> rfl)|(simp [*, errW_none, errW_some] <;> rfl), by (with_reducible repeat (first|apply Kd.R_alloc|apply Kd.R_drewN|apply Kd.R_drew));exact Kd.R_mono (Kd.R_far (p := ⟨gb146, 0, none⟩) (Kd.R_far (p := ⟨gb147, 0, none⟩) (Kd.R_types (Kd.R_types HO150.out BK147.out (by decide)) BK146.out (by decide)) (fun _ hk => hk.1.2) (.slice Ao10 t148.length co10)) (fun _ hk => hk.2) (.slice Ao10 t148.length co10)) (fun _ hk => trivial), by repeat (first|(with_reducible first|exact HB.out|apply below_alloc|apply pw_below_drewN|apply below_drew1|refine below_set ?_ GE145.out|refine below_set ?_ GE146.out|refine below_set ?_ GE147.out)|exact HB.out)⟩

end Go.Proofs.Ytjoanlocikagaaa.QFnExactSelectorOk
