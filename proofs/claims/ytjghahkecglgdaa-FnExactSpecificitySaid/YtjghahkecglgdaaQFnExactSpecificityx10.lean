/- Written by a program (wip/tools/own_print.py) out of the walk that the kit's printer made; turned where it fell. -/
import Derived.Test.YtjghahkecglgdaaQFnExactSpecificityx0
import Derived.Test.YtjghahkecglgdaaQFnExactSpecificityx9
namespace Go.Proofs.Ytjghahkecglgdaa.QFnExactSpecificity
open Go.RowKit Go.Proofs.YtjghahkecglgdaaV.PrintWords Go.Proofs.YtjghahkecglgdaaV.PrintLast Go.Proofs.YtjghahkecglgdaaV.PrintMore
attribute [local go_sem] max2_int min2_int max_two min_two max_three min_three max_four min_four   -- for this text's walks alone
set_option linter.unusedVariables false
set_option linter.unusedSimpArgs false

/-! ### impl_SelectorOk: function 60 -/
mutual
def impl_SelectorOk.j0 : Nat → Bool → List (S103) → Option (Bool)
  | 0, _, _ => none
  | k + 1, x16, x228000 => if x16 = true then (some false) else (impl_SelectorOk.l0 k x228000 (x228000.length : Int) 0)
def impl_SelectorOk.l0 : Nat → List (S103) → Int → Int → Option (Bool)
  | 0, _, _, _ => none
  | k + 1, x18, x19, x20 => if x20 < x19 then (if 0 ≤ x20 then (if x20 < (x18.length : Int) then (if ((((rd_T103 x18 x20).f0) == 0) != (x20 == 0)) = true then (impl_SelectorOk.j2 k x18 x19 x20 true ((rd_T103 x18 x20).f0) ((rd_T103 x18 x20).f1)) else (if ((rd_T103 x18 x20).f0) < 0 then (impl_SelectorOk.j2 k x18 x19 x20 true ((rd_T103 x18 x20).f0) ((rd_T103 x18 x20).f1)) else (if ((rd_T103 x18 x20).f0) > 4 then (impl_SelectorOk.j2 k x18 x19 x20 true ((rd_T103 x18 x20).f0) ((rd_T103 x18 x20).f1)) else (if (((rd_T103 x18 x20).f1).length : Int) < 1 then (impl_SelectorOk.j2 k x18 x19 x20 true ((rd_T103 x18 x20).f0) ((rd_T103 x18 x20).f1)) else (impl_SelectorOk.j2 k x18 x19 x20 (decide ((((rd_T103 x18 x20).f1).length : Int) > 20)) ((rd_T103 x18 x20).f0) ((rd_T103 x18 x20).f1)))))) else (none)) else (none)) else (some true)
def impl_SelectorOk.j2 : Nat → List (S103) → Int → Int → Bool → Int → List (S109) → Option (Bool)
  | 0, _, _, _, _, _, _ => none
  | k + 1, x18, x19, x20, x52, x230000, x230001 => if x52 = true then (some false) else (impl_SelectorOk.l1 k x18 x19 x20 x230001 (x230001.length : Int) 0)
def impl_SelectorOk.l1 : Nat → List (S103) → Int → Int → List (S109) → Int → Int → Option (Bool)
  | 0, _, _, _, _, _, _ => none
  | k + 1, x18, x19, x20, x54, x55, x56 => if x56 < x55 then (if 0 ≤ x56 then (if x56 < (x54.length : Int) then ((impl_simpleOk.f k ((rd_T109 x54 x56).f0.f0) ((rd_T109 x54 x56).f0.f1) ((rd_T109 x54 x56).f0.f2) ((rd_T109 x54 x56).f0.f3) ((rd_T109 x54 x56).f0.f4) ((rd_T109 x54 x56).f1) (x56 == 0)).bind fun t232 => (if t232 = true then (impl_SelectorOk.l1 k x18 x19 x20 x54 x55 (wrap64 (x56 + 1))) else (some false))) else (none)) else (none)) else (impl_SelectorOk.l0 k x18 x19 (wrap64 (x20 + 1)))
end
def impl_SelectorOk.f (k : Nat) (l0_0 : List (S103)) : Option (Bool) := if (l0_0.length : Int) < 1 then (impl_SelectorOk.j0 k true l0_0) else (impl_SelectorOk.j0 k (decide ((l0_0.length : Int) > 20)) l0_0)
theorem impl_SelectorOk.mono_l : ∀ k, (∀ y0 y1, LeO (impl_SelectorOk.j0 k y0 y1) (impl_SelectorOk.j0 (k + 1) y0 y1)) ∧ (∀ y0 y1 y2, LeO (impl_SelectorOk.l0 k y0 y1 y2) (impl_SelectorOk.l0 (k + 1) y0 y1 y2)) ∧ (∀ y0 y1 y2 y3 y4 y5, LeO (impl_SelectorOk.j2 k y0 y1 y2 y3 y4 y5) (impl_SelectorOk.j2 (k + 1) y0 y1 y2 y3 y4 y5)) ∧ (∀ y0 y1 y2 y3 y4 y5, LeO (impl_SelectorOk.l1 k y0 y1 y2 y3 y4 y5) (impl_SelectorOk.l1 (k + 1) y0 y1 y2 y3 y4 y5))
  | 0 => ⟨fun _ _ r h => by simp [impl_SelectorOk.j0] at h, fun _ _ _ r h => by simp [impl_SelectorOk.l0] at h, fun _ _ _ _ _ _ r h => by simp [impl_SelectorOk.j2] at h, fun _ _ _ _ _ _ r h => by simp [impl_SelectorOk.l1] at h⟩
  | k + 1 => by
    obtain ⟨ih0, ih1, ih2, ih3⟩ := impl_SelectorOk.mono_l k
    refine ⟨?_, ?_, ?_, ?_⟩
    · intro y0 y1
      unfold impl_SelectorOk.j0
      repeat' first
      | (with_reducible exact ih0 _ _)
      | (with_reducible exact ih1 _ _ _)
      | (with_reducible exact ih2 _ _ _ _ _ _)
      | (with_reducible exact ih3 _ _ _ _ _ _)
      | (with_reducible exact impl_simpleOk.mono _ _ _ _ _ _ _ _)
      | (with_reducible exact LeO.refl _)
      | (with_reducible exact LeO.none _)
      | (with_reducible refine LeO.ite ?_ ?_)
      | (with_reducible refine LeO.bind ?_ (fun _ => ?_))
      | exact ih0 _ _
      | exact ih1 _ _ _
      | exact ih2 _ _ _ _ _ _
      | exact ih3 _ _ _ _ _ _
      | exact impl_simpleOk.mono _ _ _ _ _ _ _ _
      | exact LeO.none _
      | refine LeO.ite ?_ ?_
      | refine LeO.bind ?_ (fun _ => ?_)
    · intro y0 y1 y2
      unfold impl_SelectorOk.l0
      repeat' first
      | (with_reducible exact ih0 _ _)
      | (with_reducible exact ih1 _ _ _)
      | (with_reducible exact ih2 _ _ _ _ _ _)
      | (with_reducible exact ih3 _ _ _ _ _ _)
      | (with_reducible exact impl_simpleOk.mono _ _ _ _ _ _ _ _)
      | (with_reducible exact LeO.refl _)
      | (with_reducible exact LeO.none _)
      | (with_reducible refine LeO.ite ?_ ?_)
      | (with_reducible refine LeO.bind ?_ (fun _ => ?_))
      | exact ih0 _ _
      | exact ih1 _ _ _
      | exact ih2 _ _ _ _ _ _
      | exact ih3 _ _ _ _ _ _
      | exact impl_simpleOk.mono _ _ _ _ _ _ _ _
      | exact LeO.none _
      | refine LeO.ite ?_ ?_
      | refine LeO.bind ?_ (fun _ => ?_)
    · intro y0 y1 y2 y3 y4 y5
      unfold impl_SelectorOk.j2
      repeat' first
      | (with_reducible exact ih0 _ _)
      | (with_reducible exact ih1 _ _ _)
      | (with_reducible exact ih2 _ _ _ _ _ _)
      | (with_reducible exact ih3 _ _ _ _ _ _)
      | (with_reducible exact impl_simpleOk.mono _ _ _ _ _ _ _ _)
      | (with_reducible exact LeO.refl _)
      | (with_reducible exact LeO.none _)
      | (with_reducible refine LeO.ite ?_ ?_)
      | (with_reducible refine LeO.bind ?_ (fun _ => ?_))
      | exact ih0 _ _
      | exact ih1 _ _ _
      | exact ih2 _ _ _ _ _ _
      | exact ih3 _ _ _ _ _ _
      | exact impl_simpleOk.mono _ _ _ _ _ _ _ _
      | exact LeO.none _
      | refine LeO.ite ?_ ?_
      | refine LeO.bind ?_ (fun _ => ?_)
    · intro y0 y1 y2 y3 y4 y5
      unfold impl_SelectorOk.l1
      repeat' first
      | (with_reducible exact ih0 _ _)
      | (with_reducible exact ih1 _ _ _)
      | (with_reducible exact ih2 _ _ _ _ _ _)
      | (with_reducible exact ih3 _ _ _ _ _ _)
      | (with_reducible exact impl_simpleOk.mono _ _ _ _ _ _ _ _)
      | (with_reducible exact LeO.refl _)
      | (with_reducible exact LeO.none _)
      | (with_reducible refine LeO.ite ?_ ?_)
      | (with_reducible refine LeO.bind ?_ (fun _ => ?_))
      | exact ih0 _ _
      | exact ih1 _ _ _
      | exact ih2 _ _ _ _ _ _
      | exact ih3 _ _ _ _ _ _
      | exact impl_simpleOk.mono _ _ _ _ _ _ _ _
      | exact LeO.none _
      | refine LeO.ite ?_ ?_
      | refine LeO.bind ?_ (fun _ => ?_)
theorem impl_SelectorOk.mono : ∀ a0 k, LeO (impl_SelectorOk.f k a0) (impl_SelectorOk.f (k + 1) a0) := by
  intro a0 k
  obtain ⟨ih0, ih1, ih2, ih3⟩ := impl_SelectorOk.mono_l k
  unfold impl_SelectorOk.f
  repeat' first
      | (with_reducible exact ih0 _ _)
      | (with_reducible exact ih1 _ _ _)
      | (with_reducible exact ih2 _ _ _ _ _ _)
      | (with_reducible exact ih3 _ _ _ _ _ _)
      | (with_reducible exact impl_simpleOk.mono _ _ _ _ _ _ _ _)
      | (with_reducible exact LeO.refl _)
      | (with_reducible exact LeO.none _)
      | (with_reducible refine LeO.ite ?_ ?_)
      | (with_reducible refine LeO.bind ?_ (fun _ => ?_))
      | exact ih0 _ _
      | exact ih1 _ _ _
      | exact ih2 _ _ _ _ _ _
      | exact ih3 _ _ _ _ _ _
      | exact impl_simpleOk.mono _ _ _ _ _ _ _ _
      | exact LeO.none _
      | refine LeO.ite ?_ ?_
      | refine LeO.bind ?_ (fun _ => ?_)
set_option maxHeartbeats 8000000 in
set_option maxRecDepth 100000 in
theorem impl_SelectorOk.calls (k : Nat) (A0_0 : Option Addr) (c0_0 : Nat) (l0_0 : List (S103)) (r : Bool) (w : World) (hr0_0 : Kd.C k103 w A0_0 l0_0.length l0_0) (hc0_0 : l0_0.length ≤ c0_0) (h : impl_SelectorOk.f k l0_0 = some r) :
    Calls Try.prog 60 #[.agg #[.slice A0_0 l0_0.length c0_0]] w fun e w' => e = .returned (.bool r) ∧ Below w.heap.size w w' := by
  have hu68 := Try.underlying68
  have hu103 := Try.underlying103
  have hu109 := Try.underlying109
  have HR0_0 := Aside0.mk hr0_0
  have HC0_0 := Aside0.mk hc0_0
  clear hr0_0 hc0_0
  have HB := Aside0.mk (Below.refl w.heap.size w)
  have H : (if (l0_0.length : Int) < 1 then (impl_SelectorOk.j0 k true l0_0) else (impl_SelectorOk.j0 k (decide ((l0_0.length : Int) > 20)) l0_0)) = some r := h
  clear h
  have HC2 := Aside0.mk H
  clear H
  go_enter Try.func60, Try.ntmps60
  go_upto_region 1 with (first | ((with_reducible refine gate_dst (N := 1) rfl ?_); (try (refine gate_guard (by rfl) ?_; dsimp only)); refine box_event ?hg (N := 1) ?hd (cs := #[.slice A0_0 l0_0.length c0_0]) (t := 68) ?hr ?_; (case hd => rfl); (case hg => rfl); (case hr => first | (go_simp; done) | (go_simp; rfl)); intro gb227 hg w3 hbox hb; have n0_ := Aside0.mk (below_step (by repeat (first | (with_reducible first | exact HB.out | apply below_alloc | apply pw_below_drewN | apply below_drew1) | exact HB.out)) hb); have n1_ := Aside0.mk (hbox); have n2_ := Aside0.mk ((by rw [hg]; exact (below_size (by repeat (first | (with_reducible first | exact HB.out | apply below_alloc | apply pw_below_drewN | apply below_drew1) | exact HB.out))) : w.heap.size ≤ gb227)); have n3_ := Aside0.mk ((by rw [hg]; exact (below_size (by repeat (first | (with_reducible first | exact HB.out | apply below_alloc | apply pw_below_drewN | apply below_drew1) | exact HB.out))) : w.heap.size ≤ gb227)); clear HB; have HB := n0_; have BK227 := n1_; have GW227 := n2_; have GE227 := n3_; clear n0_ n1_ n2_ n3_; clear hb hbox hg))
  (try simp only [Act.put, List.setIfInBounds_toArray, List.set_cons_zero, List.set_cons_succ])
  go_cut [16] (fun v16 wc => ∃ (kq : Nat) (x16_1 : Bool), v16 = .bool x16_1 ∧ Aside0 (impl_SelectorOk.j0 kq x16_1 l0_0 = some r) ∧ Aside0 (kq ≤ k) ∧ Aside0 (wc.heap[gb227]? = some (.cells #[(.slice A0_0 l0_0.length c0_0)] 68 (0, 0))) ∧ Aside0 (Below w.heap.size w wc))
  case first =>
    have H := HC2.out
    clear HC2
    by_cases c4 : (l0_0.length : Int) < 1
    · rw [if_pos c4] at H
      have c4b0 : decide ((l0_0.length : Int) < 1) = true := decide_eq_true c4
      have c4b1 : decide (l0_0.length < 1) = true := decide_eq_true (by omega)
      clear c4
      (first | rw [c4b0] | (simp only [i64_w, i32_w]; rw [c4b0]) | rw [c4b1] | skip)
      have H' := Aside0.mk H
      clear H
      have hcz5_0 : w3.cell? ⟨gb227, 0, none⟩ = some (.slice A0_0 l0_0.length c0_0) := (blk_cell BK227.out 0).trans rfl
      have hfz5_0 := blk_frozen BK227.out 0
      go_wp2
      go_meet
      case rel => exact ⟨_, (true), (by first | rfl | (simp; done) | (simp [*]; done)), H', ⟨by first | omega | exact Nat.le_refl _⟩, ⟨by (with_reducible repeat (first | refine blk_drewN ?_ _ | refine blk_drew ?_ | refine blk_alloc ?_ _)); exact BK227.out⟩, ⟨by repeat (first | (with_reducible first | exact HB.out | apply below_alloc | apply pw_below_drewN | apply below_drew1 | refine below_set ?_ GE227.out) | exact HB.out)⟩⟩
    · rw [if_neg c4] at H
      have c4b0 : decide ((l0_0.length : Int) < 1) = false := decide_eq_false c4
      have c4b1 : decide (l0_0.length < 1) = false := decide_eq_false (by omega)
      clear c4
      (first | rw [c4b0] | (simp only [i64_w, i32_w]; rw [c4b0]) | rw [c4b1] | skip)
      have H' := Aside0.mk H
      clear H
      have hcz6_0 : w3.cell? ⟨gb227, 0, none⟩ = some (.slice A0_0 l0_0.length c0_0) := (blk_cell BK227.out 0).trans rfl
      have hfz6_0 := blk_frozen BK227.out 0
      go_wp2
      go_meet
      case rel => exact ⟨_, (decide ((l0_0.length : Int) > 20)), (by first | rfl | (simp; done) | (simp [*]; done)), H', ⟨by first | omega | exact Nat.le_refl _⟩, ⟨by (with_reducible repeat (first | refine blk_drewN ?_ _ | refine blk_drew ?_ | refine blk_alloc ?_ _)); exact BK227.out⟩, ⟨by repeat (first | (with_reducible first | exact HB.out | apply below_alloc | apply pw_below_drewN | apply below_drew1 | refine below_set ?_ GE227.out) | exact HB.out)⟩⟩
  case rest =>
    clear HC2
    try clear p2
    try clear c4
    try clear c4b0
    try clear c4b1
    try clear c6
    try clear hcz5_0
    try clear hcz6_0
    try clear hfz5_0
    try clear hfz6_0
    obtain ⟨kq, x16_1, rfl, HA, HJ1, BK227, HB⟩ := hcut
    cases kq with
    | zero => exact absurd HA.out (by simp [impl_SelectorOk.j0])
    | succ kj1 =>
      have H := HA.out
      clear HA
      simp only [impl_SelectorOk.j0] at H
      by_cases c7 : x16_1 = true
      · subst c7
        have H1 : (some false) = some r := by rw [if_pos rfl] at H; exact H
        clear H
        have H := H1
        clear H1
        obtain rfl := Option.some.inj H
        go_wp2
        go_ret
        exact ⟨by first | rfl | (simp [errW_none, errW_some] <;> rfl) | (simp [*, errW_none, errW_some] <;> rfl), by repeat (first | (with_reducible first | exact HB.out | apply below_alloc | apply pw_below_drewN | apply below_drew1 | refine below_set ?_ GE227.out) | exact HB.out)⟩
      · replace c7 := Bool.eq_false_iff.mpr c7
        subst c7
        have H1 : (impl_SelectorOk.l0 kj1 l0_0 (l0_0.length : Int) 0) = some r := by rw [if_neg (show ¬ (false = true) by decide)] at H; exact H
        clear H
        have H := H1
        clear H1
        have H' := Aside0.mk H
        clear H
        have hcz8_0 : wc.cell? ⟨gb227, 0, none⟩ = some (.slice A0_0 l0_0.length c0_0) := (blk_cell BK227.out 0).trans rfl
        have hfz8_0 := blk_frozen BK227.out 0
        go_wp2
        go_loopg [20] kj1 (fun kq v20 w' => ∃ (x20_2 : Int), v20 = .int .i64 x20_2 ∧ Aside0 (impl_SelectorOk.l0 kq l0_0 (l0_0.length : Int) x20_2 = some r) ∧ Aside0 (kq ≤ kj1) ∧ Aside0 (w'.heap[gb227]? = some (.cells #[(.slice A0_0 l0_0.length c0_0)] 68 (0, 0))) ∧ Aside0 (Below w.heap.size w w'))
        case atStart => exact ⟨(0), (by first | rfl | (simp; done) | (simp [*]; done)), H', ⟨Nat.le_refl _⟩, ⟨by (with_reducible repeat (first | refine blk_drewN ?_ _ | refine blk_drew ?_ | refine blk_alloc ?_ _)); exact BK227.out⟩, ⟨by repeat (first | (with_reducible first | exact HB.out | apply below_alloc | apply pw_below_drewN | apply below_drew1 | refine below_set ?_ GE227.out) | exact HB.out)⟩⟩
        case round =>
          clear H'
          try clear p2
          try clear c4
          try clear c4b0
          try clear c4b1
          try clear c6
          try clear c7
          try clear hcz5_0
          try clear hcz6_0
          try clear hcz8_0
          try clear hfz5_0
          try clear hfz6_0
          try clear hfz8_0
          try clear p2
          obtain ⟨x20_2, rfl, HA, HK2, BK227, HB⟩ := hrel
          cases gk with
          | zero => exact absurd HA.out (by simp [impl_SelectorOk.l0])
          | succ k2 =>
            have H := HA.out
            clear HA
            simp only [impl_SelectorOk.l0] at H
            by_cases c9 : x20_2 < (l0_0.length : Int)
            · rw [if_pos c9] at H
              have c9b0 : decide (x20_2 < (l0_0.length : Int)) = true := decide_eq_true c9
              clear c9
              by_cases c10 : 0 ≤ x20_2
              · rw [if_pos c10] at H
                have c10b0 : decide (0 ≤ x20_2) = true := decide_eq_true c10
                clear c10
                by_cases c11 : x20_2 < (l0_0.length : Int)
                · rw [if_pos c11] at H
                  have c11b0 : decide (x20_2 < (l0_0.length : Int)) = true := decide_eq_true c11
                  clear c11
                  have HC12 := Aside0.mk H
                  clear H
                  have p228 : 0 ≤ (x20_2 : Int) := of_decide_eq_true (by first | (with_reducible assumption) | assumption)
                  have q228 : x20_2 < (l0_0.length : Int) := of_decide_eq_true (by first | (with_reducible assumption) | assumption)
                  obtain ⟨ad228, A228_1, c228_1, e228, hx228_0, hx228_1, hl228_1, hi228_1⟩ := at_T103 HR0_0.out x20_2 p228 q228
                  cases e228
                  replace hx228_0 := (HB.out.cell (World.block_lt_of_cell? w _ hx228_0)).trans hx228_0
                  replace hx228_1 := (HB.out.cell (World.block_lt_of_cell? w _ hx228_1)).trans hx228_1
                  have HR228_1 := Aside0.mk hi228_1
                  have HC228_1 := Aside0.mk hl228_1
                  clear hi228_1 hl228_1
                  replace p228 := eq_true p228
                  replace q228 := eq_true q228
                  go_upto_region 6 with (first | ((with_reducible refine gate_dst (N := 4) rfl ?_); (try (refine gate_guard (by rfl) ?_; dsimp only)); refine box_event ?hg (N := 4) ?hd (cs := #[.int .i64 0, .slice none 0 0]) (t := 103) ?hr ?_; (case hd => rfl); (case hg => rfl); (case hr => first | (go_simp; done) | (go_simp; rfl)); intro gb229 hg w13 hbox hb; have n0_ := Aside0.mk (blk_below (g := gb227) (o := .cells #[.slice (some ad228) l0_0.length c0_0] 68 (0, 0)) (by (with_reducible repeat (first | refine blk_drewN ?_ _ | refine blk_drew ?_ | refine blk_alloc ?_ _)); exact BK227.out) hb); have n1_ := Aside0.mk (below_step (by repeat (first | (with_reducible first | exact HB.out | apply below_alloc | apply pw_below_drewN | apply below_drew1 | refine below_set ?_ GE227.out) | exact HB.out)) hb); have n2_ := Aside0.mk (hbox); have n3_ := Aside0.mk ((by rw [hg]; exact (below_size (by repeat (first | (with_reducible first | exact HB.out | apply below_alloc | apply pw_below_drewN | apply below_drew1 | refine below_set ?_ GE227.out) | exact HB.out))) : w.heap.size ≤ gb229)); have n4_ := Aside0.mk ((by rw [hg]; exact (below_size (by repeat (first | (with_reducible first | exact HB.out | apply below_alloc | apply pw_below_drewN | apply below_drew1 | refine below_set ?_ GE227.out) | exact HB.out))) : w.heap.size ≤ gb229)); have n5_ := Aside0.mk ((by rw [hg]; exact Nat.ne_of_lt (blk_lt (g := gb227) (o := .cells #[.slice (some ad228) l0_0.length c0_0] 68 (0, 0)) (by (with_reducible repeat (first | refine blk_drewN ?_ _ | refine blk_drew ?_ | refine blk_alloc ?_ _)); exact BK227.out)) : gb227 ≠ gb229)); have n6_ := Aside0.mk ((by rw [hg]; exact Nat.ne_of_gt (blk_lt (g := gb227) (o := .cells #[.slice (some ad228) l0_0.length c0_0] 68 (0, 0)) (by (with_reducible repeat (first | refine blk_drewN ?_ _ | refine blk_drew ?_ | refine blk_alloc ?_ _)); exact BK227.out)) : gb229 ≠ gb227)); clear BK227; clear HB; have BK227 := n0_; have HB := n1_; have BK229 := n2_; have GW229 := n3_; have GE229 := n4_; have NB227_229 := n5_; have NB229_227 := n6_; clear n0_ n1_ n2_ n3_ n4_ n5_ n6_; clear hb hbox hg; have hnb14 := NB229_227.out; have hnc14 := NB227_229.out; have hcz15_0 : w13.cell? ⟨gb229, 0, none⟩ = some (.int .i64 0) := (blk_cell BK229.out 0).trans rfl; have hcz15_1 : w13.cell? ⟨gb229, 1, none⟩ = some (.slice none 0 0) := (blk_cell BK229.out 1).trans rfl; have hfz15_0 := blk_frozen BK229.out 0; have hfz15_1 := blk_frozen BK229.out 1))
                  (try simp only [Act.put, List.setIfInBounds_toArray, List.set_cons_zero, List.set_cons_succ])
                  go_cut [52] (fun v52 wc => ∃ (kq : Nat) (x52_11 : Bool), v52 = .bool x52_11 ∧ Aside0 (impl_SelectorOk.j2 kq l0_0 (l0_0.length : Int) x20_2 x52_11 ((rd_T103 l0_0 x20_2).f0) ((rd_T103 l0_0 x20_2).f1) = some r) ∧ Aside0 (kq ≤ k2) ∧ Aside0 (wc.heap[gb227]? = some (.cells #[(.slice (some ad228) l0_0.length c0_0)] 68 (0, 0))) ∧ Aside0 (wc.heap[gb229]? = some (.cells #[.int .i64 ((rd_T103 l0_0 x20_2).f0), (.slice A228_1 ((rd_T103 l0_0 x20_2).f1).length c228_1)] 103 (0, 0))) ∧ Aside0 (Below w.heap.size w wc))
                  case first =>
                    have H := HC12.out
                    clear HC12
                    by_cases c16 : ((((rd_T103 l0_0 x20_2).f0) == 0) != (x20_2 == 0)) = true
                    · rw [if_pos c16] at H
                      have c16b0 : ((((rd_T103 l0_0 x20_2).f0) == 0) != (x20_2 == 0)) = true := c16
                      (try (have c16b1 : decide ((((rd_T103 l0_0 x20_2).f0) == 0) = (x20_2 == 0)) = false := by simpa using c16))
                      (try (have c16b2 : ((((rd_T103 l0_0 x20_2).f0) == 0) == (x20_2 == 0)) = false := by simpa using c16))
                      (try (have c16b3 : ¬ ((((rd_T103 l0_0 x20_2).f0) == 0) = (x20_2 == 0)) := by simpa using c16))
                      clear c16
                      (first | rw [c16b0] | (simp only [i64_w, i32_w]; rw [c16b0]) | rw [c16b1] | skip)
                      have H' := Aside0.mk H
                      clear H
                      have hnb17 := NB229_227.out
                      have hnc17 := NB227_229.out
                      have hcz18_0 : w13.cell? ⟨gb229, 0, none⟩ = some (.int .i64 0) := (blk_cell BK229.out 0).trans rfl
                      have hcz18_1 : w13.cell? ⟨gb229, 1, none⟩ = some (.slice none 0 0) := (blk_cell BK229.out 1).trans rfl
                      have hfz18_0 := blk_frozen BK229.out 0
                      have hfz18_1 := blk_frozen BK229.out 1
                      go_wp2
                      go_meet
                      case rel => exact ⟨_, (true), (by first | rfl | (simp; done) | (simp [*]; done)), H', ⟨by have := HJ1.out; have := HK2.out; first | omega | exact Nat.le_refl _⟩, ⟨by (with_reducible repeat (first | refine blk_drewN ?_ _ | refine blk_drew ?_ | refine blk_alloc ?_ _)); refine blk_far ?_ NB227_229.out _; (with_reducible repeat (first | refine blk_drewN ?_ _ | refine blk_drew ?_ | refine blk_alloc ?_ _)); refine blk_far ?_ NB227_229.out _; (with_reducible repeat (first | refine blk_drewN ?_ _ | refine blk_drew ?_ | refine blk_alloc ?_ _)); exact BK227.out⟩, ⟨by (with_reducible repeat (first | refine blk_drewN ?_ _ | refine blk_drew ?_ | refine blk_alloc ?_ _)); refine blk_put (cs := #[.int .i64 ((rd_T103 l0_0 x20_2).f0), .slice none 0 0]) ?_ 1 _ rfl; (with_reducible repeat (first | refine blk_drewN ?_ _ | refine blk_drew ?_ | refine blk_alloc ?_ _)); refine blk_put (cs := #[.int .i64 0, .slice none 0 0]) ?_ 0 _ rfl; (with_reducible repeat (first | refine blk_drewN ?_ _ | refine blk_drew ?_ | refine blk_alloc ?_ _)); exact BK229.out⟩, ⟨by repeat (first | (with_reducible first | exact HB.out | apply below_alloc | apply pw_below_drewN | apply below_drew1 | refine below_set ?_ GE227.out | refine below_set ?_ GE229.out) | exact HB.out)⟩⟩
                    · rw [if_neg c16] at H
                      have c16b0 : ((((rd_T103 l0_0 x20_2).f0) == 0) != (x20_2 == 0)) = false := by simpa using c16
                      (try (have c16b1 : decide ((((rd_T103 l0_0 x20_2).f0) == 0) = (x20_2 == 0)) = true := by simpa using c16))
                      (try (have c16b2 : ((((rd_T103 l0_0 x20_2).f0) == 0) == (x20_2 == 0)) = true := by simpa using c16))
                      clear c16
                      (first | rw [c16b0] | (simp only [i64_w, i32_w]; rw [c16b0]) | rw [c16b1] | skip)
                      by_cases c19 : ((rd_T103 l0_0 x20_2).f0) < 0
                      · rw [if_pos c19] at H
                        have c19b0 : decide (((rd_T103 l0_0 x20_2).f0) < 0) = true := decide_eq_true c19
                        clear c19
                        have H' := Aside0.mk H
                        clear H
                        have hnb20 := NB229_227.out
                        have hnc20 := NB227_229.out
                        have hcz21_0 : w13.cell? ⟨gb229, 0, none⟩ = some (.int .i64 0) := (blk_cell BK229.out 0).trans rfl
                        have hcz21_1 : w13.cell? ⟨gb229, 1, none⟩ = some (.slice none 0 0) := (blk_cell BK229.out 1).trans rfl
                        have hfz21_0 := blk_frozen BK229.out 0
                        have hfz21_1 := blk_frozen BK229.out 1
                        go_wp2
                        go_meet
                        case rel => exact ⟨_, (true), (by first | rfl | (simp; done) | (simp [*]; done)), H', ⟨by have := HJ1.out; have := HK2.out; first | omega | exact Nat.le_refl _⟩, ⟨by (with_reducible repeat (first | refine blk_drewN ?_ _ | refine blk_drew ?_ | refine blk_alloc ?_ _)); refine blk_far ?_ NB227_229.out _; (with_reducible repeat (first | refine blk_drewN ?_ _ | refine blk_drew ?_ | refine blk_alloc ?_ _)); refine blk_far ?_ NB227_229.out _; (with_reducible repeat (first | refine blk_drewN ?_ _ | refine blk_drew ?_ | refine blk_alloc ?_ _)); exact BK227.out⟩, ⟨by (with_reducible repeat (first | refine blk_drewN ?_ _ | refine blk_drew ?_ | refine blk_alloc ?_ _)); refine blk_put (cs := #[.int .i64 ((rd_T103 l0_0 x20_2).f0), .slice none 0 0]) ?_ 1 _ rfl; (with_reducible repeat (first | refine blk_drewN ?_ _ | refine blk_drew ?_ | refine blk_alloc ?_ _)); refine blk_put (cs := #[.int .i64 0, .slice none 0 0]) ?_ 0 _ rfl; (with_reducible repeat (first | refine blk_drewN ?_ _ | refine blk_drew ?_ | refine blk_alloc ?_ _)); exact BK229.out⟩, ⟨by repeat (first | (with_reducible first | exact HB.out | apply below_alloc | apply pw_below_drewN | apply below_drew1 | refine below_set ?_ GE227.out | refine below_set ?_ GE229.out) | exact HB.out)⟩⟩
                      · rw [if_neg c19] at H
                        have c19b0 : decide (((rd_T103 l0_0 x20_2).f0) < 0) = false := decide_eq_false c19
                        clear c19
                        by_cases c22 : ((rd_T103 l0_0 x20_2).f0) > 4
                        · rw [if_pos c22] at H
                          have c22b0 : decide (4 < ((rd_T103 l0_0 x20_2).f0)) = true := decide_eq_true c22
                          clear c22
                          have H' := Aside0.mk H
                          clear H
                          have hnb23 := NB229_227.out
                          have hnc23 := NB227_229.out
                          have hcz24_0 : w13.cell? ⟨gb229, 0, none⟩ = some (.int .i64 0) := (blk_cell BK229.out 0).trans rfl
                          have hcz24_1 : w13.cell? ⟨gb229, 1, none⟩ = some (.slice none 0 0) := (blk_cell BK229.out 1).trans rfl
                          have hfz24_0 := blk_frozen BK229.out 0
                          have hfz24_1 := blk_frozen BK229.out 1
                          go_wp2
                          go_meet
                          case rel => exact ⟨_, (true), (by first | rfl | (simp; done) | (simp [*]; done)), H', ⟨by have := HJ1.out; have := HK2.out; first | omega | exact Nat.le_refl _⟩, ⟨by (with_reducible repeat (first | refine blk_drewN ?_ _ | refine blk_drew ?_ | refine blk_alloc ?_ _)); refine blk_far ?_ NB227_229.out _; (with_reducible repeat (first | refine blk_drewN ?_ _ | refine blk_drew ?_ | refine blk_alloc ?_ _)); refine blk_far ?_ NB227_229.out _; (with_reducible repeat (first | refine blk_drewN ?_ _ | refine blk_drew ?_ | refine blk_alloc ?_ _)); exact BK227.out⟩, ⟨by (with_reducible repeat (first | refine blk_drewN ?_ _ | refine blk_drew ?_ | refine blk_alloc ?_ _)); refine blk_put (cs := #[.int .i64 ((rd_T103 l0_0 x20_2).f0), .slice none 0 0]) ?_ 1 _ rfl; (with_reducible repeat (first | refine blk_drewN ?_ _ | refine blk_drew ?_ | refine blk_alloc ?_ _)); refine blk_put (cs := #[.int .i64 0, .slice none 0 0]) ?_ 0 _ rfl; (with_reducible repeat (first | refine blk_drewN ?_ _ | refine blk_drew ?_ | refine blk_alloc ?_ _)); exact BK229.out⟩, ⟨by repeat (first | (with_reducible first | exact HB.out | apply below_alloc | apply pw_below_drewN | apply below_drew1 | refine below_set ?_ GE227.out | refine below_set ?_ GE229.out) | exact HB.out)⟩⟩
                        · rw [if_neg c22] at H
                          have c22b0 : decide (4 < ((rd_T103 l0_0 x20_2).f0)) = false := decide_eq_false c22
                          clear c22
                          by_cases c25 : (((rd_T103 l0_0 x20_2).f1).length : Int) < 1
                          · rw [if_pos c25] at H
                            have c25b0 : decide ((((rd_T103 l0_0 x20_2).f1).length : Int) < 1) = true := decide_eq_true c25
                            have c25b1 : decide (((rd_T103 l0_0 x20_2).f1).length < 1) = true := decide_eq_true (by omega)
                            clear c25
                            have H' := Aside0.mk H
                            clear H
                            have hnb26 := NB229_227.out
                            have hnc26 := NB227_229.out
                            have hcz27_0 : w13.cell? ⟨gb229, 0, none⟩ = some (.int .i64 0) := (blk_cell BK229.out 0).trans rfl
                            have hcz27_1 : w13.cell? ⟨gb229, 1, none⟩ = some (.slice none 0 0) := (blk_cell BK229.out 1).trans rfl
                            have hfz27_0 := blk_frozen BK229.out 0
                            have hfz27_1 := blk_frozen BK229.out 1
                            go_wp2
                            go_meet
                            case rel => exact ⟨_, (true), (by first | rfl | (simp; done) | (simp [*]; done)), H', ⟨by have := HJ1.out; have := HK2.out; first | omega | exact Nat.le_refl _⟩, ⟨by (with_reducible repeat (first | refine blk_drewN ?_ _ | refine blk_drew ?_ | refine blk_alloc ?_ _)); refine blk_far ?_ NB227_229.out _; (with_reducible repeat (first | refine blk_drewN ?_ _ | refine blk_drew ?_ | refine blk_alloc ?_ _)); refine blk_far ?_ NB227_229.out _; (with_reducible repeat (first | refine blk_drewN ?_ _ | refine blk_drew ?_ | refine blk_alloc ?_ _)); exact BK227.out⟩, ⟨by (with_reducible repeat (first | refine blk_drewN ?_ _ | refine blk_drew ?_ | refine blk_alloc ?_ _)); refine blk_put (cs := #[.int .i64 ((rd_T103 l0_0 x20_2).f0), .slice none 0 0]) ?_ 1 _ rfl; (with_reducible repeat (first | refine blk_drewN ?_ _ | refine blk_drew ?_ | refine blk_alloc ?_ _)); refine blk_put (cs := #[.int .i64 0, .slice none 0 0]) ?_ 0 _ rfl; (with_reducible repeat (first | refine blk_drewN ?_ _ | refine blk_drew ?_ | refine blk_alloc ?_ _)); exact BK229.out⟩, ⟨by repeat (first | (with_reducible first | exact HB.out | apply below_alloc | apply pw_below_drewN | apply below_drew1 | refine below_set ?_ GE227.out | refine below_set ?_ GE229.out) | exact HB.out)⟩⟩
                          · rw [if_neg c25] at H
                            have c25b0 : decide ((((rd_T103 l0_0 x20_2).f1).length : Int) < 1) = false := decide_eq_false c25
                            have c25b1 : decide (((rd_T103 l0_0 x20_2).f1).length < 1) = false := decide_eq_false (by omega)
                            clear c25
                            have H' := Aside0.mk H
                            clear H
                            have hnb28 := NB229_227.out
                            have hnc28 := NB227_229.out
                            have hcz29_0 : w13.cell? ⟨gb229, 0, none⟩ = some (.int .i64 0) := (blk_cell BK229.out 0).trans rfl
                            have hcz29_1 : w13.cell? ⟨gb229, 1, none⟩ = some (.slice none 0 0) := (blk_cell BK229.out 1).trans rfl
                            have hfz29_0 := blk_frozen BK229.out 0
                            have hfz29_1 := blk_frozen BK229.out 1
                            go_wp2
                            go_meet
                            case rel => exact ⟨_, (decide ((((rd_T103 l0_0 x20_2).f1).length : Int) > 20)), (by first | rfl | (simp; done) | (simp [*]; done)), H', ⟨by have := HJ1.out; have := HK2.out; first | omega | exact Nat.le_refl _⟩, ⟨by (with_reducible repeat (first | refine blk_drewN ?_ _ | refine blk_drew ?_ | refine blk_alloc ?_ _)); refine blk_far ?_ NB227_229.out _; (with_reducible repeat (first | refine blk_drewN ?_ _ | refine blk_drew ?_ | refine blk_alloc ?_ _)); refine blk_far ?_ NB227_229.out _; (with_reducible repeat (first | refine blk_drewN ?_ _ | refine blk_drew ?_ | refine blk_alloc ?_ _)); exact BK227.out⟩, ⟨by (with_reducible repeat (first | refine blk_drewN ?_ _ | refine blk_drew ?_ | refine blk_alloc ?_ _)); refine blk_put (cs := #[.int .i64 ((rd_T103 l0_0 x20_2).f0), .slice none 0 0]) ?_ 1 _ rfl; (with_reducible repeat (first | refine blk_drewN ?_ _ | refine blk_drew ?_ | refine blk_alloc ?_ _)); refine blk_put (cs := #[.int .i64 0, .slice none 0 0]) ?_ 0 _ rfl; (with_reducible repeat (first | refine blk_drewN ?_ _ | refine blk_drew ?_ | refine blk_alloc ?_ _)); exact BK229.out⟩, ⟨by repeat (first | (with_reducible first | exact HB.out | apply below_alloc | apply pw_below_drewN | apply below_drew1 | refine below_set ?_ GE227.out | refine below_set ?_ GE229.out) | exact HB.out)⟩⟩
                  case rest =>
                    clear HC12
                    try clear c1
                    try clear c2
                    try clear p2
                    try clear q2
                    try clear hx2
                    try clear c4
                    try clear c4b0
                    try clear c4b1
                    try clear c6
                    try clear c7
                    try clear c9
                    try clear c9b0
                    try clear c10
                    try clear c10b0
                    try clear c11
                    try clear c11b0
                    try clear c14
                    try clear c16
                    try clear c16b0
                    try clear c16b1
                    try clear c16b2
                    try clear c17
                    try clear c19
                    try clear c19b0
                    try clear c20
                    try clear c22
                    try clear c22b0
                    try clear p22
                    try clear q22
                    try clear hx22
                    try clear c23
                    try clear c25
                    try clear c25b0
                    try clear c25b1
                    try clear c26
                    try clear c28
                    try clear hcz15_0
                    try clear hcz15_1
                    try clear hcz18_0
                    try clear hcz18_1
                    try clear hcz21_0
                    try clear hcz21_1
                    try clear hcz24_0
                    try clear hcz24_1
                    try clear hcz27_0
                    try clear hcz27_1
                    try clear hcz29_0
                    try clear hcz29_1
                    try clear hcz5_0
                    try clear hcz6_0
                    try clear hcz8_0
                    try clear hfz15_0
                    try clear hfz15_1
                    try clear hfz18_0
                    try clear hfz18_1
                    try clear hfz21_0
                    try clear hfz21_1
                    try clear hfz24_0
                    try clear hfz24_1
                    try clear hfz27_0
                    try clear hfz27_1
                    try clear hfz29_0
                    try clear hfz29_1
                    try clear hfz5_0
                    try clear hfz6_0
                    try clear hfz8_0
                    try clear hx228_0
                    try clear hx228_1
                    try clear p2
                    try clear p228
                    try clear q228
                    obtain ⟨kq, x52_11, rfl, HA, HJ11, BK227, BK229, HB⟩ := hcut
                    cases kq with
                    | zero => exact absurd HA.out (by simp [impl_SelectorOk.j2])
                    | succ kj11 =>
                      have H := HA.out
                      clear HA
                      simp only [impl_SelectorOk.j2] at H
                      by_cases c30 : x52_11 = true
                      · subst c30
                        have H1 : (some false) = some r := by rw [if_pos rfl] at H; exact H
                        clear H
                        have H := H1
                        clear H1
                        obtain rfl := Option.some.inj H
                        go_wp2
                        go_ret
                        exact ⟨by first | rfl | (simp [errW_none, errW_some] <;> rfl) | (simp [*, errW_none, errW_some] <;> rfl), by repeat (first | (with_reducible first | exact HB.out | apply below_alloc | apply pw_below_drewN | apply below_drew1 | refine below_set ?_ GE227.out | refine below_set ?_ GE229.out) | exact HB.out)⟩
                      · replace c30 := Bool.eq_false_iff.mpr c30
                        subst c30
                        have H1 : (impl_SelectorOk.l1 kj11 l0_0 (l0_0.length : Int) x20_2 ((rd_T103 l0_0 x20_2).f1) (((rd_T103 l0_0 x20_2).f1).length : Int) 0) = some r := by rw [if_neg (show ¬ (false = true) by decide)] at H; exact H
                        clear H
                        have H := H1
                        clear H1
                        have H' := Aside0.mk H
                        clear H
                        have hnb31 := NB229_227.out
                        have hnc31 := NB227_229.out
                        have hcz32_0 : wc.cell? ⟨gb229, 0, none⟩ = some (.int .i64 ((rd_T103 l0_0 x20_2).f0)) := (blk_cell BK229.out 0).trans rfl
                        have hcz32_1 : wc.cell? ⟨gb229, 1, none⟩ = some (.slice A228_1 ((rd_T103 l0_0 x20_2).f1).length c228_1) := (blk_cell BK229.out 1).trans rfl
                        have hfz32_0 := blk_frozen BK229.out 0
                        have hfz32_1 := blk_frozen BK229.out 1
                        go_wp2
                        go_loopg [56] kj11 (fun kq v56 w' => ∃ (x56_4 : Int), v56 = .int .i64 x56_4 ∧ Aside0 (impl_SelectorOk.l1 kq l0_0 (l0_0.length : Int) x20_2 ((rd_T103 l0_0 x20_2).f1) (((rd_T103 l0_0 x20_2).f1).length : Int) x56_4 = some r) ∧ Aside0 (kq ≤ kj11) ∧ Aside0 (w'.heap[gb227]? = some (.cells #[(.slice (some ad228) l0_0.length c0_0)] 68 (0, 0))) ∧ Aside0 (w'.heap[gb229]? = some (.cells #[.int .i64 ((rd_T103 l0_0 x20_2).f0), (.slice A228_1 ((rd_T103 l0_0 x20_2).f1).length c228_1)] 103 (0, 0))) ∧ Aside0 (Below w.heap.size w w'))
                        case atStart => exact ⟨(0), (by first | rfl | (simp; done) | (simp [*]; done)), H', ⟨Nat.le_refl _⟩, ⟨by (with_reducible repeat (first | refine blk_drewN ?_ _ | refine blk_drew ?_ | refine blk_alloc ?_ _)); exact BK227.out⟩, ⟨by (with_reducible repeat (first | refine blk_drewN ?_ _ | refine blk_drew ?_ | refine blk_alloc ?_ _)); exact BK229.out⟩, ⟨by repeat (first | (with_reducible first | exact HB.out | apply below_alloc | apply pw_below_drewN | apply below_drew1 | refine below_set ?_ GE227.out | refine below_set ?_ GE229.out) | exact HB.out)⟩⟩
                        case round =>
                          clear H'
                          try clear c1
                          try clear c2
                          try clear p2
                          try clear q2
                          try clear hx2
                          try clear c3
                          try clear c4
                          try clear c4b0
                          try clear c4b1
                          try clear c6
                          try clear c7
                          try clear c9
                          try clear c9b0
                          try clear c10
                          try clear c10b0
                          try clear c11
                          try clear c11b0
                          try clear c14
                          try clear c16
                          try clear c16b0
                          try clear c16b1
                          try clear c16b2
                          try clear c17
                          try clear c19
                          try clear c19b0
                          try clear c20
                          try clear c22
                          try clear c22b0
                          try clear p22
                          try clear q22
                          try clear hx22
                          try clear c23
                          try clear c25
                          try clear c25b0
                          try clear c25b1
                          try clear c26
                          try clear c28
                          try clear c30
                          try clear c31
                          try clear hcz15_0
                          try clear hcz15_1
                          try clear hcz18_0
                          try clear hcz18_1
                          try clear hcz21_0
                          try clear hcz21_1
                          try clear hcz24_0
                          try clear hcz24_1
                          try clear hcz27_0
                          try clear hcz27_1
                          try clear hcz29_0
                          try clear hcz29_1
                          try clear hcz32_0
                          try clear hcz32_1
                          try clear hcz5_0
                          try clear hcz6_0
                          try clear hcz8_0
                          try clear hfz15_0
                          try clear hfz15_1
                          try clear hfz18_0
                          try clear hfz18_1
                          try clear hfz21_0
                          try clear hfz21_1
                          try clear hfz24_0
                          try clear hfz24_1
                          try clear hfz27_0
                          try clear hfz27_1
                          try clear hfz29_0
                          try clear hfz29_1
                          try clear hfz32_0
                          try clear hfz32_1
                          try clear hfz5_0
                          try clear hfz6_0
                          try clear hfz8_0
                          try clear hx228_0
                          try clear hx228_1
                          try clear p2
                          try clear p22
                          try clear p228
                          try clear q2
                          try clear q22
                          try clear q228
                          obtain ⟨x56_4, rfl, HA, HK4, BK227, BK229, HB⟩ := hrel
                          cases gk with
                          | zero => exact absurd HA.out (by simp [impl_SelectorOk.l1])
                          | succ k4 =>
                            have H := HA.out
                            clear HA
                            simp only [impl_SelectorOk.l1] at H
                            by_cases c33 : x56_4 < (((rd_T103 l0_0 x20_2).f1).length : Int)
                            · rw [if_pos c33] at H
                              have c33b0 : decide (x56_4 < (((rd_T103 l0_0 x20_2).f1).length : Int)) = true := decide_eq_true c33
                              clear c33
                              by_cases c34 : 0 ≤ x56_4
                              · rw [if_pos c34] at H
                                have c34b0 : decide (0 ≤ x56_4) = true := decide_eq_true c34
                                clear c34
                                by_cases c35 : x56_4 < (((rd_T103 l0_0 x20_2).f1).length : Int)
                                · rw [if_pos c35] at H
                                  have c35b0 : decide (x56_4 < (((rd_T103 l0_0 x20_2).f1).length : Int)) = true := decide_eq_true c35
                                  clear c35
                                  replace H := Option.bind_eq_some_iff.mp H
                                  obtain ⟨t232, A360, H⟩ := H
                                  replace H : (if t232 = true then (impl_SelectorOk.l1 k4 l0_0 (l0_0.length : Int) x20_2 ((rd_T103 l0_0 x20_2).f1) (((rd_T103 l0_0 x20_2).f1).length : Int) (wrap64 (x56_4 + 1))) else (some false)) = some r := H
                                  have A36 := Aside0.mk A360
                                  clear A360
                                  by_cases c37 : t232 = true
                                  · subst c37
                                    have H1 : (impl_SelectorOk.l1 k4 l0_0 (l0_0.length : Int) x20_2 ((rd_T103 l0_0 x20_2).f1) (((rd_T103 l0_0 x20_2).f1).length : Int) (wrap64 (x56_4 + 1))) = some r := by rw [if_pos rfl] at H; exact H
                                    clear H
                                    have H := H1
                                    clear H1
                                    have H' := Aside0.mk H
                                    clear H
                                    have p230 : 0 ≤ (x56_4 : Int) := of_decide_eq_true (by first | (with_reducible assumption) | assumption)
                                    have q230 : x56_4 < (((rd_T103 l0_0 x20_2).f1).length : Int) := of_decide_eq_true (by first | (with_reducible assumption) | assumption)
                                    obtain ⟨ad230, A230_5, c230_5, e230, hx230_0, hx230_1, hx230_2, hx230_3, hx230_4, hx230_5, hl230_5, hi230_5⟩ := at_T109 HR228_1.out x56_4 p230 q230
                                    cases e230
                                    replace hx230_0 := (HB.out.cell (World.block_lt_of_cell? w _ hx230_0)).trans hx230_0
                                    replace hx230_1 := (HB.out.cell (World.block_lt_of_cell? w _ hx230_1)).trans hx230_1
                                    replace hx230_2 := (HB.out.cell (World.block_lt_of_cell? w _ hx230_2)).trans hx230_2
                                    replace hx230_3 := (HB.out.cell (World.block_lt_of_cell? w _ hx230_3)).trans hx230_3
                                    replace hx230_4 := (HB.out.cell (World.block_lt_of_cell? w _ hx230_4)).trans hx230_4
                                    replace hx230_5 := (HB.out.cell (World.block_lt_of_cell? w _ hx230_5)).trans hx230_5
                                    have HR230_5 := Aside0.mk hi230_5
                                    have HC230_5 := Aside0.mk hl230_5
                                    clear hi230_5 hl230_5
                                    replace p230 := eq_true p230
                                    replace q230 := eq_true q230
                                    go_wp2_with (first | ((with_reducible refine gate_dst (N := 6) rfl ?_); (try (refine gate_guard (by rfl) ?_; dsimp only)); refine box_event ?hg (N := 6) ?hd (cs := #[.int .i64 0, .string (⟨#[]⟩ : ByteArray), .string (⟨#[]⟩ : ByteArray), .int .i64 0, .int .i64 0, .slice none 0 0]) (t := 109) ?hr ?_; (case hd => rfl); (case hg => rfl); (case hr => first | (go_simp; done) | (go_simp; rfl)); intro gb231 hg w38 hbox hb; have n0_ := Aside0.mk (blk_below (g := gb227) (o := .cells #[.slice (some ad228) l0_0.length c0_0] 68 (0, 0)) (by (with_reducible repeat (first | refine blk_drewN ?_ _ | refine blk_drew ?_ | refine blk_alloc ?_ _)); exact BK227.out) hb); have n1_ := Aside0.mk (blk_below (g := gb229) (o := .cells #[.int .i64 ((rd_T103 l0_0 x20_2).f0), .slice (some ad230) ((rd_T103 l0_0 x20_2).f1).length c228_1] 103 (0, 0)) (by (with_reducible repeat (first | refine blk_drewN ?_ _ | refine blk_drew ?_ | refine blk_alloc ?_ _)); exact BK229.out) hb); have n2_ := Aside0.mk (below_step (by repeat (first | (with_reducible first | exact HB.out | apply below_alloc | apply pw_below_drewN | apply below_drew1 | refine below_set ?_ GE227.out | refine below_set ?_ GE229.out) | exact HB.out)) hb); have n3_ := Aside0.mk (hbox); have n4_ := Aside0.mk ((by rw [hg]; exact (below_size (by repeat (first | (with_reducible first | exact HB.out | apply below_alloc | apply pw_below_drewN | apply below_drew1 | refine below_set ?_ GE227.out | refine below_set ?_ GE229.out) | exact HB.out))) : w.heap.size ≤ gb231)); have n5_ := Aside0.mk ((by rw [hg]; exact (below_size (by repeat (first | (with_reducible first | exact HB.out | apply below_alloc | apply pw_below_drewN | apply below_drew1 | refine below_set ?_ GE227.out | refine below_set ?_ GE229.out) | exact HB.out))) : w.heap.size ≤ gb231)); have n6_ := Aside0.mk ((by rw [hg]; exact Nat.ne_of_lt (blk_lt (g := gb227) (o := .cells #[.slice (some ad228) l0_0.length c0_0] 68 (0, 0)) (by (with_reducible repeat (first | refine blk_drewN ?_ _ | refine blk_drew ?_ | refine blk_alloc ?_ _)); exact BK227.out)) : gb227 ≠ gb231)); have n7_ := Aside0.mk ((by rw [hg]; exact Nat.ne_of_gt (blk_lt (g := gb227) (o := .cells #[.slice (some ad228) l0_0.length c0_0] 68 (0, 0)) (by (with_reducible repeat (first | refine blk_drewN ?_ _ | refine blk_drew ?_ | refine blk_alloc ?_ _)); exact BK227.out)) : gb231 ≠ gb227)); have n8_ := Aside0.mk ((by rw [hg]; exact Nat.ne_of_lt (blk_lt (g := gb229) (o := .cells #[.int .i64 ((rd_T103 l0_0 x20_2).f0), .slice (some ad230) ((rd_T103 l0_0 x20_2).f1).length c228_1] 103 (0, 0)) (by (with_reducible repeat (first | refine blk_drewN ?_ _ | refine blk_drew ?_ | refine blk_alloc ?_ _)); exact BK229.out)) : gb229 ≠ gb231)); have n9_ := Aside0.mk ((by rw [hg]; exact Nat.ne_of_gt (blk_lt (g := gb229) (o := .cells #[.int .i64 ((rd_T103 l0_0 x20_2).f0), .slice (some ad230) ((rd_T103 l0_0 x20_2).f1).length c228_1] 103 (0, 0)) (by (with_reducible repeat (first | refine blk_drewN ?_ _ | refine blk_drew ?_ | refine blk_alloc ?_ _)); exact BK229.out)) : gb231 ≠ gb229)); clear BK227; clear BK229; clear HB; have BK227 := n0_; have BK229 := n1_; have HB := n2_; have BK231 := n3_; have GW231 := n4_; have GE231 := n5_; have NB227_231 := n6_; have NB231_227 := n7_; have NB229_231 := n8_; have NB231_229 := n9_; clear n0_ n1_ n2_ n3_ n4_ n5_ n6_ n7_ n8_ n9_; clear hb hbox hg; have hnb39 := NB231_227.out; have hnc39 := NB227_231.out; have hnb40 := NB231_229.out; have hnc40 := NB229_231.out; have hcz41_0 : w38.cell? ⟨gb231, 0, none⟩ = some (.int .i64 0) := (blk_cell BK231.out 0).trans rfl; have hcz41_1 : w38.cell? ⟨gb231, 1, none⟩ = some (.string (⟨#[]⟩ : ByteArray)) := (blk_cell BK231.out 1).trans rfl; have hcz41_2 : w38.cell? ⟨gb231, 2, none⟩ = some (.string (⟨#[]⟩ : ByteArray)) := (blk_cell BK231.out 2).trans rfl; have hcz41_3 : w38.cell? ⟨gb231, 3, none⟩ = some (.int .i64 0) := (blk_cell BK231.out 3).trans rfl; have hcz41_4 : w38.cell? ⟨gb231, 4, none⟩ = some (.int .i64 0) := (blk_cell BK231.out 4).trans rfl; have hcz41_5 : w38.cell? ⟨gb231, 5, none⟩ = some (.slice none 0 0) := (blk_cell BK231.out 5).trans rfl; have hfz41_0 := blk_frozen BK231.out 0; have hfz41_1 := blk_frozen BK231.out 1; have hfz41_2 := blk_frozen BK231.out 2; have hfz41_3 := blk_frozen BK231.out 3; have hfz41_4 := blk_frozen BK231.out 4; have hfz41_5 := blk_frozen BK231.out 5) | ((with_reducible refine gate_callee (f := 92) rfl ?_); refine goesL_ (some 64) rfl rfl Try.func92 (by kernel_rfl) rfl #[.agg #[.int .i64 ((rd_T109 ((rd_T103 l0_0 x20_2).f1) x56_4).f0.f0), .string ((rd_T109 ((rd_T103 l0_0 x20_2).f1) x56_4).f0.f1), .string ((rd_T109 ((rd_T103 l0_0 x20_2).f1) x56_4).f0.f2), .int .i64 ((rd_T109 ((rd_T103 l0_0 x20_2).f1) x56_4).f0.f3), .int .i64 ((rd_T109 ((rd_T103 l0_0 x20_2).f1) x56_4).f0.f4), .slice A230_5 ((rd_T109 ((rd_T103 l0_0 x20_2).f1) x56_4).f1).length c230_5], .bool (x56_4 == 0)] rfl (by (try simp only [List.map_toArray, List.map_cons, List.map_nil]); first | done | rfl | (simp only [List.length_drop, List.length_take]; rfl)) ?_; (with_reducible refine (impl_simpleOk.calls k4 ((rd_T109 ((rd_T103 l0_0 x20_2).f1) x56_4).f0.f0) ((rd_T109 ((rd_T103 l0_0 x20_2).f1) x56_4).f0.f1) ((rd_T109 ((rd_T103 l0_0 x20_2).f1) x56_4).f0.f2) ((rd_T109 ((rd_T103 l0_0 x20_2).f1) x56_4).f0.f3) ((rd_T109 ((rd_T103 l0_0 x20_2).f1) x56_4).f0.f4) _ _ ((rd_T109 ((rd_T103 l0_0 x20_2).f1) x56_4).f1) (x56_4 == 0) true _ ?side1 ?side2 A36.out).mono ?_); (case side1 => exact Kd.C_below HR230_5.out (by repeat (first | (with_reducible first | exact HB.out | apply below_alloc | apply pw_below_drewN | apply below_drew1 | refine below_set ?_ GE227.out | refine below_set ?_ GE229.out | refine below_set ?_ GE231.out) | exact HB.out))); (case side2 => exact HC230_5.out); rintro e w42 ⟨rfl, hb⟩; refine ⟨_, rfl, ?_⟩; have n0_ := Aside0.mk (blk_below (g := gb227) (o := .cells #[.slice (some ad228) l0_0.length c0_0] 68 (0, 0)) (by (with_reducible repeat (first | refine blk_drewN ?_ _ | refine blk_drew ?_ | refine blk_alloc ?_ _)); refine blk_far ?_ NB227_231.out _; (with_reducible repeat (first | refine blk_drewN ?_ _ | refine blk_drew ?_ | refine blk_alloc ?_ _)); refine blk_far ?_ NB227_231.out _; (with_reducible repeat (first | refine blk_drewN ?_ _ | refine blk_drew ?_ | refine blk_alloc ?_ _)); refine blk_far ?_ NB227_231.out _; (with_reducible repeat (first | refine blk_drewN ?_ _ | refine blk_drew ?_ | refine blk_alloc ?_ _)); refine blk_far ?_ NB227_231.out _; (with_reducible repeat (first | refine blk_drewN ?_ _ | refine blk_drew ?_ | refine blk_alloc ?_ _)); refine blk_far ?_ NB227_231.out _; (with_reducible repeat (first | refine blk_drewN ?_ _ | refine blk_drew ?_ | refine blk_alloc ?_ _)); refine blk_far ?_ NB227_231.out _; (with_reducible repeat (first | refine blk_drewN ?_ _ | refine blk_drew ?_ | refine blk_alloc ?_ _)); exact BK227.out) hb); have n1_ := Aside0.mk (blk_below (g := gb229) (o := .cells #[.int .i64 ((rd_T103 l0_0 x20_2).f0), .slice (some ad230) ((rd_T103 l0_0 x20_2).f1).length c228_1] 103 (0, 0)) (by (with_reducible repeat (first | refine blk_drewN ?_ _ | refine blk_drew ?_ | refine blk_alloc ?_ _)); refine blk_far ?_ NB229_231.out _; (with_reducible repeat (first | refine blk_drewN ?_ _ | refine blk_drew ?_ | refine blk_alloc ?_ _)); refine blk_far ?_ NB229_231.out _; (with_reducible repeat (first | refine blk_drewN ?_ _ | refine blk_drew ?_ | refine blk_alloc ?_ _)); refine blk_far ?_ NB229_231.out _; (with_reducible repeat (first | refine blk_drewN ?_ _ | refine blk_drew ?_ | refine blk_alloc ?_ _)); refine blk_far ?_ NB229_231.out _; (with_reducible repeat (first | refine blk_drewN ?_ _ | refine blk_drew ?_ | refine blk_alloc ?_ _)); refine blk_far ?_ NB229_231.out _; (with_reducible repeat (first | refine blk_drewN ?_ _ | refine blk_drew ?_ | refine blk_alloc ?_ _)); refine blk_far ?_ NB229_231.out _; (with_reducible repeat (first | refine blk_drewN ?_ _ | refine blk_drew ?_ | refine blk_alloc ?_ _)); exact BK229.out) hb); have n2_ := Aside0.mk (blk_below (g := gb231) (o := .cells #[.int .i64 ((rd_T109 ((rd_T103 l0_0 x20_2).f1) x56_4).f0.f0), .string ((rd_T109 ((rd_T103 l0_0 x20_2).f1) x56_4).f0.f1), .string ((rd_T109 ((rd_T103 l0_0 x20_2).f1) x56_4).f0.f2), .int .i64 ((rd_T109 ((rd_T103 l0_0 x20_2).f1) x56_4).f0.f3), .int .i64 ((rd_T109 ((rd_T103 l0_0 x20_2).f1) x56_4).f0.f4), .slice A230_5 ((rd_T109 ((rd_T103 l0_0 x20_2).f1) x56_4).f1).length c230_5] 109 (0, 0)) (by (with_reducible repeat (first | refine blk_drewN ?_ _ | refine blk_drew ?_ | refine blk_alloc ?_ _)); refine blk_put (cs := #[.int .i64 ((rd_T109 ((rd_T103 l0_0 x20_2).f1) x56_4).f0.f0), .string ((rd_T109 ((rd_T103 l0_0 x20_2).f1) x56_4).f0.f1), .string ((rd_T109 ((rd_T103 l0_0 x20_2).f1) x56_4).f0.f2), .int .i64 ((rd_T109 ((rd_T103 l0_0 x20_2).f1) x56_4).f0.f3), .int .i64 ((rd_T109 ((rd_T103 l0_0 x20_2).f1) x56_4).f0.f4), .slice none 0 0]) ?_ 5 _ rfl; (with_reducible repeat (first | refine blk_drewN ?_ _ | refine blk_drew ?_ | refine blk_alloc ?_ _)); refine blk_put (cs := #[.int .i64 ((rd_T109 ((rd_T103 l0_0 x20_2).f1) x56_4).f0.f0), .string ((rd_T109 ((rd_T103 l0_0 x20_2).f1) x56_4).f0.f1), .string ((rd_T109 ((rd_T103 l0_0 x20_2).f1) x56_4).f0.f2), .int .i64 ((rd_T109 ((rd_T103 l0_0 x20_2).f1) x56_4).f0.f3), .int .i64 0, .slice none 0 0]) ?_ 4 _ rfl; (with_reducible repeat (first | refine blk_drewN ?_ _ | refine blk_drew ?_ | refine blk_alloc ?_ _)); refine blk_put (cs := #[.int .i64 ((rd_T109 ((rd_T103 l0_0 x20_2).f1) x56_4).f0.f0), .string ((rd_T109 ((rd_T103 l0_0 x20_2).f1) x56_4).f0.f1), .string ((rd_T109 ((rd_T103 l0_0 x20_2).f1) x56_4).f0.f2), .int .i64 0, .int .i64 0, .slice none 0 0]) ?_ 3 _ rfl; (with_reducible repeat (first | refine blk_drewN ?_ _ | refine blk_drew ?_ | refine blk_alloc ?_ _)); refine blk_put (cs := #[.int .i64 ((rd_T109 ((rd_T103 l0_0 x20_2).f1) x56_4).f0.f0), .string ((rd_T109 ((rd_T103 l0_0 x20_2).f1) x56_4).f0.f1), .string (⟨#[]⟩ : ByteArray), .int .i64 0, .int .i64 0, .slice none 0 0]) ?_ 2 _ rfl; (with_reducible repeat (first | refine blk_drewN ?_ _ | refine blk_drew ?_ | refine blk_alloc ?_ _)); refine blk_put (cs := #[.int .i64 ((rd_T109 ((rd_T103 l0_0 x20_2).f1) x56_4).f0.f0), .string (⟨#[]⟩ : ByteArray), .string (⟨#[]⟩ : ByteArray), .int .i64 0, .int .i64 0, .slice none 0 0]) ?_ 1 _ rfl; (with_reducible repeat (first | refine blk_drewN ?_ _ | refine blk_drew ?_ | refine blk_alloc ?_ _)); refine blk_put (cs := #[.int .i64 0, .string (⟨#[]⟩ : ByteArray), .string (⟨#[]⟩ : ByteArray), .int .i64 0, .int .i64 0, .slice none 0 0]) ?_ 0 _ rfl; (with_reducible repeat (first | refine blk_drewN ?_ _ | refine blk_drew ?_ | refine blk_alloc ?_ _)); exact BK231.out) hb); have n3_ := Aside0.mk (below_step (by repeat (first | (with_reducible first | exact HB.out | apply below_alloc | apply pw_below_drewN | apply below_drew1 | refine below_set ?_ GE227.out | refine below_set ?_ GE229.out | refine below_set ?_ GE231.out) | exact HB.out)) hb); clear BK227; clear BK229; clear BK231; clear HB; have BK227 := n0_; have BK229 := n1_; have BK231 := n2_; have HB := n3_; clear n0_ n1_ n2_ n3_; (try clear hb); (try clear hb2); (try clear hk); (try clear hi)))
                                    go_roundg k4
                                    case measure => have := HJ1.out; have := HK2.out; have := HJ11.out; have := HK4.out; omega
                                    case rel => exact ⟨(wrap64 (x56_4 + 1)), (by first | rfl | (simp; done) | (simp [*]; done)), H', ⟨by have := HJ1.out; have := HK2.out; have := HJ11.out; have := HK4.out; omega⟩, ⟨by (with_reducible repeat (first | refine blk_drewN ?_ _ | refine blk_drew ?_ | refine blk_alloc ?_ _)); exact BK227.out⟩, ⟨by (with_reducible repeat (first | refine blk_drewN ?_ _ | refine blk_drew ?_ | refine blk_alloc ?_ _)); exact BK229.out⟩, ⟨by repeat (first | (with_reducible first | exact HB.out | apply below_alloc | apply pw_below_drewN | apply below_drew1 | refine below_set ?_ GE227.out | refine below_set ?_ GE229.out | refine below_set ?_ GE231.out) | exact HB.out)⟩⟩
                                  · replace c37 := Bool.eq_false_iff.mpr c37
                                    subst c37
                                    have H1 : (some false) = some r := by rw [if_neg (show ¬ (false = true) by decide)] at H; exact H
                                    clear H
                                    have H := H1
                                    clear H1
                                    obtain rfl := Option.some.inj H
                                    have p230 : 0 ≤ (x56_4 : Int) := of_decide_eq_true (by first | (with_reducible assumption) | assumption)
                                    have q230 : x56_4 < (((rd_T103 l0_0 x20_2).f1).length : Int) := of_decide_eq_true (by first | (with_reducible assumption) | assumption)
                                    obtain ⟨ad230, A230_5, c230_5, e230, hx230_0, hx230_1, hx230_2, hx230_3, hx230_4, hx230_5, hl230_5, hi230_5⟩ := at_T109 HR228_1.out x56_4 p230 q230
                                    cases e230
                                    replace hx230_0 := (HB.out.cell (World.block_lt_of_cell? w _ hx230_0)).trans hx230_0
                                    replace hx230_1 := (HB.out.cell (World.block_lt_of_cell? w _ hx230_1)).trans hx230_1
                                    replace hx230_2 := (HB.out.cell (World.block_lt_of_cell? w _ hx230_2)).trans hx230_2
                                    replace hx230_3 := (HB.out.cell (World.block_lt_of_cell? w _ hx230_3)).trans hx230_3
                                    replace hx230_4 := (HB.out.cell (World.block_lt_of_cell? w _ hx230_4)).trans hx230_4
                                    replace hx230_5 := (HB.out.cell (World.block_lt_of_cell? w _ hx230_5)).trans hx230_5
                                    have HR230_5 := Aside0.mk hi230_5
                                    have HC230_5 := Aside0.mk hl230_5
                                    clear hi230_5 hl230_5
                                    replace p230 := eq_true p230
                                    replace q230 := eq_true q230
                                    go_wp2_with (first | ((with_reducible refine gate_dst (N := 6) rfl ?_); (try (refine gate_guard (by rfl) ?_; dsimp only)); refine box_event ?hg (N := 6) ?hd (cs := #[.int .i64 0, .string (⟨#[]⟩ : ByteArray), .string (⟨#[]⟩ : ByteArray), .int .i64 0, .int .i64 0, .slice none 0 0]) (t := 109) ?hr ?_; (case hd => rfl); (case hg => rfl); (case hr => first | (go_simp; done) | (go_simp; rfl)); intro gb231 hg w43 hbox hb; have n0_ := Aside0.mk (blk_below (g := gb227) (o := .cells #[.slice (some ad228) l0_0.length c0_0] 68 (0, 0)) (by (with_reducible repeat (first | refine blk_drewN ?_ _ | refine blk_drew ?_ | refine blk_alloc ?_ _)); exact BK227.out) hb); have n1_ := Aside0.mk (blk_below (g := gb229) (o := .cells #[.int .i64 ((rd_T103 l0_0 x20_2).f0), .slice (some ad230) ((rd_T103 l0_0 x20_2).f1).length c228_1] 103 (0, 0)) (by (with_reducible repeat (first | refine blk_drewN ?_ _ | refine blk_drew ?_ | refine blk_alloc ?_ _)); exact BK229.out) hb); have n2_ := Aside0.mk (below_step (by repeat (first | (with_reducible first | exact HB.out | apply below_alloc | apply pw_below_drewN | apply below_drew1 | refine below_set ?_ GE227.out | refine below_set ?_ GE229.out) | exact HB.out)) hb); have n3_ := Aside0.mk (hbox); have n4_ := Aside0.mk ((by rw [hg]; exact (below_size (by repeat (first | (with_reducible first | exact HB.out | apply below_alloc | apply pw_below_drewN | apply below_drew1 | refine below_set ?_ GE227.out | refine below_set ?_ GE229.out) | exact HB.out))) : w.heap.size ≤ gb231)); have n5_ := Aside0.mk ((by rw [hg]; exact (below_size (by repeat (first | (with_reducible first | exact HB.out | apply below_alloc | apply pw_below_drewN | apply below_drew1 | refine below_set ?_ GE227.out | refine below_set ?_ GE229.out) | exact HB.out))) : w.heap.size ≤ gb231)); have n6_ := Aside0.mk ((by rw [hg]; exact Nat.ne_of_lt (blk_lt (g := gb227) (o := .cells #[.slice (some ad228) l0_0.length c0_0] 68 (0, 0)) (by (with_reducible repeat (first | refine blk_drewN ?_ _ | refine blk_drew ?_ | refine blk_alloc ?_ _)); exact BK227.out)) : gb227 ≠ gb231)); have n7_ := Aside0.mk ((by rw [hg]; exact Nat.ne_of_gt (blk_lt (g := gb227) (o := .cells #[.slice (some ad228) l0_0.length c0_0] 68 (0, 0)) (by (with_reducible repeat (first | refine blk_drewN ?_ _ | refine blk_drew ?_ | refine blk_alloc ?_ _)); exact BK227.out)) : gb231 ≠ gb227)); have n8_ := Aside0.mk ((by rw [hg]; exact Nat.ne_of_lt (blk_lt (g := gb229) (o := .cells #[.int .i64 ((rd_T103 l0_0 x20_2).f0), .slice (some ad230) ((rd_T103 l0_0 x20_2).f1).length c228_1] 103 (0, 0)) (by (with_reducible repeat (first | refine blk_drewN ?_ _ | refine blk_drew ?_ | refine blk_alloc ?_ _)); exact BK229.out)) : gb229 ≠ gb231)); have n9_ := Aside0.mk ((by rw [hg]; exact Nat.ne_of_gt (blk_lt (g := gb229) (o := .cells #[.int .i64 ((rd_T103 l0_0 x20_2).f0), .slice (some ad230) ((rd_T103 l0_0 x20_2).f1).length c228_1] 103 (0, 0)) (by (with_reducible repeat (first | refine blk_drewN ?_ _ | refine blk_drew ?_ | refine blk_alloc ?_ _)); exact BK229.out)) : gb231 ≠ gb229)); clear BK227; clear BK229; clear HB; have BK227 := n0_; have BK229 := n1_; have HB := n2_; have BK231 := n3_; have GW231 := n4_; have GE231 := n5_; have NB227_231 := n6_; have NB231_227 := n7_; have NB229_231 := n8_; have NB231_229 := n9_; clear n0_ n1_ n2_ n3_ n4_ n5_ n6_ n7_ n8_ n9_; clear hb hbox hg; have hnb44 := NB231_227.out; have hnc44 := NB227_231.out; have hnb45 := NB231_229.out; have hnc45 := NB229_231.out; have hcz46_0 : w43.cell? ⟨gb231, 0, none⟩ = some (.int .i64 0) := (blk_cell BK231.out 0).trans rfl; have hcz46_1 : w43.cell? ⟨gb231, 1, none⟩ = some (.string (⟨#[]⟩ : ByteArray)) := (blk_cell BK231.out 1).trans rfl; have hcz46_2 : w43.cell? ⟨gb231, 2, none⟩ = some (.string (⟨#[]⟩ : ByteArray)) := (blk_cell BK231.out 2).trans rfl; have hcz46_3 : w43.cell? ⟨gb231, 3, none⟩ = some (.int .i64 0) := (blk_cell BK231.out 3).trans rfl; have hcz46_4 : w43.cell? ⟨gb231, 4, none⟩ = some (.int .i64 0) := (blk_cell BK231.out 4).trans rfl; have hcz46_5 : w43.cell? ⟨gb231, 5, none⟩ = some (.slice none 0 0) := (blk_cell BK231.out 5).trans rfl; have hfz46_0 := blk_frozen BK231.out 0; have hfz46_1 := blk_frozen BK231.out 1; have hfz46_2 := blk_frozen BK231.out 2; have hfz46_3 := blk_frozen BK231.out 3; have hfz46_4 := blk_frozen BK231.out 4; have hfz46_5 := blk_frozen BK231.out 5) | ((with_reducible refine gate_callee (f := 92) rfl ?_); refine goesL_ (some 64) rfl rfl Try.func92 (by kernel_rfl) rfl #[.agg #[.int .i64 ((rd_T109 ((rd_T103 l0_0 x20_2).f1) x56_4).f0.f0), .string ((rd_T109 ((rd_T103 l0_0 x20_2).f1) x56_4).f0.f1), .string ((rd_T109 ((rd_T103 l0_0 x20_2).f1) x56_4).f0.f2), .int .i64 ((rd_T109 ((rd_T103 l0_0 x20_2).f1) x56_4).f0.f3), .int .i64 ((rd_T109 ((rd_T103 l0_0 x20_2).f1) x56_4).f0.f4), .slice A230_5 ((rd_T109 ((rd_T103 l0_0 x20_2).f1) x56_4).f1).length c230_5], .bool (x56_4 == 0)] rfl (by (try simp only [List.map_toArray, List.map_cons, List.map_nil]); first | done | rfl | (simp only [List.length_drop, List.length_take]; rfl)) ?_; (with_reducible refine (impl_simpleOk.calls k4 ((rd_T109 ((rd_T103 l0_0 x20_2).f1) x56_4).f0.f0) ((rd_T109 ((rd_T103 l0_0 x20_2).f1) x56_4).f0.f1) ((rd_T109 ((rd_T103 l0_0 x20_2).f1) x56_4).f0.f2) ((rd_T109 ((rd_T103 l0_0 x20_2).f1) x56_4).f0.f3) ((rd_T109 ((rd_T103 l0_0 x20_2).f1) x56_4).f0.f4) _ _ ((rd_T109 ((rd_T103 l0_0 x20_2).f1) x56_4).f1) (x56_4 == 0) false _ ?side1 ?side2 A36.out).mono ?_); (case side1 => exact Kd.C_below HR230_5.out (by repeat (first | (with_reducible first | exact HB.out | apply below_alloc | apply pw_below_drewN | apply below_drew1 | refine below_set ?_ GE227.out | refine below_set ?_ GE229.out | refine below_set ?_ GE231.out) | exact HB.out))); (case side2 => exact HC230_5.out); rintro e w47 ⟨rfl, hb⟩; refine ⟨_, rfl, ?_⟩; have n0_ := Aside0.mk (blk_below (g := gb227) (o := .cells #[.slice (some ad228) l0_0.length c0_0] 68 (0, 0)) (by (with_reducible repeat (first | refine blk_drewN ?_ _ | refine blk_drew ?_ | refine blk_alloc ?_ _)); refine blk_far ?_ NB227_231.out _; (with_reducible repeat (first | refine blk_drewN ?_ _ | refine blk_drew ?_ | refine blk_alloc ?_ _)); refine blk_far ?_ NB227_231.out _; (with_reducible repeat (first | refine blk_drewN ?_ _ | refine blk_drew ?_ | refine blk_alloc ?_ _)); refine blk_far ?_ NB227_231.out _; (with_reducible repeat (first | refine blk_drewN ?_ _ | refine blk_drew ?_ | refine blk_alloc ?_ _)); refine blk_far ?_ NB227_231.out _; (with_reducible repeat (first | refine blk_drewN ?_ _ | refine blk_drew ?_ | refine blk_alloc ?_ _)); refine blk_far ?_ NB227_231.out _; (with_reducible repeat (first | refine blk_drewN ?_ _ | refine blk_drew ?_ | refine blk_alloc ?_ _)); refine blk_far ?_ NB227_231.out _; (with_reducible repeat (first | refine blk_drewN ?_ _ | refine blk_drew ?_ | refine blk_alloc ?_ _)); exact BK227.out) hb); have n1_ := Aside0.mk (blk_below (g := gb229) (o := .cells #[.int .i64 ((rd_T103 l0_0 x20_2).f0), .slice (some ad230) ((rd_T103 l0_0 x20_2).f1).length c228_1] 103 (0, 0)) (by (with_reducible repeat (first | refine blk_drewN ?_ _ | refine blk_drew ?_ | refine blk_alloc ?_ _)); refine blk_far ?_ NB229_231.out _; (with_reducible repeat (first | refine blk_drewN ?_ _ | refine blk_drew ?_ | refine blk_alloc ?_ _)); refine blk_far ?_ NB229_231.out _; (with_reducible repeat (first | refine blk_drewN ?_ _ | refine blk_drew ?_ | refine blk_alloc ?_ _)); refine blk_far ?_ NB229_231.out _; (with_reducible repeat (first | refine blk_drewN ?_ _ | refine blk_drew ?_ | refine blk_alloc ?_ _)); refine blk_far ?_ NB229_231.out _; (with_reducible repeat (first | refine blk_drewN ?_ _ | refine blk_drew ?_ | refine blk_alloc ?_ _)); refine blk_far ?_ NB229_231.out _; (with_reducible repeat (first | refine blk_drewN ?_ _ | refine blk_drew ?_ | refine blk_alloc ?_ _)); refine blk_far ?_ NB229_231.out _; (with_reducible repeat (first | refine blk_drewN ?_ _ | refine blk_drew ?_ | refine blk_alloc ?_ _)); exact BK229.out) hb); have n2_ := Aside0.mk (blk_below (g := gb231) (o := .cells #[.int .i64 ((rd_T109 ((rd_T103 l0_0 x20_2).f1) x56_4).f0.f0), .string ((rd_T109 ((rd_T103 l0_0 x20_2).f1) x56_4).f0.f1), .string ((rd_T109 ((rd_T103 l0_0 x20_2).f1) x56_4).f0.f2), .int .i64 ((rd_T109 ((rd_T103 l0_0 x20_2).f1) x56_4).f0.f3), .int .i64 ((rd_T109 ((rd_T103 l0_0 x20_2).f1) x56_4).f0.f4), .slice A230_5 ((rd_T109 ((rd_T103 l0_0 x20_2).f1) x56_4).f1).length c230_5] 109 (0, 0)) (by (with_reducible repeat (first | refine blk_drewN ?_ _ | refine blk_drew ?_ | refine blk_alloc ?_ _)); refine blk_put (cs := #[.int .i64 ((rd_T109 ((rd_T103 l0_0 x20_2).f1) x56_4).f0.f0), .string ((rd_T109 ((rd_T103 l0_0 x20_2).f1) x56_4).f0.f1), .string ((rd_T109 ((rd_T103 l0_0 x20_2).f1) x56_4).f0.f2), .int .i64 ((rd_T109 ((rd_T103 l0_0 x20_2).f1) x56_4).f0.f3), .int .i64 ((rd_T109 ((rd_T103 l0_0 x20_2).f1) x56_4).f0.f4), .slice none 0 0]) ?_ 5 _ rfl; (with_reducible repeat (first | refine blk_drewN ?_ _ | refine blk_drew ?_ | refine blk_alloc ?_ _)); refine blk_put (cs := #[.int .i64 ((rd_T109 ((rd_T103 l0_0 x20_2).f1) x56_4).f0.f0), .string ((rd_T109 ((rd_T103 l0_0 x20_2).f1) x56_4).f0.f1), .string ((rd_T109 ((rd_T103 l0_0 x20_2).f1) x56_4).f0.f2), .int .i64 ((rd_T109 ((rd_T103 l0_0 x20_2).f1) x56_4).f0.f3), .int .i64 0, .slice none 0 0]) ?_ 4 _ rfl; (with_reducible repeat (first | refine blk_drewN ?_ _ | refine blk_drew ?_ | refine blk_alloc ?_ _)); refine blk_put (cs := #[.int .i64 ((rd_T109 ((rd_T103 l0_0 x20_2).f1) x56_4).f0.f0), .string ((rd_T109 ((rd_T103 l0_0 x20_2).f1) x56_4).f0.f1), .string ((rd_T109 ((rd_T103 l0_0 x20_2).f1) x56_4).f0.f2), .int .i64 0, .int .i64 0, .slice none 0 0]) ?_ 3 _ rfl; (with_reducible repeat (first | refine blk_drewN ?_ _ | refine blk_drew ?_ | refine blk_alloc ?_ _)); refine blk_put (cs := #[.int .i64 ((rd_T109 ((rd_T103 l0_0 x20_2).f1) x56_4).f0.f0), .string ((rd_T109 ((rd_T103 l0_0 x20_2).f1) x56_4).f0.f1), .string (⟨#[]⟩ : ByteArray), .int .i64 0, .int .i64 0, .slice none 0 0]) ?_ 2 _ rfl; (with_reducible repeat (first | refine blk_drewN ?_ _ | refine blk_drew ?_ | refine blk_alloc ?_ _)); refine blk_put (cs := #[.int .i64 ((rd_T109 ((rd_T103 l0_0 x20_2).f1) x56_4).f0.f0), .string (⟨#[]⟩ : ByteArray), .string (⟨#[]⟩ : ByteArray), .int .i64 0, .int .i64 0, .slice none 0 0]) ?_ 1 _ rfl; (with_reducible repeat (first | refine blk_drewN ?_ _ | refine blk_drew ?_ | refine blk_alloc ?_ _)); refine blk_put (cs := #[.int .i64 0, .string (⟨#[]⟩ : ByteArray), .string (⟨#[]⟩ : ByteArray), .int .i64 0, .int .i64 0, .slice none 0 0]) ?_ 0 _ rfl; (with_reducible repeat (first | refine blk_drewN ?_ _ | refine blk_drew ?_ | refine blk_alloc ?_ _)); exact BK231.out) hb); have n3_ := Aside0.mk (below_step (by repeat (first | (with_reducible first | exact HB.out | apply below_alloc | apply pw_below_drewN | apply below_drew1 | refine below_set ?_ GE227.out | refine below_set ?_ GE229.out | refine below_set ?_ GE231.out) | exact HB.out)) hb); clear BK227; clear BK229; clear BK231; clear HB; have BK227 := n0_; have BK229 := n1_; have BK231 := n2_; have HB := n3_; clear n0_ n1_ n2_ n3_; (try clear hb); (try clear hb2); (try clear hk); (try clear hi)))
                                    go_ret
                                    exact ⟨by first | rfl | (simp [errW_none, errW_some] <;> rfl) | (simp [*, errW_none, errW_some] <;> rfl), by repeat (first | (with_reducible first | exact HB.out | apply below_alloc | apply pw_below_drewN | apply below_drew1 | refine below_set ?_ GE227.out | refine below_set ?_ GE229.out | refine below_set ?_ GE231.out) | exact HB.out)⟩
                                · rw [if_neg c35] at H
                                  exact absurd H (by simp)
                              · rw [if_neg c34] at H
                                exact absurd H (by simp)
                            · rw [if_neg c33] at H
                              have c33b0 : decide (x56_4 < (((rd_T103 l0_0 x20_2).f1).length : Int)) = false := decide_eq_false c33
                              clear c33
                              have H' := Aside0.mk H
                              clear H
                              go_wp2
                              go_roundg k4
                              case measure => have := HJ1.out; have := HK2.out; have := HJ11.out; have := HK4.out; omega
                              case rel => exact ⟨(wrap64 (x20_2 + 1)), (by first | rfl | (simp; done) | (simp [*]; done)), H', ⟨by have := HJ1.out; have := HK2.out; have := HJ11.out; have := HK4.out; omega⟩, ⟨by (with_reducible repeat (first | refine blk_drewN ?_ _ | refine blk_drew ?_ | refine blk_alloc ?_ _)); exact BK227.out⟩, ⟨by repeat (first | (with_reducible first | exact HB.out | apply below_alloc | apply pw_below_drewN | apply below_drew1 | refine below_set ?_ GE227.out | refine below_set ?_ GE229.out) | exact HB.out)⟩⟩
                · rw [if_neg c11] at H
                  exact absurd H (by simp)
              · rw [if_neg c10] at H
                exact absurd H (by simp)
            · rw [if_neg c9] at H
              have c9b0 : decide (x20_2 < (l0_0.length : Int)) = false := decide_eq_false c9
              clear c9
              obtain rfl := Option.some.inj H
              go_wp2
              go_ret
              exact ⟨by first | rfl | (simp [errW_none, errW_some] <;> rfl) | (simp [*, errW_none, errW_some] <;> rfl), by repeat (first | (with_reducible first | exact HB.out | apply below_alloc | apply pw_below_drewN | apply below_drew1 | refine below_set ?_ GE227.out) | exact HB.out)⟩

/-! ### impl_weightOf: function 61 -/
def impl_weightOf.f (a0_0 : Int) (a0_1 : ByteArray) (a0_2 : ByteArray) (a0_3 : Int) (a0_4 : Int) : Option (Int) := if a0_0 = 3 then (some 1000000) else (if a0_0 = 2 then (some 1) else (if a0_0 ≥ 4 then (if a0_0 ≤ 15 then (some 1000) else (some 0)) else (some 0)))
set_option maxHeartbeats 8000000 in
set_option maxRecDepth 100000 in
theorem impl_weightOf.calls (a0_0 : Int) (a0_1 : ByteArray) (a0_2 : ByteArray) (a0_3 : Int) (a0_4 : Int) (r : Int) (w : World) (h : impl_weightOf.f a0_0 a0_1 a0_2 a0_3 a0_4 = some r) :
    Calls Try.prog 61 #[.agg #[.int .i64 a0_0, .string a0_1, .string a0_2, .int .i64 a0_3, .int .i64 a0_4]] w fun e w' => e = .returned (.int .i64 r) ∧ Below w.heap.size w w' := by
  have hu106 := Try.underlying106
  have HB := Aside0.mk (Below.refl w.heap.size w)
  have H : (if a0_0 = 3 then (some 1000000) else (if a0_0 = 2 then (some 1) else (if a0_0 ≥ 4 then (if a0_0 ≤ 15 then (some 1000) else (some 0)) else (some 0)))) = some r := h
  clear h
  by_cases c2 : a0_0 = 3
  · rw [if_pos c2] at H
    have c2b0 : (a0_0 == 3) = true := beq_iff_eq.mpr c2
    have c2b1 : (a0_0 != 3) = false := bne_eq_false_iff_eq.mpr c2
    clear c2
    obtain rfl := Option.some.inj H
    go_enter Try.func61, Try.ntmps61
    go_wp2_with (first | ((with_reducible refine gate_dst (N := 1) rfl ?_); refine box_event ?hg (N := 1) ?hd (cs := #[.int .i64 a0_0, .string a0_1, .string a0_2, .int .i64 a0_3, .int .i64 a0_4]) (t := 106) ?hr ?_; (case hd => rfl); (case hg => rfl); (case hr => first | (go_simp; done) | (go_simp; rfl)); intro gb233 hg w3 hbox hb; have n0_ := Aside0.mk (below_step (by repeat (first | (with_reducible first | exact HB.out | apply below_alloc | apply pw_below_drewN | apply below_drew1) | exact HB.out)) hb); have n1_ := Aside0.mk (hbox); have n2_ := Aside0.mk ((by rw [hg]; exact (below_size (by repeat (first | (with_reducible first | exact HB.out | apply below_alloc | apply pw_below_drewN | apply below_drew1) | exact HB.out))) : w.heap.size ≤ gb233)); have n3_ := Aside0.mk ((by rw [hg]; exact (below_size (by repeat (first | (with_reducible first | exact HB.out | apply below_alloc | apply pw_below_drewN | apply below_drew1) | exact HB.out))) : w.heap.size ≤ gb233)); clear HB; have HB := n0_; have BK233 := n1_; have GW233 := n2_; have GE233 := n3_; clear n0_ n1_ n2_ n3_; clear hb hbox hg; have hcz4_0 : w3.cell? ⟨gb233, 0, none⟩ = some (.int .i64 a0_0) := (blk_cell BK233.out 0).trans rfl; have hcz4_1 : w3.cell? ⟨gb233, 1, none⟩ = some (.string a0_1) := (blk_cell BK233.out 1).trans rfl; have hcz4_2 : w3.cell? ⟨gb233, 2, none⟩ = some (.string a0_2) := (blk_cell BK233.out 2).trans rfl; have hcz4_3 : w3.cell? ⟨gb233, 3, none⟩ = some (.int .i64 a0_3) := (blk_cell BK233.out 3).trans rfl; have hcz4_4 : w3.cell? ⟨gb233, 4, none⟩ = some (.int .i64 a0_4) := (blk_cell BK233.out 4).trans rfl; have hfz4_0 := blk_frozen BK233.out 0; have hfz4_1 := blk_frozen BK233.out 1; have hfz4_2 := blk_frozen BK233.out 2; have hfz4_3 := blk_frozen BK233.out 3; have hfz4_4 := blk_frozen BK233.out 4))
    go_ret
    exact ⟨by first | rfl | (simp [errW_none, errW_some] <;> rfl) | (simp [*, errW_none, errW_some] <;> rfl), by repeat (first | (with_reducible first | exact HB.out | apply below_alloc | apply pw_below_drewN | apply below_drew1 | refine below_set ?_ GE233.out) | exact HB.out)⟩
  · rw [if_neg c2] at H
    have c2b0 : (a0_0 == 3) = false := beq_eq_false_iff_ne.mpr c2
    have c2b1 : (a0_0 != 3) = true := bne_iff_ne.mpr c2
    by_cases c5 : a0_0 = 2
    · rw [if_pos c5] at H
      have c5b0 : (a0_0 == 2) = true := beq_iff_eq.mpr c5
      have c5b1 : (a0_0 != 2) = false := bne_eq_false_iff_eq.mpr c5
      clear c5
      obtain rfl := Option.some.inj H
      go_enter Try.func61, Try.ntmps61
      go_wp2_with (first | ((with_reducible refine gate_dst (N := 1) rfl ?_); refine box_event ?hg (N := 1) ?hd (cs := #[.int .i64 a0_0, .string a0_1, .string a0_2, .int .i64 a0_3, .int .i64 a0_4]) (t := 106) ?hr ?_; (case hd => rfl); (case hg => rfl); (case hr => first | (go_simp; done) | (go_simp; rfl)); intro gb233 hg w6 hbox hb; have n0_ := Aside0.mk (below_step (by repeat (first | (with_reducible first | exact HB.out | apply below_alloc | apply pw_below_drewN | apply below_drew1) | exact HB.out)) hb); have n1_ := Aside0.mk (hbox); have n2_ := Aside0.mk ((by rw [hg]; exact (below_size (by repeat (first | (with_reducible first | exact HB.out | apply below_alloc | apply pw_below_drewN | apply below_drew1) | exact HB.out))) : w.heap.size ≤ gb233)); have n3_ := Aside0.mk ((by rw [hg]; exact (below_size (by repeat (first | (with_reducible first | exact HB.out | apply below_alloc | apply pw_below_drewN | apply below_drew1) | exact HB.out))) : w.heap.size ≤ gb233)); clear HB; have HB := n0_; have BK233 := n1_; have GW233 := n2_; have GE233 := n3_; clear n0_ n1_ n2_ n3_; clear hb hbox hg; have hcz7_0 : w6.cell? ⟨gb233, 0, none⟩ = some (.int .i64 a0_0) := (blk_cell BK233.out 0).trans rfl; have hcz7_1 : w6.cell? ⟨gb233, 1, none⟩ = some (.string a0_1) := (blk_cell BK233.out 1).trans rfl; have hcz7_2 : w6.cell? ⟨gb233, 2, none⟩ = some (.string a0_2) := (blk_cell BK233.out 2).trans rfl; have hcz7_3 : w6.cell? ⟨gb233, 3, none⟩ = some (.int .i64 a0_3) := (blk_cell BK233.out 3).trans rfl; have hcz7_4 : w6.cell? ⟨gb233, 4, none⟩ = some (.int .i64 a0_4) := (blk_cell BK233.out 4).trans rfl; have hfz7_0 := blk_frozen BK233.out 0; have hfz7_1 := blk_frozen BK233.out 1; have hfz7_2 := blk_frozen BK233.out 2; have hfz7_3 := blk_frozen BK233.out 3; have hfz7_4 := blk_frozen BK233.out 4))
      go_ret
      exact ⟨by first | rfl | (simp [errW_none, errW_some] <;> rfl) | (simp [*, errW_none, errW_some] <;> rfl), by repeat (first | (with_reducible first | exact HB.out | apply below_alloc | apply pw_below_drewN | apply below_drew1 | refine below_set ?_ GE233.out) | exact HB.out)⟩
    · rw [if_neg c5] at H
      have c5b0 : (a0_0 == 2) = false := beq_eq_false_iff_ne.mpr c5
      have c5b1 : (a0_0 != 2) = true := bne_iff_ne.mpr c5
      by_cases c8 : a0_0 ≥ 4
      · rw [if_pos c8] at H
        have c8b0 : decide (4 ≤ a0_0) = true := decide_eq_true c8
        clear c8
        by_cases c9 : a0_0 ≤ 15
        · rw [if_pos c9] at H
          have c9b0 : decide (a0_0 ≤ 15) = true := decide_eq_true c9
          clear c9
          obtain rfl := Option.some.inj H
          go_enter Try.func61, Try.ntmps61
          go_wp2_with (first | ((with_reducible refine gate_dst (N := 1) rfl ?_); refine box_event ?hg (N := 1) ?hd (cs := #[.int .i64 a0_0, .string a0_1, .string a0_2, .int .i64 a0_3, .int .i64 a0_4]) (t := 106) ?hr ?_; (case hd => rfl); (case hg => rfl); (case hr => first | (go_simp; done) | (go_simp; rfl)); intro gb233 hg w10 hbox hb; have n0_ := Aside0.mk (below_step (by repeat (first | (with_reducible first | exact HB.out | apply below_alloc | apply pw_below_drewN | apply below_drew1) | exact HB.out)) hb); have n1_ := Aside0.mk (hbox); have n2_ := Aside0.mk ((by rw [hg]; exact (below_size (by repeat (first | (with_reducible first | exact HB.out | apply below_alloc | apply pw_below_drewN | apply below_drew1) | exact HB.out))) : w.heap.size ≤ gb233)); have n3_ := Aside0.mk ((by rw [hg]; exact (below_size (by repeat (first | (with_reducible first | exact HB.out | apply below_alloc | apply pw_below_drewN | apply below_drew1) | exact HB.out))) : w.heap.size ≤ gb233)); clear HB; have HB := n0_; have BK233 := n1_; have GW233 := n2_; have GE233 := n3_; clear n0_ n1_ n2_ n3_; clear hb hbox hg; have hcz11_0 : w10.cell? ⟨gb233, 0, none⟩ = some (.int .i64 a0_0) := (blk_cell BK233.out 0).trans rfl; have hcz11_1 : w10.cell? ⟨gb233, 1, none⟩ = some (.string a0_1) := (blk_cell BK233.out 1).trans rfl; have hcz11_2 : w10.cell? ⟨gb233, 2, none⟩ = some (.string a0_2) := (blk_cell BK233.out 2).trans rfl; have hcz11_3 : w10.cell? ⟨gb233, 3, none⟩ = some (.int .i64 a0_3) := (blk_cell BK233.out 3).trans rfl; have hcz11_4 : w10.cell? ⟨gb233, 4, none⟩ = some (.int .i64 a0_4) := (blk_cell BK233.out 4).trans rfl; have hfz11_0 := blk_frozen BK233.out 0; have hfz11_1 := blk_frozen BK233.out 1; have hfz11_2 := blk_frozen BK233.out 2; have hfz11_3 := blk_frozen BK233.out 3; have hfz11_4 := blk_frozen BK233.out 4))
          go_ret
          exact ⟨by first | rfl | (simp [errW_none, errW_some] <;> rfl) | (simp [*, errW_none, errW_some] <;> rfl), by repeat (first | (with_reducible first | exact HB.out | apply below_alloc | apply pw_below_drewN | apply below_drew1 | refine below_set ?_ GE233.out) | exact HB.out)⟩
        · rw [if_neg c9] at H
          have c9b0 : decide (a0_0 ≤ 15) = false := decide_eq_false c9
          clear c9
          obtain rfl := Option.some.inj H
          go_enter Try.func61, Try.ntmps61
          go_wp2_with (first | ((with_reducible refine gate_dst (N := 1) rfl ?_); refine box_event ?hg (N := 1) ?hd (cs := #[.int .i64 a0_0, .string a0_1, .string a0_2, .int .i64 a0_3, .int .i64 a0_4]) (t := 106) ?hr ?_; (case hd => rfl); (case hg => rfl); (case hr => first | (go_simp; done) | (go_simp; rfl)); intro gb233 hg w12 hbox hb; have n0_ := Aside0.mk (below_step (by repeat (first | (with_reducible first | exact HB.out | apply below_alloc | apply pw_below_drewN | apply below_drew1) | exact HB.out)) hb); have n1_ := Aside0.mk (hbox); have n2_ := Aside0.mk ((by rw [hg]; exact (below_size (by repeat (first | (with_reducible first | exact HB.out | apply below_alloc | apply pw_below_drewN | apply below_drew1) | exact HB.out))) : w.heap.size ≤ gb233)); have n3_ := Aside0.mk ((by rw [hg]; exact (below_size (by repeat (first | (with_reducible first | exact HB.out | apply below_alloc | apply pw_below_drewN | apply below_drew1) | exact HB.out))) : w.heap.size ≤ gb233)); clear HB; have HB := n0_; have BK233 := n1_; have GW233 := n2_; have GE233 := n3_; clear n0_ n1_ n2_ n3_; clear hb hbox hg; have hcz13_0 : w12.cell? ⟨gb233, 0, none⟩ = some (.int .i64 a0_0) := (blk_cell BK233.out 0).trans rfl; have hcz13_1 : w12.cell? ⟨gb233, 1, none⟩ = some (.string a0_1) := (blk_cell BK233.out 1).trans rfl; have hcz13_2 : w12.cell? ⟨gb233, 2, none⟩ = some (.string a0_2) := (blk_cell BK233.out 2).trans rfl; have hcz13_3 : w12.cell? ⟨gb233, 3, none⟩ = some (.int .i64 a0_3) := (blk_cell BK233.out 3).trans rfl; have hcz13_4 : w12.cell? ⟨gb233, 4, none⟩ = some (.int .i64 a0_4) := (blk_cell BK233.out 4).trans rfl; have hfz13_0 := blk_frozen BK233.out 0; have hfz13_1 := blk_frozen BK233.out 1; have hfz13_2 := blk_frozen BK233.out 2; have hfz13_3 := blk_frozen BK233.out 3; have hfz13_4 := blk_frozen BK233.out 4))
          go_ret
          exact ⟨by first | rfl | (simp [errW_none, errW_some] <;> rfl) | (simp [*, errW_none, errW_some] <;> rfl), by repeat (first | (with_reducible first | exact HB.out | apply below_alloc | apply pw_below_drewN | apply below_drew1 | refine below_set ?_ GE233.out) | exact HB.out)⟩
      · rw [if_neg c8] at H
        have c8b0 : decide (4 ≤ a0_0) = false := decide_eq_false c8
        clear c8
        obtain rfl := Option.some.inj H
        go_enter Try.func61, Try.ntmps61
        go_wp2_with (first | ((with_reducible refine gate_dst (N := 1) rfl ?_); refine box_event ?hg (N := 1) ?hd (cs := #[.int .i64 a0_0, .string a0_1, .string a0_2, .int .i64 a0_3, .int .i64 a0_4]) (t := 106) ?hr ?_; (case hd => rfl); (case hg => rfl); (case hr => first | (go_simp; done) | (go_simp; rfl)); intro gb233 hg w14 hbox hb; have n0_ := Aside0.mk (below_step (by repeat (first | (with_reducible first | exact HB.out | apply below_alloc | apply pw_below_drewN | apply below_drew1) | exact HB.out)) hb); have n1_ := Aside0.mk (hbox); have n2_ := Aside0.mk ((by rw [hg]; exact (below_size (by repeat (first | (with_reducible first | exact HB.out | apply below_alloc | apply pw_below_drewN | apply below_drew1) | exact HB.out))) : w.heap.size ≤ gb233)); have n3_ := Aside0.mk ((by rw [hg]; exact (below_size (by repeat (first | (with_reducible first | exact HB.out | apply below_alloc | apply pw_below_drewN | apply below_drew1) | exact HB.out))) : w.heap.size ≤ gb233)); clear HB; have HB := n0_; have BK233 := n1_; have GW233 := n2_; have GE233 := n3_; clear n0_ n1_ n2_ n3_; clear hb hbox hg; have hcz15_0 : w14.cell? ⟨gb233, 0, none⟩ = some (.int .i64 a0_0) := (blk_cell BK233.out 0).trans rfl; have hcz15_1 : w14.cell? ⟨gb233, 1, none⟩ = some (.string a0_1) := (blk_cell BK233.out 1).trans rfl; have hcz15_2 : w14.cell? ⟨gb233, 2, none⟩ = some (.string a0_2) := (blk_cell BK233.out 2).trans rfl; have hcz15_3 : w14.cell? ⟨gb233, 3, none⟩ = some (.int .i64 a0_3) := (blk_cell BK233.out 3).trans rfl; have hcz15_4 : w14.cell? ⟨gb233, 4, none⟩ = some (.int .i64 a0_4) := (blk_cell BK233.out 4).trans rfl; have hfz15_0 := blk_frozen BK233.out 0; have hfz15_1 := blk_frozen BK233.out 1; have hfz15_2 := blk_frozen BK233.out 2; have hfz15_3 := blk_frozen BK233.out 3; have hfz15_4 := blk_frozen BK233.out 4))
        go_ret
        exact ⟨by first | rfl | (simp [errW_none, errW_some] <;> rfl) | (simp [*, errW_none, errW_some] <;> rfl), by repeat (first | (with_reducible first | exact HB.out | apply below_alloc | apply pw_below_drewN | apply below_drew1 | refine below_set ?_ GE233.out) | exact HB.out)⟩

end Go.Proofs.Ytjghahkecglgdaa.QFnExactSpecificity
