/- Written by a program (wip/tools/own_print.py) out of the walk that the kit's printer made; turned where it fell. -/
import Derived.Test.YtjghahkecglgdaaQFnExactSpecificityx0
import Derived.Test.YtjghahkecglgdaaQFnExactSpecificityx5
namespace Go.Proofs.Ytjghahkecglgdaa.QFnExactSpecificity
open Go.RowKit Go.Proofs.YtjghahkecglgdaaV.PrintWords Go.Proofs.YtjghahkecglgdaaV.PrintLast Go.Proofs.YtjghahkecglgdaaV.PrintMore
attribute [local go_sem] max2_int min2_int max_two min_two max_three min_three max_four min_four   -- for this text's walks alone
set_option linter.unusedVariables false
set_option linter.unusedSimpArgs false

/-! ### spec_Specificity: function 27 -/
mutual
def spec_Specificity.l0 : Nat → Int → Int → List (S103) → Option (Int)
  | 0, _, _, _ => none
  | k + 1, x3, x4, x134000 => if x4 < (x134000.length : Int) then (if 0 ≤ x4 then (spec_Specificity.l1 k x3 x4 ((rd_T103 x134000 x4).f1) 0 x134000) else (none)) else (some x3)
def spec_Specificity.l1 : Nat → Int → Int → List (S109) → Int → List (S103) → Option (Int)
  | 0, _, _, _, _, _ => none
  | k + 1, x3, x4, x5, x6, x134000 => if x6 < (x5.length : Int) then (if 0 ≤ x6 then ((spec_l8Weight.f ((rd_T109 x5 x6).f0.f0) ((rd_T109 x5 x6).f0.f1) ((rd_T109 x5 x6).f0.f2) ((rd_T109 x5 x6).f0.f3) ((rd_T109 x5 x6).f0.f4)).bind fun t137 => (if ((rd_T109 x5 x6).f0.f0) < 16 then (spec_Specificity.j2 k (wrap64 (x3 + t137)) x4 x5 x6 true x134000) else (spec_Specificity.j2 k (wrap64 (x3 + t137)) x4 x5 x6 (((rd_T109 x5 x6).f0.f0) == 18) x134000))) else (none)) else (spec_Specificity.l0 k x3 (wrap64 (x4 + 1)) x134000)
def spec_Specificity.j2 : Nat → Int → Int → List (S109) → Int → Bool → List (S103) → Option (Int)
  | 0, _, _, _, _, _, _ => none
  | k + 1, x3, x4, x5, x6, x56, x134000 => if x56 = true then (spec_Specificity.l1 k x3 x4 x5 (wrap64 (x6 + 1)) x134000) else (spec_Specificity.l2 k x3 x4 x5 x6 0 0 x134000)
def spec_Specificity.l2 : Nat → Int → Int → List (S109) → Int → Int → Int → List (S103) → Option (Int)
  | 0, _, _, _, _, _, _, _ => none
  | k + 1, x3, x4, x5, x6, x7, x8, x134000 => if 0 ≤ x6 then (if x6 < (x5.length : Int) then (if x8 < (((rd_T109 x5 x6).f1).length : Int) then (spec_Specificity.l3 k x3 x4 x5 x6 x7 x8 0 0 x134000) else (spec_Specificity.l1 k (wrap64 (x3 + x7)) x4 x5 (wrap64 (x6 + 1)) x134000)) else (none)) else (none)
def spec_Specificity.l3 : Nat → Int → Int → List (S109) → Int → Int → Int → Int → Int → List (S103) → Option (Int)
  | 0, _, _, _, _, _, _, _, _, _ => none
  | k + 1, x3, x4, x5, x6, x7, x8, x9, x10, x134000 => if 0 ≤ x6 then (if x6 < (x5.length : Int) then (if 0 ≤ x8 then (if x8 < (((rd_T109 x5 x6).f1).length : Int) then (if x10 < (((rd_T112 ((rd_T109 x5 x6).f1) x8).f0).length : Int) then (if 0 ≤ x10 then ((spec_l8Weight.f ((rd_T106 ((rd_T112 ((rd_T109 x5 x6).f1) x8).f0) x10).f0) ((rd_T106 ((rd_T112 ((rd_T109 x5 x6).f1) x8).f0) x10).f1) ((rd_T106 ((rd_T112 ((rd_T109 x5 x6).f1) x8).f0) x10).f2) ((rd_T106 ((rd_T112 ((rd_T109 x5 x6).f1) x8).f0) x10).f3) ((rd_T106 ((rd_T112 ((rd_T109 x5 x6).f1) x8).f0) x10).f4)).bind fun t146 => (spec_Specificity.l3 k x3 x4 x5 x6 x7 x8 (wrap64 (x9 + t146)) (wrap64 (x10 + 1)) x134000)) else (none)) else (if x9 > x7 then (spec_Specificity.l2 k x3 x4 x5 x6 x9 (wrap64 (x8 + 1)) x134000) else (spec_Specificity.l2 k x3 x4 x5 x6 x7 (wrap64 (x8 + 1)) x134000))) else (none)) else (none)) else (none)) else (none)
end
def spec_Specificity.f (k : Nat) (l0_0 : List (S103)) : Option (Int) := (spec_SelectorOk.f k l0_0).bind fun t134 => (if t134 = true then (spec_Specificity.l0 k 0 0 l0_0) else (some 0))
theorem spec_Specificity.mono_l : ∀ k, (∀ y0 y1 y2, LeO (spec_Specificity.l0 k y0 y1 y2) (spec_Specificity.l0 (k + 1) y0 y1 y2)) ∧ (∀ y0 y1 y2 y3 y4, LeO (spec_Specificity.l1 k y0 y1 y2 y3 y4) (spec_Specificity.l1 (k + 1) y0 y1 y2 y3 y4)) ∧ (∀ y0 y1 y2 y3 y4 y5, LeO (spec_Specificity.j2 k y0 y1 y2 y3 y4 y5) (spec_Specificity.j2 (k + 1) y0 y1 y2 y3 y4 y5)) ∧ (∀ y0 y1 y2 y3 y4 y5 y6, LeO (spec_Specificity.l2 k y0 y1 y2 y3 y4 y5 y6) (spec_Specificity.l2 (k + 1) y0 y1 y2 y3 y4 y5 y6)) ∧ (∀ y0 y1 y2 y3 y4 y5 y6 y7 y8, LeO (spec_Specificity.l3 k y0 y1 y2 y3 y4 y5 y6 y7 y8) (spec_Specificity.l3 (k + 1) y0 y1 y2 y3 y4 y5 y6 y7 y8))
  | 0 => ⟨fun _ _ _ r h => by simp [spec_Specificity.l0] at h, fun _ _ _ _ _ r h => by simp [spec_Specificity.l1] at h, fun _ _ _ _ _ _ r h => by simp [spec_Specificity.j2] at h, fun _ _ _ _ _ _ _ r h => by simp [spec_Specificity.l2] at h, fun _ _ _ _ _ _ _ _ _ r h => by simp [spec_Specificity.l3] at h⟩
  | k + 1 => by
    obtain ⟨ih0, ih1, ih2, ih3, ih4⟩ := spec_Specificity.mono_l k
    refine ⟨?_, ?_, ?_, ?_, ?_⟩
    · intro y0 y1 y2
      unfold spec_Specificity.l0
      repeat' first
      | (with_reducible exact ih0 _ _ _)
      | (with_reducible exact ih1 _ _ _ _ _)
      | (with_reducible exact ih2 _ _ _ _ _ _)
      | (with_reducible exact ih3 _ _ _ _ _ _ _)
      | (with_reducible exact ih4 _ _ _ _ _ _ _ _ _)
      | (with_reducible exact spec_SelectorOk.mono _ _)
      | (with_reducible exact LeO.refl _)
      | (with_reducible exact LeO.none _)
      | (with_reducible refine LeO.ite ?_ ?_)
      | (with_reducible refine LeO.bind ?_ (fun _ => ?_))
      | exact ih0 _ _ _
      | exact ih1 _ _ _ _ _
      | exact ih2 _ _ _ _ _ _
      | exact ih3 _ _ _ _ _ _ _
      | exact ih4 _ _ _ _ _ _ _ _ _
      | exact spec_SelectorOk.mono _ _
      | exact LeO.none _
      | refine LeO.ite ?_ ?_
      | refine LeO.bind ?_ (fun _ => ?_)
    · intro y0 y1 y2 y3 y4
      unfold spec_Specificity.l1
      repeat' first
      | (with_reducible exact ih0 _ _ _)
      | (with_reducible exact ih1 _ _ _ _ _)
      | (with_reducible exact ih2 _ _ _ _ _ _)
      | (with_reducible exact ih3 _ _ _ _ _ _ _)
      | (with_reducible exact ih4 _ _ _ _ _ _ _ _ _)
      | (with_reducible exact spec_SelectorOk.mono _ _)
      | (with_reducible exact LeO.refl _)
      | (with_reducible exact LeO.none _)
      | (with_reducible refine LeO.ite ?_ ?_)
      | (with_reducible refine LeO.bind ?_ (fun _ => ?_))
      | exact ih0 _ _ _
      | exact ih1 _ _ _ _ _
      | exact ih2 _ _ _ _ _ _
      | exact ih3 _ _ _ _ _ _ _
      | exact ih4 _ _ _ _ _ _ _ _ _
      | exact spec_SelectorOk.mono _ _
      | exact LeO.none _
      | refine LeO.ite ?_ ?_
      | refine LeO.bind ?_ (fun _ => ?_)
    · intro y0 y1 y2 y3 y4 y5
      unfold spec_Specificity.j2
      repeat' first
      | (with_reducible exact ih0 _ _ _)
      | (with_reducible exact ih1 _ _ _ _ _)
      | (with_reducible exact ih2 _ _ _ _ _ _)
      | (with_reducible exact ih3 _ _ _ _ _ _ _)
      | (with_reducible exact ih4 _ _ _ _ _ _ _ _ _)
      | (with_reducible exact spec_SelectorOk.mono _ _)
      | (with_reducible exact LeO.refl _)
      | (with_reducible exact LeO.none _)
      | (with_reducible refine LeO.ite ?_ ?_)
      | (with_reducible refine LeO.bind ?_ (fun _ => ?_))
      | exact ih0 _ _ _
      | exact ih1 _ _ _ _ _
      | exact ih2 _ _ _ _ _ _
      | exact ih3 _ _ _ _ _ _ _
      | exact ih4 _ _ _ _ _ _ _ _ _
      | exact spec_SelectorOk.mono _ _
      | exact LeO.none _
      | refine LeO.ite ?_ ?_
      | refine LeO.bind ?_ (fun _ => ?_)
    · intro y0 y1 y2 y3 y4 y5 y6
      unfold spec_Specificity.l2
      repeat' first
      | (with_reducible exact ih0 _ _ _)
      | (with_reducible exact ih1 _ _ _ _ _)
      | (with_reducible exact ih2 _ _ _ _ _ _)
      | (with_reducible exact ih3 _ _ _ _ _ _ _)
      | (with_reducible exact ih4 _ _ _ _ _ _ _ _ _)
      | (with_reducible exact spec_SelectorOk.mono _ _)
      | (with_reducible exact LeO.refl _)
      | (with_reducible exact LeO.none _)
      | (with_reducible refine LeO.ite ?_ ?_)
      | (with_reducible refine LeO.bind ?_ (fun _ => ?_))
      | exact ih0 _ _ _
      | exact ih1 _ _ _ _ _
      | exact ih2 _ _ _ _ _ _
      | exact ih3 _ _ _ _ _ _ _
      | exact ih4 _ _ _ _ _ _ _ _ _
      | exact spec_SelectorOk.mono _ _
      | exact LeO.none _
      | refine LeO.ite ?_ ?_
      | refine LeO.bind ?_ (fun _ => ?_)
    · intro y0 y1 y2 y3 y4 y5 y6 y7 y8
      unfold spec_Specificity.l3
      repeat' first
      | (with_reducible exact ih0 _ _ _)
      | (with_reducible exact ih1 _ _ _ _ _)
      | (with_reducible exact ih2 _ _ _ _ _ _)
      | (with_reducible exact ih3 _ _ _ _ _ _ _)
      | (with_reducible exact ih4 _ _ _ _ _ _ _ _ _)
      | (with_reducible exact spec_SelectorOk.mono _ _)
      | (with_reducible exact LeO.refl _)
      | (with_reducible exact LeO.none _)
      | (with_reducible refine LeO.ite ?_ ?_)
      | (with_reducible refine LeO.bind ?_ (fun _ => ?_))
      | exact ih0 _ _ _
      | exact ih1 _ _ _ _ _
      | exact ih2 _ _ _ _ _ _
      | exact ih3 _ _ _ _ _ _ _
      | exact ih4 _ _ _ _ _ _ _ _ _
      | exact spec_SelectorOk.mono _ _
      | exact LeO.none _
      | refine LeO.ite ?_ ?_
      | refine LeO.bind ?_ (fun _ => ?_)
theorem spec_Specificity.mono : ∀ a0 k, LeO (spec_Specificity.f k a0) (spec_Specificity.f (k + 1) a0) := by
  intro a0 k
  obtain ⟨ih0, ih1, ih2, ih3, ih4⟩ := spec_Specificity.mono_l k
  unfold spec_Specificity.f
  repeat' first
      | (with_reducible exact ih0 _ _ _)
      | (with_reducible exact ih1 _ _ _ _ _)
      | (with_reducible exact ih2 _ _ _ _ _ _)
      | (with_reducible exact ih3 _ _ _ _ _ _ _)
      | (with_reducible exact ih4 _ _ _ _ _ _ _ _ _)
      | (with_reducible exact spec_SelectorOk.mono _ _)
      | (with_reducible exact LeO.refl _)
      | (with_reducible exact LeO.none _)
      | (with_reducible refine LeO.ite ?_ ?_)
      | (with_reducible refine LeO.bind ?_ (fun _ => ?_))
      | exact ih0 _ _ _
      | exact ih1 _ _ _ _ _
      | exact ih2 _ _ _ _ _ _
      | exact ih3 _ _ _ _ _ _ _
      | exact ih4 _ _ _ _ _ _ _ _ _
      | exact spec_SelectorOk.mono _ _
      | exact LeO.none _
      | refine LeO.ite ?_ ?_
      | refine LeO.bind ?_ (fun _ => ?_)
set_option maxHeartbeats 8000000 in
set_option maxRecDepth 100000 in
theorem spec_Specificity.calls (k : Nat) (A0_0 : Option Addr) (c0_0 : Nat) (l0_0 : List (S103)) (r : Int) (w : World) (hr0_0 : Kd.C k103 w A0_0 l0_0.length l0_0) (hc0_0 : l0_0.length ≤ c0_0) (h : spec_Specificity.f k l0_0 = some r) :
    Calls Try.prog 27 #[.agg #[.slice A0_0 l0_0.length c0_0]] w fun e w' => e = .returned (.int .i64 r) ∧ Below w.heap.size w w' := by
  have hu68 := Try.underlying68
  have hu106 := Try.underlying106
  have HR0_0 := Aside0.mk hr0_0
  have HC0_0 := Aside0.mk hc0_0
  clear hr0_0 hc0_0
  have HB := Aside0.mk (Below.refl w.heap.size w)
  have H : ((spec_SelectorOk.f k l0_0).bind fun t134 => (if t134 = true then (spec_Specificity.l0 k 0 0 l0_0) else (some 0))) = some r := h
  clear h
  replace H := Option.bind_eq_some_iff.mp H
  obtain ⟨t134, A20, H⟩ := H
  replace H : (if t134 = true then (spec_Specificity.l0 k 0 0 l0_0) else (some 0)) = some r := H
  have A2 := Aside0.mk A20
  clear A20
  by_cases c3 : t134 = true
  · subst c3
    have H1 : (spec_Specificity.l0 k 0 0 l0_0) = some r := by rw [if_pos rfl] at H; exact H
    clear H
    have H := H1
    clear H1
    have H' := Aside0.mk H
    clear H
    go_enter Try.func27, Try.ntmps27
    go_wp2_with (first | ((with_reducible refine gate_dst (N := 1) rfl ?_); refine box_event ?hg (N := 1) ?hd (cs := #[.slice A0_0 l0_0.length c0_0]) (t := 68) ?hr ?_; (case hd => rfl); (case hg => rfl); (case hr => first | (go_simp; done) | (go_simp; rfl)); intro gb133 hg w4 hbox hb; have n0_ := Aside0.mk (below_step (by repeat (first | (with_reducible first | exact HB.out | apply below_alloc | apply pw_below_drewN | apply below_drew1) | exact HB.out)) hb); have n1_ := Aside0.mk (hbox); have n2_ := Aside0.mk ((by rw [hg]; exact (below_size (by repeat (first | (with_reducible first | exact HB.out | apply below_alloc | apply pw_below_drewN | apply below_drew1) | exact HB.out))) : w.heap.size ≤ gb133)); have n3_ := Aside0.mk ((by rw [hg]; exact (below_size (by repeat (first | (with_reducible first | exact HB.out | apply below_alloc | apply pw_below_drewN | apply below_drew1) | exact HB.out))) : w.heap.size ≤ gb133)); clear HB; have HB := n0_; have BK133 := n1_; have GW133 := n2_; have GE133 := n3_; clear n0_ n1_ n2_ n3_; clear hb hbox hg; have hcz5_0 : w4.cell? ⟨gb133, 0, none⟩ = some (.slice A0_0 l0_0.length c0_0) := (blk_cell BK133.out 0).trans rfl; have hfz5_0 := blk_frozen BK133.out 0) | ((with_reducible refine gate_callee (f := 57) rfl ?_); refine goesL_ (some 12) rfl rfl Try.func57 (by kernel_rfl) rfl #[.agg #[.slice A0_0 l0_0.length c0_0]] rfl (by (try simp only [List.map_toArray, List.map_cons, List.map_nil]); first | done | rfl | (simp only [List.length_drop, List.length_take]; rfl)) ?_; (with_reducible refine (spec_SelectorOk.calls k _ _ l0_0 true _ ?side1 ?side2 A2.out).mono ?_); (case side1 => repeat (first | exact (Kd.C_below HR0_0.out HB.out) | (with_reducible refine Kd.C_alloc ?_ _) | (with_reducible refine Kd.C_drewN ?_ _) | (with_reducible refine Kd.C_drew ?_))); (case side2 => exact HC0_0.out); rintro e w6 ⟨rfl, hb⟩; refine ⟨_, rfl, ?_⟩; have n0_ := Aside0.mk (blk_below (g := gb133) (o := .cells #[.slice A0_0 l0_0.length c0_0] 68 (0, 0)) (by (with_reducible repeat (first | refine blk_drewN ?_ _ | refine blk_drew ?_ | refine blk_alloc ?_ _)); exact BK133.out) hb); have n1_ := Aside0.mk (below_step (by repeat (first | (with_reducible first | exact HB.out | apply below_alloc | apply pw_below_drewN | apply below_drew1 | refine below_set ?_ GE133.out) | exact HB.out)) hb); clear BK133; clear HB; have BK133 := n0_; have HB := n1_; clear n0_ n1_; (try clear hb); (try clear hb2); (try clear hk); (try clear hi)))
    go_loopg [3, 4] k (fun kq v3 v4 w' => ∃ (x3_1 : Int) (x4_1 : Int), v3 = .int .i64 x3_1 ∧ v4 = .int .i64 x4_1 ∧ Aside0 (spec_Specificity.l0 kq x3_1 x4_1 l0_0 = some r) ∧ Aside0 (kq ≤ k) ∧ Aside0 (w'.heap[gb133]? = some (.cells #[(.slice A0_0 l0_0.length c0_0)] 68 (0, 0))) ∧ Aside0 (Below w.heap.size w w'))
    case atStart => exact ⟨(0), (0), (by first | rfl | (simp; done) | (simp [*]; done)), (by first | rfl | (simp; done) | (simp [*]; done)), H', ⟨Nat.le_refl _⟩, ⟨by (with_reducible repeat (first | refine blk_drewN ?_ _ | refine blk_drew ?_ | refine blk_alloc ?_ _)); exact BK133.out⟩, ⟨by repeat (first | (with_reducible first | exact HB.out | apply below_alloc | apply pw_below_drewN | apply below_drew1 | refine below_set ?_ GE133.out) | exact HB.out)⟩⟩
    case round =>
      clear H'
      try clear c2
      try clear p2
      try clear c3
      try clear c5
      try clear hcz5_0
      try clear hfz5_0
      obtain ⟨x3_1, x4_1, rfl, rfl, HA, HK1, BK133, HB⟩ := hrel
      cases gk with
      | zero => exact absurd HA.out (by simp [spec_Specificity.l0])
      | succ k1 =>
        have H := HA.out
        clear HA
        simp only [spec_Specificity.l0] at H
        by_cases c7 : x4_1 < (l0_0.length : Int)
        · rw [if_pos c7] at H
          have c7b0 : decide (x4_1 < (l0_0.length : Int)) = true := decide_eq_true c7
          clear c7
          by_cases c8 : 0 ≤ x4_1
          · rw [if_pos c8] at H
            have c8b0 : decide (0 ≤ x4_1) = true := decide_eq_true c8
            clear c8
            have H' := Aside0.mk H
            clear H
            have hcz9_0 : wr.cell? ⟨gb133, 0, none⟩ = some (.slice A0_0 l0_0.length c0_0) := (blk_cell BK133.out 0).trans rfl
            have hfz9_0 := blk_frozen BK133.out 0
            have p135 : 0 ≤ (x4_1 : Int) := of_decide_eq_true (by first | (with_reducible assumption) | assumption)
            have q135 : x4_1 < (l0_0.length : Int) := of_decide_eq_true (by first | (with_reducible assumption) | assumption)
            obtain ⟨ad135, A135_1, c135_1, e135, hx135_0, hx135_1, hl135_1, hi135_1⟩ := at_T103 HR0_0.out x4_1 p135 q135
            cases e135
            replace hx135_0 := (HB.out.cell (World.block_lt_of_cell? w _ hx135_0)).trans hx135_0
            replace hx135_1 := (HB.out.cell (World.block_lt_of_cell? w _ hx135_1)).trans hx135_1
            have HR135_1 := Aside0.mk hi135_1
            have HC135_1 := Aside0.mk hl135_1
            clear hi135_1 hl135_1
            replace p135 := eq_true p135
            replace q135 := eq_true q135
            go_wp2
            go_loopg [3, 6] k1 (fun kq v3 v6 w' => ∃ (x3_2 : Int) (x6_2 : Int), v3 = .int .i64 x3_2 ∧ v6 = .int .i64 x6_2 ∧ Aside0 (spec_Specificity.l1 kq x3_2 x4_1 ((rd_T103 l0_0 x4_1).f1) x6_2 l0_0 = some r) ∧ Aside0 (kq ≤ k1) ∧ Aside0 (w'.heap[gb133]? = some (.cells #[(.slice (some ad135) l0_0.length c0_0)] 68 (0, 0))) ∧ Aside0 (Below w.heap.size w w'))
            case atStart => exact ⟨(x3_1), (0), (by first | rfl | (simp; done) | (simp [*]; done)), (by first | rfl | (simp; done) | (simp [*]; done)), H', ⟨Nat.le_refl _⟩, ⟨by (with_reducible repeat (first | refine blk_drewN ?_ _ | refine blk_drew ?_ | refine blk_alloc ?_ _)); exact BK133.out⟩, ⟨by repeat (first | (with_reducible first | exact HB.out | apply below_alloc | apply pw_below_drewN | apply below_drew1 | refine below_set ?_ GE133.out) | exact HB.out)⟩⟩
            case round =>
              clear H'
              try clear c1
              try clear p1
              try clear q1
              try clear hx1
              try clear c2
              try clear p2
              try clear c3
              try clear c5
              try clear c7
              try clear c7b0
              try clear c8
              try clear c8b0
              try clear hcz5_0
              try clear hcz9_0
              try clear hfz5_0
              try clear hfz9_0
              try clear hx135_0
              try clear hx135_1
              try clear p135
              try clear p2
              try clear q135
              obtain ⟨x3_2, x6_2, rfl, rfl, HA, HK2, BK133, HB⟩ := hrel
              cases gk with
              | zero => exact absurd HA.out (by simp [spec_Specificity.l1])
              | succ k2 =>
                have H := HA.out
                clear HA
                simp only [spec_Specificity.l1] at H
                by_cases c10 : x6_2 < (((rd_T103 l0_0 x4_1).f1).length : Int)
                · rw [if_pos c10] at H
                  have c10b0 : decide (x6_2 < (((rd_T103 l0_0 x4_1).f1).length : Int)) = true := decide_eq_true c10
                  clear c10
                  by_cases c11 : 0 ≤ x6_2
                  · rw [if_pos c11] at H
                    have c11b0 : decide (0 ≤ x6_2) = true := decide_eq_true c11
                    clear c11
                    replace H := Option.bind_eq_some_iff.mp H
                    obtain ⟨t137, A120, H⟩ := H
                    replace H : (if ((rd_T109 ((rd_T103 l0_0 x4_1).f1) x6_2).f0.f0) < 16 then (spec_Specificity.j2 k2 (wrap64 (x3_2 + t137)) x4_1 ((rd_T103 l0_0 x4_1).f1) x6_2 true l0_0) else (spec_Specificity.j2 k2 (wrap64 (x3_2 + t137)) x4_1 ((rd_T103 l0_0 x4_1).f1) x6_2 (((rd_T109 ((rd_T103 l0_0 x4_1).f1) x6_2).f0.f0) == 18) l0_0)) = some r := H
                    have A12 := Aside0.mk A120
                    clear A120
                    have HC13 := Aside0.mk H
                    clear H
                    have p136 : 0 ≤ (x6_2 : Int) := of_decide_eq_true (by first | (with_reducible assumption) | assumption)
                    have q136 : x6_2 < (((rd_T103 l0_0 x4_1).f1).length : Int) := of_decide_eq_true (by first | (with_reducible assumption) | assumption)
                    obtain ⟨ad136, A136_5, c136_5, e136, hx136_0, hx136_1, hx136_2, hx136_3, hx136_4, hx136_5, hl136_5, hi136_5⟩ := at_T109 HR135_1.out x6_2 p136 q136
                    cases e136
                    replace hx136_0 := (HB.out.cell (World.block_lt_of_cell? w _ hx136_0)).trans hx136_0
                    replace hx136_1 := (HB.out.cell (World.block_lt_of_cell? w _ hx136_1)).trans hx136_1
                    replace hx136_2 := (HB.out.cell (World.block_lt_of_cell? w _ hx136_2)).trans hx136_2
                    replace hx136_3 := (HB.out.cell (World.block_lt_of_cell? w _ hx136_3)).trans hx136_3
                    replace hx136_4 := (HB.out.cell (World.block_lt_of_cell? w _ hx136_4)).trans hx136_4
                    replace hx136_5 := (HB.out.cell (World.block_lt_of_cell? w _ hx136_5)).trans hx136_5
                    have HR136_5 := Aside0.mk hi136_5
                    have HC136_5 := Aside0.mk hl136_5
                    clear hi136_5 hl136_5
                    replace p136 := eq_true p136
                    replace q136 := eq_true q136
                    go_upto_region 12 with (first | ((with_reducible refine gate_callee (f := 58) rfl ?_); refine goesL_ (some 39) rfl rfl Try.func58 (by kernel_rfl) rfl #[.agg #[.int .i64 ((rd_T109 ((rd_T103 l0_0 x4_1).f1) x6_2).f0.f0), .string ((rd_T109 ((rd_T103 l0_0 x4_1).f1) x6_2).f0.f1), .string ((rd_T109 ((rd_T103 l0_0 x4_1).f1) x6_2).f0.f2), .int .i64 ((rd_T109 ((rd_T103 l0_0 x4_1).f1) x6_2).f0.f3), .int .i64 ((rd_T109 ((rd_T103 l0_0 x4_1).f1) x6_2).f0.f4)]] rfl (by (try simp only [List.map_toArray, List.map_cons, List.map_nil]); first | done | rfl | (simp only [List.length_drop, List.length_take]; rfl)) ?_; (with_reducible refine (spec_l8Weight.calls ((rd_T109 ((rd_T103 l0_0 x4_1).f1) x6_2).f0.f0) ((rd_T109 ((rd_T103 l0_0 x4_1).f1) x6_2).f0.f1) ((rd_T109 ((rd_T103 l0_0 x4_1).f1) x6_2).f0.f2) ((rd_T109 ((rd_T103 l0_0 x4_1).f1) x6_2).f0.f3) ((rd_T109 ((rd_T103 l0_0 x4_1).f1) x6_2).f0.f4) t137 _ A12.out).mono ?_); rintro e w14 ⟨rfl, hb⟩; refine ⟨_, rfl, ?_⟩; have n0_ := Aside0.mk (blk_below (g := gb133) (o := .cells #[.slice (some ad135) l0_0.length c0_0] 68 (0, 0)) (by (with_reducible repeat (first | refine blk_drewN ?_ _ | refine blk_drew ?_ | refine blk_alloc ?_ _)); exact BK133.out) hb); have n1_ := Aside0.mk (below_step (by repeat (first | (with_reducible first | exact HB.out | apply below_alloc | apply pw_below_drewN | apply below_drew1 | refine below_set ?_ GE133.out) | exact HB.out)) hb); clear BK133; clear HB; have BK133 := n0_; have HB := n1_; clear n0_ n1_; (try clear hb); (try clear hb2); (try clear hk); (try clear hi)))
                    (try simp only [Act.put, List.setIfInBounds_toArray, List.set_cons_zero, List.set_cons_succ])
                    go_cut [56] (fun v56 wc => ∃ (kq : Nat) (x56_12 : Bool), v56 = .bool x56_12 ∧ Aside0 (spec_Specificity.j2 kq (wrap64 (x3_2 + t137)) x4_1 ((rd_T103 l0_0 x4_1).f1) x6_2 x56_12 l0_0 = some r) ∧ Aside0 (kq ≤ k2) ∧ Aside0 (wc.heap[gb133]? = some (.cells #[(.slice (some ad135) l0_0.length c0_0)] 68 (0, 0))) ∧ Aside0 (Below w.heap.size w wc))
                    case first =>
                      have H := HC13.out
                      clear HC13
                      by_cases c15 : ((rd_T109 ((rd_T103 l0_0 x4_1).f1) x6_2).f0.f0) < 16
                      · rw [if_pos c15] at H
                        have c15b0 : decide (((rd_T109 ((rd_T103 l0_0 x4_1).f1) x6_2).f0.f0) < 16) = true := decide_eq_true c15
                        clear c15
                        (first | rw [c15b0] | (simp only [i64_w, i32_w]; rw [c15b0]) | rw [c15b1] | skip)
                        have H' := Aside0.mk H
                        clear H
                        have p138 : 0 ≤ (x6_2 : Int) := of_decide_eq_true (by first | (with_reducible assumption) | assumption)
                        have q138 : x6_2 < (((rd_T103 l0_0 x4_1).f1).length : Int) := of_decide_eq_true (by first | (with_reducible assumption) | assumption)
                        obtain ⟨ad138, A138_5, c138_5, e138, hx138_0, hx138_1, hx138_2, hx138_3, hx138_4, hx138_5, hl138_5, hi138_5⟩ := at_T109 HR135_1.out x6_2 p138 q138
                        obtain rfl : ad136 = ad138 := (by injection e138)
                        replace hx138_0 := (HB.out.cell (World.block_lt_of_cell? w _ hx138_0)).trans hx138_0
                        replace hx138_1 := (HB.out.cell (World.block_lt_of_cell? w _ hx138_1)).trans hx138_1
                        replace hx138_2 := (HB.out.cell (World.block_lt_of_cell? w _ hx138_2)).trans hx138_2
                        replace hx138_3 := (HB.out.cell (World.block_lt_of_cell? w _ hx138_3)).trans hx138_3
                        replace hx138_4 := (HB.out.cell (World.block_lt_of_cell? w _ hx138_4)).trans hx138_4
                        replace hx138_5 := (HB.out.cell (World.block_lt_of_cell? w _ hx138_5)).trans hx138_5
                        have HR138_5 := Aside0.mk hi138_5
                        have HC138_5 := Aside0.mk hl138_5
                        clear hi138_5 hl138_5
                        replace p138 := eq_true p138
                        replace q138 := eq_true q138
                        go_wp2
                        go_meet
                        case rel => exact ⟨_, (true), (by first | rfl | (simp; done) | (simp [*]; done)), H', ⟨by have := HK1.out; have := HK2.out; first | omega | exact Nat.le_refl _⟩, ⟨by (with_reducible repeat (first | refine blk_drewN ?_ _ | refine blk_drew ?_ | refine blk_alloc ?_ _)); exact BK133.out⟩, ⟨by repeat (first | (with_reducible first | exact HB.out | apply below_alloc | apply pw_below_drewN | apply below_drew1 | refine below_set ?_ GE133.out) | exact HB.out)⟩⟩
                      · rw [if_neg c15] at H
                        have c15b0 : decide (((rd_T109 ((rd_T103 l0_0 x4_1).f1) x6_2).f0.f0) < 16) = false := decide_eq_false c15
                        clear c15
                        (first | rw [c15b0] | (simp only [i64_w, i32_w]; rw [c15b0]) | rw [c15b1] | skip)
                        have H' := Aside0.mk H
                        clear H
                        have p138 : 0 ≤ (x6_2 : Int) := of_decide_eq_true (by first | (with_reducible assumption) | assumption)
                        have q138 : x6_2 < (((rd_T103 l0_0 x4_1).f1).length : Int) := of_decide_eq_true (by first | (with_reducible assumption) | assumption)
                        obtain ⟨ad138, A138_5, c138_5, e138, hx138_0, hx138_1, hx138_2, hx138_3, hx138_4, hx138_5, hl138_5, hi138_5⟩ := at_T109 HR135_1.out x6_2 p138 q138
                        obtain rfl : ad136 = ad138 := (by injection e138)
                        replace hx138_0 := (HB.out.cell (World.block_lt_of_cell? w _ hx138_0)).trans hx138_0
                        replace hx138_1 := (HB.out.cell (World.block_lt_of_cell? w _ hx138_1)).trans hx138_1
                        replace hx138_2 := (HB.out.cell (World.block_lt_of_cell? w _ hx138_2)).trans hx138_2
                        replace hx138_3 := (HB.out.cell (World.block_lt_of_cell? w _ hx138_3)).trans hx138_3
                        replace hx138_4 := (HB.out.cell (World.block_lt_of_cell? w _ hx138_4)).trans hx138_4
                        replace hx138_5 := (HB.out.cell (World.block_lt_of_cell? w _ hx138_5)).trans hx138_5
                        have HR138_5 := Aside0.mk hi138_5
                        have HC138_5 := Aside0.mk hl138_5
                        clear hi138_5 hl138_5
                        replace p138 := eq_true p138
                        replace q138 := eq_true q138
                        have p139 : 0 ≤ (x6_2 : Int) := of_decide_eq_true (by first | (with_reducible assumption) | assumption)
                        have q139 : x6_2 < (((rd_T103 l0_0 x4_1).f1).length : Int) := of_decide_eq_true (by first | (with_reducible assumption) | assumption)
                        obtain ⟨ad139, A139_5, c139_5, e139, hx139_0, hx139_1, hx139_2, hx139_3, hx139_4, hx139_5, hl139_5, hi139_5⟩ := at_T109 HR135_1.out x6_2 p139 q139
                        obtain rfl : ad136 = ad139 := (by injection e139)
                        replace hx139_0 := (HB.out.cell (World.block_lt_of_cell? w _ hx139_0)).trans hx139_0
                        replace hx139_1 := (HB.out.cell (World.block_lt_of_cell? w _ hx139_1)).trans hx139_1
                        replace hx139_2 := (HB.out.cell (World.block_lt_of_cell? w _ hx139_2)).trans hx139_2
                        replace hx139_3 := (HB.out.cell (World.block_lt_of_cell? w _ hx139_3)).trans hx139_3
                        replace hx139_4 := (HB.out.cell (World.block_lt_of_cell? w _ hx139_4)).trans hx139_4
                        replace hx139_5 := (HB.out.cell (World.block_lt_of_cell? w _ hx139_5)).trans hx139_5
                        have HR139_5 := Aside0.mk hi139_5
                        have HC139_5 := Aside0.mk hl139_5
                        clear hi139_5 hl139_5
                        replace p139 := eq_true p139
                        replace q139 := eq_true q139
                        have ea_ := Option.some.inj (hx138_5.symm.trans hx139_5)
                        injection ea_ with ea_ en_ ec_
                        subst ea_
                        subst ec_
                        clear en_
                        go_wp2
                        go_meet
                        case rel => exact ⟨_, ((((rd_T109 ((rd_T103 l0_0 x4_1).f1) x6_2).f0.f0) == 18)), (by first | rfl | (simp; done) | (simp [*]; done)), H', ⟨by have := HK1.out; have := HK2.out; first | omega | exact Nat.le_refl _⟩, ⟨by (with_reducible repeat (first | refine blk_drewN ?_ _ | refine blk_drew ?_ | refine blk_alloc ?_ _)); exact BK133.out⟩, ⟨by repeat (first | (with_reducible first | exact HB.out | apply below_alloc | apply pw_below_drewN | apply below_drew1 | refine below_set ?_ GE133.out) | exact HB.out)⟩⟩
                    case rest =>
                      clear HC13
                      try clear c1
                      try clear p1
                      try clear q1
                      try clear hx1
                      try clear c2
                      try clear p2
                      try clear c3
                      try clear c5
                      try clear p6
                      try clear c7
                      try clear c7b0
                      try clear c8
                      try clear c8b0
                      try clear c10
                      try clear c10b0
                      try clear c11
                      try clear c11b0
                      try clear c13
                      try clear p13
                      try clear q13
                      try clear hx13
                      try clear c15
                      try clear c15b0
                      try clear hcz5_0
                      try clear hcz9_0
                      try clear hfz5_0
                      try clear hfz9_0
                      try clear hx135_0
                      try clear hx135_1
                      try clear hx136_0
                      try clear hx136_1
                      try clear hx136_2
                      try clear hx136_3
                      try clear hx136_4
                      try clear hx136_5
                      try clear hx138_0
                      try clear hx138_1
                      try clear hx138_2
                      try clear hx138_3
                      try clear hx138_4
                      try clear hx138_5
                      try clear hx139_0
                      try clear hx139_1
                      try clear hx139_2
                      try clear hx139_3
                      try clear hx139_4
                      try clear hx139_5
                      try clear p1
                      try clear p135
                      try clear p136
                      try clear p138
                      try clear p139
                      try clear p2
                      try clear q1
                      try clear q135
                      try clear q136
                      try clear q138
                      try clear q139
                      obtain ⟨kq, x56_12, rfl, HA, HJ12, BK133, HB⟩ := hcut
                      cases kq with
                      | zero => exact absurd HA.out (by simp [spec_Specificity.j2])
                      | succ kj12 =>
                        have H := HA.out
                        clear HA
                        simp only [spec_Specificity.j2] at H
                        by_cases c16 : x56_12 = true
                        · subst c16
                          have H1 : (spec_Specificity.l1 kj12 (wrap64 (x3_2 + t137)) x4_1 ((rd_T103 l0_0 x4_1).f1) (wrap64 (x6_2 + 1)) l0_0) = some r := by rw [if_pos rfl] at H; exact H
                          clear H
                          have H := H1
                          clear H1
                          have H' := Aside0.mk H
                          clear H
                          go_wp2
                          go_roundg kj12
                          case measure => have := HK1.out; have := HK2.out; have := HJ12.out; omega
                          case rel => exact ⟨((wrap64 (x3_2 + t137))), (wrap64 (x6_2 + 1)), (by first | rfl | (simp; done) | (simp [*]; done)), (by first | rfl | (simp; done) | (simp [*]; done)), H', ⟨by have := HK1.out; have := HK2.out; have := HJ12.out; omega⟩, ⟨by (with_reducible repeat (first | refine blk_drewN ?_ _ | refine blk_drew ?_ | refine blk_alloc ?_ _)); exact BK133.out⟩, ⟨by repeat (first | (with_reducible first | exact HB.out | apply below_alloc | apply pw_below_drewN | apply below_drew1 | refine below_set ?_ GE133.out) | exact HB.out)⟩⟩
                        · replace c16 := Bool.eq_false_iff.mpr c16
                          subst c16
                          have H1 : (spec_Specificity.l2 kj12 (wrap64 (x3_2 + t137)) x4_1 ((rd_T103 l0_0 x4_1).f1) x6_2 0 0 l0_0) = some r := by rw [if_neg (show ¬ (false = true) by decide)] at H; exact H
                          clear H
                          have H := H1
                          clear H1
                          have H' := Aside0.mk H
                          clear H
                          go_wp2
                          go_loopg [7, 8] kj12 (fun kq v7 v8 w' => ∃ (x7_4 : Int) (x8_4 : Int), v7 = .int .i64 x7_4 ∧ v8 = .int .i64 x8_4 ∧ Aside0 (spec_Specificity.l2 kq (wrap64 (x3_2 + t137)) x4_1 ((rd_T103 l0_0 x4_1).f1) x6_2 x7_4 x8_4 l0_0 = some r) ∧ Aside0 (kq ≤ kj12) ∧ Aside0 (w'.heap[gb133]? = some (.cells #[(.slice (some ad135) l0_0.length c0_0)] 68 (0, 0))) ∧ Aside0 (Below w.heap.size w w'))
                          case atStart => exact ⟨(0), (0), (by first | rfl | (simp; done) | (simp [*]; done)), (by first | rfl | (simp; done) | (simp [*]; done)), H', ⟨Nat.le_refl _⟩, ⟨by (with_reducible repeat (first | refine blk_drewN ?_ _ | refine blk_drew ?_ | refine blk_alloc ?_ _)); exact BK133.out⟩, ⟨by repeat (first | (with_reducible first | exact HB.out | apply below_alloc | apply pw_below_drewN | apply below_drew1 | refine below_set ?_ GE133.out) | exact HB.out)⟩⟩
                          case round =>
                            clear H'
                            try clear c1
                            try clear p1
                            try clear q1
                            try clear hx1
                            try clear c2
                            try clear p2
                            try clear c3
                            try clear c5
                            try clear p6
                            try clear c7
                            try clear c7b0
                            try clear c8
                            try clear c8b0
                            try clear c10
                            try clear c10b0
                            try clear c11
                            try clear c11b0
                            try clear c13
                            try clear p13
                            try clear q13
                            try clear hx13
                            try clear c15
                            try clear c15b0
                            try clear c16
                            try clear hcz5_0
                            try clear hcz9_0
                            try clear hfz5_0
                            try clear hfz9_0
                            try clear hx135_0
                            try clear hx135_1
                            try clear hx136_0
                            try clear hx136_1
                            try clear hx136_2
                            try clear hx136_3
                            try clear hx136_4
                            try clear hx136_5
                            try clear hx138_0
                            try clear hx138_1
                            try clear hx138_2
                            try clear hx138_3
                            try clear hx138_4
                            try clear hx138_5
                            try clear hx139_0
                            try clear hx139_1
                            try clear hx139_2
                            try clear hx139_3
                            try clear hx139_4
                            try clear hx139_5
                            try clear p1
                            try clear p13
                            try clear p135
                            try clear p136
                            try clear p138
                            try clear p139
                            try clear p2
                            try clear p6
                            try clear q1
                            try clear q13
                            try clear q135
                            try clear q136
                            try clear q138
                            try clear q139
                            obtain ⟨x7_4, x8_4, rfl, rfl, HA, HK4, BK133, HB⟩ := hrel
                            cases gk with
                            | zero => exact absurd HA.out (by simp [spec_Specificity.l2])
                            | succ k4 =>
                              have H := HA.out
                              clear HA
                              simp only [spec_Specificity.l2] at H
                              by_cases c17 : 0 ≤ x6_2
                              · rw [if_pos c17] at H
                                have c17b0 : decide (0 ≤ x6_2) = true := decide_eq_true c17
                                clear c17
                                by_cases c18 : x6_2 < (((rd_T103 l0_0 x4_1).f1).length : Int)
                                · rw [if_pos c18] at H
                                  have c18b0 : decide (x6_2 < (((rd_T103 l0_0 x4_1).f1).length : Int)) = true := decide_eq_true c18
                                  clear c18
                                  by_cases c19 : x8_4 < (((rd_T109 ((rd_T103 l0_0 x4_1).f1) x6_2).f1).length : Int)
                                  · rw [if_pos c19] at H
                                    have c19b0 : decide (x8_4 < (((rd_T109 ((rd_T103 l0_0 x4_1).f1) x6_2).f1).length : Int)) = true := decide_eq_true c19
                                    clear c19
                                    have H' := Aside0.mk H
                                    clear H
                                    have p140 : 0 ≤ (x6_2 : Int) := of_decide_eq_true (by first | (with_reducible assumption) | assumption)
                                    have q140 : x6_2 < (((rd_T103 l0_0 x4_1).f1).length : Int) := of_decide_eq_true (by first | (with_reducible assumption) | assumption)
                                    obtain ⟨ad140, A140_5, c140_5, e140, hx140_0, hx140_1, hx140_2, hx140_3, hx140_4, hx140_5, hl140_5, hi140_5⟩ := at_T109 HR135_1.out x6_2 p140 q140
                                    obtain rfl : ad136 = ad140 := (by injection e140)
                                    replace hx140_0 := (HB.out.cell (World.block_lt_of_cell? w _ hx140_0)).trans hx140_0
                                    replace hx140_1 := (HB.out.cell (World.block_lt_of_cell? w _ hx140_1)).trans hx140_1
                                    replace hx140_2 := (HB.out.cell (World.block_lt_of_cell? w _ hx140_2)).trans hx140_2
                                    replace hx140_3 := (HB.out.cell (World.block_lt_of_cell? w _ hx140_3)).trans hx140_3
                                    replace hx140_4 := (HB.out.cell (World.block_lt_of_cell? w _ hx140_4)).trans hx140_4
                                    replace hx140_5 := (HB.out.cell (World.block_lt_of_cell? w _ hx140_5)).trans hx140_5
                                    have HR140_5 := Aside0.mk hi140_5
                                    have HC140_5 := Aside0.mk hl140_5
                                    clear hi140_5 hl140_5
                                    replace p140 := eq_true p140
                                    replace q140 := eq_true q140
                                    go_wp2
                                    go_loopg [9, 10] k4 (fun kq v9 v10 w' => ∃ (x9_5 : Int) (x10_5 : Int), v9 = .int .i64 x9_5 ∧ v10 = .int .i64 x10_5 ∧ Aside0 (spec_Specificity.l3 kq (wrap64 (x3_2 + t137)) x4_1 ((rd_T103 l0_0 x4_1).f1) x6_2 x7_4 x8_4 x9_5 x10_5 l0_0 = some r) ∧ Aside0 (kq ≤ k4) ∧ Aside0 (w'.heap[gb133]? = some (.cells #[(.slice (some ad135) l0_0.length c0_0)] 68 (0, 0))) ∧ Aside0 (Below w.heap.size w w'))
                                    case atStart => exact ⟨(0), (0), (by first | rfl | (simp; done) | (simp [*]; done)), (by first | rfl | (simp; done) | (simp [*]; done)), H', ⟨Nat.le_refl _⟩, ⟨by (with_reducible repeat (first | refine blk_drewN ?_ _ | refine blk_drew ?_ | refine blk_alloc ?_ _)); exact BK133.out⟩, ⟨by repeat (first | (with_reducible first | exact HB.out | apply below_alloc | apply pw_below_drewN | apply below_drew1 | refine below_set ?_ GE133.out) | exact HB.out)⟩⟩
                                    case round =>
                                      clear H'
                                      try clear c1
                                      try clear p1
                                      try clear q1
                                      try clear hx1
                                      try clear c2
                                      try clear p2
                                      try clear c3
                                      try clear c5
                                      try clear p6
                                      try clear c7
                                      try clear c7b0
                                      try clear c8
                                      try clear c8b0
                                      try clear c10
                                      try clear c10b0
                                      try clear c11
                                      try clear c11b0
                                      try clear c13
                                      try clear p13
                                      try clear q13
                                      try clear hx13
                                      try clear c14
                                      try clear p14
                                      try clear q14
                                      try clear hx14
                                      try clear c15
                                      try clear c15b0
                                      try clear c16
                                      try clear c17
                                      try clear c17b0
                                      try clear c18
                                      try clear c18b0
                                      try clear c19
                                      try clear c19b0
                                      try clear hcz5_0
                                      try clear hcz9_0
                                      try clear hfz5_0
                                      try clear hfz9_0
                                      try clear hx135_0
                                      try clear hx135_1
                                      try clear hx136_0
                                      try clear hx136_1
                                      try clear hx136_2
                                      try clear hx136_3
                                      try clear hx136_4
                                      try clear hx136_5
                                      try clear hx138_0
                                      try clear hx138_1
                                      try clear hx138_2
                                      try clear hx138_3
                                      try clear hx138_4
                                      try clear hx138_5
                                      try clear hx139_0
                                      try clear hx139_1
                                      try clear hx139_2
                                      try clear hx139_3
                                      try clear hx139_4
                                      try clear hx139_5
                                      try clear hx140_0
                                      try clear hx140_1
                                      try clear hx140_2
                                      try clear hx140_3
                                      try clear hx140_4
                                      try clear hx140_5
                                      try clear p1
                                      try clear p13
                                      try clear p135
                                      try clear p136
                                      try clear p138
                                      try clear p139
                                      try clear p140
                                      try clear p2
                                      try clear p6
                                      try clear q1
                                      try clear q13
                                      try clear q135
                                      try clear q136
                                      try clear q138
                                      try clear q139
                                      try clear q140
                                      obtain ⟨x9_5, x10_5, rfl, rfl, HA, HK5, BK133, HB⟩ := hrel
                                      cases gk with
                                      | zero => exact absurd HA.out (by simp [spec_Specificity.l3])
                                      | succ k5 =>
                                        have H := HA.out
                                        clear HA
                                        simp only [spec_Specificity.l3] at H
                                        by_cases c20 : 0 ≤ x6_2
                                        · rw [if_pos c20] at H
                                          have c20b0 : decide (0 ≤ x6_2) = true := decide_eq_true c20
                                          clear c20
                                          by_cases c21 : x6_2 < (((rd_T103 l0_0 x4_1).f1).length : Int)
                                          · rw [if_pos c21] at H
                                            have c21b0 : decide (x6_2 < (((rd_T103 l0_0 x4_1).f1).length : Int)) = true := decide_eq_true c21
                                            clear c21
                                            by_cases c22 : 0 ≤ x8_4
                                            · rw [if_pos c22] at H
                                              have c22b0 : decide (0 ≤ x8_4) = true := decide_eq_true c22
                                              clear c22
                                              by_cases c23 : x8_4 < (((rd_T109 ((rd_T103 l0_0 x4_1).f1) x6_2).f1).length : Int)
                                              · rw [if_pos c23] at H
                                                have c23b0 : decide (x8_4 < (((rd_T109 ((rd_T103 l0_0 x4_1).f1) x6_2).f1).length : Int)) = true := decide_eq_true c23
                                                clear c23
                                                by_cases c24 : x10_5 < (((rd_T112 ((rd_T109 ((rd_T103 l0_0 x4_1).f1) x6_2).f1) x8_4).f0).length : Int)
                                                · rw [if_pos c24] at H
                                                  have c24b0 : decide (x10_5 < (((rd_T112 ((rd_T109 ((rd_T103 l0_0 x4_1).f1) x6_2).f1) x8_4).f0).length : Int)) = true := decide_eq_true c24
                                                  clear c24
                                                  by_cases c25 : 0 ≤ x10_5
                                                  · rw [if_pos c25] at H
                                                    have c25b0 : decide (0 ≤ x10_5) = true := decide_eq_true c25
                                                    clear c25
                                                    replace H := Option.bind_eq_some_iff.mp H
                                                    obtain ⟨t146, A260, H⟩ := H
                                                    replace H : (spec_Specificity.l3 k5 (wrap64 (x3_2 + t137)) x4_1 ((rd_T103 l0_0 x4_1).f1) x6_2 x7_4 x8_4 (wrap64 (x9_5 + t146)) (wrap64 (x10_5 + 1)) l0_0) = some r := H
                                                    have A26 := Aside0.mk A260
                                                    clear A260
                                                    have H' := Aside0.mk H
                                                    clear H
                                                    have p141 : 0 ≤ (x6_2 : Int) := of_decide_eq_true (by first | (with_reducible assumption) | assumption)
                                                    have q141 : x6_2 < (((rd_T103 l0_0 x4_1).f1).length : Int) := of_decide_eq_true (by first | (with_reducible assumption) | assumption)
                                                    obtain ⟨ad141, A141_5, c141_5, e141, hx141_0, hx141_1, hx141_2, hx141_3, hx141_4, hx141_5, hl141_5, hi141_5⟩ := at_T109 HR135_1.out x6_2 p141 q141
                                                    obtain rfl : ad136 = ad141 := (by injection e141)
                                                    replace hx141_0 := (HB.out.cell (World.block_lt_of_cell? w _ hx141_0)).trans hx141_0
                                                    replace hx141_1 := (HB.out.cell (World.block_lt_of_cell? w _ hx141_1)).trans hx141_1
                                                    replace hx141_2 := (HB.out.cell (World.block_lt_of_cell? w _ hx141_2)).trans hx141_2
                                                    replace hx141_3 := (HB.out.cell (World.block_lt_of_cell? w _ hx141_3)).trans hx141_3
                                                    replace hx141_4 := (HB.out.cell (World.block_lt_of_cell? w _ hx141_4)).trans hx141_4
                                                    replace hx141_5 := (HB.out.cell (World.block_lt_of_cell? w _ hx141_5)).trans hx141_5
                                                    have HR141_5 := Aside0.mk hi141_5
                                                    have HC141_5 := Aside0.mk hl141_5
                                                    clear hi141_5 hl141_5
                                                    replace p141 := eq_true p141
                                                    replace q141 := eq_true q141
                                                    have p142 : 0 ≤ (x8_4 : Int) := of_decide_eq_true (by first | (with_reducible assumption) | assumption)
                                                    have q142 : x8_4 < (((rd_T109 ((rd_T103 l0_0 x4_1).f1) x6_2).f1).length : Int) := of_decide_eq_true (by first | (with_reducible assumption) | assumption)
                                                    obtain ⟨ad142, A142_0, c142_0, e142, hx142_0, hl142_0, hi142_0⟩ := at_T112 HR141_5.out x8_4 p142 q142
                                                    cases e142
                                                    replace hx142_0 := (HB.out.cell (World.block_lt_of_cell? w _ hx142_0)).trans hx142_0
                                                    have HR142_0 := Aside0.mk hi142_0
                                                    have HC142_0 := Aside0.mk hl142_0
                                                    clear hi142_0 hl142_0
                                                    replace p142 := eq_true p142
                                                    replace q142 := eq_true q142
                                                    have p143 : 0 ≤ (x6_2 : Int) := of_decide_eq_true (by first | (with_reducible assumption) | assumption)
                                                    have q143 : x6_2 < (((rd_T103 l0_0 x4_1).f1).length : Int) := of_decide_eq_true (by first | (with_reducible assumption) | assumption)
                                                    obtain ⟨ad143, A143_5, c143_5, e143, hx143_0, hx143_1, hx143_2, hx143_3, hx143_4, hx143_5, hl143_5, hi143_5⟩ := at_T109 HR135_1.out x6_2 p143 q143
                                                    obtain rfl : ad136 = ad143 := (by injection e143)
                                                    replace hx143_0 := (HB.out.cell (World.block_lt_of_cell? w _ hx143_0)).trans hx143_0
                                                    replace hx143_1 := (HB.out.cell (World.block_lt_of_cell? w _ hx143_1)).trans hx143_1
                                                    replace hx143_2 := (HB.out.cell (World.block_lt_of_cell? w _ hx143_2)).trans hx143_2
                                                    replace hx143_3 := (HB.out.cell (World.block_lt_of_cell? w _ hx143_3)).trans hx143_3
                                                    replace hx143_4 := (HB.out.cell (World.block_lt_of_cell? w _ hx143_4)).trans hx143_4
                                                    replace hx143_5 := (HB.out.cell (World.block_lt_of_cell? w _ hx143_5)).trans hx143_5
                                                    have HR143_5 := Aside0.mk hi143_5
                                                    have HC143_5 := Aside0.mk hl143_5
                                                    clear hi143_5 hl143_5
                                                    replace p143 := eq_true p143
                                                    replace q143 := eq_true q143
                                                    have ea_ := Option.some.inj (hx141_5.symm.trans hx143_5)
                                                    injection ea_ with ea_ en_ ec_
                                                    subst ea_
                                                    subst ec_
                                                    clear en_
                                                    have p144 : 0 ≤ (x8_4 : Int) := of_decide_eq_true (by first | (with_reducible assumption) | assumption)
                                                    have q144 : x8_4 < (((rd_T109 ((rd_T103 l0_0 x4_1).f1) x6_2).f1).length : Int) := of_decide_eq_true (by first | (with_reducible assumption) | assumption)
                                                    obtain ⟨ad144, A144_0, c144_0, e144, hx144_0, hl144_0, hi144_0⟩ := at_T112 HR143_5.out x8_4 p144 q144
                                                    cases e144
                                                    replace hx144_0 := (HB.out.cell (World.block_lt_of_cell? w _ hx144_0)).trans hx144_0
                                                    have HR144_0 := Aside0.mk hi144_0
                                                    have HC144_0 := Aside0.mk hl144_0
                                                    clear hi144_0 hl144_0
                                                    have ea_ := Option.some.inj (hx142_0.symm.trans hx144_0)
                                                    injection ea_ with ea_ en_ ec_
                                                    subst ea_
                                                    subst ec_
                                                    clear en_
                                                    replace p144 := eq_true p144
                                                    replace q144 := eq_true q144
                                                    have p145 : 0 ≤ (x10_5 : Int) := of_decide_eq_true (by first | (with_reducible assumption) | assumption)
                                                    have q145 : x10_5 < (((rd_T112 ((rd_T109 ((rd_T103 l0_0 x4_1).f1) x6_2).f1) x8_4).f0).length : Int) := of_decide_eq_true (by first | (with_reducible assumption) | assumption)
                                                    obtain ⟨ad145, e145, hx145_0, hx145_1, hx145_2, hx145_3, hx145_4⟩ := at_T106 HR144_0.out x10_5 p145 q145
                                                    cases e145
                                                    replace hx145_0 := (HB.out.cell (World.block_lt_of_cell? w _ hx145_0)).trans hx145_0
                                                    replace hx145_1 := (HB.out.cell (World.block_lt_of_cell? w _ hx145_1)).trans hx145_1
                                                    replace hx145_2 := (HB.out.cell (World.block_lt_of_cell? w _ hx145_2)).trans hx145_2
                                                    replace hx145_3 := (HB.out.cell (World.block_lt_of_cell? w _ hx145_3)).trans hx145_3
                                                    replace hx145_4 := (HB.out.cell (World.block_lt_of_cell? w _ hx145_4)).trans hx145_4
                                                    replace p145 := eq_true p145
                                                    replace q145 := eq_true q145
                                                    go_wp2_with (first | ((with_reducible refine gate_callee (f := 58) rfl ?_); refine goesL_ (some 94) rfl rfl Try.func58 (by kernel_rfl) rfl #[.agg #[.int .i64 ((rd_T106 ((rd_T112 ((rd_T109 ((rd_T103 l0_0 x4_1).f1) x6_2).f1) x8_4).f0) x10_5).f0), .string ((rd_T106 ((rd_T112 ((rd_T109 ((rd_T103 l0_0 x4_1).f1) x6_2).f1) x8_4).f0) x10_5).f1), .string ((rd_T106 ((rd_T112 ((rd_T109 ((rd_T103 l0_0 x4_1).f1) x6_2).f1) x8_4).f0) x10_5).f2), .int .i64 ((rd_T106 ((rd_T112 ((rd_T109 ((rd_T103 l0_0 x4_1).f1) x6_2).f1) x8_4).f0) x10_5).f3), .int .i64 ((rd_T106 ((rd_T112 ((rd_T109 ((rd_T103 l0_0 x4_1).f1) x6_2).f1) x8_4).f0) x10_5).f4)]] rfl (by (try simp only [List.map_toArray, List.map_cons, List.map_nil]); first | done | rfl | (simp only [List.length_drop, List.length_take]; rfl)) ?_; (with_reducible refine (spec_l8Weight.calls ((rd_T106 ((rd_T112 ((rd_T109 ((rd_T103 l0_0 x4_1).f1) x6_2).f1) x8_4).f0) x10_5).f0) ((rd_T106 ((rd_T112 ((rd_T109 ((rd_T103 l0_0 x4_1).f1) x6_2).f1) x8_4).f0) x10_5).f1) ((rd_T106 ((rd_T112 ((rd_T109 ((rd_T103 l0_0 x4_1).f1) x6_2).f1) x8_4).f0) x10_5).f2) ((rd_T106 ((rd_T112 ((rd_T109 ((rd_T103 l0_0 x4_1).f1) x6_2).f1) x8_4).f0) x10_5).f3) ((rd_T106 ((rd_T112 ((rd_T109 ((rd_T103 l0_0 x4_1).f1) x6_2).f1) x8_4).f0) x10_5).f4) t146 _ A26.out).mono ?_); rintro e w27 ⟨rfl, hb⟩; refine ⟨_, rfl, ?_⟩; have n0_ := Aside0.mk (blk_below (g := gb133) (o := .cells #[.slice (some ad135) l0_0.length c0_0] 68 (0, 0)) (by (with_reducible repeat (first | refine blk_drewN ?_ _ | refine blk_drew ?_ | refine blk_alloc ?_ _)); exact BK133.out) hb); have n1_ := Aside0.mk (below_step (by repeat (first | (with_reducible first | exact HB.out | apply below_alloc | apply pw_below_drewN | apply below_drew1 | refine below_set ?_ GE133.out) | exact HB.out)) hb); clear BK133; clear HB; have BK133 := n0_; have HB := n1_; clear n0_ n1_; (try clear hb); (try clear hb2); (try clear hk); (try clear hi)))
                                                    go_roundg k5
                                                    case measure => have := HK1.out; have := HK2.out; have := HJ12.out; have := HK4.out; have := HK5.out; omega
                                                    case rel => exact ⟨(wrap64 (x9_5 + t146)), (wrap64 (x10_5 + 1)), (by first | rfl | (simp; done) | (simp [*]; done)), (by first | rfl | (simp; done) | (simp [*]; done)), H', ⟨by have := HK1.out; have := HK2.out; have := HJ12.out; have := HK4.out; have := HK5.out; omega⟩, ⟨by (with_reducible repeat (first | refine blk_drewN ?_ _ | refine blk_drew ?_ | refine blk_alloc ?_ _)); exact BK133.out⟩, ⟨by repeat (first | (with_reducible first | exact HB.out | apply below_alloc | apply pw_below_drewN | apply below_drew1 | refine below_set ?_ GE133.out) | exact HB.out)⟩⟩
                                                  · rw [if_neg c25] at H
                                                    exact absurd H (by simp)
                                                · rw [if_neg c24] at H
                                                  have c24b0 : decide (x10_5 < (((rd_T112 ((rd_T109 ((rd_T103 l0_0 x4_1).f1) x6_2).f1) x8_4).f0).length : Int)) = false := decide_eq_false c24
                                                  clear c24
                                                  by_cases c28 : x9_5 > x7_4
                                                  · rw [if_pos c28] at H
                                                    have c28b0 : decide (x7_4 < x9_5) = true := decide_eq_true c28
                                                    clear c28
                                                    have H' := Aside0.mk H
                                                    clear H
                                                    have p141 : 0 ≤ (x6_2 : Int) := of_decide_eq_true (by first | (with_reducible assumption) | assumption)
                                                    have q141 : x6_2 < (((rd_T103 l0_0 x4_1).f1).length : Int) := of_decide_eq_true (by first | (with_reducible assumption) | assumption)
                                                    obtain ⟨ad141, A141_5, c141_5, e141, hx141_0, hx141_1, hx141_2, hx141_3, hx141_4, hx141_5, hl141_5, hi141_5⟩ := at_T109 HR135_1.out x6_2 p141 q141
                                                    obtain rfl : ad136 = ad141 := (by injection e141)
                                                    replace hx141_0 := (HB.out.cell (World.block_lt_of_cell? w _ hx141_0)).trans hx141_0
                                                    replace hx141_1 := (HB.out.cell (World.block_lt_of_cell? w _ hx141_1)).trans hx141_1
                                                    replace hx141_2 := (HB.out.cell (World.block_lt_of_cell? w _ hx141_2)).trans hx141_2
                                                    replace hx141_3 := (HB.out.cell (World.block_lt_of_cell? w _ hx141_3)).trans hx141_3
                                                    replace hx141_4 := (HB.out.cell (World.block_lt_of_cell? w _ hx141_4)).trans hx141_4
                                                    replace hx141_5 := (HB.out.cell (World.block_lt_of_cell? w _ hx141_5)).trans hx141_5
                                                    have HR141_5 := Aside0.mk hi141_5
                                                    have HC141_5 := Aside0.mk hl141_5
                                                    clear hi141_5 hl141_5
                                                    replace p141 := eq_true p141
                                                    replace q141 := eq_true q141
                                                    have p142 : 0 ≤ (x8_4 : Int) := of_decide_eq_true (by first | (with_reducible assumption) | assumption)
                                                    have q142 : x8_4 < (((rd_T109 ((rd_T103 l0_0 x4_1).f1) x6_2).f1).length : Int) := of_decide_eq_true (by first | (with_reducible assumption) | assumption)
                                                    obtain ⟨ad142, A142_0, c142_0, e142, hx142_0, hl142_0, hi142_0⟩ := at_T112 HR141_5.out x8_4 p142 q142
                                                    cases e142
                                                    replace hx142_0 := (HB.out.cell (World.block_lt_of_cell? w _ hx142_0)).trans hx142_0
                                                    have HR142_0 := Aside0.mk hi142_0
                                                    have HC142_0 := Aside0.mk hl142_0
                                                    clear hi142_0 hl142_0
                                                    replace p142 := eq_true p142
                                                    replace q142 := eq_true q142
                                                    go_wp2
                                                    go_roundg k5
                                                    case measure => have := HK1.out; have := HK2.out; have := HJ12.out; have := HK4.out; have := HK5.out; omega
                                                    case rel => exact ⟨(x9_5), (wrap64 (x8_4 + 1)), (by first | rfl | (simp; done) | (simp [*]; done)), (by first | rfl | (simp; done) | (simp [*]; done)), H', ⟨by have := HK1.out; have := HK2.out; have := HJ12.out; have := HK4.out; have := HK5.out; omega⟩, ⟨by (with_reducible repeat (first | refine blk_drewN ?_ _ | refine blk_drew ?_ | refine blk_alloc ?_ _)); exact BK133.out⟩, ⟨by repeat (first | (with_reducible first | exact HB.out | apply below_alloc | apply pw_below_drewN | apply below_drew1 | refine below_set ?_ GE133.out) | exact HB.out)⟩⟩
                                                  · rw [if_neg c28] at H
                                                    have c28b0 : decide (x7_4 < x9_5) = false := decide_eq_false c28
                                                    clear c28
                                                    have H' := Aside0.mk H
                                                    clear H
                                                    have p141 : 0 ≤ (x6_2 : Int) := of_decide_eq_true (by first | (with_reducible assumption) | assumption)
                                                    have q141 : x6_2 < (((rd_T103 l0_0 x4_1).f1).length : Int) := of_decide_eq_true (by first | (with_reducible assumption) | assumption)
                                                    obtain ⟨ad141, A141_5, c141_5, e141, hx141_0, hx141_1, hx141_2, hx141_3, hx141_4, hx141_5, hl141_5, hi141_5⟩ := at_T109 HR135_1.out x6_2 p141 q141
                                                    obtain rfl : ad136 = ad141 := (by injection e141)
                                                    replace hx141_0 := (HB.out.cell (World.block_lt_of_cell? w _ hx141_0)).trans hx141_0
                                                    replace hx141_1 := (HB.out.cell (World.block_lt_of_cell? w _ hx141_1)).trans hx141_1
                                                    replace hx141_2 := (HB.out.cell (World.block_lt_of_cell? w _ hx141_2)).trans hx141_2
                                                    replace hx141_3 := (HB.out.cell (World.block_lt_of_cell? w _ hx141_3)).trans hx141_3
                                                    replace hx141_4 := (HB.out.cell (World.block_lt_of_cell? w _ hx141_4)).trans hx141_4
                                                    replace hx141_5 := (HB.out.cell (World.block_lt_of_cell? w _ hx141_5)).trans hx141_5
                                                    have HR141_5 := Aside0.mk hi141_5
                                                    have HC141_5 := Aside0.mk hl141_5
                                                    clear hi141_5 hl141_5
                                                    replace p141 := eq_true p141
                                                    replace q141 := eq_true q141
                                                    have p142 : 0 ≤ (x8_4 : Int) := of_decide_eq_true (by first | (with_reducible assumption) | assumption)
                                                    have q142 : x8_4 < (((rd_T109 ((rd_T103 l0_0 x4_1).f1) x6_2).f1).length : Int) := of_decide_eq_true (by first | (with_reducible assumption) | assumption)
                                                    obtain ⟨ad142, A142_0, c142_0, e142, hx142_0, hl142_0, hi142_0⟩ := at_T112 HR141_5.out x8_4 p142 q142
                                                    cases e142
                                                    replace hx142_0 := (HB.out.cell (World.block_lt_of_cell? w _ hx142_0)).trans hx142_0
                                                    have HR142_0 := Aside0.mk hi142_0
                                                    have HC142_0 := Aside0.mk hl142_0
                                                    clear hi142_0 hl142_0
                                                    replace p142 := eq_true p142
                                                    replace q142 := eq_true q142
                                                    go_wp2
                                                    go_roundg k5
                                                    case measure => have := HK1.out; have := HK2.out; have := HJ12.out; have := HK4.out; have := HK5.out; omega
                                                    case rel => exact ⟨(x7_4), (wrap64 (x8_4 + 1)), (by first | rfl | (simp; done) | (simp [*]; done)), (by first | rfl | (simp; done) | (simp [*]; done)), H', ⟨by have := HK1.out; have := HK2.out; have := HJ12.out; have := HK4.out; have := HK5.out; omega⟩, ⟨by (with_reducible repeat (first | refine blk_drewN ?_ _ | refine blk_drew ?_ | refine blk_alloc ?_ _)); exact BK133.out⟩, ⟨by repeat (first | (with_reducible first | exact HB.out | apply below_alloc | apply pw_below_drewN | apply below_drew1 | refine below_set ?_ GE133.out) | exact HB.out)⟩⟩
                                              · rw [if_neg c23] at H
                                                exact absurd H (by simp)
                                            · rw [if_neg c22] at H
                                              exact absurd H (by simp)
                                          · rw [if_neg c21] at H
                                            exact absurd H (by simp)
                                        · rw [if_neg c20] at H
                                          exact absurd H (by simp)
                                  · rw [if_neg c19] at H
                                    have c19b0 : decide (x8_4 < (((rd_T109 ((rd_T103 l0_0 x4_1).f1) x6_2).f1).length : Int)) = false := decide_eq_false c19
                                    clear c19
                                    have H' := Aside0.mk H
                                    clear H
                                    have p140 : 0 ≤ (x6_2 : Int) := of_decide_eq_true (by first | (with_reducible assumption) | assumption)
                                    have q140 : x6_2 < (((rd_T103 l0_0 x4_1).f1).length : Int) := of_decide_eq_true (by first | (with_reducible assumption) | assumption)
                                    obtain ⟨ad140, A140_5, c140_5, e140, hx140_0, hx140_1, hx140_2, hx140_3, hx140_4, hx140_5, hl140_5, hi140_5⟩ := at_T109 HR135_1.out x6_2 p140 q140
                                    obtain rfl : ad136 = ad140 := (by injection e140)
                                    replace hx140_0 := (HB.out.cell (World.block_lt_of_cell? w _ hx140_0)).trans hx140_0
                                    replace hx140_1 := (HB.out.cell (World.block_lt_of_cell? w _ hx140_1)).trans hx140_1
                                    replace hx140_2 := (HB.out.cell (World.block_lt_of_cell? w _ hx140_2)).trans hx140_2
                                    replace hx140_3 := (HB.out.cell (World.block_lt_of_cell? w _ hx140_3)).trans hx140_3
                                    replace hx140_4 := (HB.out.cell (World.block_lt_of_cell? w _ hx140_4)).trans hx140_4
                                    replace hx140_5 := (HB.out.cell (World.block_lt_of_cell? w _ hx140_5)).trans hx140_5
                                    have HR140_5 := Aside0.mk hi140_5
                                    have HC140_5 := Aside0.mk hl140_5
                                    clear hi140_5 hl140_5
                                    replace p140 := eq_true p140
                                    replace q140 := eq_true q140
                                    go_wp2
                                    go_roundg k4
                                    case measure => have := HK1.out; have := HK2.out; have := HJ12.out; have := HK4.out; omega
                                    case rel => exact ⟨(wrap64 ((wrap64 (x3_2 + t137)) + x7_4)), (wrap64 (x6_2 + 1)), (by first | rfl | (simp; done) | (simp [*]; done)), (by first | rfl | (simp; done) | (simp [*]; done)), H', ⟨by have := HK1.out; have := HK2.out; have := HJ12.out; have := HK4.out; omega⟩, ⟨by (with_reducible repeat (first | refine blk_drewN ?_ _ | refine blk_drew ?_ | refine blk_alloc ?_ _)); exact BK133.out⟩, ⟨by repeat (first | (with_reducible first | exact HB.out | apply below_alloc | apply pw_below_drewN | apply below_drew1 | refine below_set ?_ GE133.out) | exact HB.out)⟩⟩
                                · rw [if_neg c18] at H
                                  exact absurd H (by simp)
                              · rw [if_neg c17] at H
                                exact absurd H (by simp)
                  · rw [if_neg c11] at H
                    exact absurd H (by simp)
                · rw [if_neg c10] at H
                  have c10b0 : decide (x6_2 < (((rd_T103 l0_0 x4_1).f1).length : Int)) = false := decide_eq_false c10
                  clear c10
                  have H' := Aside0.mk H
                  clear H
                  go_wp2
                  go_roundg k2
                  case measure => have := HK1.out; have := HK2.out; omega
                  case rel => exact ⟨(x3_2), (wrap64 (x4_1 + 1)), (by first | rfl | (simp; done) | (simp [*]; done)), (by first | rfl | (simp; done) | (simp [*]; done)), H', ⟨by have := HK1.out; have := HK2.out; omega⟩, ⟨by (with_reducible repeat (first | refine blk_drewN ?_ _ | refine blk_drew ?_ | refine blk_alloc ?_ _)); exact BK133.out⟩, ⟨by repeat (first | (with_reducible first | exact HB.out | apply below_alloc | apply pw_below_drewN | apply below_drew1 | refine below_set ?_ GE133.out) | exact HB.out)⟩⟩
          · rw [if_neg c8] at H
            exact absurd H (by simp)
        · rw [if_neg c7] at H
          have c7b0 : decide (x4_1 < (l0_0.length : Int)) = false := decide_eq_false c7
          clear c7
          obtain rfl := Option.some.inj H
          have hcz29_0 : wr.cell? ⟨gb133, 0, none⟩ = some (.slice A0_0 l0_0.length c0_0) := (blk_cell BK133.out 0).trans rfl
          have hfz29_0 := blk_frozen BK133.out 0
          go_wp2
          go_ret
          exact ⟨by first | rfl | (simp [errW_none, errW_some] <;> rfl) | (simp [*, errW_none, errW_some] <;> rfl), by repeat (first | (with_reducible first | exact HB.out | apply below_alloc | apply pw_below_drewN | apply below_drew1 | refine below_set ?_ GE133.out) | exact HB.out)⟩
  · replace c3 := Bool.eq_false_iff.mpr c3
    subst c3
    have H1 : (some 0) = some r := by rw [if_neg (show ¬ (false = true) by decide)] at H; exact H
    clear H
    have H := H1
    clear H1
    obtain rfl := Option.some.inj H
    go_enter Try.func27, Try.ntmps27
    go_wp2_with (first | ((with_reducible refine gate_dst (N := 1) rfl ?_); refine box_event ?hg (N := 1) ?hd (cs := #[.slice A0_0 l0_0.length c0_0]) (t := 68) ?hr ?_; (case hd => rfl); (case hg => rfl); (case hr => first | (go_simp; done) | (go_simp; rfl)); intro gb133 hg w30 hbox hb; have n0_ := Aside0.mk (below_step (by repeat (first | (with_reducible first | exact HB.out | apply below_alloc | apply pw_below_drewN | apply below_drew1) | exact HB.out)) hb); have n1_ := Aside0.mk (hbox); have n2_ := Aside0.mk ((by rw [hg]; exact (below_size (by repeat (first | (with_reducible first | exact HB.out | apply below_alloc | apply pw_below_drewN | apply below_drew1) | exact HB.out))) : w.heap.size ≤ gb133)); have n3_ := Aside0.mk ((by rw [hg]; exact (below_size (by repeat (first | (with_reducible first | exact HB.out | apply below_alloc | apply pw_below_drewN | apply below_drew1) | exact HB.out))) : w.heap.size ≤ gb133)); clear HB; have HB := n0_; have BK133 := n1_; have GW133 := n2_; have GE133 := n3_; clear n0_ n1_ n2_ n3_; clear hb hbox hg; have hcz31_0 : w30.cell? ⟨gb133, 0, none⟩ = some (.slice A0_0 l0_0.length c0_0) := (blk_cell BK133.out 0).trans rfl; have hfz31_0 := blk_frozen BK133.out 0) | ((with_reducible refine gate_callee (f := 57) rfl ?_); refine goesL_ (some 12) rfl rfl Try.func57 (by kernel_rfl) rfl #[.agg #[.slice A0_0 l0_0.length c0_0]] rfl (by (try simp only [List.map_toArray, List.map_cons, List.map_nil]); first | done | rfl | (simp only [List.length_drop, List.length_take]; rfl)) ?_; (with_reducible refine (spec_SelectorOk.calls k _ _ l0_0 false _ ?side1 ?side2 A2.out).mono ?_); (case side1 => repeat (first | exact (Kd.C_below HR0_0.out HB.out) | (with_reducible refine Kd.C_alloc ?_ _) | (with_reducible refine Kd.C_drewN ?_ _) | (with_reducible refine Kd.C_drew ?_))); (case side2 => exact HC0_0.out); rintro e w32 ⟨rfl, hb⟩; refine ⟨_, rfl, ?_⟩; have n0_ := Aside0.mk (blk_below (g := gb133) (o := .cells #[.slice A0_0 l0_0.length c0_0] 68 (0, 0)) (by (with_reducible repeat (first | refine blk_drewN ?_ _ | refine blk_drew ?_ | refine blk_alloc ?_ _)); exact BK133.out) hb); have n1_ := Aside0.mk (below_step (by repeat (first | (with_reducible first | exact HB.out | apply below_alloc | apply pw_below_drewN | apply below_drew1 | refine below_set ?_ GE133.out) | exact HB.out)) hb); clear BK133; clear HB; have BK133 := n0_; have HB := n1_; clear n0_ n1_; (try clear hb); (try clear hb2); (try clear hk); (try clear hi)))
    go_ret
    exact ⟨by first | rfl | (simp [errW_none, errW_some] <;> rfl) | (simp [*, errW_none, errW_some] <;> rfl), by repeat (first | (with_reducible first | exact HB.out | apply below_alloc | apply pw_below_drewN | apply below_drew1 | refine below_set ?_ GE133.out) | exact HB.out)⟩

end Go.Proofs.Ytjghahkecglgdaa.QFnExactSpecificity
