/- Written by a program (wip/tools/own_print.py) out of the walk that the kit's printer made; turned where it fell. -/
import Derived.Test.YtjghahkecglgdaaQFnExactSpecificityx0
import Derived.Test.YtjghahkecglgdaaQFnExactSpecificityx10
namespace Go.Proofs.Ytjghahkecglgdaa.QFnExactSpecificity
open Go.RowKit Go.Proofs.YtjghahkecglgdaaV.PrintWords Go.Proofs.YtjghahkecglgdaaV.PrintLast Go.Proofs.YtjghahkecglgdaaV.PrintMore
attribute [local go_sem] max2_int min2_int max_two min_two max_three min_three max_four min_four   -- for this text's walks alone
set_option linter.unusedVariables false
set_option linter.unusedSimpArgs false

/-! ### impl_Specificity: function 29 -/
mutual
def impl_Specificity.l0 : Nat → Int → List (S103) → Int → Int → Option (Int)
  | 0, _, _, _, _ => none
  | k + 1, x3, x18, x19, x20 => if x20 < x19 then (if 0 ≤ x20 then (if x20 < (x18.length : Int) then (impl_Specificity.l1 k x3 x18 x19 x20 ((rd_T103 x18 x20).f1) (((rd_T103 x18 x20).f1).length : Int) 0) else (none)) else (none)) else (some x3)
def impl_Specificity.l1 : Nat → Int → List (S103) → Int → Int → List (S109) → Int → Int → Option (Int)
  | 0, _, _, _, _, _, _, _ => none
  | k + 1, x3, x18, x19, x20, x25, x26, x27 => if x27 < x26 then (if 0 ≤ x27 then (if x27 < (x25.length : Int) then ((impl_weightOf.f ((rd_T109 x25 x27).f0.f0) ((rd_T109 x25 x27).f0.f1) ((rd_T109 x25 x27).f0.f2) ((rd_T109 x25 x27).f0.f3) ((rd_T109 x25 x27).f0.f4)).bind fun t240 => (impl_Specificity.l2 k (wrap64 (x3 + t240)) 0 x18 x19 x20 x25 x26 x27 ((rd_T109 x25 x27).f1) (((rd_T109 x25 x27).f1).length : Int) 0 ((rd_T109 x25 x27).f0.f0) ((rd_T109 x25 x27).f0.f1) ((rd_T109 x25 x27).f0.f2) ((rd_T109 x25 x27).f0.f3) ((rd_T109 x25 x27).f0.f4) ((rd_T109 x25 x27).f1))) else (none)) else (none)) else (impl_Specificity.l0 k x3 x18 x19 (wrap64 (x20 + 1)))
def impl_Specificity.l2 : Nat → Int → Int → List (S103) → Int → Int → List (S109) → Int → Int → List (S112) → Int → Int → Int → ByteArray → ByteArray → Int → Int → List (S112) → Option (Int)
  | 0, _, _, _, _, _, _, _, _, _, _, _, _, _, _, _, _, _ => none
  | k + 1, x3, x8, x18, x19, x20, x25, x26, x27, x37, x38, x39, x240000, x240001, x240002, x240003, x240004, x240005 => if x39 < x38 then (if 0 ≤ x39 then (if x39 < (x37.length : Int) then (impl_Specificity.l3 k x3 x8 0 x18 x19 x20 x25 x26 x27 x37 x38 x39 ((rd_T112 x37 x39).f0) (((rd_T112 x37 x39).f0).length : Int) 0 x240000 x240001 x240002 x240003 x240004 x240005) else (none)) else (none)) else (if x240000 = 18 then (impl_Specificity.l1 k x3 x18 x19 x20 x25 x26 (wrap64 (x27 + 1))) else (impl_Specificity.l1 k (wrap64 (x3 + x8)) x18 x19 x20 x25 x26 (wrap64 (x27 + 1))))
def impl_Specificity.l3 : Nat → Int → Int → Int → List (S103) → Int → Int → List (S109) → Int → Int → List (S112) → Int → Int → List (S106) → Int → Int → Int → ByteArray → ByteArray → Int → Int → List (S112) → Option (Int)
  | 0, _, _, _, _, _, _, _, _, _, _, _, _, _, _, _, _, _, _, _, _, _ => none
  | k + 1, x3, x8, x11, x18, x19, x20, x25, x26, x27, x37, x38, x39, x44, x45, x46, x240000, x240001, x240002, x240003, x240004, x240005 => if x46 < x45 then (if 0 ≤ x46 then (if x46 < (x44.length : Int) then ((impl_weightOf.f ((rd_T106 x44 x46).f0) ((rd_T106 x44 x46).f1) ((rd_T106 x44 x46).f2) ((rd_T106 x44 x46).f3) ((rd_T106 x44 x46).f4)).bind fun t245 => (impl_Specificity.l3 k x3 x8 (wrap64 (x11 + t245)) x18 x19 x20 x25 x26 x27 x37 x38 x39 x44 x45 (wrap64 (x46 + 1)) x240000 x240001 x240002 x240003 x240004 x240005)) else (none)) else (none)) else (impl_Specificity.l2 k x3 (mx x8 x11) x18 x19 x20 x25 x26 x27 x37 x38 (wrap64 (x39 + 1)) x240000 x240001 x240002 x240003 x240004 x240005)
end
def impl_Specificity.f (k : Nat) (l0_0 : List (S103)) : Option (Int) := (impl_SelectorOk.f k l0_0).bind fun t235 => (if t235 = true then (impl_Specificity.l0 k 0 l0_0 (l0_0.length : Int) 0) else (some 0))
theorem impl_Specificity.mono_l : ∀ k, (∀ y0 y1 y2 y3, LeO (impl_Specificity.l0 k y0 y1 y2 y3) (impl_Specificity.l0 (k + 1) y0 y1 y2 y3)) ∧ (∀ y0 y1 y2 y3 y4 y5 y6, LeO (impl_Specificity.l1 k y0 y1 y2 y3 y4 y5 y6) (impl_Specificity.l1 (k + 1) y0 y1 y2 y3 y4 y5 y6)) ∧ (∀ y0 y1 y2 y3 y4 y5 y6 y7 y8 y9 y10 y11 y12 y13 y14 y15 y16, LeO (impl_Specificity.l2 k y0 y1 y2 y3 y4 y5 y6 y7 y8 y9 y10 y11 y12 y13 y14 y15 y16) (impl_Specificity.l2 (k + 1) y0 y1 y2 y3 y4 y5 y6 y7 y8 y9 y10 y11 y12 y13 y14 y15 y16)) ∧ (∀ y0 y1 y2 y3 y4 y5 y6 y7 y8 y9 y10 y11 y12 y13 y14 y15 y16 y17 y18 y19 y20, LeO (impl_Specificity.l3 k y0 y1 y2 y3 y4 y5 y6 y7 y8 y9 y10 y11 y12 y13 y14 y15 y16 y17 y18 y19 y20) (impl_Specificity.l3 (k + 1) y0 y1 y2 y3 y4 y5 y6 y7 y8 y9 y10 y11 y12 y13 y14 y15 y16 y17 y18 y19 y20))
  | 0 => ⟨fun _ _ _ _ r h => by simp [impl_Specificity.l0] at h, fun _ _ _ _ _ _ _ r h => by simp [impl_Specificity.l1] at h, fun _ _ _ _ _ _ _ _ _ _ _ _ _ _ _ _ _ r h => by simp [impl_Specificity.l2] at h, fun _ _ _ _ _ _ _ _ _ _ _ _ _ _ _ _ _ _ _ _ _ r h => by simp [impl_Specificity.l3] at h⟩
  | k + 1 => by
    obtain ⟨ih0, ih1, ih2, ih3⟩ := impl_Specificity.mono_l k
    refine ⟨?_, ?_, ?_, ?_⟩
    · intro y0 y1 y2 y3
      unfold impl_Specificity.l0
      repeat' first
      | (with_reducible exact ih0 _ _ _ _)
      | (with_reducible exact ih1 _ _ _ _ _ _ _)
      | (with_reducible exact ih2 _ _ _ _ _ _ _ _ _ _ _ _ _ _ _ _ _)
      | (with_reducible exact ih3 _ _ _ _ _ _ _ _ _ _ _ _ _ _ _ _ _ _ _ _ _)
      | (with_reducible exact impl_SelectorOk.mono _ _)
      | (with_reducible exact LeO.refl _)
      | (with_reducible exact LeO.none _)
      | (with_reducible refine LeO.ite ?_ ?_)
      | (with_reducible refine LeO.bind ?_ (fun _ => ?_))
      | exact ih0 _ _ _ _
      | exact ih1 _ _ _ _ _ _ _
      | exact ih2 _ _ _ _ _ _ _ _ _ _ _ _ _ _ _ _ _
      | exact ih3 _ _ _ _ _ _ _ _ _ _ _ _ _ _ _ _ _ _ _ _ _
      | exact impl_SelectorOk.mono _ _
      | exact LeO.none _
      | refine LeO.ite ?_ ?_
      | refine LeO.bind ?_ (fun _ => ?_)
    · intro y0 y1 y2 y3 y4 y5 y6
      unfold impl_Specificity.l1
      repeat' first
      | (with_reducible exact ih0 _ _ _ _)
      | (with_reducible exact ih1 _ _ _ _ _ _ _)
      | (with_reducible exact ih2 _ _ _ _ _ _ _ _ _ _ _ _ _ _ _ _ _)
      | (with_reducible exact ih3 _ _ _ _ _ _ _ _ _ _ _ _ _ _ _ _ _ _ _ _ _)
      | (with_reducible exact impl_SelectorOk.mono _ _)
      | (with_reducible exact LeO.refl _)
      | (with_reducible exact LeO.none _)
      | (with_reducible refine LeO.ite ?_ ?_)
      | (with_reducible refine LeO.bind ?_ (fun _ => ?_))
      | exact ih0 _ _ _ _
      | exact ih1 _ _ _ _ _ _ _
      | exact ih2 _ _ _ _ _ _ _ _ _ _ _ _ _ _ _ _ _
      | exact ih3 _ _ _ _ _ _ _ _ _ _ _ _ _ _ _ _ _ _ _ _ _
      | exact impl_SelectorOk.mono _ _
      | exact LeO.none _
      | refine LeO.ite ?_ ?_
      | refine LeO.bind ?_ (fun _ => ?_)
    · intro y0 y1 y2 y3 y4 y5 y6 y7 y8 y9 y10 y11 y12 y13 y14 y15 y16
      unfold impl_Specificity.l2
      repeat' first
      | (with_reducible exact ih0 _ _ _ _)
      | (with_reducible exact ih1 _ _ _ _ _ _ _)
      | (with_reducible exact ih2 _ _ _ _ _ _ _ _ _ _ _ _ _ _ _ _ _)
      | (with_reducible exact ih3 _ _ _ _ _ _ _ _ _ _ _ _ _ _ _ _ _ _ _ _ _)
      | (with_reducible exact impl_SelectorOk.mono _ _)
      | (with_reducible exact LeO.refl _)
      | (with_reducible exact LeO.none _)
      | (with_reducible refine LeO.ite ?_ ?_)
      | (with_reducible refine LeO.bind ?_ (fun _ => ?_))
      | exact ih0 _ _ _ _
      | exact ih1 _ _ _ _ _ _ _
      | exact ih2 _ _ _ _ _ _ _ _ _ _ _ _ _ _ _ _ _
      | exact ih3 _ _ _ _ _ _ _ _ _ _ _ _ _ _ _ _ _ _ _ _ _
      | exact impl_SelectorOk.mono _ _
      | exact LeO.none _
      | refine LeO.ite ?_ ?_
      | refine LeO.bind ?_ (fun _ => ?_)
    · intro y0 y1 y2 y3 y4 y5 y6 y7 y8 y9 y10 y11 y12 y13 y14 y15 y16 y17 y18 y19 y20
      unfold impl_Specificity.l3
      repeat' first
      | (with_reducible exact ih0 _ _ _ _)
      | (with_reducible exact ih1 _ _ _ _ _ _ _)
      | (with_reducible exact ih2 _ _ _ _ _ _ _ _ _ _ _ _ _ _ _ _ _)
      | (with_reducible exact ih3 _ _ _ _ _ _ _ _ _ _ _ _ _ _ _ _ _ _ _ _ _)
      | (with_reducible exact impl_SelectorOk.mono _ _)
      | (with_reducible exact LeO.refl _)
      | (with_reducible exact LeO.none _)
      | (with_reducible refine LeO.ite ?_ ?_)
      | (with_reducible refine LeO.bind ?_ (fun _ => ?_))
      | exact ih0 _ _ _ _
      | exact ih1 _ _ _ _ _ _ _
      | exact ih2 _ _ _ _ _ _ _ _ _ _ _ _ _ _ _ _ _
      | exact ih3 _ _ _ _ _ _ _ _ _ _ _ _ _ _ _ _ _ _ _ _ _
      | exact impl_SelectorOk.mono _ _
      | exact LeO.none _
      | refine LeO.ite ?_ ?_
      | refine LeO.bind ?_ (fun _ => ?_)
theorem impl_Specificity.mono : ∀ a0 k, LeO (impl_Specificity.f k a0) (impl_Specificity.f (k + 1) a0) := by
  intro a0 k
  obtain ⟨ih0, ih1, ih2, ih3⟩ := impl_Specificity.mono_l k
  unfold impl_Specificity.f
  repeat' first
      | (with_reducible exact ih0 _ _ _ _)
      | (with_reducible exact ih1 _ _ _ _ _ _ _)
      | (with_reducible exact ih2 _ _ _ _ _ _ _ _ _ _ _ _ _ _ _ _ _)
      | (with_reducible exact ih3 _ _ _ _ _ _ _ _ _ _ _ _ _ _ _ _ _ _ _ _ _)
      | (with_reducible exact impl_SelectorOk.mono _ _)
      | (with_reducible exact LeO.refl _)
      | (with_reducible exact LeO.none _)
      | (with_reducible refine LeO.ite ?_ ?_)
      | (with_reducible refine LeO.bind ?_ (fun _ => ?_))
      | exact ih0 _ _ _ _
      | exact ih1 _ _ _ _ _ _ _
      | exact ih2 _ _ _ _ _ _ _ _ _ _ _ _ _ _ _ _ _
      | exact ih3 _ _ _ _ _ _ _ _ _ _ _ _ _ _ _ _ _ _ _ _ _
      | exact impl_SelectorOk.mono _ _
      | exact LeO.none _
      | refine LeO.ite ?_ ?_
      | refine LeO.bind ?_ (fun _ => ?_)
set_option maxHeartbeats 8000000 in
set_option maxRecDepth 100000 in
theorem impl_Specificity.calls (k : Nat) (A0_0 : Option Addr) (c0_0 : Nat) (l0_0 : List (S103)) (r : Int) (w : World) (hr0_0 : Kd.C k103 w A0_0 l0_0.length l0_0) (hc0_0 : l0_0.length ≤ c0_0) (h : impl_Specificity.f k l0_0 = some r) :
    Calls Try.prog 29 #[.agg #[.slice A0_0 l0_0.length c0_0]] w fun e w' => e = .returned (.int .i64 r) ∧ Below w.heap.size w w' := by
  have hu68 := Try.underlying68
  have hu103 := Try.underlying103
  have hu109 := Try.underlying109
  have hu106 := Try.underlying106
  have hu112 := Try.underlying112
  have HR0_0 := Aside0.mk hr0_0
  have HC0_0 := Aside0.mk hc0_0
  clear hr0_0 hc0_0
  have HB := Aside0.mk (Below.refl w.heap.size w)
  have H : ((impl_SelectorOk.f k l0_0).bind fun t235 => (if t235 = true then (impl_Specificity.l0 k 0 l0_0 (l0_0.length : Int) 0) else (some 0))) = some r := h
  clear h
  replace H := Option.bind_eq_some_iff.mp H
  obtain ⟨t235, A20, H⟩ := H
  replace H : (if t235 = true then (impl_Specificity.l0 k 0 l0_0 (l0_0.length : Int) 0) else (some 0)) = some r := H
  have A2 := Aside0.mk A20
  clear A20
  by_cases c3 : t235 = true
  · subst c3
    have H1 : (impl_Specificity.l0 k 0 l0_0 (l0_0.length : Int) 0) = some r := by rw [if_pos rfl] at H; exact H
    clear H
    have H := H1
    clear H1
    have H' := Aside0.mk H
    clear H
    go_enter Try.func29, Try.ntmps29
    go_wp2_with (first | ((with_reducible refine gate_dst (N := 1) rfl ?_); refine box_event ?hg (N := 1) ?hd (cs := #[.slice A0_0 l0_0.length c0_0]) (t := 68) ?hr ?_; (case hd => rfl); (case hg => rfl); (case hr => first | (go_simp; done) | (go_simp; rfl)); intro gb234 hg w4 hbox hb; have n0_ := Aside0.mk (below_step (by repeat (first | (with_reducible first | exact HB.out | apply below_alloc | apply pw_below_drewN | apply below_drew1) | exact HB.out)) hb); have n1_ := Aside0.mk (hbox); have n2_ := Aside0.mk ((by rw [hg]; exact (below_size (by repeat (first | (with_reducible first | exact HB.out | apply below_alloc | apply pw_below_drewN | apply below_drew1) | exact HB.out))) : w.heap.size ≤ gb234)); have n3_ := Aside0.mk ((by rw [hg]; exact (below_size (by repeat (first | (with_reducible first | exact HB.out | apply below_alloc | apply pw_below_drewN | apply below_drew1) | exact HB.out))) : w.heap.size ≤ gb234)); clear HB; have HB := n0_; have BK234 := n1_; have GW234 := n2_; have GE234 := n3_; clear n0_ n1_ n2_ n3_; clear hb hbox hg; have hcz5_0 : w4.cell? ⟨gb234, 0, none⟩ = some (.slice A0_0 l0_0.length c0_0) := (blk_cell BK234.out 0).trans rfl; have hfz5_0 := blk_frozen BK234.out 0) | ((with_reducible refine gate_callee (f := 60) rfl ?_); refine goesL_ (some 15) rfl rfl Try.func60 (by kernel_rfl) rfl #[.agg #[.slice A0_0 l0_0.length c0_0]] rfl (by (try simp only [List.map_toArray, List.map_cons, List.map_nil]); first | done | rfl | (simp only [List.length_drop, List.length_take]; rfl)) ?_; (with_reducible refine (impl_SelectorOk.calls k _ _ l0_0 true _ ?side1 ?side2 A2.out).mono ?_); (case side1 => repeat (first | exact (Kd.C_below HR0_0.out HB.out) | (with_reducible refine Kd.C_alloc ?_ _) | (with_reducible refine Kd.C_drewN ?_ _) | (with_reducible refine Kd.C_drew ?_))); (case side2 => exact HC0_0.out); rintro e w6 ⟨rfl, hb⟩; refine ⟨_, rfl, ?_⟩; have n0_ := Aside0.mk (blk_below (g := gb234) (o := .cells #[.slice A0_0 l0_0.length c0_0] 68 (0, 0)) (by (with_reducible repeat (first | refine blk_drewN ?_ _ | refine blk_drew ?_ | refine blk_alloc ?_ _)); exact BK234.out) hb); have n1_ := Aside0.mk (below_step (by repeat (first | (with_reducible first | exact HB.out | apply below_alloc | apply pw_below_drewN | apply below_drew1 | refine below_set ?_ GE234.out) | exact HB.out)) hb); clear BK234; clear HB; have BK234 := n0_; have HB := n1_; clear n0_ n1_; (try clear hb); (try clear hb2); (try clear hk); (try clear hi); have hcz7_0 : w6.cell? ⟨gb234, 0, none⟩ = some (.slice A0_0 l0_0.length c0_0) := (blk_cell BK234.out 0).trans rfl; have hfz7_0 := blk_frozen BK234.out 0))
    go_loopg [3, 20] k (fun kq v3 v20 w' => ∃ (x3_1 : Int) (x20_1 : Int), v3 = .int .i64 x3_1 ∧ v20 = .int .i64 x20_1 ∧ Aside0 (impl_Specificity.l0 kq x3_1 l0_0 (l0_0.length : Int) x20_1 = some r) ∧ Aside0 (kq ≤ k) ∧ Aside0 (w'.heap[gb234]? = some (.cells #[(.slice A0_0 l0_0.length c0_0)] 68 (0, 0))) ∧ Aside0 (Below w.heap.size w w'))
    case atStart => exact ⟨(0), (0), (by first | rfl | (simp; done) | (simp [*]; done)), (by first | rfl | (simp; done) | (simp [*]; done)), H', ⟨Nat.le_refl _⟩, ⟨by (with_reducible repeat (first | refine blk_drewN ?_ _ | refine blk_drew ?_ | refine blk_alloc ?_ _)); exact BK234.out⟩, ⟨by repeat (first | (with_reducible first | exact HB.out | apply below_alloc | apply pw_below_drewN | apply below_drew1 | refine below_set ?_ GE234.out) | exact HB.out)⟩⟩
    case round =>
      clear H'
      try clear c2
      try clear p2
      try clear c3
      try clear c6
      try clear hcz5_0
      try clear hcz7_0
      try clear hfz5_0
      try clear hfz7_0
      obtain ⟨x3_1, x20_1, rfl, rfl, HA, HK1, BK234, HB⟩ := hrel
      cases gk with
      | zero => exact absurd HA.out (by simp [impl_Specificity.l0])
      | succ k1 =>
        have H := HA.out
        clear HA
        simp only [impl_Specificity.l0] at H
        by_cases c8 : x20_1 < (l0_0.length : Int)
        · rw [if_pos c8] at H
          have c8b0 : decide (x20_1 < (l0_0.length : Int)) = true := decide_eq_true c8
          clear c8
          by_cases c9 : 0 ≤ x20_1
          · rw [if_pos c9] at H
            have c9b0 : decide (0 ≤ x20_1) = true := decide_eq_true c9
            clear c9
            by_cases c10 : x20_1 < (l0_0.length : Int)
            · rw [if_pos c10] at H
              have c10b0 : decide (x20_1 < (l0_0.length : Int)) = true := decide_eq_true c10
              clear c10
              have H' := Aside0.mk H
              clear H
              have p236 : 0 ≤ (x20_1 : Int) := of_decide_eq_true (by first | (with_reducible assumption) | assumption)
              have q236 : x20_1 < (l0_0.length : Int) := of_decide_eq_true (by first | (with_reducible assumption) | assumption)
              obtain ⟨ad236, A236_1, c236_1, e236, hx236_0, hx236_1, hl236_1, hi236_1⟩ := at_T103 HR0_0.out x20_1 p236 q236
              cases e236
              replace hx236_0 := (HB.out.cell (World.block_lt_of_cell? w _ hx236_0)).trans hx236_0
              replace hx236_1 := (HB.out.cell (World.block_lt_of_cell? w _ hx236_1)).trans hx236_1
              have HR236_1 := Aside0.mk hi236_1
              have HC236_1 := Aside0.mk hl236_1
              clear hi236_1 hl236_1
              replace p236 := eq_true p236
              replace q236 := eq_true q236
              go_wp2_with (first | ((with_reducible refine gate_dst (N := 5) rfl ?_); refine box_event ?hg (N := 5) ?hd (cs := #[.int .i64 0, .slice none 0 0]) (t := 103) ?hr ?_; (case hd => rfl); (case hg => rfl); (case hr => first | (go_simp; done) | (go_simp; rfl)); intro gb237 hg w11 hbox hb; have n0_ := Aside0.mk (blk_below (g := gb234) (o := .cells #[.slice (some ad236) l0_0.length c0_0] 68 (0, 0)) (by (with_reducible repeat (first | refine blk_drewN ?_ _ | refine blk_drew ?_ | refine blk_alloc ?_ _)); exact BK234.out) hb); have n1_ := Aside0.mk (below_step (by repeat (first | (with_reducible first | exact HB.out | apply below_alloc | apply pw_below_drewN | apply below_drew1 | refine below_set ?_ GE234.out) | exact HB.out)) hb); have n2_ := Aside0.mk (hbox); have n3_ := Aside0.mk ((by rw [hg]; exact (below_size (by repeat (first | (with_reducible first | exact HB.out | apply below_alloc | apply pw_below_drewN | apply below_drew1 | refine below_set ?_ GE234.out) | exact HB.out))) : w.heap.size ≤ gb237)); have n4_ := Aside0.mk ((by rw [hg]; exact (below_size (by repeat (first | (with_reducible first | exact HB.out | apply below_alloc | apply pw_below_drewN | apply below_drew1 | refine below_set ?_ GE234.out) | exact HB.out))) : w.heap.size ≤ gb237)); have n5_ := Aside0.mk ((by rw [hg]; exact Nat.ne_of_lt (blk_lt (g := gb234) (o := .cells #[.slice (some ad236) l0_0.length c0_0] 68 (0, 0)) (by (with_reducible repeat (first | refine blk_drewN ?_ _ | refine blk_drew ?_ | refine blk_alloc ?_ _)); exact BK234.out)) : gb234 ≠ gb237)); have n6_ := Aside0.mk ((by rw [hg]; exact Nat.ne_of_gt (blk_lt (g := gb234) (o := .cells #[.slice (some ad236) l0_0.length c0_0] 68 (0, 0)) (by (with_reducible repeat (first | refine blk_drewN ?_ _ | refine blk_drew ?_ | refine blk_alloc ?_ _)); exact BK234.out)) : gb237 ≠ gb234)); clear BK234; clear HB; have BK234 := n0_; have HB := n1_; have BK237 := n2_; have GW237 := n3_; have GE237 := n4_; have NB234_237 := n5_; have NB237_234 := n6_; clear n0_ n1_ n2_ n3_ n4_ n5_ n6_; clear hb hbox hg; have hnb12 := NB237_234.out; have hnc12 := NB234_237.out; have hcz13_0 : w11.cell? ⟨gb237, 0, none⟩ = some (.int .i64 0) := (blk_cell BK237.out 0).trans rfl; have hcz13_1 : w11.cell? ⟨gb237, 1, none⟩ = some (.slice none 0 0) := (blk_cell BK237.out 1).trans rfl; have hfz13_0 := blk_frozen BK237.out 0; have hfz13_1 := blk_frozen BK237.out 1))
              go_loopg [3, 27] k1 (fun kq v3 v27 w' => ∃ (x3_2 : Int) (x27_2 : Int), v3 = .int .i64 x3_2 ∧ v27 = .int .i64 x27_2 ∧ Aside0 (impl_Specificity.l1 kq x3_2 l0_0 (l0_0.length : Int) x20_1 ((rd_T103 l0_0 x20_1).f1) (((rd_T103 l0_0 x20_1).f1).length : Int) x27_2 = some r) ∧ Aside0 (kq ≤ k1) ∧ Aside0 (w'.heap[gb234]? = some (.cells #[(.slice (some ad236) l0_0.length c0_0)] 68 (0, 0))) ∧ Aside0 (w'.heap[gb237]? = some (.cells #[.int .i64 ((rd_T103 l0_0 x20_1).f0), (.slice A236_1 ((rd_T103 l0_0 x20_1).f1).length c236_1)] 103 (0, 0))) ∧ Aside0 (Below w.heap.size w w'))
              case atStart => exact ⟨(x3_1), (0), (by first | rfl | (simp; done) | (simp [*]; done)), (by first | rfl | (simp; done) | (simp [*]; done)), H', ⟨Nat.le_refl _⟩, ⟨by (with_reducible repeat (first | refine blk_drewN ?_ _ | refine blk_drew ?_ | refine blk_alloc ?_ _)); refine blk_far ?_ NB234_237.out _; (with_reducible repeat (first | refine blk_drewN ?_ _ | refine blk_drew ?_ | refine blk_alloc ?_ _)); refine blk_far ?_ NB234_237.out _; (with_reducible repeat (first | refine blk_drewN ?_ _ | refine blk_drew ?_ | refine blk_alloc ?_ _)); exact BK234.out⟩, ⟨by (with_reducible repeat (first | refine blk_drewN ?_ _ | refine blk_drew ?_ | refine blk_alloc ?_ _)); refine blk_put (cs := #[.int .i64 ((rd_T103 l0_0 x20_1).f0), .slice none 0 0]) ?_ 1 _ rfl; (with_reducible repeat (first | refine blk_drewN ?_ _ | refine blk_drew ?_ | refine blk_alloc ?_ _)); refine blk_put (cs := #[.int .i64 0, .slice none 0 0]) ?_ 0 _ rfl; (with_reducible repeat (first | refine blk_drewN ?_ _ | refine blk_drew ?_ | refine blk_alloc ?_ _)); exact BK237.out⟩, ⟨by repeat (first | (with_reducible first | exact HB.out | apply below_alloc | apply pw_below_drewN | apply below_drew1 | refine below_set ?_ GE234.out | refine below_set ?_ GE237.out) | exact HB.out)⟩⟩
              case round =>
                clear H'
                try clear c1
                try clear c2
                try clear p2
                try clear q2
                try clear hx2
                try clear c3
                try clear c6
                try clear c8
                try clear c8b0
                try clear c9
                try clear c9b0
                try clear c10
                try clear c10b0
                try clear c12
                try clear hcz13_0
                try clear hcz13_1
                try clear hcz5_0
                try clear hcz7_0
                try clear hfz13_0
                try clear hfz13_1
                try clear hfz5_0
                try clear hfz7_0
                try clear hx236_0
                try clear hx236_1
                try clear p2
                try clear p236
                try clear q236
                obtain ⟨x3_2, x27_2, rfl, rfl, HA, HK2, BK234, BK237, HB⟩ := hrel
                cases gk with
                | zero => exact absurd HA.out (by simp [impl_Specificity.l1])
                | succ k2 =>
                  have H := HA.out
                  clear HA
                  simp only [impl_Specificity.l1] at H
                  by_cases c14 : x27_2 < (((rd_T103 l0_0 x20_1).f1).length : Int)
                  · rw [if_pos c14] at H
                    have c14b0 : decide (x27_2 < (((rd_T103 l0_0 x20_1).f1).length : Int)) = true := decide_eq_true c14
                    clear c14
                    by_cases c15 : 0 ≤ x27_2
                    · rw [if_pos c15] at H
                      have c15b0 : decide (0 ≤ x27_2) = true := decide_eq_true c15
                      clear c15
                      by_cases c16 : x27_2 < (((rd_T103 l0_0 x20_1).f1).length : Int)
                      · rw [if_pos c16] at H
                        have c16b0 : decide (x27_2 < (((rd_T103 l0_0 x20_1).f1).length : Int)) = true := decide_eq_true c16
                        clear c16
                        replace H := Option.bind_eq_some_iff.mp H
                        obtain ⟨t240, A170, H⟩ := H
                        replace H : (impl_Specificity.l2 k2 (wrap64 (x3_2 + t240)) 0 l0_0 (l0_0.length : Int) x20_1 ((rd_T103 l0_0 x20_1).f1) (((rd_T103 l0_0 x20_1).f1).length : Int) x27_2 ((rd_T109 ((rd_T103 l0_0 x20_1).f1) x27_2).f1) (((rd_T109 ((rd_T103 l0_0 x20_1).f1) x27_2).f1).length : Int) 0 ((rd_T109 ((rd_T103 l0_0 x20_1).f1) x27_2).f0.f0) ((rd_T109 ((rd_T103 l0_0 x20_1).f1) x27_2).f0.f1) ((rd_T109 ((rd_T103 l0_0 x20_1).f1) x27_2).f0.f2) ((rd_T109 ((rd_T103 l0_0 x20_1).f1) x27_2).f0.f3) ((rd_T109 ((rd_T103 l0_0 x20_1).f1) x27_2).f0.f4) ((rd_T109 ((rd_T103 l0_0 x20_1).f1) x27_2).f1)) = some r := H
                        have A17 := Aside0.mk A170
                        clear A170
                        have H' := Aside0.mk H
                        clear H
                        have p238 : 0 ≤ (x27_2 : Int) := of_decide_eq_true (by first | (with_reducible assumption) | assumption)
                        have q238 : x27_2 < (((rd_T103 l0_0 x20_1).f1).length : Int) := of_decide_eq_true (by first | (with_reducible assumption) | assumption)
                        obtain ⟨ad238, A238_5, c238_5, e238, hx238_0, hx238_1, hx238_2, hx238_3, hx238_4, hx238_5, hl238_5, hi238_5⟩ := at_T109 HR236_1.out x27_2 p238 q238
                        cases e238
                        replace hx238_0 := (HB.out.cell (World.block_lt_of_cell? w _ hx238_0)).trans hx238_0
                        replace hx238_1 := (HB.out.cell (World.block_lt_of_cell? w _ hx238_1)).trans hx238_1
                        replace hx238_2 := (HB.out.cell (World.block_lt_of_cell? w _ hx238_2)).trans hx238_2
                        replace hx238_3 := (HB.out.cell (World.block_lt_of_cell? w _ hx238_3)).trans hx238_3
                        replace hx238_4 := (HB.out.cell (World.block_lt_of_cell? w _ hx238_4)).trans hx238_4
                        replace hx238_5 := (HB.out.cell (World.block_lt_of_cell? w _ hx238_5)).trans hx238_5
                        have HR238_5 := Aside0.mk hi238_5
                        have HC238_5 := Aside0.mk hl238_5
                        clear hi238_5 hl238_5
                        replace p238 := eq_true p238
                        replace q238 := eq_true q238
                        go_wp2_with (first | ((with_reducible refine gate_dst (N := 7) rfl ?_); refine box_event ?hg (N := 7) ?hd (cs := #[.int .i64 0, .string (⟨#[]⟩ : ByteArray), .string (⟨#[]⟩ : ByteArray), .int .i64 0, .int .i64 0, .slice none 0 0]) (t := 109) ?hr ?_; (case hd => rfl); (case hg => rfl); (case hr => first | (go_simp; done) | (go_simp; rfl)); intro gb239 hg w18 hbox hb; have n0_ := Aside0.mk (blk_below (g := gb234) (o := .cells #[.slice (some ad236) l0_0.length c0_0] 68 (0, 0)) (by (with_reducible repeat (first | refine blk_drewN ?_ _ | refine blk_drew ?_ | refine blk_alloc ?_ _)); exact BK234.out) hb); have n1_ := Aside0.mk (blk_below (g := gb237) (o := .cells #[.int .i64 ((rd_T103 l0_0 x20_1).f0), .slice (some ad238) ((rd_T103 l0_0 x20_1).f1).length c236_1] 103 (0, 0)) (by (with_reducible repeat (first | refine blk_drewN ?_ _ | refine blk_drew ?_ | refine blk_alloc ?_ _)); exact BK237.out) hb); have n2_ := Aside0.mk (below_step (by repeat (first | (with_reducible first | exact HB.out | apply below_alloc | apply pw_below_drewN | apply below_drew1 | refine below_set ?_ GE234.out | refine below_set ?_ GE237.out) | exact HB.out)) hb); have n3_ := Aside0.mk (hbox); have n4_ := Aside0.mk ((by rw [hg]; exact (below_size (by repeat (first | (with_reducible first | exact HB.out | apply below_alloc | apply pw_below_drewN | apply below_drew1 | refine below_set ?_ GE234.out | refine below_set ?_ GE237.out) | exact HB.out))) : w.heap.size ≤ gb239)); have n5_ := Aside0.mk ((by rw [hg]; exact (below_size (by repeat (first | (with_reducible first | exact HB.out | apply below_alloc | apply pw_below_drewN | apply below_drew1 | refine below_set ?_ GE234.out | refine below_set ?_ GE237.out) | exact HB.out))) : w.heap.size ≤ gb239)); have n6_ := Aside0.mk ((by rw [hg]; exact Nat.ne_of_lt (blk_lt (g := gb234) (o := .cells #[.slice (some ad236) l0_0.length c0_0] 68 (0, 0)) (by (with_reducible repeat (first | refine blk_drewN ?_ _ | refine blk_drew ?_ | refine blk_alloc ?_ _)); exact BK234.out)) : gb234 ≠ gb239)); have n7_ := Aside0.mk ((by rw [hg]; exact Nat.ne_of_gt (blk_lt (g := gb234) (o := .cells #[.slice (some ad236) l0_0.length c0_0] 68 (0, 0)) (by (with_reducible repeat (first | refine blk_drewN ?_ _ | refine blk_drew ?_ | refine blk_alloc ?_ _)); exact BK234.out)) : gb239 ≠ gb234)); have n8_ := Aside0.mk ((by rw [hg]; exact Nat.ne_of_lt (blk_lt (g := gb237) (o := .cells #[.int .i64 ((rd_T103 l0_0 x20_1).f0), .slice (some ad238) ((rd_T103 l0_0 x20_1).f1).length c236_1] 103 (0, 0)) (by (with_reducible repeat (first | refine blk_drewN ?_ _ | refine blk_drew ?_ | refine blk_alloc ?_ _)); exact BK237.out)) : gb237 ≠ gb239)); have n9_ := Aside0.mk ((by rw [hg]; exact Nat.ne_of_gt (blk_lt (g := gb237) (o := .cells #[.int .i64 ((rd_T103 l0_0 x20_1).f0), .slice (some ad238) ((rd_T103 l0_0 x20_1).f1).length c236_1] 103 (0, 0)) (by (with_reducible repeat (first | refine blk_drewN ?_ _ | refine blk_drew ?_ | refine blk_alloc ?_ _)); exact BK237.out)) : gb239 ≠ gb237)); clear BK234; clear BK237; clear HB; have BK234 := n0_; have BK237 := n1_; have HB := n2_; have BK239 := n3_; have GW239 := n4_; have GE239 := n5_; have NB234_239 := n6_; have NB239_234 := n7_; have NB237_239 := n8_; have NB239_237 := n9_; clear n0_ n1_ n2_ n3_ n4_ n5_ n6_ n7_ n8_ n9_; clear hb hbox hg; have hnb19 := NB239_234.out; have hnc19 := NB234_239.out; have hnb20 := NB239_237.out; have hnc20 := NB237_239.out; have hcz21_0 : w18.cell? ⟨gb239, 0, none⟩ = some (.int .i64 0) := (blk_cell BK239.out 0).trans rfl; have hcz21_1 : w18.cell? ⟨gb239, 1, none⟩ = some (.string (⟨#[]⟩ : ByteArray)) := (blk_cell BK239.out 1).trans rfl; have hcz21_2 : w18.cell? ⟨gb239, 2, none⟩ = some (.string (⟨#[]⟩ : ByteArray)) := (blk_cell BK239.out 2).trans rfl; have hcz21_3 : w18.cell? ⟨gb239, 3, none⟩ = some (.int .i64 0) := (blk_cell BK239.out 3).trans rfl; have hcz21_4 : w18.cell? ⟨gb239, 4, none⟩ = some (.int .i64 0) := (blk_cell BK239.out 4).trans rfl; have hcz21_5 : w18.cell? ⟨gb239, 5, none⟩ = some (.slice none 0 0) := (blk_cell BK239.out 5).trans rfl; have hfz21_0 := blk_frozen BK239.out 0; have hfz21_1 := blk_frozen BK239.out 1; have hfz21_2 := blk_frozen BK239.out 2; have hfz21_3 := blk_frozen BK239.out 3; have hfz21_4 := blk_frozen BK239.out 4; have hfz21_5 := blk_frozen BK239.out 5) | ((with_reducible refine gate_callee (f := 61) rfl ?_); refine goesL_ (some 34) rfl rfl Try.func61 (by kernel_rfl) rfl #[.agg #[.int .i64 ((rd_T109 ((rd_T103 l0_0 x20_1).f1) x27_2).f0.f0), .string ((rd_T109 ((rd_T103 l0_0 x20_1).f1) x27_2).f0.f1), .string ((rd_T109 ((rd_T103 l0_0 x20_1).f1) x27_2).f0.f2), .int .i64 ((rd_T109 ((rd_T103 l0_0 x20_1).f1) x27_2).f0.f3), .int .i64 ((rd_T109 ((rd_T103 l0_0 x20_1).f1) x27_2).f0.f4)]] rfl (by (try simp only [List.map_toArray, List.map_cons, List.map_nil]); first | done | rfl | (simp only [List.length_drop, List.length_take]; rfl)) ?_; (with_reducible refine (impl_weightOf.calls ((rd_T109 ((rd_T103 l0_0 x20_1).f1) x27_2).f0.f0) ((rd_T109 ((rd_T103 l0_0 x20_1).f1) x27_2).f0.f1) ((rd_T109 ((rd_T103 l0_0 x20_1).f1) x27_2).f0.f2) ((rd_T109 ((rd_T103 l0_0 x20_1).f1) x27_2).f0.f3) ((rd_T109 ((rd_T103 l0_0 x20_1).f1) x27_2).f0.f4) t240 _ A17.out).mono ?_); rintro e w22 ⟨rfl, hb⟩; refine ⟨_, rfl, ?_⟩; have n0_ := Aside0.mk (blk_below (g := gb234) (o := .cells #[.slice (some ad236) l0_0.length c0_0] 68 (0, 0)) (by (with_reducible repeat (first | refine blk_drewN ?_ _ | refine blk_drew ?_ | refine blk_alloc ?_ _)); refine blk_far ?_ NB234_239.out _; (with_reducible repeat (first | refine blk_drewN ?_ _ | refine blk_drew ?_ | refine blk_alloc ?_ _)); refine blk_far ?_ NB234_239.out _; (with_reducible repeat (first | refine blk_drewN ?_ _ | refine blk_drew ?_ | refine blk_alloc ?_ _)); refine blk_far ?_ NB234_239.out _; (with_reducible repeat (first | refine blk_drewN ?_ _ | refine blk_drew ?_ | refine blk_alloc ?_ _)); refine blk_far ?_ NB234_239.out _; (with_reducible repeat (first | refine blk_drewN ?_ _ | refine blk_drew ?_ | refine blk_alloc ?_ _)); refine blk_far ?_ NB234_239.out _; (with_reducible repeat (first | refine blk_drewN ?_ _ | refine blk_drew ?_ | refine blk_alloc ?_ _)); refine blk_far ?_ NB234_239.out _; (with_reducible repeat (first | refine blk_drewN ?_ _ | refine blk_drew ?_ | refine blk_alloc ?_ _)); exact BK234.out) hb); have n1_ := Aside0.mk (blk_below (g := gb237) (o := .cells #[.int .i64 ((rd_T103 l0_0 x20_1).f0), .slice (some ad238) ((rd_T103 l0_0 x20_1).f1).length c236_1] 103 (0, 0)) (by (with_reducible repeat (first | refine blk_drewN ?_ _ | refine blk_drew ?_ | refine blk_alloc ?_ _)); refine blk_far ?_ NB237_239.out _; (with_reducible repeat (first | refine blk_drewN ?_ _ | refine blk_drew ?_ | refine blk_alloc ?_ _)); refine blk_far ?_ NB237_239.out _; (with_reducible repeat (first | refine blk_drewN ?_ _ | refine blk_drew ?_ | refine blk_alloc ?_ _)); refine blk_far ?_ NB237_239.out _; (with_reducible repeat (first | refine blk_drewN ?_ _ | refine blk_drew ?_ | refine blk_alloc ?_ _)); refine blk_far ?_ NB237_239.out _; (with_reducible repeat (first | refine blk_drewN ?_ _ | refine blk_drew ?_ | refine blk_alloc ?_ _)); refine blk_far ?_ NB237_239.out _; (with_reducible repeat (first | refine blk_drewN ?_ _ | refine blk_drew ?_ | refine blk_alloc ?_ _)); refine blk_far ?_ NB237_239.out _; (with_reducible repeat (first | refine blk_drewN ?_ _ | refine blk_drew ?_ | refine blk_alloc ?_ _)); exact BK237.out) hb); have n2_ := Aside0.mk (blk_below (g := gb239) (o := .cells #[.int .i64 ((rd_T109 ((rd_T103 l0_0 x20_1).f1) x27_2).f0.f0), .string ((rd_T109 ((rd_T103 l0_0 x20_1).f1) x27_2).f0.f1), .string ((rd_T109 ((rd_T103 l0_0 x20_1).f1) x27_2).f0.f2), .int .i64 ((rd_T109 ((rd_T103 l0_0 x20_1).f1) x27_2).f0.f3), .int .i64 ((rd_T109 ((rd_T103 l0_0 x20_1).f1) x27_2).f0.f4), .slice A238_5 ((rd_T109 ((rd_T103 l0_0 x20_1).f1) x27_2).f1).length c238_5] 109 (0, 0)) (by (with_reducible repeat (first | refine blk_drewN ?_ _ | refine blk_drew ?_ | refine blk_alloc ?_ _)); refine blk_put (cs := #[.int .i64 ((rd_T109 ((rd_T103 l0_0 x20_1).f1) x27_2).f0.f0), .string ((rd_T109 ((rd_T103 l0_0 x20_1).f1) x27_2).f0.f1), .string ((rd_T109 ((rd_T103 l0_0 x20_1).f1) x27_2).f0.f2), .int .i64 ((rd_T109 ((rd_T103 l0_0 x20_1).f1) x27_2).f0.f3), .int .i64 ((rd_T109 ((rd_T103 l0_0 x20_1).f1) x27_2).f0.f4), .slice none 0 0]) ?_ 5 _ rfl; (with_reducible repeat (first | refine blk_drewN ?_ _ | refine blk_drew ?_ | refine blk_alloc ?_ _)); refine blk_put (cs := #[.int .i64 ((rd_T109 ((rd_T103 l0_0 x20_1).f1) x27_2).f0.f0), .string ((rd_T109 ((rd_T103 l0_0 x20_1).f1) x27_2).f0.f1), .string ((rd_T109 ((rd_T103 l0_0 x20_1).f1) x27_2).f0.f2), .int .i64 ((rd_T109 ((rd_T103 l0_0 x20_1).f1) x27_2).f0.f3), .int .i64 0, .slice none 0 0]) ?_ 4 _ rfl; (with_reducible repeat (first | refine blk_drewN ?_ _ | refine blk_drew ?_ | refine blk_alloc ?_ _)); refine blk_put (cs := #[.int .i64 ((rd_T109 ((rd_T103 l0_0 x20_1).f1) x27_2).f0.f0), .string ((rd_T109 ((rd_T103 l0_0 x20_1).f1) x27_2).f0.f1), .string ((rd_T109 ((rd_T103 l0_0 x20_1).f1) x27_2).f0.f2), .int .i64 0, .int .i64 0, .slice none 0 0]) ?_ 3 _ rfl; (with_reducible repeat (first | refine blk_drewN ?_ _ | refine blk_drew ?_ | refine blk_alloc ?_ _)); refine blk_put (cs := #[.int .i64 ((rd_T109 ((rd_T103 l0_0 x20_1).f1) x27_2).f0.f0), .string ((rd_T109 ((rd_T103 l0_0 x20_1).f1) x27_2).f0.f1), .string (⟨#[]⟩ : ByteArray), .int .i64 0, .int .i64 0, .slice none 0 0]) ?_ 2 _ rfl; (with_reducible repeat (first | refine blk_drewN ?_ _ | refine blk_drew ?_ | refine blk_alloc ?_ _)); refine blk_put (cs := #[.int .i64 ((rd_T109 ((rd_T103 l0_0 x20_1).f1) x27_2).f0.f0), .string (⟨#[]⟩ : ByteArray), .string (⟨#[]⟩ : ByteArray), .int .i64 0, .int .i64 0, .slice none 0 0]) ?_ 1 _ rfl; (with_reducible repeat (first | refine blk_drewN ?_ _ | refine blk_drew ?_ | refine blk_alloc ?_ _)); refine blk_put (cs := #[.int .i64 0, .string (⟨#[]⟩ : ByteArray), .string (⟨#[]⟩ : ByteArray), .int .i64 0, .int .i64 0, .slice none 0 0]) ?_ 0 _ rfl; (with_reducible repeat (first | refine blk_drewN ?_ _ | refine blk_drew ?_ | refine blk_alloc ?_ _)); exact BK239.out) hb); have n3_ := Aside0.mk (below_step (by repeat (first | (with_reducible first | exact HB.out | apply below_alloc | apply pw_below_drewN | apply below_drew1 | refine below_set ?_ GE234.out | refine below_set ?_ GE237.out | refine below_set ?_ GE239.out) | exact HB.out)) hb); clear BK234; clear BK237; clear BK239; clear HB; have BK234 := n0_; have BK237 := n1_; have BK239 := n2_; have HB := n3_; clear n0_ n1_ n2_ n3_; (try clear hb); (try clear hb2); (try clear hk); (try clear hi); have hcz23_0 : w22.cell? ⟨gb239, 0, none⟩ = some (.int .i64 ((rd_T109 ((rd_T103 l0_0 x20_1).f1) x27_2).f0.f0)) := (blk_cell BK239.out 0).trans rfl; have hcz23_1 : w22.cell? ⟨gb239, 1, none⟩ = some (.string ((rd_T109 ((rd_T103 l0_0 x20_1).f1) x27_2).f0.f1)) := (blk_cell BK239.out 1).trans rfl; have hcz23_2 : w22.cell? ⟨gb239, 2, none⟩ = some (.string ((rd_T109 ((rd_T103 l0_0 x20_1).f1) x27_2).f0.f2)) := (blk_cell BK239.out 2).trans rfl; have hcz23_3 : w22.cell? ⟨gb239, 3, none⟩ = some (.int .i64 ((rd_T109 ((rd_T103 l0_0 x20_1).f1) x27_2).f0.f3)) := (blk_cell BK239.out 3).trans rfl; have hcz23_4 : w22.cell? ⟨gb239, 4, none⟩ = some (.int .i64 ((rd_T109 ((rd_T103 l0_0 x20_1).f1) x27_2).f0.f4)) := (blk_cell BK239.out 4).trans rfl; have hcz23_5 : w22.cell? ⟨gb239, 5, none⟩ = some (.slice A238_5 ((rd_T109 ((rd_T103 l0_0 x20_1).f1) x27_2).f1).length c238_5) := (blk_cell BK239.out 5).trans rfl; have hfz23_0 := blk_frozen BK239.out 0; have hfz23_1 := blk_frozen BK239.out 1; have hfz23_2 := blk_frozen BK239.out 2; have hfz23_3 := blk_frozen BK239.out 3; have hfz23_4 := blk_frozen BK239.out 4; have hfz23_5 := blk_frozen BK239.out 5))
                        go_loopg [8, 39] k2 (fun kq v8 v39 w' => ∃ (x8_3 : Int) (x39_3 : Int), v8 = .int .i64 x8_3 ∧ v39 = .int .i64 x39_3 ∧ Aside0 (impl_Specificity.l2 kq (wrap64 (x3_2 + t240)) x8_3 l0_0 (l0_0.length : Int) x20_1 ((rd_T103 l0_0 x20_1).f1) (((rd_T103 l0_0 x20_1).f1).length : Int) x27_2 ((rd_T109 ((rd_T103 l0_0 x20_1).f1) x27_2).f1) (((rd_T109 ((rd_T103 l0_0 x20_1).f1) x27_2).f1).length : Int) x39_3 ((rd_T109 ((rd_T103 l0_0 x20_1).f1) x27_2).f0.f0) ((rd_T109 ((rd_T103 l0_0 x20_1).f1) x27_2).f0.f1) ((rd_T109 ((rd_T103 l0_0 x20_1).f1) x27_2).f0.f2) ((rd_T109 ((rd_T103 l0_0 x20_1).f1) x27_2).f0.f3) ((rd_T109 ((rd_T103 l0_0 x20_1).f1) x27_2).f0.f4) ((rd_T109 ((rd_T103 l0_0 x20_1).f1) x27_2).f1) = some r) ∧ Aside0 (kq ≤ k2) ∧ Aside0 (w'.heap[gb234]? = some (.cells #[(.slice (some ad236) l0_0.length c0_0)] 68 (0, 0))) ∧ Aside0 (w'.heap[gb237]? = some (.cells #[.int .i64 ((rd_T103 l0_0 x20_1).f0), (.slice (some ad238) ((rd_T103 l0_0 x20_1).f1).length c236_1)] 103 (0, 0))) ∧ Aside0 (w'.heap[gb239]? = some (.cells #[.int .i64 ((rd_T109 ((rd_T103 l0_0 x20_1).f1) x27_2).f0.f0), .string ((rd_T109 ((rd_T103 l0_0 x20_1).f1) x27_2).f0.f1), .string ((rd_T109 ((rd_T103 l0_0 x20_1).f1) x27_2).f0.f2), .int .i64 ((rd_T109 ((rd_T103 l0_0 x20_1).f1) x27_2).f0.f3), .int .i64 ((rd_T109 ((rd_T103 l0_0 x20_1).f1) x27_2).f0.f4), (.slice A238_5 ((rd_T109 ((rd_T103 l0_0 x20_1).f1) x27_2).f1).length c238_5)] 109 (0, 0))) ∧ Aside0 (Below w.heap.size w w'))
                        case atStart => exact ⟨(0), (0), (by first | rfl | (simp; done) | (simp [*]; done)), (by first | rfl | (simp; done) | (simp [*]; done)), H', ⟨Nat.le_refl _⟩, ⟨by (with_reducible repeat (first | refine blk_drewN ?_ _ | refine blk_drew ?_ | refine blk_alloc ?_ _)); exact BK234.out⟩, ⟨by (with_reducible repeat (first | refine blk_drewN ?_ _ | refine blk_drew ?_ | refine blk_alloc ?_ _)); exact BK237.out⟩, ⟨by (with_reducible repeat (first | refine blk_drewN ?_ _ | refine blk_drew ?_ | refine blk_alloc ?_ _)); exact BK239.out⟩, ⟨by repeat (first | (with_reducible first | exact HB.out | apply below_alloc | apply pw_below_drewN | apply below_drew1 | refine below_set ?_ GE234.out | refine below_set ?_ GE237.out | refine below_set ?_ GE239.out) | exact HB.out)⟩⟩
                        case round =>
                          clear H'
                          try clear c1
                          try clear c2
                          try clear p2
                          try clear q2
                          try clear hx2
                          try clear c3
                          try clear c6
                          try clear p6
                          try clear c8
                          try clear c8b0
                          try clear c9
                          try clear c9b0
                          try clear c10
                          try clear c10b0
                          try clear c12
                          try clear c14
                          try clear c14b0
                          try clear c15
                          try clear c15b0
                          try clear c16
                          try clear c16b0
                          try clear c19
                          try clear c20
                          try clear c23
                          try clear p23
                          try clear q23
                          try clear hx23
                          try clear hcz13_0
                          try clear hcz13_1
                          try clear hcz21_0
                          try clear hcz21_1
                          try clear hcz21_2
                          try clear hcz21_3
                          try clear hcz21_4
                          try clear hcz21_5
                          try clear hcz23_0
                          try clear hcz23_1
                          try clear hcz23_2
                          try clear hcz23_3
                          try clear hcz23_4
                          try clear hcz23_5
                          try clear hcz5_0
                          try clear hcz7_0
                          try clear hfz13_0
                          try clear hfz13_1
                          try clear hfz21_0
                          try clear hfz21_1
                          try clear hfz21_2
                          try clear hfz21_3
                          try clear hfz21_4
                          try clear hfz21_5
                          try clear hfz23_0
                          try clear hfz23_1
                          try clear hfz23_2
                          try clear hfz23_3
                          try clear hfz23_4
                          try clear hfz23_5
                          try clear hfz5_0
                          try clear hfz7_0
                          try clear hx236_0
                          try clear hx236_1
                          try clear hx238_0
                          try clear hx238_1
                          try clear hx238_2
                          try clear hx238_3
                          try clear hx238_4
                          try clear hx238_5
                          try clear p2
                          try clear p236
                          try clear p238
                          try clear q2
                          try clear q236
                          try clear q238
                          obtain ⟨x8_3, x39_3, rfl, rfl, HA, HK3, BK234, BK237, BK239, HB⟩ := hrel
                          cases gk with
                          | zero => exact absurd HA.out (by simp [impl_Specificity.l2])
                          | succ k3 =>
                            have H := HA.out
                            clear HA
                            simp only [impl_Specificity.l2] at H
                            by_cases c24 : x39_3 < (((rd_T109 ((rd_T103 l0_0 x20_1).f1) x27_2).f1).length : Int)
                            · rw [if_pos c24] at H
                              have c24b0 : decide (x39_3 < (((rd_T109 ((rd_T103 l0_0 x20_1).f1) x27_2).f1).length : Int)) = true := decide_eq_true c24
                              clear c24
                              by_cases c25 : 0 ≤ x39_3
                              · rw [if_pos c25] at H
                                have c25b0 : decide (0 ≤ x39_3) = true := decide_eq_true c25
                                clear c25
                                by_cases c26 : x39_3 < (((rd_T109 ((rd_T103 l0_0 x20_1).f1) x27_2).f1).length : Int)
                                · rw [if_pos c26] at H
                                  have c26b0 : decide (x39_3 < (((rd_T109 ((rd_T103 l0_0 x20_1).f1) x27_2).f1).length : Int)) = true := decide_eq_true c26
                                  clear c26
                                  have H' := Aside0.mk H
                                  clear H
                                  have p241 : 0 ≤ (x39_3 : Int) := of_decide_eq_true (by first | (with_reducible assumption) | assumption)
                                  have q241 : x39_3 < (((rd_T109 ((rd_T103 l0_0 x20_1).f1) x27_2).f1).length : Int) := of_decide_eq_true (by first | (with_reducible assumption) | assumption)
                                  obtain ⟨ad241, A241_0, c241_0, e241, hx241_0, hl241_0, hi241_0⟩ := at_T112 HR238_5.out x39_3 p241 q241
                                  cases e241
                                  replace hx241_0 := (HB.out.cell (World.block_lt_of_cell? w _ hx241_0)).trans hx241_0
                                  have HR241_0 := Aside0.mk hi241_0
                                  have HC241_0 := Aside0.mk hl241_0
                                  clear hi241_0 hl241_0
                                  replace p241 := eq_true p241
                                  replace q241 := eq_true q241
                                  go_wp2_with (first | ((with_reducible refine gate_dst (N := 10) rfl ?_); refine box_event ?hg (N := 10) ?hd (cs := #[.slice none 0 0]) (t := 112) ?hr ?_; (case hd => rfl); (case hg => rfl); (case hr => first | (go_simp; done) | (go_simp; rfl)); intro gb242 hg w27 hbox hb; have n0_ := Aside0.mk (blk_below (g := gb234) (o := .cells #[.slice (some ad236) l0_0.length c0_0] 68 (0, 0)) (by (with_reducible repeat (first | refine blk_drewN ?_ _ | refine blk_drew ?_ | refine blk_alloc ?_ _)); exact BK234.out) hb); have n1_ := Aside0.mk (blk_below (g := gb237) (o := .cells #[.int .i64 ((rd_T103 l0_0 x20_1).f0), .slice (some ad238) ((rd_T103 l0_0 x20_1).f1).length c236_1] 103 (0, 0)) (by (with_reducible repeat (first | refine blk_drewN ?_ _ | refine blk_drew ?_ | refine blk_alloc ?_ _)); exact BK237.out) hb); have n2_ := Aside0.mk (blk_below (g := gb239) (o := .cells #[.int .i64 ((rd_T109 ((rd_T103 l0_0 x20_1).f1) x27_2).f0.f0), .string ((rd_T109 ((rd_T103 l0_0 x20_1).f1) x27_2).f0.f1), .string ((rd_T109 ((rd_T103 l0_0 x20_1).f1) x27_2).f0.f2), .int .i64 ((rd_T109 ((rd_T103 l0_0 x20_1).f1) x27_2).f0.f3), .int .i64 ((rd_T109 ((rd_T103 l0_0 x20_1).f1) x27_2).f0.f4), .slice (some ad241) ((rd_T109 ((rd_T103 l0_0 x20_1).f1) x27_2).f1).length c238_5] 109 (0, 0)) (by (with_reducible repeat (first | refine blk_drewN ?_ _ | refine blk_drew ?_ | refine blk_alloc ?_ _)); exact BK239.out) hb); have n3_ := Aside0.mk (below_step (by repeat (first | (with_reducible first | exact HB.out | apply below_alloc | apply pw_below_drewN | apply below_drew1 | refine below_set ?_ GE234.out | refine below_set ?_ GE237.out | refine below_set ?_ GE239.out) | exact HB.out)) hb); have n4_ := Aside0.mk (hbox); have n5_ := Aside0.mk ((by rw [hg]; exact (below_size (by repeat (first | (with_reducible first | exact HB.out | apply below_alloc | apply pw_below_drewN | apply below_drew1 | refine below_set ?_ GE234.out | refine below_set ?_ GE237.out | refine below_set ?_ GE239.out) | exact HB.out))) : w.heap.size ≤ gb242)); have n6_ := Aside0.mk ((by rw [hg]; exact (below_size (by repeat (first | (with_reducible first | exact HB.out | apply below_alloc | apply pw_below_drewN | apply below_drew1 | refine below_set ?_ GE234.out | refine below_set ?_ GE237.out | refine below_set ?_ GE239.out) | exact HB.out))) : w.heap.size ≤ gb242)); have n7_ := Aside0.mk ((by rw [hg]; exact Nat.ne_of_lt (blk_lt (g := gb234) (o := .cells #[.slice (some ad236) l0_0.length c0_0] 68 (0, 0)) (by (with_reducible repeat (first | refine blk_drewN ?_ _ | refine blk_drew ?_ | refine blk_alloc ?_ _)); exact BK234.out)) : gb234 ≠ gb242)); have n8_ := Aside0.mk ((by rw [hg]; exact Nat.ne_of_gt (blk_lt (g := gb234) (o := .cells #[.slice (some ad236) l0_0.length c0_0] 68 (0, 0)) (by (with_reducible repeat (first | refine blk_drewN ?_ _ | refine blk_drew ?_ | refine blk_alloc ?_ _)); exact BK234.out)) : gb242 ≠ gb234)); have n9_ := Aside0.mk ((by rw [hg]; exact Nat.ne_of_lt (blk_lt (g := gb237) (o := .cells #[.int .i64 ((rd_T103 l0_0 x20_1).f0), .slice (some ad238) ((rd_T103 l0_0 x20_1).f1).length c236_1] 103 (0, 0)) (by (with_reducible repeat (first | refine blk_drewN ?_ _ | refine blk_drew ?_ | refine blk_alloc ?_ _)); exact BK237.out)) : gb237 ≠ gb242)); have n10_ := Aside0.mk ((by rw [hg]; exact Nat.ne_of_gt (blk_lt (g := gb237) (o := .cells #[.int .i64 ((rd_T103 l0_0 x20_1).f0), .slice (some ad238) ((rd_T103 l0_0 x20_1).f1).length c236_1] 103 (0, 0)) (by (with_reducible repeat (first | refine blk_drewN ?_ _ | refine blk_drew ?_ | refine blk_alloc ?_ _)); exact BK237.out)) : gb242 ≠ gb237)); have n11_ := Aside0.mk ((by rw [hg]; exact Nat.ne_of_lt (blk_lt (g := gb239) (o := .cells #[.int .i64 ((rd_T109 ((rd_T103 l0_0 x20_1).f1) x27_2).f0.f0), .string ((rd_T109 ((rd_T103 l0_0 x20_1).f1) x27_2).f0.f1), .string ((rd_T109 ((rd_T103 l0_0 x20_1).f1) x27_2).f0.f2), .int .i64 ((rd_T109 ((rd_T103 l0_0 x20_1).f1) x27_2).f0.f3), .int .i64 ((rd_T109 ((rd_T103 l0_0 x20_1).f1) x27_2).f0.f4), .slice (some ad241) ((rd_T109 ((rd_T103 l0_0 x20_1).f1) x27_2).f1).length c238_5] 109 (0, 0)) (by (with_reducible repeat (first | refine blk_drewN ?_ _ | refine blk_drew ?_ | refine blk_alloc ?_ _)); exact BK239.out)) : gb239 ≠ gb242)); have n12_ := Aside0.mk ((by rw [hg]; exact Nat.ne_of_gt (blk_lt (g := gb239) (o := .cells #[.int .i64 ((rd_T109 ((rd_T103 l0_0 x20_1).f1) x27_2).f0.f0), .string ((rd_T109 ((rd_T103 l0_0 x20_1).f1) x27_2).f0.f1), .string ((rd_T109 ((rd_T103 l0_0 x20_1).f1) x27_2).f0.f2), .int .i64 ((rd_T109 ((rd_T103 l0_0 x20_1).f1) x27_2).f0.f3), .int .i64 ((rd_T109 ((rd_T103 l0_0 x20_1).f1) x27_2).f0.f4), .slice (some ad241) ((rd_T109 ((rd_T103 l0_0 x20_1).f1) x27_2).f1).length c238_5] 109 (0, 0)) (by (with_reducible repeat (first | refine blk_drewN ?_ _ | refine blk_drew ?_ | refine blk_alloc ?_ _)); exact BK239.out)) : gb242 ≠ gb239)); clear BK234; clear BK237; clear BK239; clear HB; have BK234 := n0_; have BK237 := n1_; have BK239 := n2_; have HB := n3_; have BK242 := n4_; have GW242 := n5_; have GE242 := n6_; have NB234_242 := n7_; have NB242_234 := n8_; have NB237_242 := n9_; have NB242_237 := n10_; have NB239_242 := n11_; have NB242_239 := n12_; clear n0_ n1_ n2_ n3_ n4_ n5_ n6_ n7_ n8_ n9_ n10_ n11_ n12_; clear hb hbox hg; have hnb28 := NB242_234.out; have hnc28 := NB234_242.out; have hnb29 := NB242_237.out; have hnc29 := NB237_242.out; have hnb30 := NB242_239.out; have hnc30 := NB239_242.out; have hcz31_0 : w27.cell? ⟨gb242, 0, none⟩ = some (.slice none 0 0) := (blk_cell BK242.out 0).trans rfl; have hfz31_0 := blk_frozen BK242.out 0))
                                  go_loopg [11, 46] k3 (fun kq v11 v46 w' => ∃ (x11_4 : Int) (x46_4 : Int), v11 = .int .i64 x11_4 ∧ v46 = .int .i64 x46_4 ∧ Aside0 (impl_Specificity.l3 kq (wrap64 (x3_2 + t240)) x8_3 x11_4 l0_0 (l0_0.length : Int) x20_1 ((rd_T103 l0_0 x20_1).f1) (((rd_T103 l0_0 x20_1).f1).length : Int) x27_2 ((rd_T109 ((rd_T103 l0_0 x20_1).f1) x27_2).f1) (((rd_T109 ((rd_T103 l0_0 x20_1).f1) x27_2).f1).length : Int) x39_3 ((rd_T112 ((rd_T109 ((rd_T103 l0_0 x20_1).f1) x27_2).f1) x39_3).f0) (((rd_T112 ((rd_T109 ((rd_T103 l0_0 x20_1).f1) x27_2).f1) x39_3).f0).length : Int) x46_4 ((rd_T109 ((rd_T103 l0_0 x20_1).f1) x27_2).f0.f0) ((rd_T109 ((rd_T103 l0_0 x20_1).f1) x27_2).f0.f1) ((rd_T109 ((rd_T103 l0_0 x20_1).f1) x27_2).f0.f2) ((rd_T109 ((rd_T103 l0_0 x20_1).f1) x27_2).f0.f3) ((rd_T109 ((rd_T103 l0_0 x20_1).f1) x27_2).f0.f4) ((rd_T109 ((rd_T103 l0_0 x20_1).f1) x27_2).f1) = some r) ∧ Aside0 (kq ≤ k3) ∧ Aside0 (w'.heap[gb234]? = some (.cells #[(.slice (some ad236) l0_0.length c0_0)] 68 (0, 0))) ∧ Aside0 (w'.heap[gb237]? = some (.cells #[.int .i64 ((rd_T103 l0_0 x20_1).f0), (.slice (some ad238) ((rd_T103 l0_0 x20_1).f1).length c236_1)] 103 (0, 0))) ∧ Aside0 (w'.heap[gb239]? = some (.cells #[.int .i64 ((rd_T109 ((rd_T103 l0_0 x20_1).f1) x27_2).f0.f0), .string ((rd_T109 ((rd_T103 l0_0 x20_1).f1) x27_2).f0.f1), .string ((rd_T109 ((rd_T103 l0_0 x20_1).f1) x27_2).f0.f2), .int .i64 ((rd_T109 ((rd_T103 l0_0 x20_1).f1) x27_2).f0.f3), .int .i64 ((rd_T109 ((rd_T103 l0_0 x20_1).f1) x27_2).f0.f4), (.slice (some ad241) ((rd_T109 ((rd_T103 l0_0 x20_1).f1) x27_2).f1).length c238_5)] 109 (0, 0))) ∧ Aside0 (w'.heap[gb242]? = some (.cells #[(.slice A241_0 ((rd_T112 ((rd_T109 ((rd_T103 l0_0 x20_1).f1) x27_2).f1) x39_3).f0).length c241_0)] 112 (0, 0))) ∧ Aside0 (Below w.heap.size w w'))
                                  case atStart => exact ⟨(0), (0), (by first | rfl | (simp; done) | (simp [*]; done)), (by first | rfl | (simp; done) | (simp [*]; done)), H', ⟨Nat.le_refl _⟩, ⟨by (with_reducible repeat (first | refine blk_drewN ?_ _ | refine blk_drew ?_ | refine blk_alloc ?_ _)); refine blk_far ?_ NB234_242.out _; (with_reducible repeat (first | refine blk_drewN ?_ _ | refine blk_drew ?_ | refine blk_alloc ?_ _)); exact BK234.out⟩, ⟨by (with_reducible repeat (first | refine blk_drewN ?_ _ | refine blk_drew ?_ | refine blk_alloc ?_ _)); refine blk_far ?_ NB237_242.out _; (with_reducible repeat (first | refine blk_drewN ?_ _ | refine blk_drew ?_ | refine blk_alloc ?_ _)); exact BK237.out⟩, ⟨by (with_reducible repeat (first | refine blk_drewN ?_ _ | refine blk_drew ?_ | refine blk_alloc ?_ _)); refine blk_far ?_ NB239_242.out _; (with_reducible repeat (first | refine blk_drewN ?_ _ | refine blk_drew ?_ | refine blk_alloc ?_ _)); exact BK239.out⟩, ⟨by (with_reducible repeat (first | refine blk_drewN ?_ _ | refine blk_drew ?_ | refine blk_alloc ?_ _)); refine blk_put (cs := #[.slice none 0 0]) ?_ 0 _ rfl; (with_reducible repeat (first | refine blk_drewN ?_ _ | refine blk_drew ?_ | refine blk_alloc ?_ _)); exact BK242.out⟩, ⟨by repeat (first | (with_reducible first | exact HB.out | apply below_alloc | apply pw_below_drewN | apply below_drew1 | refine below_set ?_ GE234.out | refine below_set ?_ GE237.out | refine below_set ?_ GE239.out | refine below_set ?_ GE242.out) | exact HB.out)⟩⟩
                                  case round =>
                                    clear H'
                                    try clear c1
                                    try clear c2
                                    try clear p2
                                    try clear q2
                                    try clear hx2
                                    try clear c3
                                    try clear c6
                                    try clear p6
                                    try clear c8
                                    try clear c8b0
                                    try clear c9
                                    try clear c9b0
                                    try clear c10
                                    try clear c10b0
                                    try clear c12
                                    try clear c14
                                    try clear c14b0
                                    try clear c15
                                    try clear c15b0
                                    try clear c16
                                    try clear c16b0
                                    try clear c19
                                    try clear c20
                                    try clear c23
                                    try clear p23
                                    try clear q23
                                    try clear hx23
                                    try clear c24
                                    try clear c24b0
                                    try clear p24
                                    try clear q24
                                    try clear hx24
                                    try clear c25
                                    try clear c25b0
                                    try clear c26
                                    try clear c26b0
                                    try clear c28
                                    try clear c29
                                    try clear c30
                                    try clear hcz13_0
                                    try clear hcz13_1
                                    try clear hcz21_0
                                    try clear hcz21_1
                                    try clear hcz21_2
                                    try clear hcz21_3
                                    try clear hcz21_4
                                    try clear hcz21_5
                                    try clear hcz23_0
                                    try clear hcz23_1
                                    try clear hcz23_2
                                    try clear hcz23_3
                                    try clear hcz23_4
                                    try clear hcz23_5
                                    try clear hcz31_0
                                    try clear hcz5_0
                                    try clear hcz7_0
                                    try clear hfz13_0
                                    try clear hfz13_1
                                    try clear hfz21_0
                                    try clear hfz21_1
                                    try clear hfz21_2
                                    try clear hfz21_3
                                    try clear hfz21_4
                                    try clear hfz21_5
                                    try clear hfz23_0
                                    try clear hfz23_1
                                    try clear hfz23_2
                                    try clear hfz23_3
                                    try clear hfz23_4
                                    try clear hfz23_5
                                    try clear hfz31_0
                                    try clear hfz5_0
                                    try clear hfz7_0
                                    try clear hx236_0
                                    try clear hx236_1
                                    try clear hx238_0
                                    try clear hx238_1
                                    try clear hx238_2
                                    try clear hx238_3
                                    try clear hx238_4
                                    try clear hx238_5
                                    try clear hx241_0
                                    try clear p2
                                    try clear p23
                                    try clear p236
                                    try clear p238
                                    try clear p241
                                    try clear p6
                                    try clear q2
                                    try clear q23
                                    try clear q236
                                    try clear q238
                                    try clear q241
                                    obtain ⟨x11_4, x46_4, rfl, rfl, HA, HK4, BK234, BK237, BK239, BK242, HB⟩ := hrel
                                    cases gk with
                                    | zero => exact absurd HA.out (by simp [impl_Specificity.l3])
                                    | succ k4 =>
                                      have H := HA.out
                                      clear HA
                                      simp only [impl_Specificity.l3] at H
                                      by_cases c32 : x46_4 < (((rd_T112 ((rd_T109 ((rd_T103 l0_0 x20_1).f1) x27_2).f1) x39_3).f0).length : Int)
                                      · rw [if_pos c32] at H
                                        have c32b0 : decide (x46_4 < (((rd_T112 ((rd_T109 ((rd_T103 l0_0 x20_1).f1) x27_2).f1) x39_3).f0).length : Int)) = true := decide_eq_true c32
                                        clear c32
                                        by_cases c33 : 0 ≤ x46_4
                                        · rw [if_pos c33] at H
                                          have c33b0 : decide (0 ≤ x46_4) = true := decide_eq_true c33
                                          clear c33
                                          by_cases c34 : x46_4 < (((rd_T112 ((rd_T109 ((rd_T103 l0_0 x20_1).f1) x27_2).f1) x39_3).f0).length : Int)
                                          · rw [if_pos c34] at H
                                            have c34b0 : decide (x46_4 < (((rd_T112 ((rd_T109 ((rd_T103 l0_0 x20_1).f1) x27_2).f1) x39_3).f0).length : Int)) = true := decide_eq_true c34
                                            clear c34
                                            replace H := Option.bind_eq_some_iff.mp H
                                            obtain ⟨t245, A350, H⟩ := H
                                            replace H : (impl_Specificity.l3 k4 (wrap64 (x3_2 + t240)) x8_3 (wrap64 (x11_4 + t245)) l0_0 (l0_0.length : Int) x20_1 ((rd_T103 l0_0 x20_1).f1) (((rd_T103 l0_0 x20_1).f1).length : Int) x27_2 ((rd_T109 ((rd_T103 l0_0 x20_1).f1) x27_2).f1) (((rd_T109 ((rd_T103 l0_0 x20_1).f1) x27_2).f1).length : Int) x39_3 ((rd_T112 ((rd_T109 ((rd_T103 l0_0 x20_1).f1) x27_2).f1) x39_3).f0) (((rd_T112 ((rd_T109 ((rd_T103 l0_0 x20_1).f1) x27_2).f1) x39_3).f0).length : Int) (wrap64 (x46_4 + 1)) ((rd_T109 ((rd_T103 l0_0 x20_1).f1) x27_2).f0.f0) ((rd_T109 ((rd_T103 l0_0 x20_1).f1) x27_2).f0.f1) ((rd_T109 ((rd_T103 l0_0 x20_1).f1) x27_2).f0.f2) ((rd_T109 ((rd_T103 l0_0 x20_1).f1) x27_2).f0.f3) ((rd_T109 ((rd_T103 l0_0 x20_1).f1) x27_2).f0.f4) ((rd_T109 ((rd_T103 l0_0 x20_1).f1) x27_2).f1)) = some r := H
                                            have A35 := Aside0.mk A350
                                            clear A350
                                            have H' := Aside0.mk H
                                            clear H
                                            have p243 : 0 ≤ (x46_4 : Int) := of_decide_eq_true (by first | (with_reducible assumption) | assumption)
                                            have q243 : x46_4 < (((rd_T112 ((rd_T109 ((rd_T103 l0_0 x20_1).f1) x27_2).f1) x39_3).f0).length : Int) := of_decide_eq_true (by first | (with_reducible assumption) | assumption)
                                            obtain ⟨ad243, e243, hx243_0, hx243_1, hx243_2, hx243_3, hx243_4⟩ := at_T106 HR241_0.out x46_4 p243 q243
                                            cases e243
                                            replace hx243_0 := (HB.out.cell (World.block_lt_of_cell? w _ hx243_0)).trans hx243_0
                                            replace hx243_1 := (HB.out.cell (World.block_lt_of_cell? w _ hx243_1)).trans hx243_1
                                            replace hx243_2 := (HB.out.cell (World.block_lt_of_cell? w _ hx243_2)).trans hx243_2
                                            replace hx243_3 := (HB.out.cell (World.block_lt_of_cell? w _ hx243_3)).trans hx243_3
                                            replace hx243_4 := (HB.out.cell (World.block_lt_of_cell? w _ hx243_4)).trans hx243_4
                                            replace p243 := eq_true p243
                                            replace q243 := eq_true q243
                                            go_wp2_with (first | ((with_reducible refine gate_dst (N := 13) rfl ?_); refine box_event ?hg (N := 13) ?hd (cs := #[.int .i64 0, .string (⟨#[]⟩ : ByteArray), .string (⟨#[]⟩ : ByteArray), .int .i64 0, .int .i64 0]) (t := 106) ?hr ?_; (case hd => rfl); (case hg => rfl); (case hr => first | (go_simp; done) | (go_simp; rfl)); intro gb244 hg w36 hbox hb; have n0_ := Aside0.mk (blk_below (g := gb234) (o := .cells #[.slice (some ad236) l0_0.length c0_0] 68 (0, 0)) (by (with_reducible repeat (first | refine blk_drewN ?_ _ | refine blk_drew ?_ | refine blk_alloc ?_ _)); exact BK234.out) hb); have n1_ := Aside0.mk (blk_below (g := gb237) (o := .cells #[.int .i64 ((rd_T103 l0_0 x20_1).f0), .slice (some ad238) ((rd_T103 l0_0 x20_1).f1).length c236_1] 103 (0, 0)) (by (with_reducible repeat (first | refine blk_drewN ?_ _ | refine blk_drew ?_ | refine blk_alloc ?_ _)); exact BK237.out) hb); have n2_ := Aside0.mk (blk_below (g := gb239) (o := .cells #[.int .i64 ((rd_T109 ((rd_T103 l0_0 x20_1).f1) x27_2).f0.f0), .string ((rd_T109 ((rd_T103 l0_0 x20_1).f1) x27_2).f0.f1), .string ((rd_T109 ((rd_T103 l0_0 x20_1).f1) x27_2).f0.f2), .int .i64 ((rd_T109 ((rd_T103 l0_0 x20_1).f1) x27_2).f0.f3), .int .i64 ((rd_T109 ((rd_T103 l0_0 x20_1).f1) x27_2).f0.f4), .slice (some ad241) ((rd_T109 ((rd_T103 l0_0 x20_1).f1) x27_2).f1).length c238_5] 109 (0, 0)) (by (with_reducible repeat (first | refine blk_drewN ?_ _ | refine blk_drew ?_ | refine blk_alloc ?_ _)); exact BK239.out) hb); have n3_ := Aside0.mk (blk_below (g := gb242) (o := .cells #[.slice (some ad243) ((rd_T112 ((rd_T109 ((rd_T103 l0_0 x20_1).f1) x27_2).f1) x39_3).f0).length c241_0] 112 (0, 0)) (by (with_reducible repeat (first | refine blk_drewN ?_ _ | refine blk_drew ?_ | refine blk_alloc ?_ _)); exact BK242.out) hb); have n4_ := Aside0.mk (below_step (by repeat (first | (with_reducible first | exact HB.out | apply below_alloc | apply pw_below_drewN | apply below_drew1 | refine below_set ?_ GE234.out | refine below_set ?_ GE237.out | refine below_set ?_ GE239.out | refine below_set ?_ GE242.out) | exact HB.out)) hb); have n5_ := Aside0.mk (hbox); have n6_ := Aside0.mk ((by rw [hg]; exact (below_size (by repeat (first | (with_reducible first | exact HB.out | apply below_alloc | apply pw_below_drewN | apply below_drew1 | refine below_set ?_ GE234.out | refine below_set ?_ GE237.out | refine below_set ?_ GE239.out | refine below_set ?_ GE242.out) | exact HB.out))) : w.heap.size ≤ gb244)); have n7_ := Aside0.mk ((by rw [hg]; exact (below_size (by repeat (first | (with_reducible first | exact HB.out | apply below_alloc | apply pw_below_drewN | apply below_drew1 | refine below_set ?_ GE234.out | refine below_set ?_ GE237.out | refine below_set ?_ GE239.out | refine below_set ?_ GE242.out) | exact HB.out))) : w.heap.size ≤ gb244)); have n8_ := Aside0.mk ((by rw [hg]; exact Nat.ne_of_lt (blk_lt (g := gb234) (o := .cells #[.slice (some ad236) l0_0.length c0_0] 68 (0, 0)) (by (with_reducible repeat (first | refine blk_drewN ?_ _ | refine blk_drew ?_ | refine blk_alloc ?_ _)); exact BK234.out)) : gb234 ≠ gb244)); have n9_ := Aside0.mk ((by rw [hg]; exact Nat.ne_of_gt (blk_lt (g := gb234) (o := .cells #[.slice (some ad236) l0_0.length c0_0] 68 (0, 0)) (by (with_reducible repeat (first | refine blk_drewN ?_ _ | refine blk_drew ?_ | refine blk_alloc ?_ _)); exact BK234.out)) : gb244 ≠ gb234)); have n10_ := Aside0.mk ((by rw [hg]; exact Nat.ne_of_lt (blk_lt (g := gb237) (o := .cells #[.int .i64 ((rd_T103 l0_0 x20_1).f0), .slice (some ad238) ((rd_T103 l0_0 x20_1).f1).length c236_1] 103 (0, 0)) (by (with_reducible repeat (first | refine blk_drewN ?_ _ | refine blk_drew ?_ | refine blk_alloc ?_ _)); exact BK237.out)) : gb237 ≠ gb244)); have n11_ := Aside0.mk ((by rw [hg]; exact Nat.ne_of_gt (blk_lt (g := gb237) (o := .cells #[.int .i64 ((rd_T103 l0_0 x20_1).f0), .slice (some ad238) ((rd_T103 l0_0 x20_1).f1).length c236_1] 103 (0, 0)) (by (with_reducible repeat (first | refine blk_drewN ?_ _ | refine blk_drew ?_ | refine blk_alloc ?_ _)); exact BK237.out)) : gb244 ≠ gb237)); have n12_ := Aside0.mk ((by rw [hg]; exact Nat.ne_of_lt (blk_lt (g := gb239) (o := .cells #[.int .i64 ((rd_T109 ((rd_T103 l0_0 x20_1).f1) x27_2).f0.f0), .string ((rd_T109 ((rd_T103 l0_0 x20_1).f1) x27_2).f0.f1), .string ((rd_T109 ((rd_T103 l0_0 x20_1).f1) x27_2).f0.f2), .int .i64 ((rd_T109 ((rd_T103 l0_0 x20_1).f1) x27_2).f0.f3), .int .i64 ((rd_T109 ((rd_T103 l0_0 x20_1).f1) x27_2).f0.f4), .slice (some ad241) ((rd_T109 ((rd_T103 l0_0 x20_1).f1) x27_2).f1).length c238_5] 109 (0, 0)) (by (with_reducible repeat (first | refine blk_drewN ?_ _ | refine blk_drew ?_ | refine blk_alloc ?_ _)); exact BK239.out)) : gb239 ≠ gb244)); have n13_ := Aside0.mk ((by rw [hg]; exact Nat.ne_of_gt (blk_lt (g := gb239) (o := .cells #[.int .i64 ((rd_T109 ((rd_T103 l0_0 x20_1).f1) x27_2).f0.f0), .string ((rd_T109 ((rd_T103 l0_0 x20_1).f1) x27_2).f0.f1), .string ((rd_T109 ((rd_T103 l0_0 x20_1).f1) x27_2).f0.f2), .int .i64 ((rd_T109 ((rd_T103 l0_0 x20_1).f1) x27_2).f0.f3), .int .i64 ((rd_T109 ((rd_T103 l0_0 x20_1).f1) x27_2).f0.f4), .slice (some ad241) ((rd_T109 ((rd_T103 l0_0 x20_1).f1) x27_2).f1).length c238_5] 109 (0, 0)) (by (with_reducible repeat (first | refine blk_drewN ?_ _ | refine blk_drew ?_ | refine blk_alloc ?_ _)); exact BK239.out)) : gb244 ≠ gb239)); have n14_ := Aside0.mk ((by rw [hg]; exact Nat.ne_of_lt (blk_lt (g := gb242) (o := .cells #[.slice (some ad243) ((rd_T112 ((rd_T109 ((rd_T103 l0_0 x20_1).f1) x27_2).f1) x39_3).f0).length c241_0] 112 (0, 0)) (by (with_reducible repeat (first | refine blk_drewN ?_ _ | refine blk_drew ?_ | refine blk_alloc ?_ _)); exact BK242.out)) : gb242 ≠ gb244)); have n15_ := Aside0.mk ((by rw [hg]; exact Nat.ne_of_gt (blk_lt (g := gb242) (o := .cells #[.slice (some ad243) ((rd_T112 ((rd_T109 ((rd_T103 l0_0 x20_1).f1) x27_2).f1) x39_3).f0).length c241_0] 112 (0, 0)) (by (with_reducible repeat (first | refine blk_drewN ?_ _ | refine blk_drew ?_ | refine blk_alloc ?_ _)); exact BK242.out)) : gb244 ≠ gb242)); clear BK234; clear BK237; clear BK239; clear BK242; clear HB; have BK234 := n0_; have BK237 := n1_; have BK239 := n2_; have BK242 := n3_; have HB := n4_; have BK244 := n5_; have GW244 := n6_; have GE244 := n7_; have NB234_244 := n8_; have NB244_234 := n9_; have NB237_244 := n10_; have NB244_237 := n11_; have NB239_244 := n12_; have NB244_239 := n13_; have NB242_244 := n14_; have NB244_242 := n15_; clear n0_ n1_ n2_ n3_ n4_ n5_ n6_ n7_ n8_ n9_ n10_ n11_ n12_ n13_ n14_ n15_; clear hb hbox hg; have hnb37 := NB244_234.out; have hnc37 := NB234_244.out; have hnb38 := NB244_237.out; have hnc38 := NB237_244.out; have hnb39 := NB244_239.out; have hnc39 := NB239_244.out; have hnb40 := NB244_242.out; have hnc40 := NB242_244.out; have hcz41_0 : w36.cell? ⟨gb244, 0, none⟩ = some (.int .i64 0) := (blk_cell BK244.out 0).trans rfl; have hcz41_1 : w36.cell? ⟨gb244, 1, none⟩ = some (.string (⟨#[]⟩ : ByteArray)) := (blk_cell BK244.out 1).trans rfl; have hcz41_2 : w36.cell? ⟨gb244, 2, none⟩ = some (.string (⟨#[]⟩ : ByteArray)) := (blk_cell BK244.out 2).trans rfl; have hcz41_3 : w36.cell? ⟨gb244, 3, none⟩ = some (.int .i64 0) := (blk_cell BK244.out 3).trans rfl; have hcz41_4 : w36.cell? ⟨gb244, 4, none⟩ = some (.int .i64 0) := (blk_cell BK244.out 4).trans rfl; have hfz41_0 := blk_frozen BK244.out 0; have hfz41_1 := blk_frozen BK244.out 1; have hfz41_2 := blk_frozen BK244.out 2; have hfz41_3 := blk_frozen BK244.out 3; have hfz41_4 := blk_frozen BK244.out 4) | ((with_reducible refine gate_callee (f := 61) rfl ?_); refine goesL_ (some 52) rfl rfl Try.func61 (by kernel_rfl) rfl #[.agg #[.int .i64 ((rd_T106 ((rd_T112 ((rd_T109 ((rd_T103 l0_0 x20_1).f1) x27_2).f1) x39_3).f0) x46_4).f0), .string ((rd_T106 ((rd_T112 ((rd_T109 ((rd_T103 l0_0 x20_1).f1) x27_2).f1) x39_3).f0) x46_4).f1), .string ((rd_T106 ((rd_T112 ((rd_T109 ((rd_T103 l0_0 x20_1).f1) x27_2).f1) x39_3).f0) x46_4).f2), .int .i64 ((rd_T106 ((rd_T112 ((rd_T109 ((rd_T103 l0_0 x20_1).f1) x27_2).f1) x39_3).f0) x46_4).f3), .int .i64 ((rd_T106 ((rd_T112 ((rd_T109 ((rd_T103 l0_0 x20_1).f1) x27_2).f1) x39_3).f0) x46_4).f4)]] rfl (by (try simp only [List.map_toArray, List.map_cons, List.map_nil]); first | done | rfl | (simp only [List.length_drop, List.length_take]; rfl)) ?_; (with_reducible refine (impl_weightOf.calls ((rd_T106 ((rd_T112 ((rd_T109 ((rd_T103 l0_0 x20_1).f1) x27_2).f1) x39_3).f0) x46_4).f0) ((rd_T106 ((rd_T112 ((rd_T109 ((rd_T103 l0_0 x20_1).f1) x27_2).f1) x39_3).f0) x46_4).f1) ((rd_T106 ((rd_T112 ((rd_T109 ((rd_T103 l0_0 x20_1).f1) x27_2).f1) x39_3).f0) x46_4).f2) ((rd_T106 ((rd_T112 ((rd_T109 ((rd_T103 l0_0 x20_1).f1) x27_2).f1) x39_3).f0) x46_4).f3) ((rd_T106 ((rd_T112 ((rd_T109 ((rd_T103 l0_0 x20_1).f1) x27_2).f1) x39_3).f0) x46_4).f4) t245 _ A35.out).mono ?_); rintro e w42 ⟨rfl, hb⟩; refine ⟨_, rfl, ?_⟩; have n0_ := Aside0.mk (blk_below (g := gb234) (o := .cells #[.slice (some ad236) l0_0.length c0_0] 68 (0, 0)) (by (with_reducible repeat (first | refine blk_drewN ?_ _ | refine blk_drew ?_ | refine blk_alloc ?_ _)); refine blk_far ?_ NB234_244.out _; (with_reducible repeat (first | refine blk_drewN ?_ _ | refine blk_drew ?_ | refine blk_alloc ?_ _)); refine blk_far ?_ NB234_244.out _; (with_reducible repeat (first | refine blk_drewN ?_ _ | refine blk_drew ?_ | refine blk_alloc ?_ _)); refine blk_far ?_ NB234_244.out _; (with_reducible repeat (first | refine blk_drewN ?_ _ | refine blk_drew ?_ | refine blk_alloc ?_ _)); refine blk_far ?_ NB234_244.out _; (with_reducible repeat (first | refine blk_drewN ?_ _ | refine blk_drew ?_ | refine blk_alloc ?_ _)); refine blk_far ?_ NB234_244.out _; (with_reducible repeat (first | refine blk_drewN ?_ _ | refine blk_drew ?_ | refine blk_alloc ?_ _)); exact BK234.out) hb); have n1_ := Aside0.mk (blk_below (g := gb237) (o := .cells #[.int .i64 ((rd_T103 l0_0 x20_1).f0), .slice (some ad238) ((rd_T103 l0_0 x20_1).f1).length c236_1] 103 (0, 0)) (by (with_reducible repeat (first | refine blk_drewN ?_ _ | refine blk_drew ?_ | refine blk_alloc ?_ _)); refine blk_far ?_ NB237_244.out _; (with_reducible repeat (first | refine blk_drewN ?_ _ | refine blk_drew ?_ | refine blk_alloc ?_ _)); refine blk_far ?_ NB237_244.out _; (with_reducible repeat (first | refine blk_drewN ?_ _ | refine blk_drew ?_ | refine blk_alloc ?_ _)); refine blk_far ?_ NB237_244.out _; (with_reducible repeat (first | refine blk_drewN ?_ _ | refine blk_drew ?_ | refine blk_alloc ?_ _)); refine blk_far ?_ NB237_244.out _; (with_reducible repeat (first | refine blk_drewN ?_ _ | refine blk_drew ?_ | refine blk_alloc ?_ _)); refine blk_far ?_ NB237_244.out _; (with_reducible repeat (first | refine blk_drewN ?_ _ | refine blk_drew ?_ | refine blk_alloc ?_ _)); exact BK237.out) hb); have n2_ := Aside0.mk (blk_below (g := gb239) (o := .cells #[.int .i64 ((rd_T109 ((rd_T103 l0_0 x20_1).f1) x27_2).f0.f0), .string ((rd_T109 ((rd_T103 l0_0 x20_1).f1) x27_2).f0.f1), .string ((rd_T109 ((rd_T103 l0_0 x20_1).f1) x27_2).f0.f2), .int .i64 ((rd_T109 ((rd_T103 l0_0 x20_1).f1) x27_2).f0.f3), .int .i64 ((rd_T109 ((rd_T103 l0_0 x20_1).f1) x27_2).f0.f4), .slice (some ad241) ((rd_T109 ((rd_T103 l0_0 x20_1).f1) x27_2).f1).length c238_5] 109 (0, 0)) (by (with_reducible repeat (first | refine blk_drewN ?_ _ | refine blk_drew ?_ | refine blk_alloc ?_ _)); refine blk_far ?_ NB239_244.out _; (with_reducible repeat (first | refine blk_drewN ?_ _ | refine blk_drew ?_ | refine blk_alloc ?_ _)); refine blk_far ?_ NB239_244.out _; (with_reducible repeat (first | refine blk_drewN ?_ _ | refine blk_drew ?_ | refine blk_alloc ?_ _)); refine blk_far ?_ NB239_244.out _; (with_reducible repeat (first | refine blk_drewN ?_ _ | refine blk_drew ?_ | refine blk_alloc ?_ _)); refine blk_far ?_ NB239_244.out _; (with_reducible repeat (first | refine blk_drewN ?_ _ | refine blk_drew ?_ | refine blk_alloc ?_ _)); refine blk_far ?_ NB239_244.out _; (with_reducible repeat (first | refine blk_drewN ?_ _ | refine blk_drew ?_ | refine blk_alloc ?_ _)); exact BK239.out) hb); have n3_ := Aside0.mk (blk_below (g := gb242) (o := .cells #[.slice (some ad243) ((rd_T112 ((rd_T109 ((rd_T103 l0_0 x20_1).f1) x27_2).f1) x39_3).f0).length c241_0] 112 (0, 0)) (by (with_reducible repeat (first | refine blk_drewN ?_ _ | refine blk_drew ?_ | refine blk_alloc ?_ _)); refine blk_far ?_ NB242_244.out _; (with_reducible repeat (first | refine blk_drewN ?_ _ | refine blk_drew ?_ | refine blk_alloc ?_ _)); refine blk_far ?_ NB242_244.out _; (with_reducible repeat (first | refine blk_drewN ?_ _ | refine blk_drew ?_ | refine blk_alloc ?_ _)); refine blk_far ?_ NB242_244.out _; (with_reducible repeat (first | refine blk_drewN ?_ _ | refine blk_drew ?_ | refine blk_alloc ?_ _)); refine blk_far ?_ NB242_244.out _; (with_reducible repeat (first | refine blk_drewN ?_ _ | refine blk_drew ?_ | refine blk_alloc ?_ _)); refine blk_far ?_ NB242_244.out _; (with_reducible repeat (first | refine blk_drewN ?_ _ | refine blk_drew ?_ | refine blk_alloc ?_ _)); exact BK242.out) hb); have n4_ := Aside0.mk (blk_below (g := gb244) (o := .cells #[.int .i64 ((rd_T106 ((rd_T112 ((rd_T109 ((rd_T103 l0_0 x20_1).f1) x27_2).f1) x39_3).f0) x46_4).f0), .string ((rd_T106 ((rd_T112 ((rd_T109 ((rd_T103 l0_0 x20_1).f1) x27_2).f1) x39_3).f0) x46_4).f1), .string ((rd_T106 ((rd_T112 ((rd_T109 ((rd_T103 l0_0 x20_1).f1) x27_2).f1) x39_3).f0) x46_4).f2), .int .i64 ((rd_T106 ((rd_T112 ((rd_T109 ((rd_T103 l0_0 x20_1).f1) x27_2).f1) x39_3).f0) x46_4).f3), .int .i64 ((rd_T106 ((rd_T112 ((rd_T109 ((rd_T103 l0_0 x20_1).f1) x27_2).f1) x39_3).f0) x46_4).f4)] 106 (0, 0)) (by (with_reducible repeat (first | refine blk_drewN ?_ _ | refine blk_drew ?_ | refine blk_alloc ?_ _)); refine blk_put (cs := #[.int .i64 ((rd_T106 ((rd_T112 ((rd_T109 ((rd_T103 l0_0 x20_1).f1) x27_2).f1) x39_3).f0) x46_4).f0), .string ((rd_T106 ((rd_T112 ((rd_T109 ((rd_T103 l0_0 x20_1).f1) x27_2).f1) x39_3).f0) x46_4).f1), .string ((rd_T106 ((rd_T112 ((rd_T109 ((rd_T103 l0_0 x20_1).f1) x27_2).f1) x39_3).f0) x46_4).f2), .int .i64 ((rd_T106 ((rd_T112 ((rd_T109 ((rd_T103 l0_0 x20_1).f1) x27_2).f1) x39_3).f0) x46_4).f3), .int .i64 0]) ?_ 4 _ rfl; (with_reducible repeat (first | refine blk_drewN ?_ _ | refine blk_drew ?_ | refine blk_alloc ?_ _)); refine blk_put (cs := #[.int .i64 ((rd_T106 ((rd_T112 ((rd_T109 ((rd_T103 l0_0 x20_1).f1) x27_2).f1) x39_3).f0) x46_4).f0), .string ((rd_T106 ((rd_T112 ((rd_T109 ((rd_T103 l0_0 x20_1).f1) x27_2).f1) x39_3).f0) x46_4).f1), .string ((rd_T106 ((rd_T112 ((rd_T109 ((rd_T103 l0_0 x20_1).f1) x27_2).f1) x39_3).f0) x46_4).f2), .int .i64 0, .int .i64 0]) ?_ 3 _ rfl; (with_reducible repeat (first | refine blk_drewN ?_ _ | refine blk_drew ?_ | refine blk_alloc ?_ _)); refine blk_put (cs := #[.int .i64 ((rd_T106 ((rd_T112 ((rd_T109 ((rd_T103 l0_0 x20_1).f1) x27_2).f1) x39_3).f0) x46_4).f0), .string ((rd_T106 ((rd_T112 ((rd_T109 ((rd_T103 l0_0 x20_1).f1) x27_2).f1) x39_3).f0) x46_4).f1), .string (⟨#[]⟩ : ByteArray), .int .i64 0, .int .i64 0]) ?_ 2 _ rfl; (with_reducible repeat (first | refine blk_drewN ?_ _ | refine blk_drew ?_ | refine blk_alloc ?_ _)); refine blk_put (cs := #[.int .i64 ((rd_T106 ((rd_T112 ((rd_T109 ((rd_T103 l0_0 x20_1).f1) x27_2).f1) x39_3).f0) x46_4).f0), .string (⟨#[]⟩ : ByteArray), .string (⟨#[]⟩ : ByteArray), .int .i64 0, .int .i64 0]) ?_ 1 _ rfl; (with_reducible repeat (first | refine blk_drewN ?_ _ | refine blk_drew ?_ | refine blk_alloc ?_ _)); refine blk_put (cs := #[.int .i64 0, .string (⟨#[]⟩ : ByteArray), .string (⟨#[]⟩ : ByteArray), .int .i64 0, .int .i64 0]) ?_ 0 _ rfl; (with_reducible repeat (first | refine blk_drewN ?_ _ | refine blk_drew ?_ | refine blk_alloc ?_ _)); exact BK244.out) hb); have n5_ := Aside0.mk (below_step (by repeat (first | (with_reducible first | exact HB.out | apply below_alloc | apply pw_below_drewN | apply below_drew1 | refine below_set ?_ GE234.out | refine below_set ?_ GE237.out | refine below_set ?_ GE239.out | refine below_set ?_ GE242.out | refine below_set ?_ GE244.out) | exact HB.out)) hb); clear BK234; clear BK237; clear BK239; clear BK242; clear BK244; clear HB; have BK234 := n0_; have BK237 := n1_; have BK239 := n2_; have BK242 := n3_; have BK244 := n4_; have HB := n5_; clear n0_ n1_ n2_ n3_ n4_ n5_; (try clear hb); (try clear hb2); (try clear hk); (try clear hi)))
                                            go_roundg k4
                                            case measure => have := HK1.out; have := HK2.out; have := HK3.out; have := HK4.out; omega
                                            case rel => exact ⟨(wrap64 (x11_4 + t245)), (wrap64 (x46_4 + 1)), (by first | rfl | (simp; done) | (simp [*]; done)), (by first | rfl | (simp; done) | (simp [*]; done)), H', ⟨by have := HK1.out; have := HK2.out; have := HK3.out; have := HK4.out; omega⟩, ⟨by (with_reducible repeat (first | refine blk_drewN ?_ _ | refine blk_drew ?_ | refine blk_alloc ?_ _)); exact BK234.out⟩, ⟨by (with_reducible repeat (first | refine blk_drewN ?_ _ | refine blk_drew ?_ | refine blk_alloc ?_ _)); exact BK237.out⟩, ⟨by (with_reducible repeat (first | refine blk_drewN ?_ _ | refine blk_drew ?_ | refine blk_alloc ?_ _)); exact BK239.out⟩, ⟨by (with_reducible repeat (first | refine blk_drewN ?_ _ | refine blk_drew ?_ | refine blk_alloc ?_ _)); exact BK242.out⟩, ⟨by repeat (first | (with_reducible first | exact HB.out | apply below_alloc | apply pw_below_drewN | apply below_drew1 | refine below_set ?_ GE234.out | refine below_set ?_ GE237.out | refine below_set ?_ GE239.out | refine below_set ?_ GE242.out | refine below_set ?_ GE244.out) | exact HB.out)⟩⟩
                                          · rw [if_neg c34] at H
                                            exact absurd H (by simp)
                                        · rw [if_neg c33] at H
                                          exact absurd H (by simp)
                                      · rw [if_neg c32] at H
                                        have c32b0 : decide (x46_4 < (((rd_T112 ((rd_T109 ((rd_T103 l0_0 x20_1).f1) x27_2).f1) x39_3).f0).length : Int)) = false := decide_eq_false c32
                                        clear c32
                                        obtain ⟨ji43, hji43⟩ : ∃ j_ : Int, (mx x8_3 x11_4) = j_ := ⟨_, rfl⟩
                                        replace H : (impl_Specificity.l2 k4 (wrap64 (x3_2 + t240)) ji43 l0_0 (l0_0.length : Int) x20_1 ((rd_T103 l0_0 x20_1).f1) (((rd_T103 l0_0 x20_1).f1).length : Int) x27_2 ((rd_T109 ((rd_T103 l0_0 x20_1).f1) x27_2).f1) (((rd_T109 ((rd_T103 l0_0 x20_1).f1) x27_2).f1).length : Int) (wrap64 (x39_3 + 1)) ((rd_T109 ((rd_T103 l0_0 x20_1).f1) x27_2).f0.f0) ((rd_T109 ((rd_T103 l0_0 x20_1).f1) x27_2).f0.f1) ((rd_T109 ((rd_T103 l0_0 x20_1).f1) x27_2).f0.f2) ((rd_T109 ((rd_T103 l0_0 x20_1).f1) x27_2).f0.f3) ((rd_T109 ((rd_T103 l0_0 x20_1).f1) x27_2).f0.f4) ((rd_T109 ((rd_T103 l0_0 x20_1).f1) x27_2).f1)) = some r := by first | (rw [hji43] at H; exact H) | (simp only [hji43] at H ⊢; exact H)
                                        have hji43_ : (if x8_3 < x11_4 then x11_4 else x8_3) = ji43 := hji43
                                        have H' := Aside0.mk H
                                        clear H
                                        go_wp2
                                        go_roundg k4
                                        case measure => have := HK1.out; have := HK2.out; have := HK3.out; have := HK4.out; omega
                                        case rel => exact ⟨(ji43), (wrap64 (x39_3 + 1)), (by first | rfl | (simp; done) | (simp only [← hji43] <;> (first | rfl | simp)) | (simp [*]; done)), (by first | rfl | (simp; done) | (simp [*]; done)), H', ⟨by have := HK1.out; have := HK2.out; have := HK3.out; have := HK4.out; omega⟩, ⟨by (with_reducible repeat (first | refine blk_drewN ?_ _ | refine blk_drew ?_ | refine blk_alloc ?_ _)); exact BK234.out⟩, ⟨by (with_reducible repeat (first | refine blk_drewN ?_ _ | refine blk_drew ?_ | refine blk_alloc ?_ _)); exact BK237.out⟩, ⟨by (with_reducible repeat (first | refine blk_drewN ?_ _ | refine blk_drew ?_ | refine blk_alloc ?_ _)); exact BK239.out⟩, ⟨by repeat (first | (with_reducible first | exact HB.out | apply below_alloc | apply pw_below_drewN | apply below_drew1 | refine below_set ?_ GE234.out | refine below_set ?_ GE237.out | refine below_set ?_ GE239.out | refine below_set ?_ GE242.out) | exact HB.out)⟩⟩
                                · rw [if_neg c26] at H
                                  exact absurd H (by simp)
                              · rw [if_neg c25] at H
                                exact absurd H (by simp)
                            · rw [if_neg c24] at H
                              have c24b0 : decide (x39_3 < (((rd_T109 ((rd_T103 l0_0 x20_1).f1) x27_2).f1).length : Int)) = false := decide_eq_false c24
                              clear c24
                              by_cases c44 : ((rd_T109 ((rd_T103 l0_0 x20_1).f1) x27_2).f0.f0) = 18
                              · rw [if_pos c44] at H
                                have c44b0 : (((rd_T109 ((rd_T103 l0_0 x20_1).f1) x27_2).f0.f0) == 18) = true := beq_iff_eq.mpr c44
                                have c44b1 : (((rd_T109 ((rd_T103 l0_0 x20_1).f1) x27_2).f0.f0) != 18) = false := bne_eq_false_iff_eq.mpr c44
                                clear c44
                                have H' := Aside0.mk H
                                clear H
                                have hnb45 := NB239_234.out
                                have hnc45 := NB234_239.out
                                have hnb46 := NB239_237.out
                                have hnc46 := NB237_239.out
                                have hcz47_0 : wr.cell? ⟨gb239, 0, none⟩ = some (.int .i64 ((rd_T109 ((rd_T103 l0_0 x20_1).f1) x27_2).f0.f0)) := (blk_cell BK239.out 0).trans rfl
                                have hcz47_1 : wr.cell? ⟨gb239, 1, none⟩ = some (.string ((rd_T109 ((rd_T103 l0_0 x20_1).f1) x27_2).f0.f1)) := (blk_cell BK239.out 1).trans rfl
                                have hcz47_2 : wr.cell? ⟨gb239, 2, none⟩ = some (.string ((rd_T109 ((rd_T103 l0_0 x20_1).f1) x27_2).f0.f2)) := (blk_cell BK239.out 2).trans rfl
                                have hcz47_3 : wr.cell? ⟨gb239, 3, none⟩ = some (.int .i64 ((rd_T109 ((rd_T103 l0_0 x20_1).f1) x27_2).f0.f3)) := (blk_cell BK239.out 3).trans rfl
                                have hcz47_4 : wr.cell? ⟨gb239, 4, none⟩ = some (.int .i64 ((rd_T109 ((rd_T103 l0_0 x20_1).f1) x27_2).f0.f4)) := (blk_cell BK239.out 4).trans rfl
                                have hcz47_5 : wr.cell? ⟨gb239, 5, none⟩ = some (.slice A238_5 ((rd_T109 ((rd_T103 l0_0 x20_1).f1) x27_2).f1).length c238_5) := (blk_cell BK239.out 5).trans rfl
                                have hfz47_0 := blk_frozen BK239.out 0
                                have hfz47_1 := blk_frozen BK239.out 1
                                have hfz47_2 := blk_frozen BK239.out 2
                                have hfz47_3 := blk_frozen BK239.out 3
                                have hfz47_4 := blk_frozen BK239.out 4
                                have hfz47_5 := blk_frozen BK239.out 5
                                go_wp2
                                go_roundg k3
                                case measure => have := HK1.out; have := HK2.out; have := HK3.out; omega
                                case rel => exact ⟨((wrap64 (x3_2 + t240))), (wrap64 (x27_2 + 1)), (by first | rfl | (simp; done) | (simp [*]; done)), (by first | rfl | (simp; done) | (simp [*]; done)), H', ⟨by have := HK1.out; have := HK2.out; have := HK3.out; omega⟩, ⟨by (with_reducible repeat (first | refine blk_drewN ?_ _ | refine blk_drew ?_ | refine blk_alloc ?_ _)); exact BK234.out⟩, ⟨by (with_reducible repeat (first | refine blk_drewN ?_ _ | refine blk_drew ?_ | refine blk_alloc ?_ _)); exact BK237.out⟩, ⟨by repeat (first | (with_reducible first | exact HB.out | apply below_alloc | apply pw_below_drewN | apply below_drew1 | refine below_set ?_ GE234.out | refine below_set ?_ GE237.out | refine below_set ?_ GE239.out) | exact HB.out)⟩⟩
                              · rw [if_neg c44] at H
                                have c44b0 : (((rd_T109 ((rd_T103 l0_0 x20_1).f1) x27_2).f0.f0) == 18) = false := beq_eq_false_iff_ne.mpr c44
                                have c44b1 : (((rd_T109 ((rd_T103 l0_0 x20_1).f1) x27_2).f0.f0) != 18) = true := bne_iff_ne.mpr c44
                                have H' := Aside0.mk H
                                clear H
                                have hnb48 := NB239_234.out
                                have hnc48 := NB234_239.out
                                have hnb49 := NB239_237.out
                                have hnc49 := NB237_239.out
                                have hcz50_0 : wr.cell? ⟨gb239, 0, none⟩ = some (.int .i64 ((rd_T109 ((rd_T103 l0_0 x20_1).f1) x27_2).f0.f0)) := (blk_cell BK239.out 0).trans rfl
                                have hcz50_1 : wr.cell? ⟨gb239, 1, none⟩ = some (.string ((rd_T109 ((rd_T103 l0_0 x20_1).f1) x27_2).f0.f1)) := (blk_cell BK239.out 1).trans rfl
                                have hcz50_2 : wr.cell? ⟨gb239, 2, none⟩ = some (.string ((rd_T109 ((rd_T103 l0_0 x20_1).f1) x27_2).f0.f2)) := (blk_cell BK239.out 2).trans rfl
                                have hcz50_3 : wr.cell? ⟨gb239, 3, none⟩ = some (.int .i64 ((rd_T109 ((rd_T103 l0_0 x20_1).f1) x27_2).f0.f3)) := (blk_cell BK239.out 3).trans rfl
                                have hcz50_4 : wr.cell? ⟨gb239, 4, none⟩ = some (.int .i64 ((rd_T109 ((rd_T103 l0_0 x20_1).f1) x27_2).f0.f4)) := (blk_cell BK239.out 4).trans rfl
                                have hcz50_5 : wr.cell? ⟨gb239, 5, none⟩ = some (.slice A238_5 ((rd_T109 ((rd_T103 l0_0 x20_1).f1) x27_2).f1).length c238_5) := (blk_cell BK239.out 5).trans rfl
                                have hfz50_0 := blk_frozen BK239.out 0
                                have hfz50_1 := blk_frozen BK239.out 1
                                have hfz50_2 := blk_frozen BK239.out 2
                                have hfz50_3 := blk_frozen BK239.out 3
                                have hfz50_4 := blk_frozen BK239.out 4
                                have hfz50_5 := blk_frozen BK239.out 5
                                go_wp2
                                go_roundg k3
                                case measure => have := HK1.out; have := HK2.out; have := HK3.out; omega
                                case rel => exact ⟨(wrap64 ((wrap64 (x3_2 + t240)) + x8_3)), (wrap64 (x27_2 + 1)), (by first | rfl | (simp; done) | (simp [*]; done)), (by first | rfl | (simp; done) | (simp [*]; done)), H', ⟨by have := HK1.out; have := HK2.out; have := HK3.out; omega⟩, ⟨by (with_reducible repeat (first | refine blk_drewN ?_ _ | refine blk_drew ?_ | refine blk_alloc ?_ _)); exact BK234.out⟩, ⟨by (with_reducible repeat (first | refine blk_drewN ?_ _ | refine blk_drew ?_ | refine blk_alloc ?_ _)); exact BK237.out⟩, ⟨by repeat (first | (with_reducible first | exact HB.out | apply below_alloc | apply pw_below_drewN | apply below_drew1 | refine below_set ?_ GE234.out | refine below_set ?_ GE237.out | refine below_set ?_ GE239.out) | exact HB.out)⟩⟩
                      · rw [if_neg c16] at H
                        exact absurd H (by simp)
                    · rw [if_neg c15] at H
                      exact absurd H (by simp)
                  · rw [if_neg c14] at H
                    have c14b0 : decide (x27_2 < (((rd_T103 l0_0 x20_1).f1).length : Int)) = false := decide_eq_false c14
                    clear c14
                    have H' := Aside0.mk H
                    clear H
                    go_wp2
                    go_roundg k2
                    case measure => have := HK1.out; have := HK2.out; omega
                    case rel => exact ⟨(x3_2), (wrap64 (x20_1 + 1)), (by first | rfl | (simp; done) | (simp [*]; done)), (by first | rfl | (simp; done) | (simp [*]; done)), H', ⟨by have := HK1.out; have := HK2.out; omega⟩, ⟨by (with_reducible repeat (first | refine blk_drewN ?_ _ | refine blk_drew ?_ | refine blk_alloc ?_ _)); exact BK234.out⟩, ⟨by repeat (first | (with_reducible first | exact HB.out | apply below_alloc | apply pw_below_drewN | apply below_drew1 | refine below_set ?_ GE234.out | refine below_set ?_ GE237.out) | exact HB.out)⟩⟩
            · rw [if_neg c10] at H
              exact absurd H (by simp)
          · rw [if_neg c9] at H
            exact absurd H (by simp)
        · rw [if_neg c8] at H
          have c8b0 : decide (x20_1 < (l0_0.length : Int)) = false := decide_eq_false c8
          clear c8
          obtain rfl := Option.some.inj H
          go_wp2
          go_ret
          exact ⟨by first | rfl | (simp [errW_none, errW_some] <;> rfl) | (simp [*, errW_none, errW_some] <;> rfl), by repeat (first | (with_reducible first | exact HB.out | apply below_alloc | apply pw_below_drewN | apply below_drew1 | refine below_set ?_ GE234.out) | exact HB.out)⟩
  · replace c3 := Bool.eq_false_iff.mpr c3
    subst c3
    have H1 : (some 0) = some r := by rw [if_neg (show ¬ (false = true) by decide)] at H; exact H
    clear H
    have H := H1
    clear H1
    obtain rfl := Option.some.inj H
    go_enter Try.func29, Try.ntmps29
    go_wp2_with (first | ((with_reducible refine gate_dst (N := 1) rfl ?_); refine box_event ?hg (N := 1) ?hd (cs := #[.slice A0_0 l0_0.length c0_0]) (t := 68) ?hr ?_; (case hd => rfl); (case hg => rfl); (case hr => first | (go_simp; done) | (go_simp; rfl)); intro gb234 hg w51 hbox hb; have n0_ := Aside0.mk (below_step (by repeat (first | (with_reducible first | exact HB.out | apply below_alloc | apply pw_below_drewN | apply below_drew1) | exact HB.out)) hb); have n1_ := Aside0.mk (hbox); have n2_ := Aside0.mk ((by rw [hg]; exact (below_size (by repeat (first | (with_reducible first | exact HB.out | apply below_alloc | apply pw_below_drewN | apply below_drew1) | exact HB.out))) : w.heap.size ≤ gb234)); have n3_ := Aside0.mk ((by rw [hg]; exact (below_size (by repeat (first | (with_reducible first | exact HB.out | apply below_alloc | apply pw_below_drewN | apply below_drew1) | exact HB.out))) : w.heap.size ≤ gb234)); clear HB; have HB := n0_; have BK234 := n1_; have GW234 := n2_; have GE234 := n3_; clear n0_ n1_ n2_ n3_; clear hb hbox hg; have hcz52_0 : w51.cell? ⟨gb234, 0, none⟩ = some (.slice A0_0 l0_0.length c0_0) := (blk_cell BK234.out 0).trans rfl; have hfz52_0 := blk_frozen BK234.out 0) | ((with_reducible refine gate_callee (f := 60) rfl ?_); refine goesL_ (some 15) rfl rfl Try.func60 (by kernel_rfl) rfl #[.agg #[.slice A0_0 l0_0.length c0_0]] rfl (by (try simp only [List.map_toArray, List.map_cons, List.map_nil]); first | done | rfl | (simp only [List.length_drop, List.length_take]; rfl)) ?_; (with_reducible refine (impl_SelectorOk.calls k _ _ l0_0 false _ ?side1 ?side2 A2.out).mono ?_); (case side1 => repeat (first | exact (Kd.C_below HR0_0.out HB.out) | (with_reducible refine Kd.C_alloc ?_ _) | (with_reducible refine Kd.C_drewN ?_ _) | (with_reducible refine Kd.C_drew ?_))); (case side2 => exact HC0_0.out); rintro e w53 ⟨rfl, hb⟩; refine ⟨_, rfl, ?_⟩; have n0_ := Aside0.mk (blk_below (g := gb234) (o := .cells #[.slice A0_0 l0_0.length c0_0] 68 (0, 0)) (by (with_reducible repeat (first | refine blk_drewN ?_ _ | refine blk_drew ?_ | refine blk_alloc ?_ _)); exact BK234.out) hb); have n1_ := Aside0.mk (below_step (by repeat (first | (with_reducible first | exact HB.out | apply below_alloc | apply pw_below_drewN | apply below_drew1 | refine below_set ?_ GE234.out) | exact HB.out)) hb); clear BK234; clear HB; have BK234 := n0_; have HB := n1_; clear n0_ n1_; (try clear hb); (try clear hb2); (try clear hk); (try clear hi)))
    go_ret
    exact ⟨by first | rfl | (simp [errW_none, errW_some] <;> rfl) | (simp [*, errW_none, errW_some] <;> rfl), by repeat (first | (with_reducible first | exact HB.out | apply below_alloc | apply pw_below_drewN | apply below_drew1 | refine below_set ?_ GE234.out) | exact HB.out)⟩

/-! ### laws_eqBasic: function 115 -/
def laws_eqBasic.f (a0_0 : Int) (a0_1 : ByteArray) (a0_2 : ByteArray) (a0_3 : Int) (a0_4 : Int) (a1_0 : Int) (a1_1 : ByteArray) (a1_2 : ByteArray) (a1_3 : Int) (a1_4 : Int) : Option (Bool) := if a0_0 = a1_0 then (if a0_1.toList = a1_1.toList then (if a0_2.toList = a1_2.toList then (if a0_3 = a1_3 then (if a0_4 = a1_4 then (some true) else (none)) else (none)) else (none)) else (none)) else (none)
set_option maxHeartbeats 8000000 in
set_option maxRecDepth 100000 in
theorem laws_eqBasic.calls (a0_0 : Int) (a0_1 : ByteArray) (a0_2 : ByteArray) (a0_3 : Int) (a0_4 : Int) (a1_0 : Int) (a1_1 : ByteArray) (a1_2 : ByteArray) (a1_3 : Int) (a1_4 : Int) (r : Bool) (w : World) (h : laws_eqBasic.f a0_0 a0_1 a0_2 a0_3 a0_4 a1_0 a1_1 a1_2 a1_3 a1_4 = some r) :
    Calls Try.prog 115 #[.agg #[.int .i64 a0_0, .string a0_1, .string a0_2, .int .i64 a0_3, .int .i64 a0_4], .agg #[.int .i64 a1_0, .string a1_1, .string a1_2, .int .i64 a1_3, .int .i64 a1_4]] w fun e w' => e = .returned (.bool r) ∧ Below w.heap.size w w' := by
  have hu106 := Try.underlying106
  have HB := Aside0.mk (Below.refl w.heap.size w)
  have H : (if a0_0 = a1_0 then (if a0_1.toList = a1_1.toList then (if a0_2.toList = a1_2.toList then (if a0_3 = a1_3 then (if a0_4 = a1_4 then (some true) else (none)) else (none)) else (none)) else (none)) else (none)) = some r := h
  clear h
  by_cases c3 : a0_0 = a1_0
  · rw [if_pos c3] at H
    have c3b0 : (a0_0 == a1_0) = true := beq_iff_eq.mpr c3
    have c3b1 : (a0_0 != a1_0) = false := bne_eq_false_iff_eq.mpr c3
    clear c3
    by_cases c4 : a0_1.toList = a1_1.toList
    · rw [if_pos c4] at H
      have c4b0 : (a0_1.toList == a1_1.toList) = true := beq_iff_eq.mpr c4
      have c4b1 : (a0_1.toList != a1_1.toList) = false := bne_eq_false_iff_eq.mpr c4
      clear c4
      by_cases c5 : a0_2.toList = a1_2.toList
      · rw [if_pos c5] at H
        have c5b0 : (a0_2.toList == a1_2.toList) = true := beq_iff_eq.mpr c5
        have c5b1 : (a0_2.toList != a1_2.toList) = false := bne_eq_false_iff_eq.mpr c5
        clear c5
        by_cases c6 : a0_3 = a1_3
        · rw [if_pos c6] at H
          have c6b0 : (a0_3 == a1_3) = true := beq_iff_eq.mpr c6
          have c6b1 : (a0_3 != a1_3) = false := bne_eq_false_iff_eq.mpr c6
          clear c6
          by_cases c7 : a0_4 = a1_4
          · rw [if_pos c7] at H
            have c7b0 : (a0_4 == a1_4) = true := beq_iff_eq.mpr c7
            have c7b1 : (a0_4 != a1_4) = false := bne_eq_false_iff_eq.mpr c7
            clear c7
            obtain rfl := Option.some.inj H
            go_enter Try.func115, Try.ntmps115
            go_wp2_with (first | ((with_reducible refine gate_dst (N := 2) rfl ?_); refine box_event ?hg (N := 2) ?hd (cs := #[.int .i64 a0_0, .string a0_1, .string a0_2, .int .i64 a0_3, .int .i64 a0_4]) (t := 106) ?hr ?_; (case hd => rfl); (case hg => rfl); (case hr => first | (go_simp; done) | (go_simp; rfl)); intro gb246 hg w8 hbox hb; have n0_ := Aside0.mk (below_step (by repeat (first | (with_reducible first | exact HB.out | apply below_alloc | apply pw_below_drewN | apply below_drew1) | exact HB.out)) hb); have n1_ := Aside0.mk (hbox); have n2_ := Aside0.mk ((by rw [hg]; exact (below_size (by repeat (first | (with_reducible first | exact HB.out | apply below_alloc | apply pw_below_drewN | apply below_drew1) | exact HB.out))) : w.heap.size ≤ gb246)); have n3_ := Aside0.mk ((by rw [hg]; exact (below_size (by repeat (first | (with_reducible first | exact HB.out | apply below_alloc | apply pw_below_drewN | apply below_drew1) | exact HB.out))) : w.heap.size ≤ gb246)); clear HB; have HB := n0_; have BK246 := n1_; have GW246 := n2_; have GE246 := n3_; clear n0_ n1_ n2_ n3_; clear hb hbox hg) | ((with_reducible refine gate_dst (N := 3) rfl ?_); refine box_event ?hg (N := 3) ?hd (cs := #[.int .i64 a1_0, .string a1_1, .string a1_2, .int .i64 a1_3, .int .i64 a1_4]) (t := 106) ?hr ?_; (case hd => rfl); (case hg => rfl); (case hr => first | (go_simp; done) | (go_simp; rfl)); intro gb247 hg w9 hbox hb; have n0_ := Aside0.mk (blk_below (g := gb246) (o := .cells #[.int .i64 a0_0, .string a0_1, .string a0_2, .int .i64 a0_3, .int .i64 a0_4] 106 (0, 0)) (by (with_reducible repeat (first | refine blk_drewN ?_ _ | refine blk_drew ?_ | refine blk_alloc ?_ _)); exact BK246.out) hb); have n1_ := Aside0.mk (below_step (by repeat (first | (with_reducible first | exact HB.out | apply below_alloc | apply pw_below_drewN | apply below_drew1 | refine below_set ?_ GE246.out) | exact HB.out)) hb); have n2_ := Aside0.mk (hbox); have n3_ := Aside0.mk ((by rw [hg]; exact (below_size (by repeat (first | (with_reducible first | exact HB.out | apply below_alloc | apply pw_below_drewN | apply below_drew1 | refine below_set ?_ GE246.out) | exact HB.out))) : w.heap.size ≤ gb247)); have n4_ := Aside0.mk ((by rw [hg]; exact (below_size (by repeat (first | (with_reducible first | exact HB.out | apply below_alloc | apply pw_below_drewN | apply below_drew1 | refine below_set ?_ GE246.out) | exact HB.out))) : w.heap.size ≤ gb247)); have n5_ := Aside0.mk ((by rw [hg]; exact Nat.ne_of_lt (blk_lt (g := gb246) (o := .cells #[.int .i64 a0_0, .string a0_1, .string a0_2, .int .i64 a0_3, .int .i64 a0_4] 106 (0, 0)) (by (with_reducible repeat (first | refine blk_drewN ?_ _ | refine blk_drew ?_ | refine blk_alloc ?_ _)); exact BK246.out)) : gb246 ≠ gb247)); have n6_ := Aside0.mk ((by rw [hg]; exact Nat.ne_of_gt (blk_lt (g := gb246) (o := .cells #[.int .i64 a0_0, .string a0_1, .string a0_2, .int .i64 a0_3, .int .i64 a0_4] 106 (0, 0)) (by (with_reducible repeat (first | refine blk_drewN ?_ _ | refine blk_drew ?_ | refine blk_alloc ?_ _)); exact BK246.out)) : gb247 ≠ gb246)); clear BK246; clear HB; have BK246 := n0_; have HB := n1_; have BK247 := n2_; have GW247 := n3_; have GE247 := n4_; have NB246_247 := n5_; have NB247_246 := n6_; clear n0_ n1_ n2_ n3_ n4_ n5_ n6_; clear hb hbox hg; have hnb10 := NB246_247.out; have hnc10 := NB247_246.out; have hcz11_0 : w9.cell? ⟨gb246, 0, none⟩ = some (.int .i64 a0_0) := (blk_cell BK246.out 0).trans rfl; have hcz11_1 : w9.cell? ⟨gb246, 1, none⟩ = some (.string a0_1) := (blk_cell BK246.out 1).trans rfl; have hcz11_2 : w9.cell? ⟨gb246, 2, none⟩ = some (.string a0_2) := (blk_cell BK246.out 2).trans rfl; have hcz11_3 : w9.cell? ⟨gb246, 3, none⟩ = some (.int .i64 a0_3) := (blk_cell BK246.out 3).trans rfl; have hcz11_4 : w9.cell? ⟨gb246, 4, none⟩ = some (.int .i64 a0_4) := (blk_cell BK246.out 4).trans rfl; have hfz11_0 := blk_frozen BK246.out 0; have hfz11_1 := blk_frozen BK246.out 1; have hfz11_2 := blk_frozen BK246.out 2; have hfz11_3 := blk_frozen BK246.out 3; have hfz11_4 := blk_frozen BK246.out 4; have hcz12_0 : w9.cell? ⟨gb247, 0, none⟩ = some (.int .i64 a1_0) := (blk_cell BK247.out 0).trans rfl; have hcz12_1 : w9.cell? ⟨gb247, 1, none⟩ = some (.string a1_1) := (blk_cell BK247.out 1).trans rfl; have hcz12_2 : w9.cell? ⟨gb247, 2, none⟩ = some (.string a1_2) := (blk_cell BK247.out 2).trans rfl; have hcz12_3 : w9.cell? ⟨gb247, 3, none⟩ = some (.int .i64 a1_3) := (blk_cell BK247.out 3).trans rfl; have hcz12_4 : w9.cell? ⟨gb247, 4, none⟩ = some (.int .i64 a1_4) := (blk_cell BK247.out 4).trans rfl; have hfz12_0 := blk_frozen BK247.out 0; have hfz12_1 := blk_frozen BK247.out 1; have hfz12_2 := blk_frozen BK247.out 2; have hfz12_3 := blk_frozen BK247.out 3; have hfz12_4 := blk_frozen BK247.out 4))
            go_ret
            exact ⟨by first | rfl | (simp [errW_none, errW_some] <;> rfl) | (simp [*, errW_none, errW_some] <;> rfl), by repeat (first | (with_reducible first | exact HB.out | apply below_alloc | apply pw_below_drewN | apply below_drew1 | refine below_set ?_ GE246.out | refine below_set ?_ GE247.out) | exact HB.out)⟩
          · rw [if_neg c7] at H
            exact absurd H (by simp)
        · rw [if_neg c6] at H
          exact absurd H (by simp)
      · rw [if_neg c5] at H
        exact absurd H (by simp)
    · rw [if_neg c4] at H
      exact absurd H (by simp)
  · rw [if_neg c3] at H
    exact absurd H (by simp)

end Go.Proofs.Ytjghahkecglgdaa.QFnExactSpecificity
