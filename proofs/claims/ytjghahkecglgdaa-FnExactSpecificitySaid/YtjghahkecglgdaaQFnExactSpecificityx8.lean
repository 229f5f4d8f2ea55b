/- Written by a program (wip/tools/own_print.py) out of the walk that the kit's printer made; turned where it fell. -/
import Derived.Test.YtjghahkecglgdaaQFnExactSpecificityx0
namespace Go.Proofs.Ytjghahkecglgdaa.QFnExactSpecificity
open Go.RowKit Go.Proofs.YtjghahkecglgdaaV.PrintWords Go.Proofs.YtjghahkecglgdaaV.PrintLast Go.Proofs.YtjghahkecglgdaaV.PrintMore
attribute [local go_sem] max2_int min2_int max_two min_two max_three min_three max_four min_four   -- for this text's walks alone
set_option linter.unusedVariables false
set_option linter.unusedSimpArgs false

/-! ### impl_basicOk: function 103 -/
mutual
def impl_basicOk.j0 : Nat → Bool → Bool → Int → ByteArray → ByteArray → Int → Int → Option (Bool)
  | 0, _, _, _, _, _, _, _ => none
  | k + 1, x1, x7, x220000, x220001, x220002, x220003, x220004 => if x220000 = 1 then (if x1 = true then (if x220001.toList = ([] : List UInt8) then (some x7) else (some false)) else (some false)) else (if x220000 = 2 then (if x1 = true then (if x220001.toList = ([] : List UInt8) then (some false) else (some x7)) else (some false)) else (if x220000 = 3 then (impl_basicOk.j1 k x7 x220000 (x220000 == 3) x220000 x220001 x220002 x220003 x220004) else (if x220000 = 4 then (impl_basicOk.j1 k x7 x220000 (x220000 == 4) x220000 x220001 x220002 x220003 x220004) else (impl_basicOk.j1 k x7 x220000 (x220000 == 5) x220000 x220001 x220002 x220003 x220004))))
def impl_basicOk.j1 : Nat → Bool → Int → Bool → Int → ByteArray → ByteArray → Int → Int → Option (Bool)
  | 0, _, _, _, _, _, _, _, _ => none
  | k + 1, x7, x22, x45, x220000, x220001, x220002, x220003, x220004 => if x45 = true then (if x220001.toList = ([] : List UInt8) then (some false) else (some x7)) else (if x22 = 6 then (impl_basicOk.j2 k x7 x22 (x22 == 6) x220000 x220001 x220002 x220003 x220004) else (if x22 = 7 then (impl_basicOk.j2 k x7 x22 (x22 == 7) x220000 x220001 x220002 x220003 x220004) else (if x22 = 8 then (impl_basicOk.j2 k x7 x22 (x22 == 8) x220000 x220001 x220002 x220003 x220004) else (if x22 = 9 then (impl_basicOk.j2 k x7 x22 (x22 == 9) x220000 x220001 x220002 x220003 x220004) else (impl_basicOk.j2 k x7 x22 (x22 == 10) x220000 x220001 x220002 x220003 x220004)))))
def impl_basicOk.j2 : Nat → Bool → Int → Bool → Int → ByteArray → ByteArray → Int → Int → Option (Bool)
  | 0, _, _, _, _, _, _, _, _ => none
  | k + 1, x7, x22, x55, x220000, x220001, x220002, x220003, x220004 => if x55 = true then (if x220001.toList = ([] : List UInt8) then (some false) else (if x220003 = 0 then (some (x220004 == 0)) else (some false))) else (if x22 = 13 then (if x220001.toList = ([] : List UInt8) then (if x220002.toList = ([] : List UInt8) then (if (mn x220003 x220004) ≥ (-1000000) then (some (decide ((mx x220003 x220004) ≤ 1000000))) else (some false)) else (some false)) else (some false)) else (if x22 = 11 then (if x220001.toList = ([] : List UInt8) then (some x7) else (some false)) else (if x22 = 12 then (if x220001.toList = ([] : List UInt8) then (some x7) else (some false)) else (if x22 = 14 then (if x220001.toList = ([] : List UInt8) then (some x7) else (some false)) else (if x22 = 15 then (if x220001.toList = ([] : List UInt8) then (some x7) else (some false)) else (some false))))))
end
def impl_basicOk.f (k : Nat) (a0_0 : Int) (a0_1 : ByteArray) (a0_2 : ByteArray) (a0_3 : Int) (a0_4 : Int) (a1 : Bool) (a2 : Bool) : Option (Bool) := if a0_2.toList = ([] : List UInt8) then (if a0_3 = 0 then (impl_basicOk.j0 k a1 (a0_4 == 0) a0_0 a0_1 a0_2 a0_3 a0_4) else (impl_basicOk.j0 k a1 false a0_0 a0_1 a0_2 a0_3 a0_4)) else (impl_basicOk.j0 k a1 false a0_0 a0_1 a0_2 a0_3 a0_4)
theorem impl_basicOk.mono_l : ∀ k, (∀ y0 y1 y2 y3 y4 y5 y6, LeO (impl_basicOk.j0 k y0 y1 y2 y3 y4 y5 y6) (impl_basicOk.j0 (k + 1) y0 y1 y2 y3 y4 y5 y6)) ∧ (∀ y0 y1 y2 y3 y4 y5 y6 y7, LeO (impl_basicOk.j1 k y0 y1 y2 y3 y4 y5 y6 y7) (impl_basicOk.j1 (k + 1) y0 y1 y2 y3 y4 y5 y6 y7)) ∧ (∀ y0 y1 y2 y3 y4 y5 y6 y7, LeO (impl_basicOk.j2 k y0 y1 y2 y3 y4 y5 y6 y7) (impl_basicOk.j2 (k + 1) y0 y1 y2 y3 y4 y5 y6 y7))
  | 0 => ⟨fun _ _ _ _ _ _ _ r h => by simp [impl_basicOk.j0] at h, fun _ _ _ _ _ _ _ _ r h => by simp [impl_basicOk.j1] at h, fun _ _ _ _ _ _ _ _ r h => by simp [impl_basicOk.j2] at h⟩
  | k + 1 => by
    obtain ⟨ih0, ih1, ih2⟩ := impl_basicOk.mono_l k
    refine ⟨?_, ?_, ?_⟩
    · intro y0 y1 y2 y3 y4 y5 y6
      unfold impl_basicOk.j0
      repeat' first
      | (with_reducible exact ih0 _ _ _ _ _ _ _)
      | (with_reducible exact ih1 _ _ _ _ _ _ _ _)
      | (with_reducible exact ih2 _ _ _ _ _ _ _ _)
      | (with_reducible exact LeO.refl _)
      | (with_reducible exact LeO.none _)
      | (with_reducible refine LeO.ite ?_ ?_)
      | (with_reducible refine LeO.bind ?_ (fun _ => ?_))
      | exact ih0 _ _ _ _ _ _ _
      | exact ih1 _ _ _ _ _ _ _ _
      | exact ih2 _ _ _ _ _ _ _ _
      | exact LeO.none _
      | refine LeO.ite ?_ ?_
      | refine LeO.bind ?_ (fun _ => ?_)
    · intro y0 y1 y2 y3 y4 y5 y6 y7
      unfold impl_basicOk.j1
      repeat' first
      | (with_reducible exact ih0 _ _ _ _ _ _ _)
      | (with_reducible exact ih1 _ _ _ _ _ _ _ _)
      | (with_reducible exact ih2 _ _ _ _ _ _ _ _)
      | (with_reducible exact LeO.refl _)
      | (with_reducible exact LeO.none _)
      | (with_reducible refine LeO.ite ?_ ?_)
      | (with_reducible refine LeO.bind ?_ (fun _ => ?_))
      | exact ih0 _ _ _ _ _ _ _
      | exact ih1 _ _ _ _ _ _ _ _
      | exact ih2 _ _ _ _ _ _ _ _
      | exact LeO.none _
      | refine LeO.ite ?_ ?_
      | refine LeO.bind ?_ (fun _ => ?_)
    · intro y0 y1 y2 y3 y4 y5 y6 y7
      unfold impl_basicOk.j2
      repeat' first
      | (with_reducible exact ih0 _ _ _ _ _ _ _)
      | (with_reducible exact ih1 _ _ _ _ _ _ _ _)
      | (with_reducible exact ih2 _ _ _ _ _ _ _ _)
      | (with_reducible exact LeO.refl _)
      | (with_reducible exact LeO.none _)
      | (with_reducible refine LeO.ite ?_ ?_)
      | (with_reducible refine LeO.bind ?_ (fun _ => ?_))
      | exact ih0 _ _ _ _ _ _ _
      | exact ih1 _ _ _ _ _ _ _ _
      | exact ih2 _ _ _ _ _ _ _ _
      | exact LeO.none _
      | refine LeO.ite ?_ ?_
      | refine LeO.bind ?_ (fun _ => ?_)
theorem impl_basicOk.mono : ∀ a0 a1 a2 a3 a4 a5 a6 k, LeO (impl_basicOk.f k a0 a1 a2 a3 a4 a5 a6) (impl_basicOk.f (k + 1) a0 a1 a2 a3 a4 a5 a6) := by
  intro a0 a1 a2 a3 a4 a5 a6 k
  obtain ⟨ih0, ih1, ih2⟩ := impl_basicOk.mono_l k
  unfold impl_basicOk.f
  repeat' first
      | (with_reducible exact ih0 _ _ _ _ _ _ _)
      | (with_reducible exact ih1 _ _ _ _ _ _ _ _)
      | (with_reducible exact ih2 _ _ _ _ _ _ _ _)
      | (with_reducible exact LeO.refl _)
      | (with_reducible exact LeO.none _)
      | (with_reducible refine LeO.ite ?_ ?_)
      | (with_reducible refine LeO.bind ?_ (fun _ => ?_))
      | exact ih0 _ _ _ _ _ _ _
      | exact ih1 _ _ _ _ _ _ _ _
      | exact ih2 _ _ _ _ _ _ _ _
      | exact LeO.none _
      | refine LeO.ite ?_ ?_
      | refine LeO.bind ?_ (fun _ => ?_)
set_option maxHeartbeats 8000000 in
set_option maxRecDepth 100000 in
theorem impl_basicOk.calls (k : Nat) (a0_0 : Int) (a0_1 : ByteArray) (a0_2 : ByteArray) (a0_3 : Int) (a0_4 : Int) (a1 : Bool) (a2 : Bool) (r : Bool) (w : World) (h : impl_basicOk.f k a0_0 a0_1 a0_2 a0_3 a0_4 a1 a2 = some r) :
    Calls Try.prog 103 #[.agg #[.int .i64 a0_0, .string a0_1, .string a0_2, .int .i64 a0_3, .int .i64 a0_4], .bool a1, .bool a2] w fun e w' => e = .returned (.bool r) ∧ Below w.heap.size w w' := by
  have hu106 := Try.underlying106
  have HB := Aside0.mk (Below.refl w.heap.size w)
  have H : (if a0_2.toList = ([] : List UInt8) then (if a0_3 = 0 then (impl_basicOk.j0 k a1 (a0_4 == 0) a0_0 a0_1 a0_2 a0_3 a0_4) else (impl_basicOk.j0 k a1 false a0_0 a0_1 a0_2 a0_3 a0_4)) else (impl_basicOk.j0 k a1 false a0_0 a0_1 a0_2 a0_3 a0_4)) = some r := h
  clear h
  have HC4 := Aside0.mk H
  clear H
  go_enter Try.func103, Try.ntmps103
  go_upto_region 1 with (first | ((with_reducible refine gate_dst (N := 3) rfl ?_); (try (refine gate_guard (by rfl) ?_; dsimp only)); refine box_event ?hg (N := 3) ?hd (cs := #[.int .i64 a0_0, .string a0_1, .string a0_2, .int .i64 a0_3, .int .i64 a0_4]) (t := 106) ?hr ?_; (case hd => rfl); (case hg => rfl); (case hr => first | (go_simp; done) | (go_simp; rfl)); intro gb219 hg w5 hbox hb; have n0_ := Aside0.mk (below_step (by repeat (first | (with_reducible first | exact HB.out | apply below_alloc | apply pw_below_drewN | apply below_drew1) | exact HB.out)) hb); have n1_ := Aside0.mk (hbox); have n2_ := Aside0.mk ((by rw [hg]; exact (below_size (by repeat (first | (with_reducible first | exact HB.out | apply below_alloc | apply pw_below_drewN | apply below_drew1) | exact HB.out))) : w.heap.size ≤ gb219)); have n3_ := Aside0.mk ((by rw [hg]; exact (below_size (by repeat (first | (with_reducible first | exact HB.out | apply below_alloc | apply pw_below_drewN | apply below_drew1) | exact HB.out))) : w.heap.size ≤ gb219)); clear HB; have HB := n0_; have BK219 := n1_; have GW219 := n2_; have GE219 := n3_; clear n0_ n1_ n2_ n3_; clear hb hbox hg))
  (try simp only [Act.put, List.setIfInBounds_toArray, List.set_cons_zero, List.set_cons_succ])
  go_cut [7] (fun v7 wc => ∃ (kq : Nat) (x7_3 : Bool), v7 = .bool x7_3 ∧ Aside0 (impl_basicOk.j0 kq a1 x7_3 a0_0 a0_1 a0_2 a0_3 a0_4 = some r) ∧ Aside0 (kq ≤ k) ∧ Aside0 (wc.heap[gb219]? = some (.cells #[.int .i64 a0_0, .string a0_1, .string a0_2, .int .i64 a0_3, .int .i64 a0_4] 106 (0, 0))) ∧ Aside0 (Below w.heap.size w wc))
  case first =>
    have H := HC4.out
    clear HC4
    by_cases c6 : a0_2.toList = ([] : List UInt8)
    · rw [if_pos c6] at H
      have c6b0 : (a0_2.toList == ([] : List UInt8)) = true := beq_iff_eq.mpr c6
      have c6b1 : (a0_2.toList != ([] : List UInt8)) = false := bne_eq_false_iff_eq.mpr c6
      clear c6
      (first | rw [c6b0] | (simp only [i64_w, i32_w]; rw [c6b0]) | rw [c6b1] | skip)
      by_cases c7 : a0_3 = 0
      · rw [if_pos c7] at H
        have c7b0 : (a0_3 == 0) = true := beq_iff_eq.mpr c7
        have c7b1 : (a0_3 != 0) = false := bne_eq_false_iff_eq.mpr c7
        clear c7
        have H' := Aside0.mk H
        clear H
        have hcz8_0 : w5.cell? ⟨gb219, 0, none⟩ = some (.int .i64 a0_0) := (blk_cell BK219.out 0).trans rfl
        have hcz8_1 : w5.cell? ⟨gb219, 1, none⟩ = some (.string a0_1) := (blk_cell BK219.out 1).trans rfl
        have hcz8_2 : w5.cell? ⟨gb219, 2, none⟩ = some (.string a0_2) := (blk_cell BK219.out 2).trans rfl
        have hcz8_3 : w5.cell? ⟨gb219, 3, none⟩ = some (.int .i64 a0_3) := (blk_cell BK219.out 3).trans rfl
        have hcz8_4 : w5.cell? ⟨gb219, 4, none⟩ = some (.int .i64 a0_4) := (blk_cell BK219.out 4).trans rfl
        have hfz8_0 := blk_frozen BK219.out 0
        have hfz8_1 := blk_frozen BK219.out 1
        have hfz8_2 := blk_frozen BK219.out 2
        have hfz8_3 := blk_frozen BK219.out 3
        have hfz8_4 := blk_frozen BK219.out 4
        go_wp2
        go_meet
        case rel => exact ⟨_, ((a0_4 == 0)), (by first | rfl | (simp; done) | (simp [*]; done)), H', ⟨by first | omega | exact Nat.le_refl _⟩, ⟨by (with_reducible repeat (first | refine blk_drewN ?_ _ | refine blk_drew ?_ | refine blk_alloc ?_ _)); exact BK219.out⟩, ⟨by repeat (first | (with_reducible first | exact HB.out | apply below_alloc | apply pw_below_drewN | apply below_drew1 | refine below_set ?_ GE219.out) | exact HB.out)⟩⟩
      · rw [if_neg c7] at H
        have c7b0 : (a0_3 == 0) = false := beq_eq_false_iff_ne.mpr c7
        have c7b1 : (a0_3 != 0) = true := bne_iff_ne.mpr c7
        have H' := Aside0.mk H
        clear H
        have hcz9_0 : w5.cell? ⟨gb219, 0, none⟩ = some (.int .i64 a0_0) := (blk_cell BK219.out 0).trans rfl
        have hcz9_1 : w5.cell? ⟨gb219, 1, none⟩ = some (.string a0_1) := (blk_cell BK219.out 1).trans rfl
        have hcz9_2 : w5.cell? ⟨gb219, 2, none⟩ = some (.string a0_2) := (blk_cell BK219.out 2).trans rfl
        have hcz9_3 : w5.cell? ⟨gb219, 3, none⟩ = some (.int .i64 a0_3) := (blk_cell BK219.out 3).trans rfl
        have hcz9_4 : w5.cell? ⟨gb219, 4, none⟩ = some (.int .i64 a0_4) := (blk_cell BK219.out 4).trans rfl
        have hfz9_0 := blk_frozen BK219.out 0
        have hfz9_1 := blk_frozen BK219.out 1
        have hfz9_2 := blk_frozen BK219.out 2
        have hfz9_3 := blk_frozen BK219.out 3
        have hfz9_4 := blk_frozen BK219.out 4
        go_wp2
        go_meet
        case rel => exact ⟨_, (false), (by first | rfl | (simp; done) | (simp [*]; done)), H', ⟨by first | omega | exact Nat.le_refl _⟩, ⟨by (with_reducible repeat (first | refine blk_drewN ?_ _ | refine blk_drew ?_ | refine blk_alloc ?_ _)); exact BK219.out⟩, ⟨by repeat (first | (with_reducible first | exact HB.out | apply below_alloc | apply pw_below_drewN | apply below_drew1 | refine below_set ?_ GE219.out) | exact HB.out)⟩⟩
    · rw [if_neg c6] at H
      have c6b0 : (a0_2.toList == ([] : List UInt8)) = false := beq_eq_false_iff_ne.mpr c6
      have c6b1 : (a0_2.toList != ([] : List UInt8)) = true := bne_iff_ne.mpr c6
      (first | rw [c6b0] | (simp only [i64_w, i32_w]; rw [c6b0]) | rw [c6b1] | skip)
      have H' := Aside0.mk H
      clear H
      have hcz10_0 : w5.cell? ⟨gb219, 0, none⟩ = some (.int .i64 a0_0) := (blk_cell BK219.out 0).trans rfl
      have hcz10_1 : w5.cell? ⟨gb219, 1, none⟩ = some (.string a0_1) := (blk_cell BK219.out 1).trans rfl
      have hcz10_2 : w5.cell? ⟨gb219, 2, none⟩ = some (.string a0_2) := (blk_cell BK219.out 2).trans rfl
      have hcz10_3 : w5.cell? ⟨gb219, 3, none⟩ = some (.int .i64 a0_3) := (blk_cell BK219.out 3).trans rfl
      have hcz10_4 : w5.cell? ⟨gb219, 4, none⟩ = some (.int .i64 a0_4) := (blk_cell BK219.out 4).trans rfl
      have hfz10_0 := blk_frozen BK219.out 0
      have hfz10_1 := blk_frozen BK219.out 1
      have hfz10_2 := blk_frozen BK219.out 2
      have hfz10_3 := blk_frozen BK219.out 3
      have hfz10_4 := blk_frozen BK219.out 4
      go_wp2
      go_meet
      case rel => exact ⟨_, (false), (by first | rfl | (simp; done) | (simp [*]; done)), H', ⟨by first | omega | exact Nat.le_refl _⟩, ⟨by (with_reducible repeat (first | refine blk_drewN ?_ _ | refine blk_drew ?_ | refine blk_alloc ?_ _)); exact BK219.out⟩, ⟨by repeat (first | (with_reducible first | exact HB.out | apply below_alloc | apply pw_below_drewN | apply below_drew1 | refine below_set ?_ GE219.out) | exact HB.out)⟩⟩
  case rest =>
    clear HC4
    try clear c1
    try clear p2
    try clear c6
    try clear c6b0
    try clear c6b1
    try clear c7
    try clear c7b0
    try clear c7b1
    try clear c10
    try clear hcz10_0
    try clear hcz10_1
    try clear hcz10_2
    try clear hcz10_3
    try clear hcz10_4
    try clear hcz8_0
    try clear hcz8_1
    try clear hcz8_2
    try clear hcz8_3
    try clear hcz8_4
    try clear hcz9_0
    try clear hcz9_1
    try clear hcz9_2
    try clear hcz9_3
    try clear hcz9_4
    try clear hfz10_0
    try clear hfz10_1
    try clear hfz10_2
    try clear hfz10_3
    try clear hfz10_4
    try clear hfz8_0
    try clear hfz8_1
    try clear hfz8_2
    try clear hfz8_3
    try clear hfz8_4
    try clear hfz9_0
    try clear hfz9_1
    try clear hfz9_2
    try clear hfz9_3
    try clear hfz9_4
    obtain ⟨kq, x7_3, rfl, HA, HJ3, BK219, HB⟩ := hcut
    cases kq with
    | zero => exact absurd HA.out (by simp [impl_basicOk.j0])
    | succ kj3 =>
      have H := HA.out
      clear HA
      simp only [impl_basicOk.j0] at H
      by_cases c11 : a0_0 = 1
      · rw [if_pos c11] at H
        have c11b0 : (a0_0 == 1) = true := beq_iff_eq.mpr c11
        have c11b1 : (a0_0 != 1) = false := bne_eq_false_iff_eq.mpr c11
        clear c11
        by_cases c12 : a1 = true
        · subst c12
          have H1 : (if a0_1.toList = ([] : List UInt8) then (some x7_3) else (some false)) = some r := by rw [if_pos rfl] at H; exact H
          clear H
          have H := H1
          clear H1
          by_cases c13 : a0_1.toList = ([] : List UInt8)
          · rw [if_pos c13] at H
            have c13b0 : (a0_1.toList == ([] : List UInt8)) = true := beq_iff_eq.mpr c13
            have c13b1 : (a0_1.toList != ([] : List UInt8)) = false := bne_eq_false_iff_eq.mpr c13
            clear c13
            obtain rfl := Option.some.inj H
            have hcz14_0 : wc.cell? ⟨gb219, 0, none⟩ = some (.int .i64 a0_0) := (blk_cell BK219.out 0).trans rfl
            have hcz14_1 : wc.cell? ⟨gb219, 1, none⟩ = some (.string a0_1) := (blk_cell BK219.out 1).trans rfl
            have hcz14_2 : wc.cell? ⟨gb219, 2, none⟩ = some (.string a0_2) := (blk_cell BK219.out 2).trans rfl
            have hcz14_3 : wc.cell? ⟨gb219, 3, none⟩ = some (.int .i64 a0_3) := (blk_cell BK219.out 3).trans rfl
            have hcz14_4 : wc.cell? ⟨gb219, 4, none⟩ = some (.int .i64 a0_4) := (blk_cell BK219.out 4).trans rfl
            have hfz14_0 := blk_frozen BK219.out 0
            have hfz14_1 := blk_frozen BK219.out 1
            have hfz14_2 := blk_frozen BK219.out 2
            have hfz14_3 := blk_frozen BK219.out 3
            have hfz14_4 := blk_frozen BK219.out 4
            go_wp2
            go_ret
            exact ⟨by first | rfl | (simp [errW_none, errW_some] <;> rfl) | (simp [*, errW_none, errW_some] <;> rfl), by repeat (first | (with_reducible first | exact HB.out | apply below_alloc | apply pw_below_drewN | apply below_drew1 | refine below_set ?_ GE219.out) | exact HB.out)⟩
          · rw [if_neg c13] at H
            have c13b0 : (a0_1.toList == ([] : List UInt8)) = false := beq_eq_false_iff_ne.mpr c13
            have c13b1 : (a0_1.toList != ([] : List UInt8)) = true := bne_iff_ne.mpr c13
            obtain rfl := Option.some.inj H
            have hcz15_0 : wc.cell? ⟨gb219, 0, none⟩ = some (.int .i64 a0_0) := (blk_cell BK219.out 0).trans rfl
            have hcz15_1 : wc.cell? ⟨gb219, 1, none⟩ = some (.string a0_1) := (blk_cell BK219.out 1).trans rfl
            have hcz15_2 : wc.cell? ⟨gb219, 2, none⟩ = some (.string a0_2) := (blk_cell BK219.out 2).trans rfl
            have hcz15_3 : wc.cell? ⟨gb219, 3, none⟩ = some (.int .i64 a0_3) := (blk_cell BK219.out 3).trans rfl
            have hcz15_4 : wc.cell? ⟨gb219, 4, none⟩ = some (.int .i64 a0_4) := (blk_cell BK219.out 4).trans rfl
            have hfz15_0 := blk_frozen BK219.out 0
            have hfz15_1 := blk_frozen BK219.out 1
            have hfz15_2 := blk_frozen BK219.out 2
            have hfz15_3 := blk_frozen BK219.out 3
            have hfz15_4 := blk_frozen BK219.out 4
            go_wp2
            go_ret
            exact ⟨by first | rfl | (simp [errW_none, errW_some] <;> rfl) | (simp [*, errW_none, errW_some] <;> rfl), by repeat (first | (with_reducible first | exact HB.out | apply below_alloc | apply pw_below_drewN | apply below_drew1 | refine below_set ?_ GE219.out) | exact HB.out)⟩
        · replace c12 := Bool.eq_false_iff.mpr c12
          subst c12
          have H1 : (some false) = some r := by rw [if_neg (show ¬ (false = true) by decide)] at H; exact H
          clear H
          have H := H1
          clear H1
          obtain rfl := Option.some.inj H
          have hcz16_0 : wc.cell? ⟨gb219, 0, none⟩ = some (.int .i64 a0_0) := (blk_cell BK219.out 0).trans rfl
          have hcz16_1 : wc.cell? ⟨gb219, 1, none⟩ = some (.string a0_1) := (blk_cell BK219.out 1).trans rfl
          have hcz16_2 : wc.cell? ⟨gb219, 2, none⟩ = some (.string a0_2) := (blk_cell BK219.out 2).trans rfl
          have hcz16_3 : wc.cell? ⟨gb219, 3, none⟩ = some (.int .i64 a0_3) := (blk_cell BK219.out 3).trans rfl
          have hcz16_4 : wc.cell? ⟨gb219, 4, none⟩ = some (.int .i64 a0_4) := (blk_cell BK219.out 4).trans rfl
          have hfz16_0 := blk_frozen BK219.out 0
          have hfz16_1 := blk_frozen BK219.out 1
          have hfz16_2 := blk_frozen BK219.out 2
          have hfz16_3 := blk_frozen BK219.out 3
          have hfz16_4 := blk_frozen BK219.out 4
          go_wp2
          go_ret
          exact ⟨by first | rfl | (simp [errW_none, errW_some] <;> rfl) | (simp [*, errW_none, errW_some] <;> rfl), by repeat (first | (with_reducible first | exact HB.out | apply below_alloc | apply pw_below_drewN | apply below_drew1 | refine below_set ?_ GE219.out) | exact HB.out)⟩
      · rw [if_neg c11] at H
        have c11b0 : (a0_0 == 1) = false := beq_eq_false_iff_ne.mpr c11
        have c11b1 : (a0_0 != 1) = true := bne_iff_ne.mpr c11
        by_cases c17 : a0_0 = 2
        · rw [if_pos c17] at H
          have c17b0 : (a0_0 == 2) = true := beq_iff_eq.mpr c17
          have c17b1 : (a0_0 != 2) = false := bne_eq_false_iff_eq.mpr c17
          clear c17
          by_cases c18 : a1 = true
          · subst c18
            have H1 : (if a0_1.toList = ([] : List UInt8) then (some false) else (some x7_3)) = some r := by rw [if_pos rfl] at H; exact H
            clear H
            have H := H1
            clear H1
            by_cases c19 : a0_1.toList = ([] : List UInt8)
            · rw [if_pos c19] at H
              have c19b0 : (a0_1.toList == ([] : List UInt8)) = true := beq_iff_eq.mpr c19
              have c19b1 : (a0_1.toList != ([] : List UInt8)) = false := bne_eq_false_iff_eq.mpr c19
              clear c19
              obtain rfl := Option.some.inj H
              have hcz20_0 : wc.cell? ⟨gb219, 0, none⟩ = some (.int .i64 a0_0) := (blk_cell BK219.out 0).trans rfl
              have hcz20_1 : wc.cell? ⟨gb219, 1, none⟩ = some (.string a0_1) := (blk_cell BK219.out 1).trans rfl
              have hcz20_2 : wc.cell? ⟨gb219, 2, none⟩ = some (.string a0_2) := (blk_cell BK219.out 2).trans rfl
              have hcz20_3 : wc.cell? ⟨gb219, 3, none⟩ = some (.int .i64 a0_3) := (blk_cell BK219.out 3).trans rfl
              have hcz20_4 : wc.cell? ⟨gb219, 4, none⟩ = some (.int .i64 a0_4) := (blk_cell BK219.out 4).trans rfl
              have hfz20_0 := blk_frozen BK219.out 0
              have hfz20_1 := blk_frozen BK219.out 1
              have hfz20_2 := blk_frozen BK219.out 2
              have hfz20_3 := blk_frozen BK219.out 3
              have hfz20_4 := blk_frozen BK219.out 4
              go_wp2
              go_ret
              exact ⟨by first | rfl | (simp [errW_none, errW_some] <;> rfl) | (simp [*, errW_none, errW_some] <;> rfl), by repeat (first | (with_reducible first | exact HB.out | apply below_alloc | apply pw_below_drewN | apply below_drew1 | refine below_set ?_ GE219.out) | exact HB.out)⟩
            · rw [if_neg c19] at H
              have c19b0 : (a0_1.toList == ([] : List UInt8)) = false := beq_eq_false_iff_ne.mpr c19
              have c19b1 : (a0_1.toList != ([] : List UInt8)) = true := bne_iff_ne.mpr c19
              obtain rfl := Option.some.inj H
              have hcz21_0 : wc.cell? ⟨gb219, 0, none⟩ = some (.int .i64 a0_0) := (blk_cell BK219.out 0).trans rfl
              have hcz21_1 : wc.cell? ⟨gb219, 1, none⟩ = some (.string a0_1) := (blk_cell BK219.out 1).trans rfl
              have hcz21_2 : wc.cell? ⟨gb219, 2, none⟩ = some (.string a0_2) := (blk_cell BK219.out 2).trans rfl
              have hcz21_3 : wc.cell? ⟨gb219, 3, none⟩ = some (.int .i64 a0_3) := (blk_cell BK219.out 3).trans rfl
              have hcz21_4 : wc.cell? ⟨gb219, 4, none⟩ = some (.int .i64 a0_4) := (blk_cell BK219.out 4).trans rfl
              have hfz21_0 := blk_frozen BK219.out 0
              have hfz21_1 := blk_frozen BK219.out 1
              have hfz21_2 := blk_frozen BK219.out 2
              have hfz21_3 := blk_frozen BK219.out 3
              have hfz21_4 := blk_frozen BK219.out 4
              go_wp2
              go_ret
              exact ⟨by first | rfl | (simp [errW_none, errW_some] <;> rfl) | (simp [*, errW_none, errW_some] <;> rfl), by repeat (first | (with_reducible first | exact HB.out | apply below_alloc | apply pw_below_drewN | apply below_drew1 | refine below_set ?_ GE219.out) | exact HB.out)⟩
          · replace c18 := Bool.eq_false_iff.mpr c18
            subst c18
            have H1 : (some false) = some r := by rw [if_neg (show ¬ (false = true) by decide)] at H; exact H
            clear H
            have H := H1
            clear H1
            obtain rfl := Option.some.inj H
            have hcz22_0 : wc.cell? ⟨gb219, 0, none⟩ = some (.int .i64 a0_0) := (blk_cell BK219.out 0).trans rfl
            have hcz22_1 : wc.cell? ⟨gb219, 1, none⟩ = some (.string a0_1) := (blk_cell BK219.out 1).trans rfl
            have hcz22_2 : wc.cell? ⟨gb219, 2, none⟩ = some (.string a0_2) := (blk_cell BK219.out 2).trans rfl
            have hcz22_3 : wc.cell? ⟨gb219, 3, none⟩ = some (.int .i64 a0_3) := (blk_cell BK219.out 3).trans rfl
            have hcz22_4 : wc.cell? ⟨gb219, 4, none⟩ = some (.int .i64 a0_4) := (blk_cell BK219.out 4).trans rfl
            have hfz22_0 := blk_frozen BK219.out 0
            have hfz22_1 := blk_frozen BK219.out 1
            have hfz22_2 := blk_frozen BK219.out 2
            have hfz22_3 := blk_frozen BK219.out 3
            have hfz22_4 := blk_frozen BK219.out 4
            go_wp2
            go_ret
            exact ⟨by first | rfl | (simp [errW_none, errW_some] <;> rfl) | (simp [*, errW_none, errW_some] <;> rfl), by repeat (first | (with_reducible first | exact HB.out | apply below_alloc | apply pw_below_drewN | apply below_drew1 | refine below_set ?_ GE219.out) | exact HB.out)⟩
        · rw [if_neg c17] at H
          have c17b0 : (a0_0 == 2) = false := beq_eq_false_iff_ne.mpr c17
          have c17b1 : (a0_0 != 2) = true := bne_iff_ne.mpr c17
          have HC23 := Aside0.mk H
          clear H
          have hcz24_0 : wc.cell? ⟨gb219, 0, none⟩ = some (.int .i64 a0_0) := (blk_cell BK219.out 0).trans rfl
          have hcz24_1 : wc.cell? ⟨gb219, 1, none⟩ = some (.string a0_1) := (blk_cell BK219.out 1).trans rfl
          have hcz24_2 : wc.cell? ⟨gb219, 2, none⟩ = some (.string a0_2) := (blk_cell BK219.out 2).trans rfl
          have hcz24_3 : wc.cell? ⟨gb219, 3, none⟩ = some (.int .i64 a0_3) := (blk_cell BK219.out 3).trans rfl
          have hcz24_4 : wc.cell? ⟨gb219, 4, none⟩ = some (.int .i64 a0_4) := (blk_cell BK219.out 4).trans rfl
          have hfz24_0 := blk_frozen BK219.out 0
          have hfz24_1 := blk_frozen BK219.out 1
          have hfz24_2 := blk_frozen BK219.out 2
          have hfz24_3 := blk_frozen BK219.out 3
          have hfz24_4 := blk_frozen BK219.out 4
          go_upto_if 45 with (fail)
          go_cut [45] (fun v45 wc => ∃ (kq : Nat) (x45_22 : Bool), v45 = .bool x45_22 ∧ Aside0 (impl_basicOk.j1 kq x7_3 a0_0 x45_22 a0_0 a0_1 a0_2 a0_3 a0_4 = some r) ∧ Aside0 (kq ≤ kj3) ∧ Aside0 (wc.heap[gb219]? = some (.cells #[.int .i64 a0_0, .string a0_1, .string a0_2, .int .i64 a0_3, .int .i64 a0_4] 106 (0, 0))) ∧ Aside0 (Below w.heap.size w wc))
          case first =>
            have H := HC23.out
            clear HC23
            by_cases c25 : a0_0 = 3
            · rw [if_pos c25] at H
              have c25b0 : (a0_0 == 3) = true := beq_iff_eq.mpr c25
              have c25b1 : (a0_0 != 3) = false := bne_eq_false_iff_eq.mpr c25
              clear c25
              (first | rw [c25b0] | (simp only [i64_w, i32_w]; rw [c25b0]) | rw [c25b1] | skip)
              have H' := Aside0.mk H
              clear H
              go_wp2
              go_meet
              case rel => exact ⟨_, ((a0_0 == 3)), (by first | rfl | (simp; done) | (simp [*]; done)), H', ⟨by have := HJ3.out; first | omega | exact Nat.le_refl _⟩, ⟨by (with_reducible repeat (first | refine blk_drewN ?_ _ | refine blk_drew ?_ | refine blk_alloc ?_ _)); exact BK219.out⟩, ⟨by repeat (first | (with_reducible first | exact HB.out | apply below_alloc | apply pw_below_drewN | apply below_drew1 | refine below_set ?_ GE219.out) | exact HB.out)⟩⟩
            · rw [if_neg c25] at H
              have c25b0 : (a0_0 == 3) = false := beq_eq_false_iff_ne.mpr c25
              have c25b1 : (a0_0 != 3) = true := bne_iff_ne.mpr c25
              (first | rw [c25b0] | (simp only [i64_w, i32_w]; rw [c25b0]) | rw [c25b1] | skip)
              by_cases c26 : a0_0 = 4
              · rw [if_pos c26] at H
                have c26b0 : (a0_0 == 4) = true := beq_iff_eq.mpr c26
                have c26b1 : (a0_0 != 4) = false := bne_eq_false_iff_eq.mpr c26
                clear c26
                have H' := Aside0.mk H
                clear H
                go_wp2
                go_meet
                case rel => exact ⟨_, ((a0_0 == 4)), (by first | rfl | (simp; done) | (simp [*]; done)), H', ⟨by have := HJ3.out; first | omega | exact Nat.le_refl _⟩, ⟨by (with_reducible repeat (first | refine blk_drewN ?_ _ | refine blk_drew ?_ | refine blk_alloc ?_ _)); exact BK219.out⟩, ⟨by repeat (first | (with_reducible first | exact HB.out | apply below_alloc | apply pw_below_drewN | apply below_drew1 | refine below_set ?_ GE219.out) | exact HB.out)⟩⟩
              · rw [if_neg c26] at H
                have c26b0 : (a0_0 == 4) = false := beq_eq_false_iff_ne.mpr c26
                have c26b1 : (a0_0 != 4) = true := bne_iff_ne.mpr c26
                have H' := Aside0.mk H
                clear H
                go_wp2
                go_meet
                case rel => exact ⟨_, ((a0_0 == 5)), (by first | rfl | (simp; done) | (simp [*]; done)), H', ⟨by have := HJ3.out; first | omega | exact Nat.le_refl _⟩, ⟨by (with_reducible repeat (first | refine blk_drewN ?_ _ | refine blk_drew ?_ | refine blk_alloc ?_ _)); exact BK219.out⟩, ⟨by repeat (first | (with_reducible first | exact HB.out | apply below_alloc | apply pw_below_drewN | apply below_drew1 | refine below_set ?_ GE219.out) | exact HB.out)⟩⟩
          case rest =>
            clear HC23
            try clear c1
            try clear c2
            try clear p2
            try clear c6
            try clear c6b0
            try clear c6b1
            try clear c7
            try clear c7b0
            try clear c7b1
            try clear c10
            try clear c11
            try clear c11b0
            try clear c11b1
            try clear c12
            try clear c13
            try clear c13b0
            try clear c13b1
            try clear c17
            try clear c17b0
            try clear c17b1
            try clear c18
            try clear c19
            try clear c19b0
            try clear c19b1
            try clear c25
            try clear c25b0
            try clear c25b1
            try clear c26
            try clear c26b0
            try clear c26b1
            try clear hcz10_0
            try clear hcz10_1
            try clear hcz10_2
            try clear hcz10_3
            try clear hcz10_4
            try clear hcz14_0
            try clear hcz14_1
            try clear hcz14_2
            try clear hcz14_3
            try clear hcz14_4
            try clear hcz15_0
            try clear hcz15_1
            try clear hcz15_2
            try clear hcz15_3
            try clear hcz15_4
            try clear hcz16_0
            try clear hcz16_1
            try clear hcz16_2
            try clear hcz16_3
            try clear hcz16_4
            try clear hcz20_0
            try clear hcz20_1
            try clear hcz20_2
            try clear hcz20_3
            try clear hcz20_4
            try clear hcz21_0
            try clear hcz21_1
            try clear hcz21_2
            try clear hcz21_3
            try clear hcz21_4
            try clear hcz22_0
            try clear hcz22_1
            try clear hcz22_2
            try clear hcz22_3
            try clear hcz22_4
            try clear hcz24_0
            try clear hcz24_1
            try clear hcz24_2
            try clear hcz24_3
            try clear hcz24_4
            try clear hcz8_0
            try clear hcz8_1
            try clear hcz8_2
            try clear hcz8_3
            try clear hcz8_4
            try clear hcz9_0
            try clear hcz9_1
            try clear hcz9_2
            try clear hcz9_3
            try clear hcz9_4
            try clear hfz10_0
            try clear hfz10_1
            try clear hfz10_2
            try clear hfz10_3
            try clear hfz10_4
            try clear hfz14_0
            try clear hfz14_1
            try clear hfz14_2
            try clear hfz14_3
            try clear hfz14_4
            try clear hfz15_0
            try clear hfz15_1
            try clear hfz15_2
            try clear hfz15_3
            try clear hfz15_4
            try clear hfz16_0
            try clear hfz16_1
            try clear hfz16_2
            try clear hfz16_3
            try clear hfz16_4
            try clear hfz20_0
            try clear hfz20_1
            try clear hfz20_2
            try clear hfz20_3
            try clear hfz20_4
            try clear hfz21_0
            try clear hfz21_1
            try clear hfz21_2
            try clear hfz21_3
            try clear hfz21_4
            try clear hfz22_0
            try clear hfz22_1
            try clear hfz22_2
            try clear hfz22_3
            try clear hfz22_4
            try clear hfz24_0
            try clear hfz24_1
            try clear hfz24_2
            try clear hfz24_3
            try clear hfz24_4
            try clear hfz8_0
            try clear hfz8_1
            try clear hfz8_2
            try clear hfz8_3
            try clear hfz8_4
            try clear hfz9_0
            try clear hfz9_1
            try clear hfz9_2
            try clear hfz9_3
            try clear hfz9_4
            try clear p2
            obtain ⟨kq, x45_22, rfl, HA, HJ22, BK219, HB⟩ := hcut
            cases kq with
            | zero => exact absurd HA.out (by simp [impl_basicOk.j1])
            | succ kj22 =>
              have H := HA.out
              clear HA
              simp only [impl_basicOk.j1] at H
              by_cases c27 : x45_22 = true
              · subst c27
                have H1 : (if a0_1.toList = ([] : List UInt8) then (some false) else (some x7_3)) = some r := by rw [if_pos rfl] at H; exact H
                clear H
                have H := H1
                clear H1
                by_cases c28 : a0_1.toList = ([] : List UInt8)
                · rw [if_pos c28] at H
                  have c28b0 : (a0_1.toList == ([] : List UInt8)) = true := beq_iff_eq.mpr c28
                  have c28b1 : (a0_1.toList != ([] : List UInt8)) = false := bne_eq_false_iff_eq.mpr c28
                  clear c28
                  obtain rfl := Option.some.inj H
                  have hcz29_0 : wc.cell? ⟨gb219, 0, none⟩ = some (.int .i64 a0_0) := (blk_cell BK219.out 0).trans rfl
                  have hcz29_1 : wc.cell? ⟨gb219, 1, none⟩ = some (.string a0_1) := (blk_cell BK219.out 1).trans rfl
                  have hcz29_2 : wc.cell? ⟨gb219, 2, none⟩ = some (.string a0_2) := (blk_cell BK219.out 2).trans rfl
                  have hcz29_3 : wc.cell? ⟨gb219, 3, none⟩ = some (.int .i64 a0_3) := (blk_cell BK219.out 3).trans rfl
                  have hcz29_4 : wc.cell? ⟨gb219, 4, none⟩ = some (.int .i64 a0_4) := (blk_cell BK219.out 4).trans rfl
                  have hfz29_0 := blk_frozen BK219.out 0
                  have hfz29_1 := blk_frozen BK219.out 1
                  have hfz29_2 := blk_frozen BK219.out 2
                  have hfz29_3 := blk_frozen BK219.out 3
                  have hfz29_4 := blk_frozen BK219.out 4
                  go_wp2
                  go_ret
                  exact ⟨by first | rfl | (simp [errW_none, errW_some] <;> rfl) | (simp [*, errW_none, errW_some] <;> rfl), by repeat (first | (with_reducible first | exact HB.out | apply below_alloc | apply pw_below_drewN | apply below_drew1 | refine below_set ?_ GE219.out) | exact HB.out)⟩
                · rw [if_neg c28] at H
                  have c28b0 : (a0_1.toList == ([] : List UInt8)) = false := beq_eq_false_iff_ne.mpr c28
                  have c28b1 : (a0_1.toList != ([] : List UInt8)) = true := bne_iff_ne.mpr c28
                  obtain rfl := Option.some.inj H
                  have hcz30_0 : wc.cell? ⟨gb219, 0, none⟩ = some (.int .i64 a0_0) := (blk_cell BK219.out 0).trans rfl
                  have hcz30_1 : wc.cell? ⟨gb219, 1, none⟩ = some (.string a0_1) := (blk_cell BK219.out 1).trans rfl
                  have hcz30_2 : wc.cell? ⟨gb219, 2, none⟩ = some (.string a0_2) := (blk_cell BK219.out 2).trans rfl
                  have hcz30_3 : wc.cell? ⟨gb219, 3, none⟩ = some (.int .i64 a0_3) := (blk_cell BK219.out 3).trans rfl
                  have hcz30_4 : wc.cell? ⟨gb219, 4, none⟩ = some (.int .i64 a0_4) := (blk_cell BK219.out 4).trans rfl
                  have hfz30_0 := blk_frozen BK219.out 0
                  have hfz30_1 := blk_frozen BK219.out 1
                  have hfz30_2 := blk_frozen BK219.out 2
                  have hfz30_3 := blk_frozen BK219.out 3
                  have hfz30_4 := blk_frozen BK219.out 4
                  go_wp2
                  go_ret
                  exact ⟨by first | rfl | (simp [errW_none, errW_some] <;> rfl) | (simp [*, errW_none, errW_some] <;> rfl), by repeat (first | (with_reducible first | exact HB.out | apply below_alloc | apply pw_below_drewN | apply below_drew1 | refine below_set ?_ GE219.out) | exact HB.out)⟩
              · replace c27 := Bool.eq_false_iff.mpr c27
                subst c27
                have H1 : (if a0_0 = 6 then (impl_basicOk.j2 kj22 x7_3 a0_0 (a0_0 == 6) a0_0 a0_1 a0_2 a0_3 a0_4) else (if a0_0 = 7 then (impl_basicOk.j2 kj22 x7_3 a0_0 (a0_0 == 7) a0_0 a0_1 a0_2 a0_3 a0_4) else (if a0_0 = 8 then (impl_basicOk.j2 kj22 x7_3 a0_0 (a0_0 == 8) a0_0 a0_1 a0_2 a0_3 a0_4) else (if a0_0 = 9 then (impl_basicOk.j2 kj22 x7_3 a0_0 (a0_0 == 9) a0_0 a0_1 a0_2 a0_3 a0_4) else (impl_basicOk.j2 kj22 x7_3 a0_0 (a0_0 == 10) a0_0 a0_1 a0_2 a0_3 a0_4))))) = some r := by rw [if_neg (show ¬ (false = true) by decide)] at H; exact H
                clear H
                have H := H1
                clear H1
                have HC31 := Aside0.mk H
                clear H
                go_upto_if 55 with (fail)
                go_cut [55] (fun v55 wc => ∃ (kq : Nat) (x55_30 : Bool), v55 = .bool x55_30 ∧ Aside0 (impl_basicOk.j2 kq x7_3 a0_0 x55_30 a0_0 a0_1 a0_2 a0_3 a0_4 = some r) ∧ Aside0 (kq ≤ kj22) ∧ Aside0 (wc.heap[gb219]? = some (.cells #[.int .i64 a0_0, .string a0_1, .string a0_2, .int .i64 a0_3, .int .i64 a0_4] 106 (0, 0))) ∧ Aside0 (Below w.heap.size w wc))
                case first =>
                  have H := HC31.out
                  clear HC31
                  by_cases c32 : a0_0 = 6
                  · rw [if_pos c32] at H
                    have c32b0 : (a0_0 == 6) = true := beq_iff_eq.mpr c32
                    have c32b1 : (a0_0 != 6) = false := bne_eq_false_iff_eq.mpr c32
                    clear c32
                    (first | rw [c32b0] | (simp only [i64_w, i32_w]; rw [c32b0]) | rw [c32b1] | skip)
                    have H' := Aside0.mk H
                    clear H
                    go_wp2
                    go_meet
                    case rel => exact ⟨_, ((a0_0 == 6)), (by first | rfl | (simp; done) | (simp [*]; done)), H', ⟨by have := HJ3.out; have := HJ22.out; first | omega | exact Nat.le_refl _⟩, ⟨by (with_reducible repeat (first | refine blk_drewN ?_ _ | refine blk_drew ?_ | refine blk_alloc ?_ _)); exact BK219.out⟩, ⟨by repeat (first | (with_reducible first | exact HB.out | apply below_alloc | apply pw_below_drewN | apply below_drew1 | refine below_set ?_ GE219.out) | exact HB.out)⟩⟩
                  · rw [if_neg c32] at H
                    have c32b0 : (a0_0 == 6) = false := beq_eq_false_iff_ne.mpr c32
                    have c32b1 : (a0_0 != 6) = true := bne_iff_ne.mpr c32
                    (first | rw [c32b0] | (simp only [i64_w, i32_w]; rw [c32b0]) | rw [c32b1] | skip)
                    by_cases c33 : a0_0 = 7
                    · rw [if_pos c33] at H
                      have c33b0 : (a0_0 == 7) = true := beq_iff_eq.mpr c33
                      have c33b1 : (a0_0 != 7) = false := bne_eq_false_iff_eq.mpr c33
                      clear c33
                      have H' := Aside0.mk H
                      clear H
                      go_wp2
                      go_meet
                      case rel => exact ⟨_, ((a0_0 == 7)), (by first | rfl | (simp; done) | (simp [*]; done)), H', ⟨by have := HJ3.out; have := HJ22.out; first | omega | exact Nat.le_refl _⟩, ⟨by (with_reducible repeat (first | refine blk_drewN ?_ _ | refine blk_drew ?_ | refine blk_alloc ?_ _)); exact BK219.out⟩, ⟨by repeat (first | (with_reducible first | exact HB.out | apply below_alloc | apply pw_below_drewN | apply below_drew1 | refine below_set ?_ GE219.out) | exact HB.out)⟩⟩
                    · rw [if_neg c33] at H
                      have c33b0 : (a0_0 == 7) = false := beq_eq_false_iff_ne.mpr c33
                      have c33b1 : (a0_0 != 7) = true := bne_iff_ne.mpr c33
                      by_cases c34 : a0_0 = 8
                      · rw [if_pos c34] at H
                        have c34b0 : (a0_0 == 8) = true := beq_iff_eq.mpr c34
                        have c34b1 : (a0_0 != 8) = false := bne_eq_false_iff_eq.mpr c34
                        clear c34
                        have H' := Aside0.mk H
                        clear H
                        go_wp2
                        go_meet
                        case rel => exact ⟨_, ((a0_0 == 8)), (by first | rfl | (simp; done) | (simp [*]; done)), H', ⟨by have := HJ3.out; have := HJ22.out; first | omega | exact Nat.le_refl _⟩, ⟨by (with_reducible repeat (first | refine blk_drewN ?_ _ | refine blk_drew ?_ | refine blk_alloc ?_ _)); exact BK219.out⟩, ⟨by repeat (first | (with_reducible first | exact HB.out | apply below_alloc | apply pw_below_drewN | apply below_drew1 | refine below_set ?_ GE219.out) | exact HB.out)⟩⟩
                      · rw [if_neg c34] at H
                        have c34b0 : (a0_0 == 8) = false := beq_eq_false_iff_ne.mpr c34
                        have c34b1 : (a0_0 != 8) = true := bne_iff_ne.mpr c34
                        by_cases c35 : a0_0 = 9
                        · rw [if_pos c35] at H
                          have c35b0 : (a0_0 == 9) = true := beq_iff_eq.mpr c35
                          have c35b1 : (a0_0 != 9) = false := bne_eq_false_iff_eq.mpr c35
                          clear c35
                          have H' := Aside0.mk H
                          clear H
                          go_wp2
                          go_meet
                          case rel => exact ⟨_, ((a0_0 == 9)), (by first | rfl | (simp; done) | (simp [*]; done)), H', ⟨by have := HJ3.out; have := HJ22.out; first | omega | exact Nat.le_refl _⟩, ⟨by (with_reducible repeat (first | refine blk_drewN ?_ _ | refine blk_drew ?_ | refine blk_alloc ?_ _)); exact BK219.out⟩, ⟨by repeat (first | (with_reducible first | exact HB.out | apply below_alloc | apply pw_below_drewN | apply below_drew1 | refine below_set ?_ GE219.out) | exact HB.out)⟩⟩
                        · rw [if_neg c35] at H
                          have c35b0 : (a0_0 == 9) = false := beq_eq_false_iff_ne.mpr c35
                          have c35b1 : (a0_0 != 9) = true := bne_iff_ne.mpr c35
                          have H' := Aside0.mk H
                          clear H
                          go_wp2
                          go_meet
                          case rel => exact ⟨_, ((a0_0 == 10)), (by first | rfl | (simp; done) | (simp [*]; done)), H', ⟨by have := HJ3.out; have := HJ22.out; first | omega | exact Nat.le_refl _⟩, ⟨by (with_reducible repeat (first | refine blk_drewN ?_ _ | refine blk_drew ?_ | refine blk_alloc ?_ _)); exact BK219.out⟩, ⟨by repeat (first | (with_reducible first | exact HB.out | apply below_alloc | apply pw_below_drewN | apply below_drew1 | refine below_set ?_ GE219.out) | exact HB.out)⟩⟩
                case rest =>
                  clear HC31
                  try clear c1
                  try clear c2
                  try clear p2
                  try clear c3
                  try clear c6
                  try clear c6b0
                  try clear c6b1
                  try clear c7
                  try clear c7b0
                  try clear c7b1
                  try clear c10
                  try clear c11
                  try clear c11b0
                  try clear c11b1
                  try clear c12
                  try clear c13
                  try clear c13b0
                  try clear c13b1
                  try clear c17
                  try clear c17b0
                  try clear c17b1
                  try clear c18
                  try clear c19
                  try clear c19b0
                  try clear c19b1
                  try clear c25
                  try clear c25b0
                  try clear c25b1
                  try clear c26
                  try clear c26b0
                  try clear c26b1
                  try clear c27
                  try clear c28
                  try clear c28b0
                  try clear c28b1
                  try clear c32
                  try clear c32b0
                  try clear c32b1
                  try clear c33
                  try clear c33b0
                  try clear c33b1
                  try clear c34
                  try clear c34b0
                  try clear c34b1
                  try clear c35
                  try clear c35b0
                  try clear c35b1
                  try clear hcz10_0
                  try clear hcz10_1
                  try clear hcz10_2
                  try clear hcz10_3
                  try clear hcz10_4
                  try clear hcz14_0
                  try clear hcz14_1
                  try clear hcz14_2
                  try clear hcz14_3
                  try clear hcz14_4
                  try clear hcz15_0
                  try clear hcz15_1
                  try clear hcz15_2
                  try clear hcz15_3
                  try clear hcz15_4
                  try clear hcz16_0
                  try clear hcz16_1
                  try clear hcz16_2
                  try clear hcz16_3
                  try clear hcz16_4
                  try clear hcz20_0
                  try clear hcz20_1
                  try clear hcz20_2
                  try clear hcz20_3
                  try clear hcz20_4
                  try clear hcz21_0
                  try clear hcz21_1
                  try clear hcz21_2
                  try clear hcz21_3
                  try clear hcz21_4
                  try clear hcz22_0
                  try clear hcz22_1
                  try clear hcz22_2
                  try clear hcz22_3
                  try clear hcz22_4
                  try clear hcz24_0
                  try clear hcz24_1
                  try clear hcz24_2
                  try clear hcz24_3
                  try clear hcz24_4
                  try clear hcz29_0
                  try clear hcz29_1
                  try clear hcz29_2
                  try clear hcz29_3
                  try clear hcz29_4
                  try clear hcz30_0
                  try clear hcz30_1
                  try clear hcz30_2
                  try clear hcz30_3
                  try clear hcz30_4
                  try clear hcz8_0
                  try clear hcz8_1
                  try clear hcz8_2
                  try clear hcz8_3
                  try clear hcz8_4
                  try clear hcz9_0
                  try clear hcz9_1
                  try clear hcz9_2
                  try clear hcz9_3
                  try clear hcz9_4
                  try clear hfz10_0
                  try clear hfz10_1
                  try clear hfz10_2
                  try clear hfz10_3
                  try clear hfz10_4
                  try clear hfz14_0
                  try clear hfz14_1
                  try clear hfz14_2
                  try clear hfz14_3
                  try clear hfz14_4
                  try clear hfz15_0
                  try clear hfz15_1
                  try clear hfz15_2
                  try clear hfz15_3
                  try clear hfz15_4
                  try clear hfz16_0
                  try clear hfz16_1
                  try clear hfz16_2
                  try clear hfz16_3
                  try clear hfz16_4
                  try clear hfz20_0
                  try clear hfz20_1
                  try clear hfz20_2
                  try clear hfz20_3
                  try clear hfz20_4
                  try clear hfz21_0
                  try clear hfz21_1
                  try clear hfz21_2
                  try clear hfz21_3
                  try clear hfz21_4
                  try clear hfz22_0
                  try clear hfz22_1
                  try clear hfz22_2
                  try clear hfz22_3
                  try clear hfz22_4
                  try clear hfz24_0
                  try clear hfz24_1
                  try clear hfz24_2
                  try clear hfz24_3
                  try clear hfz24_4
                  try clear hfz29_0
                  try clear hfz29_1
                  try clear hfz29_2
                  try clear hfz29_3
                  try clear hfz29_4
                  try clear hfz30_0
                  try clear hfz30_1
                  try clear hfz30_2
                  try clear hfz30_3
                  try clear hfz30_4
                  try clear hfz8_0
                  try clear hfz8_1
                  try clear hfz8_2
                  try clear hfz8_3
                  try clear hfz8_4
                  try clear hfz9_0
                  try clear hfz9_1
                  try clear hfz9_2
                  try clear hfz9_3
                  try clear hfz9_4
                  try clear p2
                  obtain ⟨kq, x55_30, rfl, HA, HJ30, BK219, HB⟩ := hcut
                  cases kq with
                  | zero => exact absurd HA.out (by simp [impl_basicOk.j2])
                  | succ kj30 =>
                    have H := HA.out
                    clear HA
                    simp only [impl_basicOk.j2] at H
                    by_cases c36 : x55_30 = true
                    · subst c36
                      have H1 : (if a0_1.toList = ([] : List UInt8) then (some false) else (if a0_3 = 0 then (some (a0_4 == 0)) else (some false))) = some r := by rw [if_pos rfl] at H; exact H
                      clear H
                      have H := H1
                      clear H1
                      by_cases c37 : a0_1.toList = ([] : List UInt8)
                      · rw [if_pos c37] at H
                        have c37b0 : (a0_1.toList == ([] : List UInt8)) = true := beq_iff_eq.mpr c37
                        have c37b1 : (a0_1.toList != ([] : List UInt8)) = false := bne_eq_false_iff_eq.mpr c37
                        clear c37
                        obtain rfl := Option.some.inj H
                        have hcz38_0 : wc.cell? ⟨gb219, 0, none⟩ = some (.int .i64 a0_0) := (blk_cell BK219.out 0).trans rfl
                        have hcz38_1 : wc.cell? ⟨gb219, 1, none⟩ = some (.string a0_1) := (blk_cell BK219.out 1).trans rfl
                        have hcz38_2 : wc.cell? ⟨gb219, 2, none⟩ = some (.string a0_2) := (blk_cell BK219.out 2).trans rfl
                        have hcz38_3 : wc.cell? ⟨gb219, 3, none⟩ = some (.int .i64 a0_3) := (blk_cell BK219.out 3).trans rfl
                        have hcz38_4 : wc.cell? ⟨gb219, 4, none⟩ = some (.int .i64 a0_4) := (blk_cell BK219.out 4).trans rfl
                        have hfz38_0 := blk_frozen BK219.out 0
                        have hfz38_1 := blk_frozen BK219.out 1
                        have hfz38_2 := blk_frozen BK219.out 2
                        have hfz38_3 := blk_frozen BK219.out 3
                        have hfz38_4 := blk_frozen BK219.out 4
                        go_wp2
                        go_ret
                        exact ⟨by first | rfl | (simp [errW_none, errW_some] <;> rfl) | (simp [*, errW_none, errW_some] <;> rfl), by repeat (first | (with_reducible first | exact HB.out | apply below_alloc | apply pw_below_drewN | apply below_drew1 | refine below_set ?_ GE219.out) | exact HB.out)⟩
                      · rw [if_neg c37] at H
                        have c37b0 : (a0_1.toList == ([] : List UInt8)) = false := beq_eq_false_iff_ne.mpr c37
                        have c37b1 : (a0_1.toList != ([] : List UInt8)) = true := bne_iff_ne.mpr c37
                        by_cases c39 : a0_3 = 0
                        · rw [if_pos c39] at H
                          have c39b0 : (a0_3 == 0) = true := beq_iff_eq.mpr c39
                          have c39b1 : (a0_3 != 0) = false := bne_eq_false_iff_eq.mpr c39
                          clear c39
                          obtain rfl := Option.some.inj H
                          have hcz40_0 : wc.cell? ⟨gb219, 0, none⟩ = some (.int .i64 a0_0) := (blk_cell BK219.out 0).trans rfl
                          have hcz40_1 : wc.cell? ⟨gb219, 1, none⟩ = some (.string a0_1) := (blk_cell BK219.out 1).trans rfl
                          have hcz40_2 : wc.cell? ⟨gb219, 2, none⟩ = some (.string a0_2) := (blk_cell BK219.out 2).trans rfl
                          have hcz40_3 : wc.cell? ⟨gb219, 3, none⟩ = some (.int .i64 a0_3) := (blk_cell BK219.out 3).trans rfl
                          have hcz40_4 : wc.cell? ⟨gb219, 4, none⟩ = some (.int .i64 a0_4) := (blk_cell BK219.out 4).trans rfl
                          have hfz40_0 := blk_frozen BK219.out 0
                          have hfz40_1 := blk_frozen BK219.out 1
                          have hfz40_2 := blk_frozen BK219.out 2
                          have hfz40_3 := blk_frozen BK219.out 3
                          have hfz40_4 := blk_frozen BK219.out 4
                          go_wp2
                          go_ret
                          exact ⟨by first | rfl | (simp [errW_none, errW_some] <;> rfl) | (simp [*, errW_none, errW_some] <;> rfl), by repeat (first | (with_reducible first | exact HB.out | apply below_alloc | apply pw_below_drewN | apply below_drew1 | refine below_set ?_ GE219.out) | exact HB.out)⟩
                        · rw [if_neg c39] at H
                          have c39b0 : (a0_3 == 0) = false := beq_eq_false_iff_ne.mpr c39
                          have c39b1 : (a0_3 != 0) = true := bne_iff_ne.mpr c39
                          obtain rfl := Option.some.inj H
                          have hcz41_0 : wc.cell? ⟨gb219, 0, none⟩ = some (.int .i64 a0_0) := (blk_cell BK219.out 0).trans rfl
                          have hcz41_1 : wc.cell? ⟨gb219, 1, none⟩ = some (.string a0_1) := (blk_cell BK219.out 1).trans rfl
                          have hcz41_2 : wc.cell? ⟨gb219, 2, none⟩ = some (.string a0_2) := (blk_cell BK219.out 2).trans rfl
                          have hcz41_3 : wc.cell? ⟨gb219, 3, none⟩ = some (.int .i64 a0_3) := (blk_cell BK219.out 3).trans rfl
                          have hcz41_4 : wc.cell? ⟨gb219, 4, none⟩ = some (.int .i64 a0_4) := (blk_cell BK219.out 4).trans rfl
                          have hfz41_0 := blk_frozen BK219.out 0
                          have hfz41_1 := blk_frozen BK219.out 1
                          have hfz41_2 := blk_frozen BK219.out 2
                          have hfz41_3 := blk_frozen BK219.out 3
                          have hfz41_4 := blk_frozen BK219.out 4
                          go_wp2
                          go_ret
                          exact ⟨by first | rfl | (simp [errW_none, errW_some] <;> rfl) | (simp [*, errW_none, errW_some] <;> rfl), by repeat (first | (with_reducible first | exact HB.out | apply below_alloc | apply pw_below_drewN | apply below_drew1 | refine below_set ?_ GE219.out) | exact HB.out)⟩
                    · replace c36 := Bool.eq_false_iff.mpr c36
                      subst c36
                      have H1 : (if a0_0 = 13 then (if a0_1.toList = ([] : List UInt8) then (if a0_2.toList = ([] : List UInt8) then (if (mn a0_3 a0_4) ≥ (-1000000) then (some (decide ((mx a0_3 a0_4) ≤ 1000000))) else (some false)) else (some false)) else (some false)) else (if a0_0 = 11 then (if a0_1.toList = ([] : List UInt8) then (some x7_3) else (some false)) else (if a0_0 = 12 then (if a0_1.toList = ([] : List UInt8) then (some x7_3) else (some false)) else (if a0_0 = 14 then (if a0_1.toList = ([] : List UInt8) then (some x7_3) else (some false)) else (if a0_0 = 15 then (if a0_1.toList = ([] : List UInt8) then (some x7_3) else (some false)) else (some false)))))) = some r := by rw [if_neg (show ¬ (false = true) by decide)] at H; exact H
                      clear H
                      have H := H1
                      clear H1
                      by_cases c42 : a0_0 = 13
                      · rw [if_pos c42] at H
                        have c42b0 : (a0_0 == 13) = true := beq_iff_eq.mpr c42
                        have c42b1 : (a0_0 != 13) = false := bne_eq_false_iff_eq.mpr c42
                        clear c42
                        by_cases c43 : a0_1.toList = ([] : List UInt8)
                        · rw [if_pos c43] at H
                          have c43b0 : (a0_1.toList == ([] : List UInt8)) = true := beq_iff_eq.mpr c43
                          have c43b1 : (a0_1.toList != ([] : List UInt8)) = false := bne_eq_false_iff_eq.mpr c43
                          clear c43
                          by_cases c44 : a0_2.toList = ([] : List UInt8)
                          · rw [if_pos c44] at H
                            have c44b0 : (a0_2.toList == ([] : List UInt8)) = true := beq_iff_eq.mpr c44
                            have c44b1 : (a0_2.toList != ([] : List UInt8)) = false := bne_eq_false_iff_eq.mpr c44
                            clear c44
                            obtain ⟨ji45, hji45⟩ : ∃ j_ : Int, (mn a0_3 a0_4) = j_ := ⟨_, rfl⟩
                            replace H : (if (ji45) ≥ (-1000000) then (some (decide ((mx a0_3 a0_4) ≤ 1000000))) else (some false)) = some r := by first | (rw [hji45] at H; exact H) | (simp only [hji45] at H ⊢; exact H)
                            have hji45_ : (if a0_4 < a0_3 then a0_4 else a0_3) = ji45 := hji45
                            by_cases c46 : (ji45) ≥ (-1000000)
                            · rw [if_pos c46] at H
                              have c46b0 : decide ((-1000000) ≤ (ji45)) = true := decide_eq_true c46
                              clear c46
                              obtain ⟨ji47, hji47⟩ : ∃ j_ : Int, (mx a0_3 a0_4) = j_ := ⟨_, rfl⟩
                              replace H : (some (decide ((ji47) ≤ 1000000))) = some r := by first | (rw [hji47] at H; exact H) | (simp only [hji47] at H ⊢; exact H)
                              have hji47_ : (if a0_3 < a0_4 then a0_4 else a0_3) = ji47 := hji47
                              obtain rfl := Option.some.inj H
                              have hcz48_0 : wc.cell? ⟨gb219, 0, none⟩ = some (.int .i64 a0_0) := (blk_cell BK219.out 0).trans rfl
                              have hcz48_1 : wc.cell? ⟨gb219, 1, none⟩ = some (.string a0_1) := (blk_cell BK219.out 1).trans rfl
                              have hcz48_2 : wc.cell? ⟨gb219, 2, none⟩ = some (.string a0_2) := (blk_cell BK219.out 2).trans rfl
                              have hcz48_3 : wc.cell? ⟨gb219, 3, none⟩ = some (.int .i64 a0_3) := (blk_cell BK219.out 3).trans rfl
                              have hcz48_4 : wc.cell? ⟨gb219, 4, none⟩ = some (.int .i64 a0_4) := (blk_cell BK219.out 4).trans rfl
                              have hfz48_0 := blk_frozen BK219.out 0
                              have hfz48_1 := blk_frozen BK219.out 1
                              have hfz48_2 := blk_frozen BK219.out 2
                              have hfz48_3 := blk_frozen BK219.out 3
                              have hfz48_4 := blk_frozen BK219.out 4
                              go_wp2
                              go_ret
                              exact ⟨by first | rfl | (simp [errW_none, errW_some] <;> rfl) | (simp only [← hji45, ← hji47]; first | rfl | (simp [errW_none, errW_some] <;> rfl)) | (simp [*, errW_none, errW_some] <;> rfl), by repeat (first | (with_reducible first | exact HB.out | apply below_alloc | apply pw_below_drewN | apply below_drew1 | refine below_set ?_ GE219.out) | exact HB.out)⟩
                            · rw [if_neg c46] at H
                              have c46b0 : decide ((-1000000) ≤ (ji45)) = false := decide_eq_false c46
                              clear c46
                              obtain rfl := Option.some.inj H
                              have hcz49_0 : wc.cell? ⟨gb219, 0, none⟩ = some (.int .i64 a0_0) := (blk_cell BK219.out 0).trans rfl
                              have hcz49_1 : wc.cell? ⟨gb219, 1, none⟩ = some (.string a0_1) := (blk_cell BK219.out 1).trans rfl
                              have hcz49_2 : wc.cell? ⟨gb219, 2, none⟩ = some (.string a0_2) := (blk_cell BK219.out 2).trans rfl
                              have hcz49_3 : wc.cell? ⟨gb219, 3, none⟩ = some (.int .i64 a0_3) := (blk_cell BK219.out 3).trans rfl
                              have hcz49_4 : wc.cell? ⟨gb219, 4, none⟩ = some (.int .i64 a0_4) := (blk_cell BK219.out 4).trans rfl
                              have hfz49_0 := blk_frozen BK219.out 0
                              have hfz49_1 := blk_frozen BK219.out 1
                              have hfz49_2 := blk_frozen BK219.out 2
                              have hfz49_3 := blk_frozen BK219.out 3
                              have hfz49_4 := blk_frozen BK219.out 4
                              go_wp2
                              go_ret
                              exact ⟨by first | rfl | (simp [errW_none, errW_some] <;> rfl) | (simp only [← hji45]; first | rfl | (simp [errW_none, errW_some] <;> rfl)) | (simp [*, errW_none, errW_some] <;> rfl), by repeat (first | (with_reducible first | exact HB.out | apply below_alloc | apply pw_below_drewN | apply below_drew1 | refine below_set ?_ GE219.out) | exact HB.out)⟩
                          · rw [if_neg c44] at H
                            have c44b0 : (a0_2.toList == ([] : List UInt8)) = false := beq_eq_false_iff_ne.mpr c44
                            have c44b1 : (a0_2.toList != ([] : List UInt8)) = true := bne_iff_ne.mpr c44
                            obtain rfl := Option.some.inj H
                            have hcz50_0 : wc.cell? ⟨gb219, 0, none⟩ = some (.int .i64 a0_0) := (blk_cell BK219.out 0).trans rfl
                            have hcz50_1 : wc.cell? ⟨gb219, 1, none⟩ = some (.string a0_1) := (blk_cell BK219.out 1).trans rfl
                            have hcz50_2 : wc.cell? ⟨gb219, 2, none⟩ = some (.string a0_2) := (blk_cell BK219.out 2).trans rfl
                            have hcz50_3 : wc.cell? ⟨gb219, 3, none⟩ = some (.int .i64 a0_3) := (blk_cell BK219.out 3).trans rfl
                            have hcz50_4 : wc.cell? ⟨gb219, 4, none⟩ = some (.int .i64 a0_4) := (blk_cell BK219.out 4).trans rfl
                            have hfz50_0 := blk_frozen BK219.out 0
                            have hfz50_1 := blk_frozen BK219.out 1
                            have hfz50_2 := blk_frozen BK219.out 2
                            have hfz50_3 := blk_frozen BK219.out 3
                            have hfz50_4 := blk_frozen BK219.out 4
                            go_wp2
                            go_ret
                            exact ⟨by first | rfl | (simp [errW_none, errW_some] <;> rfl) | (simp [*, errW_none, errW_some] <;> rfl), by repeat (first | (with_reducible first | exact HB.out | apply below_alloc | apply pw_below_drewN | apply below_drew1 | refine below_set ?_ GE219.out) | exact HB.out)⟩
                        · rw [if_neg c43] at H
                          have c43b0 : (a0_1.toList == ([] : List UInt8)) = false := beq_eq_false_iff_ne.mpr c43
                          have c43b1 : (a0_1.toList != ([] : List UInt8)) = true := bne_iff_ne.mpr c43
                          obtain rfl := Option.some.inj H
                          have hcz51_0 : wc.cell? ⟨gb219, 0, none⟩ = some (.int .i64 a0_0) := (blk_cell BK219.out 0).trans rfl
                          have hcz51_1 : wc.cell? ⟨gb219, 1, none⟩ = some (.string a0_1) := (blk_cell BK219.out 1).trans rfl
                          have hcz51_2 : wc.cell? ⟨gb219, 2, none⟩ = some (.string a0_2) := (blk_cell BK219.out 2).trans rfl
                          have hcz51_3 : wc.cell? ⟨gb219, 3, none⟩ = some (.int .i64 a0_3) := (blk_cell BK219.out 3).trans rfl
                          have hcz51_4 : wc.cell? ⟨gb219, 4, none⟩ = some (.int .i64 a0_4) := (blk_cell BK219.out 4).trans rfl
                          have hfz51_0 := blk_frozen BK219.out 0
                          have hfz51_1 := blk_frozen BK219.out 1
                          have hfz51_2 := blk_frozen BK219.out 2
                          have hfz51_3 := blk_frozen BK219.out 3
                          have hfz51_4 := blk_frozen BK219.out 4
                          go_wp2
                          go_ret
                          exact ⟨by first | rfl | (simp [errW_none, errW_some] <;> rfl) | (simp [*, errW_none, errW_some] <;> rfl), by repeat (first | (with_reducible first | exact HB.out | apply below_alloc | apply pw_below_drewN | apply below_drew1 | refine below_set ?_ GE219.out) | exact HB.out)⟩
                      · rw [if_neg c42] at H
                        have c42b0 : (a0_0 == 13) = false := beq_eq_false_iff_ne.mpr c42
                        have c42b1 : (a0_0 != 13) = true := bne_iff_ne.mpr c42
                        by_cases c52 : a0_0 = 11
                        · rw [if_pos c52] at H
                          have c52b0 : (a0_0 == 11) = true := beq_iff_eq.mpr c52
                          have c52b1 : (a0_0 != 11) = false := bne_eq_false_iff_eq.mpr c52
                          clear c52
                          by_cases c53 : a0_1.toList = ([] : List UInt8)
                          · rw [if_pos c53] at H
                            have c53b0 : (a0_1.toList == ([] : List UInt8)) = true := beq_iff_eq.mpr c53
                            have c53b1 : (a0_1.toList != ([] : List UInt8)) = false := bne_eq_false_iff_eq.mpr c53
                            clear c53
                            obtain rfl := Option.some.inj H
                            have hcz54_0 : wc.cell? ⟨gb219, 0, none⟩ = some (.int .i64 a0_0) := (blk_cell BK219.out 0).trans rfl
                            have hcz54_1 : wc.cell? ⟨gb219, 1, none⟩ = some (.string a0_1) := (blk_cell BK219.out 1).trans rfl
                            have hcz54_2 : wc.cell? ⟨gb219, 2, none⟩ = some (.string a0_2) := (blk_cell BK219.out 2).trans rfl
                            have hcz54_3 : wc.cell? ⟨gb219, 3, none⟩ = some (.int .i64 a0_3) := (blk_cell BK219.out 3).trans rfl
                            have hcz54_4 : wc.cell? ⟨gb219, 4, none⟩ = some (.int .i64 a0_4) := (blk_cell BK219.out 4).trans rfl
                            have hfz54_0 := blk_frozen BK219.out 0
                            have hfz54_1 := blk_frozen BK219.out 1
                            have hfz54_2 := blk_frozen BK219.out 2
                            have hfz54_3 := blk_frozen BK219.out 3
                            have hfz54_4 := blk_frozen BK219.out 4
                            go_wp2
                            go_ret
                            exact ⟨by first | rfl | (simp [errW_none, errW_some] <;> rfl) | (simp [*, errW_none, errW_some] <;> rfl), by repeat (first | (with_reducible first | exact HB.out | apply below_alloc | apply pw_below_drewN | apply below_drew1 | refine below_set ?_ GE219.out) | exact HB.out)⟩
                          · rw [if_neg c53] at H
                            have c53b0 : (a0_1.toList == ([] : List UInt8)) = false := beq_eq_false_iff_ne.mpr c53
                            have c53b1 : (a0_1.toList != ([] : List UInt8)) = true := bne_iff_ne.mpr c53
                            obtain rfl := Option.some.inj H
                            have hcz55_0 : wc.cell? ⟨gb219, 0, none⟩ = some (.int .i64 a0_0) := (blk_cell BK219.out 0).trans rfl
                            have hcz55_1 : wc.cell? ⟨gb219, 1, none⟩ = some (.string a0_1) := (blk_cell BK219.out 1).trans rfl
                            have hcz55_2 : wc.cell? ⟨gb219, 2, none⟩ = some (.string a0_2) := (blk_cell BK219.out 2).trans rfl
                            have hcz55_3 : wc.cell? ⟨gb219, 3, none⟩ = some (.int .i64 a0_3) := (blk_cell BK219.out 3).trans rfl
                            have hcz55_4 : wc.cell? ⟨gb219, 4, none⟩ = some (.int .i64 a0_4) := (blk_cell BK219.out 4).trans rfl
                            have hfz55_0 := blk_frozen BK219.out 0
                            have hfz55_1 := blk_frozen BK219.out 1
                            have hfz55_2 := blk_frozen BK219.out 2
                            have hfz55_3 := blk_frozen BK219.out 3
                            have hfz55_4 := blk_frozen BK219.out 4
                            go_wp2
                            go_ret
                            exact ⟨by first | rfl | (simp [errW_none, errW_some] <;> rfl) | (simp [*, errW_none, errW_some] <;> rfl), by repeat (first | (with_reducible first | exact HB.out | apply below_alloc | apply pw_below_drewN | apply below_drew1 | refine below_set ?_ GE219.out) | exact HB.out)⟩
                        · rw [if_neg c52] at H
                          have c52b0 : (a0_0 == 11) = false := beq_eq_false_iff_ne.mpr c52
                          have c52b1 : (a0_0 != 11) = true := bne_iff_ne.mpr c52
                          by_cases c56 : a0_0 = 12
                          · rw [if_pos c56] at H
                            have c56b0 : (a0_0 == 12) = true := beq_iff_eq.mpr c56
                            have c56b1 : (a0_0 != 12) = false := bne_eq_false_iff_eq.mpr c56
                            clear c56
                            by_cases c57 : a0_1.toList = ([] : List UInt8)
                            · rw [if_pos c57] at H
                              have c57b0 : (a0_1.toList == ([] : List UInt8)) = true := beq_iff_eq.mpr c57
                              have c57b1 : (a0_1.toList != ([] : List UInt8)) = false := bne_eq_false_iff_eq.mpr c57
                              clear c57
                              obtain rfl := Option.some.inj H
                              have hcz58_0 : wc.cell? ⟨gb219, 0, none⟩ = some (.int .i64 a0_0) := (blk_cell BK219.out 0).trans rfl
                              have hcz58_1 : wc.cell? ⟨gb219, 1, none⟩ = some (.string a0_1) := (blk_cell BK219.out 1).trans rfl
                              have hcz58_2 : wc.cell? ⟨gb219, 2, none⟩ = some (.string a0_2) := (blk_cell BK219.out 2).trans rfl
                              have hcz58_3 : wc.cell? ⟨gb219, 3, none⟩ = some (.int .i64 a0_3) := (blk_cell BK219.out 3).trans rfl
                              have hcz58_4 : wc.cell? ⟨gb219, 4, none⟩ = some (.int .i64 a0_4) := (blk_cell BK219.out 4).trans rfl
                              have hfz58_0 := blk_frozen BK219.out 0
                              have hfz58_1 := blk_frozen BK219.out 1
                              have hfz58_2 := blk_frozen BK219.out 2
                              have hfz58_3 := blk_frozen BK219.out 3
                              have hfz58_4 := blk_frozen BK219.out 4
                              go_wp2
                              go_ret
                              exact ⟨by first | rfl | (simp [errW_none, errW_some] <;> rfl) | (simp [*, errW_none, errW_some] <;> rfl), by repeat (first | (with_reducible first | exact HB.out | apply below_alloc | apply pw_below_drewN | apply below_drew1 | refine below_set ?_ GE219.out) | exact HB.out)⟩
                            · rw [if_neg c57] at H
                              have c57b0 : (a0_1.toList == ([] : List UInt8)) = false := beq_eq_false_iff_ne.mpr c57
                              have c57b1 : (a0_1.toList != ([] : List UInt8)) = true := bne_iff_ne.mpr c57
                              obtain rfl := Option.some.inj H
                              have hcz59_0 : wc.cell? ⟨gb219, 0, none⟩ = some (.int .i64 a0_0) := (blk_cell BK219.out 0).trans rfl
                              have hcz59_1 : wc.cell? ⟨gb219, 1, none⟩ = some (.string a0_1) := (blk_cell BK219.out 1).trans rfl
                              have hcz59_2 : wc.cell? ⟨gb219, 2, none⟩ = some (.string a0_2) := (blk_cell BK219.out 2).trans rfl
                              have hcz59_3 : wc.cell? ⟨gb219, 3, none⟩ = some (.int .i64 a0_3) := (blk_cell BK219.out 3).trans rfl
                              have hcz59_4 : wc.cell? ⟨gb219, 4, none⟩ = some (.int .i64 a0_4) := (blk_cell BK219.out 4).trans rfl
                              have hfz59_0 := blk_frozen BK219.out 0
                              have hfz59_1 := blk_frozen BK219.out 1
                              have hfz59_2 := blk_frozen BK219.out 2
                              have hfz59_3 := blk_frozen BK219.out 3
                              have hfz59_4 := blk_frozen BK219.out 4
                              go_wp2
                              go_ret
                              exact ⟨by first | rfl | (simp [errW_none, errW_some] <;> rfl) | (simp [*, errW_none, errW_some] <;> rfl), by repeat (first | (with_reducible first | exact HB.out | apply below_alloc | apply pw_below_drewN | apply below_drew1 | refine below_set ?_ GE219.out) | exact HB.out)⟩
                          · rw [if_neg c56] at H
                            have c56b0 : (a0_0 == 12) = false := beq_eq_false_iff_ne.mpr c56
                            have c56b1 : (a0_0 != 12) = true := bne_iff_ne.mpr c56
                            by_cases c60 : a0_0 = 14
                            · rw [if_pos c60] at H
                              have c60b0 : (a0_0 == 14) = true := beq_iff_eq.mpr c60
                              have c60b1 : (a0_0 != 14) = false := bne_eq_false_iff_eq.mpr c60
                              clear c60
                              by_cases c61 : a0_1.toList = ([] : List UInt8)
                              · rw [if_pos c61] at H
                                have c61b0 : (a0_1.toList == ([] : List UInt8)) = true := beq_iff_eq.mpr c61
                                have c61b1 : (a0_1.toList != ([] : List UInt8)) = false := bne_eq_false_iff_eq.mpr c61
                                clear c61
                                obtain rfl := Option.some.inj H
                                have hcz62_0 : wc.cell? ⟨gb219, 0, none⟩ = some (.int .i64 a0_0) := (blk_cell BK219.out 0).trans rfl
                                have hcz62_1 : wc.cell? ⟨gb219, 1, none⟩ = some (.string a0_1) := (blk_cell BK219.out 1).trans rfl
                                have hcz62_2 : wc.cell? ⟨gb219, 2, none⟩ = some (.string a0_2) := (blk_cell BK219.out 2).trans rfl
                                have hcz62_3 : wc.cell? ⟨gb219, 3, none⟩ = some (.int .i64 a0_3) := (blk_cell BK219.out 3).trans rfl
                                have hcz62_4 : wc.cell? ⟨gb219, 4, none⟩ = some (.int .i64 a0_4) := (blk_cell BK219.out 4).trans rfl
                                have hfz62_0 := blk_frozen BK219.out 0
                                have hfz62_1 := blk_frozen BK219.out 1
                                have hfz62_2 := blk_frozen BK219.out 2
                                have hfz62_3 := blk_frozen BK219.out 3
                                have hfz62_4 := blk_frozen BK219.out 4
                                go_wp2
                                go_ret
                                exact ⟨by first | rfl | (simp [errW_none, errW_some] <;> rfl) | (simp [*, errW_none, errW_some] <;> rfl), by repeat (first | (with_reducible first | exact HB.out | apply below_alloc | apply pw_below_drewN | apply below_drew1 | refine below_set ?_ GE219.out) | exact HB.out)⟩
                              · rw [if_neg c61] at H
                                have c61b0 : (a0_1.toList == ([] : List UInt8)) = false := beq_eq_false_iff_ne.mpr c61
                                have c61b1 : (a0_1.toList != ([] : List UInt8)) = true := bne_iff_ne.mpr c61
                                obtain rfl := Option.some.inj H
                                have hcz63_0 : wc.cell? ⟨gb219, 0, none⟩ = some (.int .i64 a0_0) := (blk_cell BK219.out 0).trans rfl
                                have hcz63_1 : wc.cell? ⟨gb219, 1, none⟩ = some (.string a0_1) := (blk_cell BK219.out 1).trans rfl
                                have hcz63_2 : wc.cell? ⟨gb219, 2, none⟩ = some (.string a0_2) := (blk_cell BK219.out 2).trans rfl
                                have hcz63_3 : wc.cell? ⟨gb219, 3, none⟩ = some (.int .i64 a0_3) := (blk_cell BK219.out 3).trans rfl
                                have hcz63_4 : wc.cell? ⟨gb219, 4, none⟩ = some (.int .i64 a0_4) := (blk_cell BK219.out 4).trans rfl
                                have hfz63_0 := blk_frozen BK219.out 0
                                have hfz63_1 := blk_frozen BK219.out 1
                                have hfz63_2 := blk_frozen BK219.out 2
                                have hfz63_3 := blk_frozen BK219.out 3
                                have hfz63_4 := blk_frozen BK219.out 4
                                go_wp2
                                go_ret
                                exact ⟨by first | rfl | (simp [errW_none, errW_some] <;> rfl) | (simp [*, errW_none, errW_some] <;> rfl), by repeat (first | (with_reducible first | exact HB.out | apply below_alloc | apply pw_below_drewN | apply below_drew1 | refine below_set ?_ GE219.out) | exact HB.out)⟩
                            · rw [if_neg c60] at H
                              have c60b0 : (a0_0 == 14) = false := beq_eq_false_iff_ne.mpr c60
                              have c60b1 : (a0_0 != 14) = true := bne_iff_ne.mpr c60
                              by_cases c64 : a0_0 = 15
                              · rw [if_pos c64] at H
                                have c64b0 : (a0_0 == 15) = true := beq_iff_eq.mpr c64
                                have c64b1 : (a0_0 != 15) = false := bne_eq_false_iff_eq.mpr c64
                                clear c64
                                by_cases c65 : a0_1.toList = ([] : List UInt8)
                                · rw [if_pos c65] at H
                                  have c65b0 : (a0_1.toList == ([] : List UInt8)) = true := beq_iff_eq.mpr c65
                                  have c65b1 : (a0_1.toList != ([] : List UInt8)) = false := bne_eq_false_iff_eq.mpr c65
                                  clear c65
                                  obtain rfl := Option.some.inj H
                                  have hcz66_0 : wc.cell? ⟨gb219, 0, none⟩ = some (.int .i64 a0_0) := (blk_cell BK219.out 0).trans rfl
                                  have hcz66_1 : wc.cell? ⟨gb219, 1, none⟩ = some (.string a0_1) := (blk_cell BK219.out 1).trans rfl
                                  have hcz66_2 : wc.cell? ⟨gb219, 2, none⟩ = some (.string a0_2) := (blk_cell BK219.out 2).trans rfl
                                  have hcz66_3 : wc.cell? ⟨gb219, 3, none⟩ = some (.int .i64 a0_3) := (blk_cell BK219.out 3).trans rfl
                                  have hcz66_4 : wc.cell? ⟨gb219, 4, none⟩ = some (.int .i64 a0_4) := (blk_cell BK219.out 4).trans rfl
                                  have hfz66_0 := blk_frozen BK219.out 0
                                  have hfz66_1 := blk_frozen BK219.out 1
                                  have hfz66_2 := blk_frozen BK219.out 2
                                  have hfz66_3 := blk_frozen BK219.out 3
                                  have hfz66_4 := blk_frozen BK219.out 4
                                  go_wp2
                                  go_ret
                                  exact ⟨by first | rfl | (simp [errW_none, errW_some] <;> rfl) | (simp [*, errW_none, errW_some] <;> rfl), by repeat (first | (with_reducible first | exact HB.out | apply below_alloc | apply pw_below_drewN | apply below_drew1 | refine below_set ?_ GE219.out) | exact HB.out)⟩
                                · rw [if_neg c65] at H
                                  have c65b0 : (a0_1.toList == ([] : List UInt8)) = false := beq_eq_false_iff_ne.mpr c65
                                  have c65b1 : (a0_1.toList != ([] : List UInt8)) = true := bne_iff_ne.mpr c65
                                  obtain rfl := Option.some.inj H
                                  have hcz67_0 : wc.cell? ⟨gb219, 0, none⟩ = some (.int .i64 a0_0) := (blk_cell BK219.out 0).trans rfl
                                  have hcz67_1 : wc.cell? ⟨gb219, 1, none⟩ = some (.string a0_1) := (blk_cell BK219.out 1).trans rfl
                                  have hcz67_2 : wc.cell? ⟨gb219, 2, none⟩ = some (.string a0_2) := (blk_cell BK219.out 2).trans rfl
                                  have hcz67_3 : wc.cell? ⟨gb219, 3, none⟩ = some (.int .i64 a0_3) := (blk_cell BK219.out 3).trans rfl
                                  have hcz67_4 : wc.cell? ⟨gb219, 4, none⟩ = some (.int .i64 a0_4) := (blk_cell BK219.out 4).trans rfl
                                  have hfz67_0 := blk_frozen BK219.out 0
                                  have hfz67_1 := blk_frozen BK219.out 1
                                  have hfz67_2 := blk_frozen BK219.out 2
                                  have hfz67_3 := blk_frozen BK219.out 3
                                  have hfz67_4 := blk_frozen BK219.out 4
                                  go_wp2
                                  go_ret
                                  exact ⟨by first | rfl | (simp [errW_none, errW_some] <;> rfl) | (simp [*, errW_none, errW_some] <;> rfl), by repeat (first | (with_reducible first | exact HB.out | apply below_alloc | apply pw_below_drewN | apply below_drew1 | refine below_set ?_ GE219.out) | exact HB.out)⟩
                              · rw [if_neg c64] at H
                                have c64b0 : (a0_0 == 15) = false := beq_eq_false_iff_ne.mpr c64
                                have c64b1 : (a0_0 != 15) = true := bne_iff_ne.mpr c64
                                obtain rfl := Option.some.inj H
                                go_wp2
                                go_ret
                                exact ⟨by first | rfl | (simp [errW_none, errW_some] <;> rfl) | (simp [*, errW_none, errW_some] <;> rfl), by repeat (first | (with_reducible first | exact HB.out | apply below_alloc | apply pw_below_drewN | apply below_drew1 | refine below_set ?_ GE219.out) | exact HB.out)⟩

end Go.Proofs.Ytjghahkecglgdaa.QFnExactSpecificity
