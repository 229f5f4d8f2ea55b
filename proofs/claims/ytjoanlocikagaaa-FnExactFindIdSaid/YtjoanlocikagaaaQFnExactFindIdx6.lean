/- Written by a program (wip/tools/own_print.py) out of the walk that the kit's printer made; turned where it fell. -/
-- PRINTED by print.py (a twelfth state) out of the translation. Not trusted: Lean checks it.
import Derived.Test.YtjoanlocikagaaaMapObj
import Derived.Test.YtjoanlocikagaaaQFnExactFindIdx0
import Derived.Test.YtjoanlocikagaaaQFnExactFindIdx5
namespace Go.Proofs.Ytjoanlocikagaaa.QFnExactFindId
open Go.RowKit Go.Proofs.YtjoanlocikagaaaV.PrintWords Go.Proofs.YtjoanlocikagaaaV.PrintLast Go.Proofs.YtjoanlocikagaaaV.PrintMore
attribute [local go_sem] max2_int min2_int max_two min_two max_three min_three max_four min_four   -- for this text's walks alone
open Go.Proofs.Ytjoanlocikagaaa.MapObj
set_option linter.unusedVariables false
set_option linter.unusedSimpArgs false

private theorem zero_bool {W : World} : (zeroValue 4).run Try.prog W = .ok (.bool false) W := by kernel_rfl
/-! ### spec_l5Attr: function 95 -/
def spec_l5Attr.l0 : Nat → ByteArray → Int → Int → Int → ByteArray → List (S143) → ByteArray → Int → Option (Int)
  | 0, _, _, _, _, _, _, _, _ => none
  | k + 1, x1, x5, x191000, x191001, x191002, x191003, x191004, x191005 => if x5 < (x191003.length : Int) then (if 0 ≤ x5 then (if ((rd_T143 x191003 x5).f0).toList = x1.toList then (some x5) else (spec_l5Attr.l0 k x1 (wrap64 (x5 + 1)) x191000 x191001 x191002 x191003 x191004 x191005)) else (none)) else (some (-1))
def spec_l5Attr.f (k : Nat) (a0_0 : Int) (a0_1 : Int) (a0_2 : ByteArray) (l0_3 : List (S143)) (a0_4 : ByteArray) (a0_5 : Int) (a1 : ByteArray) : Option (Int) := spec_l5Attr.l0 k a1 0 a0_0 a0_1 a0_2 l0_3 a0_4 a0_5
theorem spec_l5Attr.mono_l : ∀ k, (∀ y0 y1 y2 y3 y4 y5 y6 y7, LeO (spec_l5Attr.l0 k y0 y1 y2 y3 y4 y5 y6 y7) (spec_l5Attr.l0 (k + 1) y0 y1 y2 y3 y4 y5 y6 y7))
  | 0 => fun _ _ _ _ _ _ _ _ r h => by simp [spec_l5Attr.l0] at h
  | k + 1 => by
    have ih0 := spec_l5Attr.mono_l k
    · intro y0 y1 y2 y3 y4 y5 y6 y7
      unfold spec_l5Attr.l0
      repeat' first
      | (with_reducible exact ih0 _ _ _ _ _ _ _ _)
      | (with_reducible exact LeO.refl _)
      | (with_reducible exact LeO.none _)
      | (with_reducible refine LeO.ite ?_ ?_)
      | (with_reducible refine LeO.bind ?_ (fun _ => ?_))
      | exact ih0 _ _ _ _ _ _ _ _
      | exact LeO.none _
      | refine LeO.ite ?_ ?_
      | refine LeO.bind ?_ (fun _ => ?_)
theorem spec_l5Attr.mono : ∀ a0 a1 a2 a3 a4 a5 a6 k, LeO (spec_l5Attr.f k a0 a1 a2 a3 a4 a5 a6) (spec_l5Attr.f (k + 1) a0 a1 a2 a3 a4 a5 a6) := by
  intro a0 a1 a2 a3 a4 a5 a6 k
  have ih0 := spec_l5Attr.mono_l k
  unfold spec_l5Attr.f
  repeat' first
      | (with_reducible exact ih0 _ _ _ _ _ _ _ _)
      | (with_reducible exact LeO.refl _)
      | (with_reducible exact LeO.none _)
      | (with_reducible refine LeO.ite ?_ ?_)
      | (with_reducible refine LeO.bind ?_ (fun _ => ?_))
      | exact ih0 _ _ _ _ _ _ _ _
      | exact LeO.none _
      | refine LeO.ite ?_ ?_
      | refine LeO.bind ?_ (fun _ => ?_)
set_option maxHeartbeats 8000000 in
set_option maxRecDepth 100000 in
theorem spec_l5Attr.calls (k : Nat) (a0_0 : Int) (a0_1 : Int) (a0_2 : ByteArray) (A0_3 : Option Addr) (c0_3 : Nat) (l0_3 : List (S143)) (a0_4 : ByteArray) (a0_5 : Int) (a1 : ByteArray) (r : Int) (w : World) (hr0_3 : Kd.C k143 w A0_3 l0_3.length l0_3) (hc0_3 : l0_3.length ≤ c0_3) (h : spec_l5Attr.f k a0_0 a0_1 a0_2 l0_3 a0_4 a0_5 a1 = some r) :
    Calls Try.prog 95 #[.agg #[.int .i64 a0_0, .int .i64 a0_1, .string a0_2, .slice A0_3 l0_3.length c0_3, .string a0_4, .int .i64 a0_5], .string a1] w fun e w' => e = .returned (.int .i64 r) ∧ Below w.heap.size w w' := by
  have hu134 := Try.underlying134
  have HR0_3 := Aside0.mk hr0_3
  have HC0_3 := Aside0.mk hc0_3
  clear hr0_3 hc0_3
  have HB := Aside0.mk (Below.refl w.heap.size w)
  have H : (spec_l5Attr.l0 k a1 0 a0_0 a0_1 a0_2 l0_3 a0_4 a0_5) = some r := h
  clear h
  have H' := Aside0.mk H
  clear H
  go_enter Try.func95, Try.ntmps95
  go_wp2_with (first | ((with_reducible refine gate_dst (N := 2) rfl ?_); refine box_event ?hg (N := 2) ?hd (cs := #[.int .i64 a0_0, .int .i64 a0_1, .string a0_2, .slice A0_3 l0_3.length c0_3, .string a0_4, .int .i64 a0_5]) (t := 134) ?hr ?_; (case hd => rfl); (case hg => rfl); (case hr => first | (go_simp; done) | (go_simp; rfl)); intro gb190 hg w3 hbox hb; have n0_ := Aside0.mk (below_step (by repeat (first | (with_reducible first | exact HB.out | apply below_alloc | apply pw_below_drewN | apply below_drew1) | exact HB.out)) hb); have n1_ := Aside0.mk (hbox); have n2_ := Aside0.mk ((by rw [hg]; exact (below_size (by repeat (first | (with_reducible first | exact HB.out | apply below_alloc | apply pw_below_drewN | apply below_drew1) | exact HB.out))) : w.heap.size ≤ gb190)); have n3_ := Aside0.mk ((by rw [hg]; exact (below_size (by repeat (first | (with_reducible first | exact HB.out | apply below_alloc | apply pw_below_drewN | apply below_drew1) | exact HB.out))) : w.heap.size ≤ gb190)); clear HB; have HB := n0_; have BK190 := n1_; have GW190 := n2_; have GE190 := n3_; clear n0_ n1_ n2_ n3_; clear hb hbox hg))
  go_loopg [5] k (fun kq v5 w' => ∃ (x5_1 : Int), v5 = .int .i64 x5_1 ∧ Aside0 (spec_l5Attr.l0 kq a1 x5_1 a0_0 a0_1 a0_2 l0_3 a0_4 a0_5 = some r) ∧ Aside0 (kq ≤ k) ∧ Aside0 (w'.heap[gb190]? = some (.cells #[.int .i64 a0_0, .int .i64 a0_1, .string a0_2, (.slice A0_3 l0_3.length c0_3), .string a0_4, .int .i64 a0_5] 134 (0, 0))) ∧ Aside0 (Below w.heap.size w w'))
  case atStart => exact ⟨(0), (by first | rfl | (simp; done) | (simp [*]; done)), H', ⟨Nat.le_refl _⟩, ⟨by (with_reducible repeat (first | refine blk_drewN ?_ _ | refine blk_drew ?_ | refine blk_alloc ?_ _)); exact BK190.out⟩, ⟨by repeat (first | (with_reducible first | exact HB.out | apply below_alloc | apply pw_below_drewN | apply below_drew1 | refine below_set ?_ GE190.out) | exact HB.out)⟩⟩
  case round =>
    clear H'
    try clear p2
    obtain ⟨x5_1, rfl, HA, HK1, BK190, HB⟩ := hrel
    cases gk with
    | zero => exact absurd HA.out (by simp [spec_l5Attr.l0])
    | succ k1 =>
      have H := HA.out
      clear HA
      simp only [spec_l5Attr.l0] at H
      by_cases c4 : x5_1 < (l0_3.length : Int)
      · rw [if_pos c4] at H
        have c4b0 : decide (x5_1 < (l0_3.length : Int)) = true := decide_eq_true c4
        clear c4
        by_cases c5 : 0 ≤ x5_1
        · rw [if_pos c5] at H
          have c5b0 : decide (0 ≤ x5_1) = true := decide_eq_true c5
          clear c5
          by_cases c6 : ((rd_T143 l0_3 x5_1).f0).toList = a1.toList
          · rw [if_pos c6] at H
            have c6b0 : (((rd_T143 l0_3 x5_1).f0).toList == a1.toList) = true := beq_iff_eq.mpr c6
            have c6b1 : (((rd_T143 l0_3 x5_1).f0).toList != a1.toList) = false := bne_eq_false_iff_eq.mpr c6
            clear c6
            obtain rfl := Option.some.inj H
            have hcz7_0 : wr.cell? ⟨gb190, 0, none⟩ = some (.int .i64 a0_0) := (blk_cell BK190.out 0).trans rfl
            have hcz7_1 : wr.cell? ⟨gb190, 1, none⟩ = some (.int .i64 a0_1) := (blk_cell BK190.out 1).trans rfl
            have hcz7_2 : wr.cell? ⟨gb190, 2, none⟩ = some (.string a0_2) := (blk_cell BK190.out 2).trans rfl
            have hcz7_3 : wr.cell? ⟨gb190, 3, none⟩ = some (.slice A0_3 l0_3.length c0_3) := (blk_cell BK190.out 3).trans rfl
            have hcz7_4 : wr.cell? ⟨gb190, 4, none⟩ = some (.string a0_4) := (blk_cell BK190.out 4).trans rfl
            have hcz7_5 : wr.cell? ⟨gb190, 5, none⟩ = some (.int .i64 a0_5) := (blk_cell BK190.out 5).trans rfl
            have hfz7_0 := blk_frozen BK190.out 0
            have hfz7_1 := blk_frozen BK190.out 1
            have hfz7_2 := blk_frozen BK190.out 2
            have hfz7_3 := blk_frozen BK190.out 3
            have hfz7_4 := blk_frozen BK190.out 4
            have hfz7_5 := blk_frozen BK190.out 5
            have p191 : 0 ≤ (x5_1 : Int) := of_decide_eq_true (by first | (with_reducible assumption) | assumption)
            have q191 : x5_1 < (l0_3.length : Int) := of_decide_eq_true (by first | (with_reducible assumption) | assumption)
            obtain ⟨ad191, e191, hx191_0, hx191_1⟩ := at_T143 HR0_3.out x5_1 p191 q191
            cases e191
            replace hx191_0 := (HB.out.cell (World.block_lt_of_cell? w _ hx191_0)).trans hx191_0
            replace hx191_1 := (HB.out.cell (World.block_lt_of_cell? w _ hx191_1)).trans hx191_1
            replace p191 := eq_true p191
            replace q191 := eq_true q191
            go_wp2
            go_ret
            exact ⟨by first | rfl | (simp [errW_none, errW_some] <;> rfl) | (simp [*, errW_none, errW_some] <;> rfl), by repeat (first | (with_reducible first | exact HB.out | apply below_alloc | apply pw_below_drewN | apply below_drew1 | refine below_set ?_ GE190.out) | exact HB.out)⟩
          · rw [if_neg c6] at H
            have c6b0 : (((rd_T143 l0_3 x5_1).f0).toList == a1.toList) = false := beq_eq_false_iff_ne.mpr c6
            have c6b1 : (((rd_T143 l0_3 x5_1).f0).toList != a1.toList) = true := bne_iff_ne.mpr c6
            have H' := Aside0.mk H
            clear H
            have hcz8_0 : wr.cell? ⟨gb190, 0, none⟩ = some (.int .i64 a0_0) := (blk_cell BK190.out 0).trans rfl
            have hcz8_1 : wr.cell? ⟨gb190, 1, none⟩ = some (.int .i64 a0_1) := (blk_cell BK190.out 1).trans rfl
            have hcz8_2 : wr.cell? ⟨gb190, 2, none⟩ = some (.string a0_2) := (blk_cell BK190.out 2).trans rfl
            have hcz8_3 : wr.cell? ⟨gb190, 3, none⟩ = some (.slice A0_3 l0_3.length c0_3) := (blk_cell BK190.out 3).trans rfl
            have hcz8_4 : wr.cell? ⟨gb190, 4, none⟩ = some (.string a0_4) := (blk_cell BK190.out 4).trans rfl
            have hcz8_5 : wr.cell? ⟨gb190, 5, none⟩ = some (.int .i64 a0_5) := (blk_cell BK190.out 5).trans rfl
            have hfz8_0 := blk_frozen BK190.out 0
            have hfz8_1 := blk_frozen BK190.out 1
            have hfz8_2 := blk_frozen BK190.out 2
            have hfz8_3 := blk_frozen BK190.out 3
            have hfz8_4 := blk_frozen BK190.out 4
            have hfz8_5 := blk_frozen BK190.out 5
            have p191 : 0 ≤ (x5_1 : Int) := of_decide_eq_true (by first | (with_reducible assumption) | assumption)
            have q191 : x5_1 < (l0_3.length : Int) := of_decide_eq_true (by first | (with_reducible assumption) | assumption)
            obtain ⟨ad191, e191, hx191_0, hx191_1⟩ := at_T143 HR0_3.out x5_1 p191 q191
            cases e191
            replace hx191_0 := (HB.out.cell (World.block_lt_of_cell? w _ hx191_0)).trans hx191_0
            replace hx191_1 := (HB.out.cell (World.block_lt_of_cell? w _ hx191_1)).trans hx191_1
            replace p191 := eq_true p191
            replace q191 := eq_true q191
            go_wp2
            go_roundg k1
            case measure => have := HK1.out; omega
            case rel => exact ⟨(wrap64 (x5_1 + 1)), (by first | rfl | (simp; done) | (simp [*]; done)), H', ⟨by have := HK1.out; omega⟩, ⟨by (with_reducible repeat (first | refine blk_drewN ?_ _ | refine blk_drew ?_ | refine blk_alloc ?_ _)); exact BK190.out⟩, ⟨by repeat (first | (with_reducible first | exact HB.out | apply below_alloc | apply pw_below_drewN | apply below_drew1 | refine below_set ?_ GE190.out) | exact HB.out)⟩⟩
        · rw [if_neg c5] at H
          exact absurd H (by simp)
      · rw [if_neg c4] at H
        have c4b0 : decide (x5_1 < (l0_3.length : Int)) = false := decide_eq_false c4
        clear c4
        obtain rfl := Option.some.inj H
        have hcz9_0 : wr.cell? ⟨gb190, 0, none⟩ = some (.int .i64 a0_0) := (blk_cell BK190.out 0).trans rfl
        have hcz9_1 : wr.cell? ⟨gb190, 1, none⟩ = some (.int .i64 a0_1) := (blk_cell BK190.out 1).trans rfl
        have hcz9_2 : wr.cell? ⟨gb190, 2, none⟩ = some (.string a0_2) := (blk_cell BK190.out 2).trans rfl
        have hcz9_3 : wr.cell? ⟨gb190, 3, none⟩ = some (.slice A0_3 l0_3.length c0_3) := (blk_cell BK190.out 3).trans rfl
        have hcz9_4 : wr.cell? ⟨gb190, 4, none⟩ = some (.string a0_4) := (blk_cell BK190.out 4).trans rfl
        have hcz9_5 : wr.cell? ⟨gb190, 5, none⟩ = some (.int .i64 a0_5) := (blk_cell BK190.out 5).trans rfl
        have hfz9_0 := blk_frozen BK190.out 0
        have hfz9_1 := blk_frozen BK190.out 1
        have hfz9_2 := blk_frozen BK190.out 2
        have hfz9_3 := blk_frozen BK190.out 3
        have hfz9_4 := blk_frozen BK190.out 4
        have hfz9_5 := blk_frozen BK190.out 5
        go_wp2
        go_ret
        exact ⟨by first | rfl | (simp [errW_none, errW_some] <;> rfl) | (simp [*, errW_none, errW_some] <;> rfl), by repeat (first | (with_reducible first | exact HB.out | apply below_alloc | apply pw_below_drewN | apply below_drew1 | refine below_set ?_ GE190.out) | exact HB.out)⟩

/-! ### spec_FindId: function 40 -/
def spec_FindId.l0 : Nat → ByteArray → Int → List (S134) → Option (Int)
  | 0, _, _, _ => none
  | k + 1, x1, x5, x193000 => if x5 < (x193000.length : Int) then (if 0 ≤ x5 then ((spec_l5Attr.f k ((rd_T134 x193000 x5).f0) ((rd_T134 x193000 x5).f1) ((rd_T134 x193000 x5).f2) ((rd_T134 x193000 x5).f3) ((rd_T134 x193000 x5).f4) ((rd_T134 x193000 x5).f5) (⟨#[105, 100]⟩ : ByteArray)).bind fun t195 => (if t195 ≥ 0 then (if 0 ≤ t195 then (if t195 < (((rd_T134 x193000 x5).f3).length : Int) then (if ((rd_T143 ((rd_T134 x193000 x5).f3) t195).f1).toList = x1.toList then (some ((rd_T134 x193000 x5).f0)) else (spec_FindId.l0 k x1 (wrap64 (x5 + 1)) x193000)) else (none)) else (none)) else (spec_FindId.l0 k x1 (wrap64 (x5 + 1)) x193000))) else (none)) else (some (-1))
def spec_FindId.f (k : Nat) (l0_0 : List (S134)) (a1 : ByteArray) : Option (Int) := (spec_TreeOk.f k l0_0).bind fun t193 => (if t193 = true then (spec_FindId.l0 k a1 0 l0_0) else (some (-1)))
theorem spec_FindId.mono_l : ∀ k, (∀ y0 y1 y2, LeO (spec_FindId.l0 k y0 y1 y2) (spec_FindId.l0 (k + 1) y0 y1 y2))
  | 0 => fun _ _ _ r h => by simp [spec_FindId.l0] at h
  | k + 1 => by
    have ih0 := spec_FindId.mono_l k
    · intro y0 y1 y2
      unfold spec_FindId.l0
      repeat' first
      | (with_reducible exact ih0 _ _ _)
      | (with_reducible exact spec_TreeOk.mono _ _)
      | (with_reducible exact spec_l5Attr.mono _ _ _ _ _ _ _ _)
      | (with_reducible exact LeO.refl _)
      | (with_reducible exact LeO.none _)
      | (with_reducible refine LeO.ite ?_ ?_)
      | (with_reducible refine LeO.bind ?_ (fun _ => ?_))
      | exact ih0 _ _ _
      | exact spec_TreeOk.mono _ _
      | exact spec_l5Attr.mono _ _ _ _ _ _ _ _
      | exact LeO.none _
      | refine LeO.ite ?_ ?_
      | refine LeO.bind ?_ (fun _ => ?_)
theorem spec_FindId.mono : ∀ a0 a1 k, LeO (spec_FindId.f k a0 a1) (spec_FindId.f (k + 1) a0 a1) := by
  intro a0 a1 k
  have ih0 := spec_FindId.mono_l k
  unfold spec_FindId.f
  repeat' first
      | (with_reducible exact ih0 _ _ _)
      | (with_reducible exact spec_TreeOk.mono _ _)
      | (with_reducible exact spec_l5Attr.mono _ _ _ _ _ _ _ _)
      | (with_reducible exact LeO.refl _)
      | (with_reducible exact LeO.none _)
      | (with_reducible refine LeO.ite ?_ ?_)
      | (with_reducible refine LeO.bind ?_ (fun _ => ?_))
      | exact ih0 _ _ _
      | exact spec_TreeOk.mono _ _
      | exact spec_l5Attr.mono _ _ _ _ _ _ _ _
      | exact LeO.none _
      | refine LeO.ite ?_ ?_
      | refine LeO.bind ?_ (fun _ => ?_)
set_option maxHeartbeats 8000000 in
set_option maxRecDepth 100000 in
theorem spec_FindId.calls (k : Nat) (A0_0 : Option Addr) (c0_0 : Nat) (l0_0 : List (S134)) (a1 : ByteArray) (r : Int) (w : World) (hr0_0 : Kd.C k134 w A0_0 l0_0.length l0_0) (hc0_0 : l0_0.length ≤ c0_0) (h : spec_FindId.f k l0_0 a1 = some r) :
    Calls Try.prog 40 #[.agg #[.slice A0_0 l0_0.length c0_0], .string a1] w fun e w' => e = .returned (.int .i64 r) ∧ Below w.heap.size w w' := by
  have hu57 := Try.underlying57
  have hu134 := Try.underlying134
  have HR0_0 := Aside0.mk hr0_0
  have HC0_0 := Aside0.mk hc0_0
  clear hr0_0 hc0_0
  have HB := Aside0.mk (Below.refl w.heap.size w)
  have H : ((spec_TreeOk.f k l0_0).bind fun t193 => (if t193 = true then (spec_FindId.l0 k a1 0 l0_0) else (some (-1)))) = some r := h
  clear h
  replace H := Option.bind_eq_some_iff.mp H
  obtain ⟨t193, A30, H⟩ := H
  replace H : (if t193 = true then (spec_FindId.l0 k a1 0 l0_0) else (some (-1))) = some r := H
  have A3 := Aside0.mk A30
  clear A30
  by_cases c4 : t193 = true
  · subst c4
    have H1 : (spec_FindId.l0 k a1 0 l0_0) = some r := by rw [if_pos rfl] at H; exact H
    clear H
    have H := H1
    clear H1
    have H' := Aside0.mk H
    clear H
    go_enter Try.func40, Try.ntmps40
    go_wp2_with (first | ((with_reducible refine gate_dst (N := 2) rfl ?_); refine box_event ?hg (N := 2) ?hd (cs := #[.slice A0_0 l0_0.length c0_0]) (t := 57) ?hr ?_; (case hd => rfl); (case hg => rfl); (case hr => first | (go_simp; done) | (go_simp; rfl)); intro gb192 hg w5 hbox hb; have n0_ := Aside0.mk (below_step (by repeat (first | (with_reducible first | exact HB.out | apply below_alloc | apply pw_below_drewN | apply below_drew1) | exact HB.out)) hb); have n1_ := Aside0.mk (hbox); have n2_ := Aside0.mk ((by rw [hg]; exact (below_size (by repeat (first | (with_reducible first | exact HB.out | apply below_alloc | apply pw_below_drewN | apply below_drew1) | exact HB.out))) : w.heap.size ≤ gb192)); have n3_ := Aside0.mk ((by rw [hg]; exact (below_size (by repeat (first | (with_reducible first | exact HB.out | apply below_alloc | apply pw_below_drewN | apply below_drew1) | exact HB.out))) : w.heap.size ≤ gb192)); clear HB; have HB := n0_; have BK192 := n1_; have GW192 := n2_; have GE192 := n3_; clear n0_ n1_ n2_ n3_; clear hb hbox hg; have hcz6_0 : w5.cell? ⟨gb192, 0, none⟩ = some (.slice A0_0 l0_0.length c0_0) := (blk_cell BK192.out 0).trans rfl; have hfz6_0 := blk_frozen BK192.out 0) | ((with_reducible refine gate_callee (f := 30) rfl ?_); refine goesL_ (some 8) rfl rfl Try.func30 (by kernel_rfl) rfl #[.agg #[.slice A0_0 l0_0.length c0_0]] rfl (by (try simp only [List.map_toArray, List.map_cons, List.map_nil]); first | done | rfl | (simp only [List.length_drop, List.length_take]; rfl)) ?_; (with_reducible refine (spec_TreeOk.calls k _ _ l0_0 true _ ?side1 ?side2 A3.out).mono ?_); (case side1 => repeat (first | exact (Kd.C_below HR0_0.out HB.out) | (with_reducible refine Kd.C_alloc ?_ _) | (with_reducible refine Kd.C_drewN ?_ _) | (with_reducible refine Kd.C_drew ?_))); (case side2 => exact HC0_0.out); rintro e w7 ⟨rfl, hb⟩; refine ⟨_, rfl, ?_⟩; have n0_ := Aside0.mk (blk_below (g := gb192) (o := .cells #[.slice A0_0 l0_0.length c0_0] 57 (0, 0)) (by (with_reducible repeat (first | refine blk_drewN ?_ _ | refine blk_drew ?_ | refine blk_alloc ?_ _)); exact BK192.out) hb); have n1_ := Aside0.mk (below_step (by repeat (first | (with_reducible first | exact HB.out | apply below_alloc | apply pw_below_drewN | apply below_drew1 | refine below_set ?_ GE192.out) | exact HB.out)) hb); clear BK192; clear HB; have BK192 := n0_; have HB := n1_; clear n0_ n1_; (try clear hb); (try clear hb2); (try clear hk); (try clear hi)))
    go_loopg [5] k (fun kq v5 w' => ∃ (x5_1 : Int), v5 = .int .i64 x5_1 ∧ Aside0 (spec_FindId.l0 kq a1 x5_1 l0_0 = some r) ∧ Aside0 (kq ≤ k) ∧ Aside0 (w'.heap[gb192]? = some (.cells #[(.slice A0_0 l0_0.length c0_0)] 57 (0, 0))) ∧ Aside0 (Below w.heap.size w w'))
    case atStart => exact ⟨(0), (by first | rfl | (simp; done) | (simp [*]; done)), H', ⟨Nat.le_refl _⟩, ⟨by (with_reducible repeat (first | refine blk_drewN ?_ _ | refine blk_drew ?_ | refine blk_alloc ?_ _)); exact BK192.out⟩, ⟨by repeat (first | (with_reducible first | exact HB.out | apply below_alloc | apply pw_below_drewN | apply below_drew1 | refine below_set ?_ GE192.out) | exact HB.out)⟩⟩
    case round =>
      clear H'
      try clear p2
      try clear c3
      try clear c4
      try clear hcz6_0
      try clear hfz6_0
      obtain ⟨x5_1, rfl, HA, HK1, BK192, HB⟩ := hrel
      cases gk with
      | zero => exact absurd HA.out (by simp [spec_FindId.l0])
      | succ k1 =>
        have H := HA.out
        clear HA
        simp only [spec_FindId.l0] at H
        by_cases c8 : x5_1 < (l0_0.length : Int)
        · rw [if_pos c8] at H
          have c8b0 : decide (x5_1 < (l0_0.length : Int)) = true := decide_eq_true c8
          clear c8
          by_cases c9 : 0 ≤ x5_1
          · rw [if_pos c9] at H
            have c9b0 : decide (0 ≤ x5_1) = true := decide_eq_true c9
            clear c9
            replace H := Option.bind_eq_some_iff.mp H
            obtain ⟨t195, A100, H⟩ := H
            replace H : (if t195 ≥ 0 then (if 0 ≤ t195 then (if t195 < (((rd_T134 l0_0 x5_1).f3).length : Int) then (if ((rd_T143 ((rd_T134 l0_0 x5_1).f3) t195).f1).toList = a1.toList then (some ((rd_T134 l0_0 x5_1).f0)) else (spec_FindId.l0 k1 a1 (wrap64 (x5_1 + 1)) l0_0)) else (none)) else (none)) else (spec_FindId.l0 k1 a1 (wrap64 (x5_1 + 1)) l0_0)) = some r := H
            have A10 := Aside0.mk A100
            clear A100
            by_cases c11 : t195 ≥ 0
            · rw [if_pos c11] at H
              have c11b0 : decide (0 ≤ t195) = true := decide_eq_true c11
              clear c11
              by_cases c12 : 0 ≤ t195
              · rw [if_pos c12] at H
                have c12b0 : decide (0 ≤ t195) = true := decide_eq_true c12
                clear c12
                by_cases c13 : t195 < (((rd_T134 l0_0 x5_1).f3).length : Int)
                · rw [if_pos c13] at H
                  have c13b0 : decide (t195 < (((rd_T134 l0_0 x5_1).f3).length : Int)) = true := decide_eq_true c13
                  clear c13
                  by_cases c14 : ((rd_T143 ((rd_T134 l0_0 x5_1).f3) t195).f1).toList = a1.toList
                  · rw [if_pos c14] at H
                    have c14b0 : (((rd_T143 ((rd_T134 l0_0 x5_1).f3) t195).f1).toList == a1.toList) = true := beq_iff_eq.mpr c14
                    have c14b1 : (((rd_T143 ((rd_T134 l0_0 x5_1).f3) t195).f1).toList != a1.toList) = false := bne_eq_false_iff_eq.mpr c14
                    clear c14
                    obtain rfl := Option.some.inj H
                    have hcz15_0 : wr.cell? ⟨gb192, 0, none⟩ = some (.slice A0_0 l0_0.length c0_0) := (blk_cell BK192.out 0).trans rfl
                    have hfz15_0 := blk_frozen BK192.out 0
                    have p194 : 0 ≤ (x5_1 : Int) := of_decide_eq_true (by first | (with_reducible assumption) | assumption)
                    have q194 : x5_1 < (l0_0.length : Int) := of_decide_eq_true (by first | (with_reducible assumption) | assumption)
                    obtain ⟨ad194, A194_3, c194_3, e194, hx194_0, hx194_1, hx194_2, hx194_3, hx194_4, hx194_5, hl194_3, hi194_3⟩ := at_T134 HR0_0.out x5_1 p194 q194
                    cases e194
                    replace hx194_0 := (HB.out.cell (World.block_lt_of_cell? w _ hx194_0)).trans hx194_0
                    replace hx194_1 := (HB.out.cell (World.block_lt_of_cell? w _ hx194_1)).trans hx194_1
                    replace hx194_2 := (HB.out.cell (World.block_lt_of_cell? w _ hx194_2)).trans hx194_2
                    replace hx194_3 := (HB.out.cell (World.block_lt_of_cell? w _ hx194_3)).trans hx194_3
                    replace hx194_4 := (HB.out.cell (World.block_lt_of_cell? w _ hx194_4)).trans hx194_4
                    replace hx194_5 := (HB.out.cell (World.block_lt_of_cell? w _ hx194_5)).trans hx194_5
                    have HR194_3 := Aside0.mk hi194_3
                    have HC194_3 := Aside0.mk hl194_3
                    clear hi194_3 hl194_3
                    replace p194 := eq_true p194
                    replace q194 := eq_true q194
                    go_wp2_with (first | ((with_reducible refine gate_callee (f := 95) rfl ?_); refine goesL_ (some 22) rfl rfl Try.func95 (by kernel_rfl) rfl #[.agg #[.int .i64 ((rd_T134 l0_0 x5_1).f0), .int .i64 ((rd_T134 l0_0 x5_1).f1), .string ((rd_T134 l0_0 x5_1).f2), .slice A194_3 ((rd_T134 l0_0 x5_1).f3).length c194_3, .string ((rd_T134 l0_0 x5_1).f4), .int .i64 ((rd_T134 l0_0 x5_1).f5)], .string (⟨#[105, 100]⟩ : ByteArray)] rfl (by (try simp only [List.map_toArray, List.map_cons, List.map_nil]); first | done | rfl | (simp only [List.length_drop, List.length_take]; rfl)) ?_; (with_reducible refine (spec_l5Attr.calls k1 ((rd_T134 l0_0 x5_1).f0) ((rd_T134 l0_0 x5_1).f1) ((rd_T134 l0_0 x5_1).f2) _ _ ((rd_T134 l0_0 x5_1).f3) ((rd_T134 l0_0 x5_1).f4) ((rd_T134 l0_0 x5_1).f5) (⟨#[105, 100]⟩ : ByteArray) t195 _ ?side1 ?side2 A10.out).mono ?_); (case side1 => repeat (first | exact (Kd.C_below HR194_3.out HB.out) | (with_reducible refine Kd.C_alloc ?_ _) | (with_reducible refine Kd.C_drewN ?_ _) | (with_reducible refine Kd.C_drew ?_))); (case side2 => exact HC194_3.out); rintro e w16 ⟨rfl, hb⟩; refine ⟨_, rfl, ?_⟩; have n0_ := Aside0.mk (blk_below (g := gb192) (o := .cells #[.slice (some ad194) l0_0.length c0_0] 57 (0, 0)) (by (with_reducible repeat (first | refine blk_drewN ?_ _ | refine blk_drew ?_ | refine blk_alloc ?_ _)); exact BK192.out) hb); have n1_ := Aside0.mk (below_step (by repeat (first | (with_reducible first | exact HB.out | apply below_alloc | apply pw_below_drewN | apply below_drew1 | refine below_set ?_ GE192.out) | exact HB.out)) hb); clear BK192; clear HB; have BK192 := n0_; have HB := n1_; clear n0_ n1_; (try clear hb); (try clear hb2); (try clear hk); (try clear hi); have hcz17_0 : w16.cell? ⟨gb192, 0, none⟩ = some (.slice (some ad194) l0_0.length c0_0) := (blk_cell BK192.out 0).trans rfl; have hfz17_0 := blk_frozen BK192.out 0; have p196 : 0 ≤ (x5_1 : Int) := of_decide_eq_true (by first | (with_reducible assumption) | assumption); have q196 : x5_1 < (l0_0.length : Int) := of_decide_eq_true (by first | (with_reducible assumption) | assumption); obtain ⟨ad196, A196_3, c196_3, e196, hx196_0, hx196_1, hx196_2, hx196_3, hx196_4, hx196_5, hl196_3, hi196_3⟩ := at_T134 HR0_0.out x5_1 p196 q196; obtain rfl : ad194 = ad196 := (by injection e196); replace hx196_0 := (HB.out.cell (World.block_lt_of_cell? w _ hx196_0)).trans hx196_0; replace hx196_1 := (HB.out.cell (World.block_lt_of_cell? w _ hx196_1)).trans hx196_1; replace hx196_2 := (HB.out.cell (World.block_lt_of_cell? w _ hx196_2)).trans hx196_2; replace hx196_3 := (HB.out.cell (World.block_lt_of_cell? w _ hx196_3)).trans hx196_3; replace hx196_4 := (HB.out.cell (World.block_lt_of_cell? w _ hx196_4)).trans hx196_4; replace hx196_5 := (HB.out.cell (World.block_lt_of_cell? w _ hx196_5)).trans hx196_5; have HR196_3 := Aside0.mk hi196_3; have HC196_3 := Aside0.mk hl196_3; clear hi196_3 hl196_3; replace p196 := eq_true p196; replace q196 := eq_true q196; have p197 : 0 ≤ (t195 : Int) := of_decide_eq_true (by first | (with_reducible assumption) | assumption); have q197 : t195 < (((rd_T134 l0_0 x5_1).f3).length : Int) := of_decide_eq_true (by first | (with_reducible assumption) | assumption); obtain ⟨ad197, e197, hx197_0, hx197_1⟩ := at_T143 HR196_3.out t195 p197 q197; cases e197; replace hx197_0 := (HB.out.cell (World.block_lt_of_cell? w _ hx197_0)).trans hx197_0; replace hx197_1 := (HB.out.cell (World.block_lt_of_cell? w _ hx197_1)).trans hx197_1; replace p197 := eq_true p197; replace q197 := eq_true q197; have p198 : 0 ≤ (x5_1 : Int) := of_decide_eq_true (by first | (with_reducible assumption) | assumption); have q198 : x5_1 < (l0_0.length : Int) := of_decide_eq_true (by first | (with_reducible assumption) | assumption); obtain ⟨ad198, A198_3, c198_3, e198, hx198_0, hx198_1, hx198_2, hx198_3, hx198_4, hx198_5, hl198_3, hi198_3⟩ := at_T134 HR0_0.out x5_1 p198 q198; obtain rfl : ad194 = ad198 := (by injection e198); replace hx198_0 := (HB.out.cell (World.block_lt_of_cell? w _ hx198_0)).trans hx198_0; replace hx198_1 := (HB.out.cell (World.block_lt_of_cell? w _ hx198_1)).trans hx198_1; replace hx198_2 := (HB.out.cell (World.block_lt_of_cell? w _ hx198_2)).trans hx198_2; replace hx198_3 := (HB.out.cell (World.block_lt_of_cell? w _ hx198_3)).trans hx198_3; replace hx198_4 := (HB.out.cell (World.block_lt_of_cell? w _ hx198_4)).trans hx198_4; replace hx198_5 := (HB.out.cell (World.block_lt_of_cell? w _ hx198_5)).trans hx198_5; have HR198_3 := Aside0.mk hi198_3; have HC198_3 := Aside0.mk hl198_3; clear hi198_3 hl198_3; replace p198 := eq_true p198; replace q198 := eq_true q198; have ea_ := Option.some.inj (hx196_3.symm.trans hx198_3); injection ea_ with ea_ en_ ec_; subst ea_; subst ec_; clear en_))
                    go_ret
                    exact ⟨by first | rfl | (simp [errW_none, errW_some] <;> rfl) | (simp [*, errW_none, errW_some] <;> rfl), by repeat (first | (with_reducible first | exact HB.out | apply below_alloc | apply pw_below_drewN | apply below_drew1 | refine below_set ?_ GE192.out) | exact HB.out)⟩
                  · rw [if_neg c14] at H
                    have c14b0 : (((rd_T143 ((rd_T134 l0_0 x5_1).f3) t195).f1).toList == a1.toList) = false := beq_eq_false_iff_ne.mpr c14
                    have c14b1 : (((rd_T143 ((rd_T134 l0_0 x5_1).f3) t195).f1).toList != a1.toList) = true := bne_iff_ne.mpr c14
                    have H' := Aside0.mk H
                    clear H
                    have hcz18_0 : wr.cell? ⟨gb192, 0, none⟩ = some (.slice A0_0 l0_0.length c0_0) := (blk_cell BK192.out 0).trans rfl
                    have hfz18_0 := blk_frozen BK192.out 0
                    have p194 : 0 ≤ (x5_1 : Int) := of_decide_eq_true (by first | (with_reducible assumption) | assumption)
                    have q194 : x5_1 < (l0_0.length : Int) := of_decide_eq_true (by first | (with_reducible assumption) | assumption)
                    obtain ⟨ad194, A194_3, c194_3, e194, hx194_0, hx194_1, hx194_2, hx194_3, hx194_4, hx194_5, hl194_3, hi194_3⟩ := at_T134 HR0_0.out x5_1 p194 q194
                    cases e194
                    replace hx194_0 := (HB.out.cell (World.block_lt_of_cell? w _ hx194_0)).trans hx194_0
                    replace hx194_1 := (HB.out.cell (World.block_lt_of_cell? w _ hx194_1)).trans hx194_1
                    replace hx194_2 := (HB.out.cell (World.block_lt_of_cell? w _ hx194_2)).trans hx194_2
                    replace hx194_3 := (HB.out.cell (World.block_lt_of_cell? w _ hx194_3)).trans hx194_3
                    replace hx194_4 := (HB.out.cell (World.block_lt_of_cell? w _ hx194_4)).trans hx194_4
                    replace hx194_5 := (HB.out.cell (World.block_lt_of_cell? w _ hx194_5)).trans hx194_5
                    have HR194_3 := Aside0.mk hi194_3
                    have HC194_3 := Aside0.mk hl194_3
                    clear hi194_3 hl194_3
                    replace p194 := eq_true p194
                    replace q194 := eq_true q194
                    go_wp2_with (first | ((with_reducible refine gate_callee (f := 95) rfl ?_); refine goesL_ (some 22) rfl rfl Try.func95 (by kernel_rfl) rfl #[.agg #[.int .i64 ((rd_T134 l0_0 x5_1).f0), .int .i64 ((rd_T134 l0_0 x5_1).f1), .string ((rd_T134 l0_0 x5_1).f2), .slice A194_3 ((rd_T134 l0_0 x5_1).f3).length c194_3, .string ((rd_T134 l0_0 x5_1).f4), .int .i64 ((rd_T134 l0_0 x5_1).f5)], .string (⟨#[105, 100]⟩ : ByteArray)] rfl (by (try simp only [List.map_toArray, List.map_cons, List.map_nil]); first | done | rfl | (simp only [List.length_drop, List.length_take]; rfl)) ?_; (with_reducible refine (spec_l5Attr.calls k1 ((rd_T134 l0_0 x5_1).f0) ((rd_T134 l0_0 x5_1).f1) ((rd_T134 l0_0 x5_1).f2) _ _ ((rd_T134 l0_0 x5_1).f3) ((rd_T134 l0_0 x5_1).f4) ((rd_T134 l0_0 x5_1).f5) (⟨#[105, 100]⟩ : ByteArray) t195 _ ?side1 ?side2 A10.out).mono ?_); (case side1 => repeat (first | exact (Kd.C_below HR194_3.out HB.out) | (with_reducible refine Kd.C_alloc ?_ _) | (with_reducible refine Kd.C_drewN ?_ _) | (with_reducible refine Kd.C_drew ?_))); (case side2 => exact HC194_3.out); rintro e w19 ⟨rfl, hb⟩; refine ⟨_, rfl, ?_⟩; have n0_ := Aside0.mk (blk_below (g := gb192) (o := .cells #[.slice (some ad194) l0_0.length c0_0] 57 (0, 0)) (by (with_reducible repeat (first | refine blk_drewN ?_ _ | refine blk_drew ?_ | refine blk_alloc ?_ _)); exact BK192.out) hb); have n1_ := Aside0.mk (below_step (by repeat (first | (with_reducible first | exact HB.out | apply below_alloc | apply pw_below_drewN | apply below_drew1 | refine below_set ?_ GE192.out) | exact HB.out)) hb); clear BK192; clear HB; have BK192 := n0_; have HB := n1_; clear n0_ n1_; (try clear hb); (try clear hb2); (try clear hk); (try clear hi); have hcz20_0 : w19.cell? ⟨gb192, 0, none⟩ = some (.slice (some ad194) l0_0.length c0_0) := (blk_cell BK192.out 0).trans rfl; have hfz20_0 := blk_frozen BK192.out 0; have p196 : 0 ≤ (x5_1 : Int) := of_decide_eq_true (by first | (with_reducible assumption) | assumption); have q196 : x5_1 < (l0_0.length : Int) := of_decide_eq_true (by first | (with_reducible assumption) | assumption); obtain ⟨ad196, A196_3, c196_3, e196, hx196_0, hx196_1, hx196_2, hx196_3, hx196_4, hx196_5, hl196_3, hi196_3⟩ := at_T134 HR0_0.out x5_1 p196 q196; obtain rfl : ad194 = ad196 := (by injection e196); replace hx196_0 := (HB.out.cell (World.block_lt_of_cell? w _ hx196_0)).trans hx196_0; replace hx196_1 := (HB.out.cell (World.block_lt_of_cell? w _ hx196_1)).trans hx196_1; replace hx196_2 := (HB.out.cell (World.block_lt_of_cell? w _ hx196_2)).trans hx196_2; replace hx196_3 := (HB.out.cell (World.block_lt_of_cell? w _ hx196_3)).trans hx196_3; replace hx196_4 := (HB.out.cell (World.block_lt_of_cell? w _ hx196_4)).trans hx196_4; replace hx196_5 := (HB.out.cell (World.block_lt_of_cell? w _ hx196_5)).trans hx196_5; have HR196_3 := Aside0.mk hi196_3; have HC196_3 := Aside0.mk hl196_3; clear hi196_3 hl196_3; replace p196 := eq_true p196; replace q196 := eq_true q196; have p197 : 0 ≤ (t195 : Int) := of_decide_eq_true (by first | (with_reducible assumption) | assumption); have q197 : t195 < (((rd_T134 l0_0 x5_1).f3).length : Int) := of_decide_eq_true (by first | (with_reducible assumption) | assumption); obtain ⟨ad197, e197, hx197_0, hx197_1⟩ := at_T143 HR196_3.out t195 p197 q197; cases e197; replace hx197_0 := (HB.out.cell (World.block_lt_of_cell? w _ hx197_0)).trans hx197_0; replace hx197_1 := (HB.out.cell (World.block_lt_of_cell? w _ hx197_1)).trans hx197_1; replace p197 := eq_true p197; replace q197 := eq_true q197))
                    go_roundg k1
                    case measure => have := HK1.out; omega
                    case rel => exact ⟨(wrap64 (x5_1 + 1)), (by first | rfl | (simp; done) | (simp [*]; done)), H', ⟨by have := HK1.out; omega⟩, ⟨by (with_reducible repeat (first | refine blk_drewN ?_ _ | refine blk_drew ?_ | refine blk_alloc ?_ _)); exact BK192.out⟩, ⟨by repeat (first | (with_reducible first | exact HB.out | apply below_alloc | apply pw_below_drewN | apply below_drew1 | refine below_set ?_ GE192.out) | exact HB.out)⟩⟩
                · rw [if_neg c13] at H
                  exact absurd H (by simp)
              · rw [if_neg c12] at H
                exact absurd H (by simp)
            · rw [if_neg c11] at H
              have c11b0 : decide (0 ≤ t195) = false := decide_eq_false c11
              clear c11
              have H' := Aside0.mk H
              clear H
              have hcz21_0 : wr.cell? ⟨gb192, 0, none⟩ = some (.slice A0_0 l0_0.length c0_0) := (blk_cell BK192.out 0).trans rfl
              have hfz21_0 := blk_frozen BK192.out 0
              have p194 : 0 ≤ (x5_1 : Int) := of_decide_eq_true (by first | (with_reducible assumption) | assumption)
              have q194 : x5_1 < (l0_0.length : Int) := of_decide_eq_true (by first | (with_reducible assumption) | assumption)
              obtain ⟨ad194, A194_3, c194_3, e194, hx194_0, hx194_1, hx194_2, hx194_3, hx194_4, hx194_5, hl194_3, hi194_3⟩ := at_T134 HR0_0.out x5_1 p194 q194
              cases e194
              replace hx194_0 := (HB.out.cell (World.block_lt_of_cell? w _ hx194_0)).trans hx194_0
              replace hx194_1 := (HB.out.cell (World.block_lt_of_cell? w _ hx194_1)).trans hx194_1
              replace hx194_2 := (HB.out.cell (World.block_lt_of_cell? w _ hx194_2)).trans hx194_2
              replace hx194_3 := (HB.out.cell (World.block_lt_of_cell? w _ hx194_3)).trans hx194_3
              replace hx194_4 := (HB.out.cell (World.block_lt_of_cell? w _ hx194_4)).trans hx194_4
              replace hx194_5 := (HB.out.cell (World.block_lt_of_cell? w _ hx194_5)).trans hx194_5
              have HR194_3 := Aside0.mk hi194_3
              have HC194_3 := Aside0.mk hl194_3
              clear hi194_3 hl194_3
              replace p194 := eq_true p194
              replace q194 := eq_true q194
              go_wp2_with (first | ((with_reducible refine gate_callee (f := 95) rfl ?_); refine goesL_ (some 22) rfl rfl Try.func95 (by kernel_rfl) rfl #[.agg #[.int .i64 ((rd_T134 l0_0 x5_1).f0), .int .i64 ((rd_T134 l0_0 x5_1).f1), .string ((rd_T134 l0_0 x5_1).f2), .slice A194_3 ((rd_T134 l0_0 x5_1).f3).length c194_3, .string ((rd_T134 l0_0 x5_1).f4), .int .i64 ((rd_T134 l0_0 x5_1).f5)], .string (⟨#[105, 100]⟩ : ByteArray)] rfl (by (try simp only [List.map_toArray, List.map_cons, List.map_nil]); first | done | rfl | (simp only [List.length_drop, List.length_take]; rfl)) ?_; (with_reducible refine (spec_l5Attr.calls k1 ((rd_T134 l0_0 x5_1).f0) ((rd_T134 l0_0 x5_1).f1) ((rd_T134 l0_0 x5_1).f2) _ _ ((rd_T134 l0_0 x5_1).f3) ((rd_T134 l0_0 x5_1).f4) ((rd_T134 l0_0 x5_1).f5) (⟨#[105, 100]⟩ : ByteArray) t195 _ ?side1 ?side2 A10.out).mono ?_); (case side1 => repeat (first | exact (Kd.C_below HR194_3.out HB.out) | (with_reducible refine Kd.C_alloc ?_ _) | (with_reducible refine Kd.C_drewN ?_ _) | (with_reducible refine Kd.C_drew ?_))); (case side2 => exact HC194_3.out); rintro e w22 ⟨rfl, hb⟩; refine ⟨_, rfl, ?_⟩; have n0_ := Aside0.mk (blk_below (g := gb192) (o := .cells #[.slice (some ad194) l0_0.length c0_0] 57 (0, 0)) (by (with_reducible repeat (first | refine blk_drewN ?_ _ | refine blk_drew ?_ | refine blk_alloc ?_ _)); exact BK192.out) hb); have n1_ := Aside0.mk (below_step (by repeat (first | (with_reducible first | exact HB.out | apply below_alloc | apply pw_below_drewN | apply below_drew1 | refine below_set ?_ GE192.out) | exact HB.out)) hb); clear BK192; clear HB; have BK192 := n0_; have HB := n1_; clear n0_ n1_; (try clear hb); (try clear hb2); (try clear hk); (try clear hi)))
              go_roundg k1
              case measure => have := HK1.out; omega
              case rel => exact ⟨(wrap64 (x5_1 + 1)), (by first | rfl | (simp; done) | (simp [*]; done)), H', ⟨by have := HK1.out; omega⟩, ⟨by (with_reducible repeat (first | refine blk_drewN ?_ _ | refine blk_drew ?_ | refine blk_alloc ?_ _)); exact BK192.out⟩, ⟨by repeat (first | (with_reducible first | exact HB.out | apply below_alloc | apply pw_below_drewN | apply below_drew1 | refine below_set ?_ GE192.out) | exact HB.out)⟩⟩
          · rw [if_neg c9] at H
            exact absurd H (by simp)
        · rw [if_neg c8] at H
          have c8b0 : decide (x5_1 < (l0_0.length : Int)) = false := decide_eq_false c8
          clear c8
          obtain rfl := Option.some.inj H
          have hcz23_0 : wr.cell? ⟨gb192, 0, none⟩ = some (.slice A0_0 l0_0.length c0_0) := (blk_cell BK192.out 0).trans rfl
          have hfz23_0 := blk_frozen BK192.out 0
          go_wp2
          go_ret
          exact ⟨by first | rfl | (simp [errW_none, errW_some] <;> rfl) | (simp [*, errW_none, errW_some] <;> rfl), by repeat (first | (with_reducible first | exact HB.out | apply below_alloc | apply pw_below_drewN | apply below_drew1 | refine below_set ?_ GE192.out) | exact HB.out)⟩
  · replace c4 := Bool.eq_false_iff.mpr c4
    subst c4
    have H1 : (some (-1)) = some r := by rw [if_neg (show ¬ (false = true) by decide)] at H; exact H
    clear H
    have H := H1
    clear H1
    obtain rfl := Option.some.inj H
    go_enter Try.func40, Try.ntmps40
    go_wp2_with (first | ((with_reducible refine gate_dst (N := 2) rfl ?_); refine box_event ?hg (N := 2) ?hd (cs := #[.slice A0_0 l0_0.length c0_0]) (t := 57) ?hr ?_; (case hd => rfl); (case hg => rfl); (case hr => first | (go_simp; done) | (go_simp; rfl)); intro gb192 hg w24 hbox hb; have n0_ := Aside0.mk (below_step (by repeat (first | (with_reducible first | exact HB.out | apply below_alloc | apply pw_below_drewN | apply below_drew1) | exact HB.out)) hb); have n1_ := Aside0.mk (hbox); have n2_ := Aside0.mk ((by rw [hg]; exact (below_size (by repeat (first | (with_reducible first | exact HB.out | apply below_alloc | apply pw_below_drewN | apply below_drew1) | exact HB.out))) : w.heap.size ≤ gb192)); have n3_ := Aside0.mk ((by rw [hg]; exact (below_size (by repeat (first | (with_reducible first | exact HB.out | apply below_alloc | apply pw_below_drewN | apply below_drew1) | exact HB.out))) : w.heap.size ≤ gb192)); clear HB; have HB := n0_; have BK192 := n1_; have GW192 := n2_; have GE192 := n3_; clear n0_ n1_ n2_ n3_; clear hb hbox hg; have hcz25_0 : w24.cell? ⟨gb192, 0, none⟩ = some (.slice A0_0 l0_0.length c0_0) := (blk_cell BK192.out 0).trans rfl; have hfz25_0 := blk_frozen BK192.out 0) | ((with_reducible refine gate_callee (f := 30) rfl ?_); refine goesL_ (some 8) rfl rfl Try.func30 (by kernel_rfl) rfl #[.agg #[.slice A0_0 l0_0.length c0_0]] rfl (by (try simp only [List.map_toArray, List.map_cons, List.map_nil]); first | done | rfl | (simp only [List.length_drop, List.length_take]; rfl)) ?_; (with_reducible refine (spec_TreeOk.calls k _ _ l0_0 false _ ?side1 ?side2 A3.out).mono ?_); (case side1 => repeat (first | exact (Kd.C_below HR0_0.out HB.out) | (with_reducible refine Kd.C_alloc ?_ _) | (with_reducible refine Kd.C_drewN ?_ _) | (with_reducible refine Kd.C_drew ?_))); (case side2 => exact HC0_0.out); rintro e w26 ⟨rfl, hb⟩; refine ⟨_, rfl, ?_⟩; have n0_ := Aside0.mk (blk_below (g := gb192) (o := .cells #[.slice A0_0 l0_0.length c0_0] 57 (0, 0)) (by (with_reducible repeat (first | refine blk_drewN ?_ _ | refine blk_drew ?_ | refine blk_alloc ?_ _)); exact BK192.out) hb); have n1_ := Aside0.mk (below_step (by repeat (first | (with_reducible first | exact HB.out | apply below_alloc | apply pw_below_drewN | apply below_drew1 | refine below_set ?_ GE192.out) | exact HB.out)) hb); clear BK192; clear HB; have BK192 := n0_; have HB := n1_; clear n0_ n1_; (try clear hb); (try clear hb2); (try clear hk); (try clear hi)))
    go_ret
    exact ⟨by first | rfl | (simp [errW_none, errW_some] <;> rfl) | (simp [*, errW_none, errW_some] <;> rfl), by repeat (first | (with_reducible first | exact HB.out | apply below_alloc | apply pw_below_drewN | apply below_drew1 | refine below_set ?_ GE192.out) | exact HB.out)⟩

/-! ### impl_attrsRight: function 125 -/
def impl_attrsRight.l0 : Nat → List ByteArray → List (S143) → Int → Int → Option (Bool)
  | 0, _, _, _, _ => none
  | k + 1, x3, x7, x8, x9 => if x9 < x8 then (if 0 ≤ x9 then (if x9 < (x7.length : Int) then (if ((rd_T143 x7 x9).f0).toList = ([] : List UInt8) then (some false) else (if smem x3 ((rd_T143 x7 x9).f0) = true then (some false) else (if (0 : Nat) ≤ 9223372036854775807 then (impl_attrsRight.l0 k (((rd_T143 x7 x9).f0) :: x3) x7 x8 (wrap64 (x9 + 1))) else (none)))) else (none)) else (none)) else (some true)
def impl_attrsRight.f (k : Nat) (l0 : List (S143)) : Option (Bool) := impl_attrsRight.l0 k ([] : List ByteArray) l0 (l0.length : Int) 0
theorem impl_attrsRight.mono_l : ∀ k, (∀ y0 y1 y2 y3, LeO (impl_attrsRight.l0 k y0 y1 y2 y3) (impl_attrsRight.l0 (k + 1) y0 y1 y2 y3))
  | 0 => fun _ _ _ _ r h => by simp [impl_attrsRight.l0] at h
  | k + 1 => by
    have ih0 := impl_attrsRight.mono_l k
    · intro y0 y1 y2 y3
      unfold impl_attrsRight.l0
      repeat' first
      | (with_reducible exact ih0 _ _ _ _)
      | (with_reducible exact LeO.refl _)
      | (with_reducible exact LeO.none _)
      | (with_reducible refine LeO.ite ?_ ?_)
      | (with_reducible refine LeO.bind ?_ (fun _ => ?_))
      | exact ih0 _ _ _ _
      | exact LeO.none _
      | refine LeO.ite ?_ ?_
      | refine LeO.bind ?_ (fun _ => ?_)
theorem impl_attrsRight.mono : ∀ a0 k, LeO (impl_attrsRight.f k a0) (impl_attrsRight.f (k + 1) a0) := by
  intro a0 k
  have ih0 := impl_attrsRight.mono_l k
  unfold impl_attrsRight.f
  repeat' first
      | (with_reducible exact ih0 _ _ _ _)
      | (with_reducible exact LeO.refl _)
      | (with_reducible exact LeO.none _)
      | (with_reducible refine LeO.ite ?_ ?_)
      | (with_reducible refine LeO.bind ?_ (fun _ => ?_))
      | exact ih0 _ _ _ _
      | exact LeO.none _
      | refine LeO.ite ?_ ?_
      | refine LeO.bind ?_ (fun _ => ?_)
set_option maxHeartbeats 8000000 in
set_option maxRecDepth 100000 in
theorem impl_attrsRight.calls (k : Nat) (A0 : Option Addr) (c0 : Nat) (l0 : List (S143)) (r : Bool) (w : World) (hr0 : Kd.C k143 w A0 l0.length l0) (hc0 : l0.length ≤ c0) (h : impl_attrsRight.f k l0 = some r) :
    Calls Try.prog 125 #[.slice A0 l0.length c0] w fun e w' => e = .returned (.bool r) ∧ Below w.heap.size w w' := by
  have hu143 := Try.underlying143
  have HR0 := Aside0.mk hr0
  have HC0 := Aside0.mk hc0
  clear hr0 hc0
  have HB := Aside0.mk (Below.refl w.heap.size w)
  have H : (impl_attrsRight.l0 k ([] : List ByteArray) l0 (l0.length : Int) 0) = some r := h
  clear h
  have H' := Aside0.mk H
  clear H
  have hmm := @run_makeMap Try.prog
  go_enter Try.func125, Try.ntmps125
  go_wp2_with (first | ((with_reducible refine gate_dst (N := 6) rfl ?_); refine make_event ?hg (N := 6) ?hd ?hr ?_; (case hd => rfl); (case hg => rfl); (case hr => first | (go_simp; done) | (go_simp; rfl)); intro gm hg wM hbox hb; have n0_ := Aside0.mk (below_step (by repeat (first | (with_reducible first | exact HB.out | apply below_alloc | apply pw_below_drewN | apply below_drew1) | exact HB.out)) hb); have n1_ := Aside0.mk (show wM.heap[gm]? = some (sobj Value.string []) from hbox); have n2_ := Aside0.mk ((by rw [hg]; exact (below_size (by repeat (first | (with_reducible first | exact HB.out | apply below_alloc | apply pw_below_drewN | apply below_drew1) | exact HB.out)))) : w.heap.size ≤ gm); clear HB; have HB := n0_; have BKM := n1_; have GEM := n2_; clear n0_ n1_ n2_; clear hb hbox hg))
  clear hmm
  go_loopg [9] k (fun kq v9 w' => ∃ (x3_1 : List ByteArray) (x9_1 : Int), v9 = .int .i64 x9_1 ∧ Aside0 (impl_attrsRight.l0 kq x3_1 l0 (l0.length : Int) x9_1 = some r) ∧ Aside0 (kq ≤ k) ∧ Aside0 (w'.heap[gm]? = some (sobj Value.string x3_1)) ∧ Aside0 (Below w.heap.size w w'))
  case atStart => exact ⟨(([] : List ByteArray)), (0), (by first | rfl | (simp; done) | (simp [*]; done)), H', ⟨Nat.le_refl _⟩, ⟨by (with_reducible repeat (first | exact BKM.out | refine blk_drewN ?_ _ | refine blk_drew ?_ | refine blk_alloc ?_ _))⟩, ⟨by repeat (first | (with_reducible first | exact HB.out | apply below_alloc | apply pw_below_drewN | apply below_drew1) | exact HB.out)⟩⟩
  case round =>
    clear H'
    try clear c1
    obtain ⟨x3_1, x9_1, rfl, HA, HK1, BKM, HB⟩ := hrel
    cases gk with
    | zero => exact absurd HA.out (by simp [impl_attrsRight.l0])
    | succ k1 =>
      have H := HA.out
      clear HA
      simp only [impl_attrsRight.l0] at H
      by_cases c2 : x9_1 < (l0.length : Int)
      · rw [if_pos c2] at H
        have c2b0 : decide (x9_1 < (l0.length : Int)) = true := decide_eq_true c2
        clear c2
        by_cases c3 : 0 ≤ x9_1
        · rw [if_pos c3] at H
          have c3b0 : decide (0 ≤ x9_1) = true := decide_eq_true c3
          clear c3
          by_cases c4 : x9_1 < (l0.length : Int)
          · rw [if_pos c4] at H
            have c4b0 : decide (x9_1 < (l0.length : Int)) = true := decide_eq_true c4
            clear c4
            by_cases c5 : ((rd_T143 l0 x9_1).f0).toList = ([] : List UInt8)
            · rw [if_pos c5] at H
              have c5b0 : (((rd_T143 l0 x9_1).f0).toList == ([] : List UInt8)) = true := beq_iff_eq.mpr c5
              have c5b1 : (((rd_T143 l0 x9_1).f0).toList != ([] : List UInt8)) = false := bne_eq_false_iff_eq.mpr c5
              clear c5
              obtain rfl := Option.some.inj H
              have p199 : 0 ≤ (x9_1 : Int) := of_decide_eq_true (by first | (with_reducible assumption) | assumption)
              have q199 : x9_1 < (l0.length : Int) := of_decide_eq_true (by first | (with_reducible assumption) | assumption)
              obtain ⟨ad199, e199, hx199_0, hx199_1⟩ := at_T143 HR0.out x9_1 p199 q199
              cases e199
              replace hx199_0 := (HB.out.cell (World.block_lt_of_cell? w _ hx199_0)).trans hx199_0
              replace hx199_1 := (HB.out.cell (World.block_lt_of_cell? w _ hx199_1)).trans hx199_1
              replace p199 := eq_true p199
              replace q199 := eq_true q199
              go_wp2_with (first | ((with_reducible refine gate_dst (N := 5) rfl ?_); refine box_event ?hg (N := 5) ?hd (cs := #[.string (⟨#[]⟩ : ByteArray), .string (⟨#[]⟩ : ByteArray)]) (t := 143) ?hr ?_; (case hd => rfl); (case hg => rfl); (case hr => first | (go_simp; done) | (go_simp; rfl)); intro gb200 hg w6 hbox hb; have m0_ := Aside0.mk (blk_below (g := gm) (o := sobj Value.string x3_1) (by exact (by (with_reducible repeat (first | exact BKM.out | refine blk_drewN ?_ _ | refine blk_drew ?_ | refine blk_alloc ?_ _)))) hb); have m1_ := Aside0.mk (show gm ≠ gb200 from (by rw [hg]; exact Nat.ne_of_lt (blk_lt (o := sobj Value.string x3_1) (by exact (by (with_reducible repeat (first | exact BKM.out | refine blk_drewN ?_ _ | refine blk_drew ?_ | refine blk_alloc ?_ _))))))); clear BKM; have BKM := m0_; have NBM_200 := m1_; clear m0_ m1_; have n0_ := Aside0.mk (below_step (by repeat (first | (with_reducible first | exact HB.out | apply below_alloc | apply pw_below_drewN | apply below_drew1) | exact HB.out)) hb); have n1_ := Aside0.mk (hbox); have n2_ := Aside0.mk ((by rw [hg]; exact (below_size (by repeat (first | (with_reducible first | exact HB.out | apply below_alloc | apply pw_below_drewN | apply below_drew1) | exact HB.out))) : w.heap.size ≤ gb200)); have n3_ := Aside0.mk ((by rw [hg]; exact (below_size (by repeat (first | (with_reducible first | exact HB.out | apply below_alloc | apply pw_below_drewN | apply below_drew1) | exact HB.out))) : w.heap.size ≤ gb200)); clear HB; have HB := n0_; have BK200 := n1_; have GW200 := n2_; have GE200 := n3_; clear n0_ n1_ n2_ n3_; clear hb hbox hg; have hcz7_0 : w6.cell? ⟨gb200, 0, none⟩ = some (.string (⟨#[]⟩ : ByteArray)) := (blk_cell BK200.out 0).trans rfl; have hcz7_1 : w6.cell? ⟨gb200, 1, none⟩ = some (.string (⟨#[]⟩ : ByteArray)) := (blk_cell BK200.out 1).trans rfl; have hfz7_0 := blk_frozen BK200.out 0; have hfz7_1 := blk_frozen BK200.out 1))
              go_ret
              exact ⟨by first | rfl | (simp [errW_none, errW_some] <;> rfl) | (simp [*, errW_none, errW_some] <;> rfl), by repeat (first | (with_reducible first | exact HB.out | apply below_alloc | apply pw_below_drewN | apply below_drew1 | refine below_set ?_ GE200.out) | exact HB.out)⟩
            · rw [if_neg c5] at H
              have c5b0 : (((rd_T143 l0 x9_1).f0).toList == ([] : List UInt8)) = false := beq_eq_false_iff_ne.mpr c5
              have c5b1 : (((rd_T143 l0 x9_1).f0).toList != ([] : List UInt8)) = true := bne_iff_ne.mpr c5
              by_cases c8 : smem x3_1 ((rd_T143 l0 x9_1).f0) = true
              · rw [if_pos c8] at H
                have CM := Aside0.mk c8
                clear c8
                obtain rfl := Option.some.inj H
                have p199 : 0 ≤ (x9_1 : Int) := of_decide_eq_true (by first | (with_reducible assumption) | assumption)
                have q199 : x9_1 < (l0.length : Int) := of_decide_eq_true (by first | (with_reducible assumption) | assumption)
                obtain ⟨ad199, e199, hx199_0, hx199_1⟩ := at_T143 HR0.out x9_1 p199 q199
                cases e199
                replace hx199_0 := (HB.out.cell (World.block_lt_of_cell? w _ hx199_0)).trans hx199_0
                replace hx199_1 := (HB.out.cell (World.block_lt_of_cell? w _ hx199_1)).trans hx199_1
                replace p199 := eq_true p199
                replace q199 := eq_true q199
                go_wp2_with (first | ((with_reducible refine gate_dst (N := 5) rfl ?_); refine box_event ?hg (N := 5) ?hd (cs := #[.string (⟨#[]⟩ : ByteArray), .string (⟨#[]⟩ : ByteArray)]) (t := 143) ?hr ?_; (case hd => rfl); (case hg => rfl); (case hr => first | (go_simp; done) | (go_simp; rfl)); intro gb200 hg w9 hbox hb; have m0_ := Aside0.mk (blk_below (g := gm) (o := sobj Value.string x3_1) (by exact (by (with_reducible repeat (first | exact BKM.out | refine blk_drewN ?_ _ | refine blk_drew ?_ | refine blk_alloc ?_ _)))) hb); have m1_ := Aside0.mk (show gm ≠ gb200 from (by rw [hg]; exact Nat.ne_of_lt (blk_lt (o := sobj Value.string x3_1) (by exact (by (with_reducible repeat (first | exact BKM.out | refine blk_drewN ?_ _ | refine blk_drew ?_ | refine blk_alloc ?_ _))))))); clear BKM; have BKM := m0_; have NBM_200 := m1_; clear m0_ m1_; have n0_ := Aside0.mk (below_step (by repeat (first | (with_reducible first | exact HB.out | apply below_alloc | apply pw_below_drewN | apply below_drew1) | exact HB.out)) hb); have n1_ := Aside0.mk (hbox); have n2_ := Aside0.mk ((by rw [hg]; exact (below_size (by repeat (first | (with_reducible first | exact HB.out | apply below_alloc | apply pw_below_drewN | apply below_drew1) | exact HB.out))) : w.heap.size ≤ gb200)); have n3_ := Aside0.mk ((by rw [hg]; exact (below_size (by repeat (first | (with_reducible first | exact HB.out | apply below_alloc | apply pw_below_drewN | apply below_drew1) | exact HB.out))) : w.heap.size ≤ gb200)); clear HB; have HB := n0_; have BK200 := n1_; have GW200 := n2_; have GE200 := n3_; clear n0_ n1_ n2_ n3_; clear hb hbox hg; have hcz10_0 : w9.cell? ⟨gb200, 0, none⟩ = some (.string (⟨#[]⟩ : ByteArray)) := (blk_cell BK200.out 0).trans rfl; have hcz10_1 : w9.cell? ⟨gb200, 1, none⟩ = some (.string (⟨#[]⟩ : ByteArray)) := (blk_cell BK200.out 1).trans rfl; have hfz10_0 := blk_frozen BK200.out 0; have hfz10_1 := blk_frozen BK200.out 1) | (at_lookup; (try (refine gate_guard (by rfl) ?_; dsimp only)); refine sget_event (kt := 9) (et := 4) (d := .string) (ek := Value.string) (ks := x3_1) (g := gm) rfl _ _ rfl rfl (((rd_T143 l0 x9_1).f0)) rfl Try.underlying237 Try.underlying9 (fun _ => trivial) vstr_inj zero_bool (by (with_reducible repeat (first | exact BKM.out | refine blk_drewN ?_ _ | refine blk_drew ?_ | refine blk_alloc ?_ _ | refine obj_far ?_ NBM_200.out _))) true CM.out ?_))
                go_ret
                exact ⟨by first | rfl | (simp [errW_none, errW_some] <;> rfl) | (simp [*, errW_none, errW_some] <;> rfl), by repeat (first | (with_reducible first | exact HB.out | apply below_alloc | apply pw_below_drewN | apply below_drew1 | refine below_set ?_ GE200.out) | exact HB.out)⟩
              · rw [if_neg c8] at H
                have CM := Aside0.mk (Bool.eq_false_iff.mpr c8)
                clear c8
                by_cases c11 : (0 : Nat) ≤ 9223372036854775807
                · rw [if_pos c11] at H
                  clear c11
                  have H' := Aside0.mk H
                  clear H
                  have p199 : 0 ≤ (x9_1 : Int) := of_decide_eq_true (by first | (with_reducible assumption) | assumption)
                  have q199 : x9_1 < (l0.length : Int) := of_decide_eq_true (by first | (with_reducible assumption) | assumption)
                  obtain ⟨ad199, e199, hx199_0, hx199_1⟩ := at_T143 HR0.out x9_1 p199 q199
                  cases e199
                  replace hx199_0 := (HB.out.cell (World.block_lt_of_cell? w _ hx199_0)).trans hx199_0
                  replace hx199_1 := (HB.out.cell (World.block_lt_of_cell? w _ hx199_1)).trans hx199_1
                  replace p199 := eq_true p199
                  replace q199 := eq_true q199
                  go_wp2_with (first | ((with_reducible refine gate_dst (N := 5) rfl ?_); refine box_event ?hg (N := 5) ?hd (cs := #[.string (⟨#[]⟩ : ByteArray), .string (⟨#[]⟩ : ByteArray)]) (t := 143) ?hr ?_; (case hd => rfl); (case hg => rfl); (case hr => first | (go_simp; done) | (go_simp; rfl)); intro gb200 hg w12 hbox hb; have m0_ := Aside0.mk (blk_below (g := gm) (o := sobj Value.string x3_1) (by exact (by (with_reducible repeat (first | exact BKM.out | refine blk_drewN ?_ _ | refine blk_drew ?_ | refine blk_alloc ?_ _)))) hb); have m1_ := Aside0.mk (show gm ≠ gb200 from (by rw [hg]; exact Nat.ne_of_lt (blk_lt (o := sobj Value.string x3_1) (by exact (by (with_reducible repeat (first | exact BKM.out | refine blk_drewN ?_ _ | refine blk_drew ?_ | refine blk_alloc ?_ _))))))); clear BKM; have BKM := m0_; have NBM_200 := m1_; clear m0_ m1_; have n0_ := Aside0.mk (below_step (by repeat (first | (with_reducible first | exact HB.out | apply below_alloc | apply pw_below_drewN | apply below_drew1) | exact HB.out)) hb); have n1_ := Aside0.mk (hbox); have n2_ := Aside0.mk ((by rw [hg]; exact (below_size (by repeat (first | (with_reducible first | exact HB.out | apply below_alloc | apply pw_below_drewN | apply below_drew1) | exact HB.out))) : w.heap.size ≤ gb200)); have n3_ := Aside0.mk ((by rw [hg]; exact (below_size (by repeat (first | (with_reducible first | exact HB.out | apply below_alloc | apply pw_below_drewN | apply below_drew1) | exact HB.out))) : w.heap.size ≤ gb200)); clear HB; have HB := n0_; have BK200 := n1_; have GW200 := n2_; have GE200 := n3_; clear n0_ n1_ n2_ n3_; clear hb hbox hg; have hcz13_0 : w12.cell? ⟨gb200, 0, none⟩ = some (.string (⟨#[]⟩ : ByteArray)) := (blk_cell BK200.out 0).trans rfl; have hcz13_1 : w12.cell? ⟨gb200, 1, none⟩ = some (.string (⟨#[]⟩ : ByteArray)) := (blk_cell BK200.out 1).trans rfl; have hfz13_0 := blk_frozen BK200.out 0; have hfz13_1 := blk_frozen BK200.out 1) | (at_lookup; (try (refine gate_guard (by rfl) ?_; dsimp only)); refine sget_event (kt := 9) (et := 4) (d := .string) (ek := Value.string) (ks := x3_1) (g := gm) rfl _ _ rfl rfl (((rd_T143 l0 x9_1).f0)) rfl Try.underlying237 Try.underlying9 (fun _ => trivial) vstr_inj zero_bool (by (with_reducible repeat (first | exact BKM.out | refine blk_drewN ?_ _ | refine blk_drew ?_ | refine blk_alloc ?_ _ | refine obj_far ?_ NBM_200.out _))) false CM.out ?_) | (at_mapUpdate; refine sput_event (kt := 9) (et := 4) (d := .string) (ek := Value.string) (ks := x3_1) (g := gm) rfl _ _ _ rfl rfl rfl (((rd_T143 l0 x9_1).f0)) rfl rfl Try.underlying237 Try.underlying9 (fun _ => trivial) vstr_inj (by (with_reducible repeat (first | exact BKM.out | refine blk_drewN ?_ _ | refine blk_drew ?_ | refine blk_alloc ?_ _ | refine obj_far ?_ NBM_200.out _))) ?_; intro wP hmap hg; have m0_ := Aside0.mk (show wP.heap[gm]? = some (sobj Value.string ((((rd_T143 l0 x9_1).f0)) :: x3_1)) from hmap); have m1_ := Aside0.mk (pw_below_grown (by repeat (first | (with_reducible first | exact HB.out | apply below_alloc | apply pw_below_drewN | apply below_drew1 | refine below_set ?_ GE200.out) | exact HB.out)) _ (below_size (by repeat (first | (with_reducible first | exact HB.out | apply below_alloc | apply pw_below_drewN | apply below_drew1 | refine below_set ?_ GE200.out) | exact HB.out))) hg (fun k hk => by injection hk with hk; rw [← hk]; exact GEM.out)); clear BKM HB; have BKM := m0_; have HB := m1_; clear m0_ m1_ hmap hg))
                  go_roundg k1
                  case measure => have := HK1.out; omega
                  case rel => exact ⟨(((rd_T143 l0 x9_1).f0) :: x3_1), (wrap64 (x9_1 + 1)), (by first | rfl | (simp; done) | (simp [*]; done)), H', ⟨by have := HK1.out; omega⟩, ⟨by (with_reducible repeat (first | exact BKM.out | refine blk_drewN ?_ _ | refine blk_drew ?_ | refine blk_alloc ?_ _))⟩, ⟨by repeat (first | (with_reducible first | exact HB.out | apply below_alloc | apply pw_below_drewN | apply below_drew1 | refine below_set ?_ GE200.out) | exact HB.out)⟩⟩
                · rw [if_neg c11] at H
                  exact absurd H (by simp)
          · rw [if_neg c4] at H
            exact absurd H (by simp)
        · rw [if_neg c3] at H
          exact absurd H (by simp)
      · rw [if_neg c2] at H
        have c2b0 : decide (x9_1 < (l0.length : Int)) = false := decide_eq_false c2
        clear c2
        obtain rfl := Option.some.inj H
        go_wp2
        go_ret
        exact ⟨by first | rfl | (simp [errW_none, errW_some] <;> rfl) | (simp [*, errW_none, errW_some] <;> rfl), by repeat (first | (with_reducible first | exact HB.out | apply below_alloc | apply pw_below_drewN | apply below_drew1) | exact HB.out)⟩

end Go.Proofs.Ytjoanlocikagaaa.QFnExactFindId
