/- Written by a program (wip/tools/own_print.py) out of the walk that the kit's printer made; turned where it fell. -/
-- PRINTED by print.py (a twelfth state) out of the translation. Not trusted: Lean checks it.
import Derived.Test.YtjoanlocikagaaaMapObj
import Derived.Test.YtjoanlocikagaaaQFnExactTextOfx0
import Derived.Test.YtjoanlocikagaaaQFnExactTextOfx3
import Derived.Test.YtjoanlocikagaaaQFnExactTextOfx5
namespace Go.Proofs.Ytjoanlocikagaaa.QFnExactTextOf
open Go.RowKit Go.Proofs.YtjoanlocikagaaaV.PrintWords Go.Proofs.YtjoanlocikagaaaV.PrintLast Go.Proofs.YtjoanlocikagaaaV.PrintMore
attribute [local go_sem] max2_int min2_int max_two min_two max_three min_three max_four min_four   -- for this text's walks alone
open Go.Proofs.Ytjoanlocikagaaa.MapObj
set_option linter.unusedVariables false
set_option linter.unusedSimpArgs false

private theorem zero_bool {W : World} : (zeroValue 4).run Try.prog W = .ok (.bool false) W := by kernel_rfl
/-! ### spec_l4At: function 97 -/
def spec_l4At.l0 : Nat → Int → Int → List (S134) → Option (Int)
  | 0, _, _, _ => none
  | k + 1, x1, x5, x191000 => if x5 < (x191000.length : Int) then (if 0 ≤ x5 then (if ((rd_T134 x191000 x5).f0) = x1 then (some x5) else (spec_l4At.l0 k x1 (wrap64 (x5 + 1)) x191000)) else (none)) else (some (-1))
def spec_l4At.f (k : Nat) (l0_0 : List (S134)) (a1 : Int) : Option (Int) := spec_l4At.l0 k a1 0 l0_0
theorem spec_l4At.mono_l : ∀ k, (∀ y0 y1 y2, LeO (spec_l4At.l0 k y0 y1 y2) (spec_l4At.l0 (k + 1) y0 y1 y2))
  | 0 => fun _ _ _ r h => by simp [spec_l4At.l0] at h
  | k + 1 => by
    have ih0 := spec_l4At.mono_l k
    · intro y0 y1 y2
      unfold spec_l4At.l0
      repeat' first
      | (with_reducible exact ih0 _ _ _)
      | (with_reducible exact LeO.refl _)
      | (with_reducible exact LeO.none _)
      | (with_reducible refine LeO.ite ?_ ?_)
      | (with_reducible refine LeO.bind ?_ (fun _ => ?_))
      | exact ih0 _ _ _
      | exact LeO.none _
      | refine LeO.ite ?_ ?_
      | refine LeO.bind ?_ (fun _ => ?_)
theorem spec_l4At.mono : ∀ a0 a1 k, LeO (spec_l4At.f k a0 a1) (spec_l4At.f (k + 1) a0 a1) := by
  intro a0 a1 k
  have ih0 := spec_l4At.mono_l k
  unfold spec_l4At.f
  repeat' first
      | (with_reducible exact ih0 _ _ _)
      | (with_reducible exact LeO.refl _)
      | (with_reducible exact LeO.none _)
      | (with_reducible refine LeO.ite ?_ ?_)
      | (with_reducible refine LeO.bind ?_ (fun _ => ?_))
      | exact ih0 _ _ _
      | exact LeO.none _
      | refine LeO.ite ?_ ?_
      | refine LeO.bind ?_ (fun _ => ?_)
set_option maxHeartbeats 8000000 in
set_option maxRecDepth 100000 in
theorem spec_l4At.calls (k : Nat) (A0_0 : Option Addr) (c0_0 : Nat) (l0_0 : List (S134)) (a1 : Int) (r : Int) (w : World) (hr0_0 : Kd.C k134 w A0_0 l0_0.length l0_0) (hc0_0 : l0_0.length ≤ c0_0) (h : spec_l4At.f k l0_0 a1 = some r) :
    Calls Try.prog 97 #[.agg #[.slice A0_0 l0_0.length c0_0], .int .i64 a1] w fun e w' => e = .returned (.int .i64 r) ∧ Below w.heap.size w w' := by
  have hu57 := Try.underlying57
  have HR0_0 := Aside0.mk hr0_0
  have HC0_0 := Aside0.mk hc0_0
  clear hr0_0 hc0_0
  have HB := Aside0.mk (Below.refl w.heap.size w)
  have H : (spec_l4At.l0 k a1 0 l0_0) = some r := h
  clear h
  have H' := Aside0.mk H
  clear H
  go_enter Try.func97, Try.ntmps97
  go_wp2_with (first | ((with_reducible refine gate_dst (N := 2) rfl ?_); refine box_event ?hg (N := 2) ?hd (cs := #[.slice A0_0 l0_0.length c0_0]) (t := 57) ?hr ?_; (case hd => rfl); (case hg => rfl); (case hr => first | (go_simp; done) | (go_simp; rfl)); intro gb190 hg w3 hbox hb; have n0_ := Aside0.mk (below_step (by repeat (first | (with_reducible first | exact HB.out | apply below_alloc | apply pw_below_drewN | apply below_drew1) | exact HB.out)) hb); have n1_ := Aside0.mk (hbox); have n2_ := Aside0.mk ((by rw [hg]; exact (below_size (by repeat (first | (with_reducible first | exact HB.out | apply below_alloc | apply pw_below_drewN | apply below_drew1) | exact HB.out))) : w.heap.size ≤ gb190)); have n3_ := Aside0.mk ((by rw [hg]; exact (below_size (by repeat (first | (with_reducible first | exact HB.out | apply below_alloc | apply pw_below_drewN | apply below_drew1) | exact HB.out))) : w.heap.size ≤ gb190)); clear HB; have HB := n0_; have BK190 := n1_; have GW190 := n2_; have GE190 := n3_; clear n0_ n1_ n2_ n3_; clear hb hbox hg))
  go_loopg [5] k (fun kq v5 w' => ∃ (x5_1 : Int), v5 = .int .i64 x5_1 ∧ Aside0 (spec_l4At.l0 kq a1 x5_1 l0_0 = some r) ∧ Aside0 (kq ≤ k) ∧ Aside0 (w'.heap[gb190]? = some (.cells #[(.slice A0_0 l0_0.length c0_0)] 57 (0, 0))) ∧ Aside0 (Below w.heap.size w w'))
  case atStart => exact ⟨(0), (by first | rfl | (simp; done) | (simp [*]; done)), H', ⟨Nat.le_refl _⟩, ⟨by (with_reducible repeat (first | refine blk_drewN ?_ _ | refine blk_drew ?_ | refine blk_alloc ?_ _)); exact BK190.out⟩, ⟨by repeat (first | (with_reducible first | exact HB.out | apply below_alloc | apply pw_below_drewN | apply below_drew1 | refine below_set ?_ GE190.out) | exact HB.out)⟩⟩
  case round =>
    clear H'
    try clear p2
    obtain ⟨x5_1, rfl, HA, HK1, BK190, HB⟩ := hrel
    cases gk with
    | zero => exact absurd HA.out (by simp [spec_l4At.l0])
    | succ k1 =>
      have H := HA.out
      clear HA
      simp only [spec_l4At.l0] at H
      by_cases c4 : x5_1 < (l0_0.length : Int)
      · rw [if_pos c4] at H
        have c4b0 : decide (x5_1 < (l0_0.length : Int)) = true := decide_eq_true c4
        clear c4
        by_cases c5 : 0 ≤ x5_1
        · rw [if_pos c5] at H
          have c5b0 : decide (0 ≤ x5_1) = true := decide_eq_true c5
          clear c5
          by_cases c6 : ((rd_T134 l0_0 x5_1).f0) = a1
          · rw [if_pos c6] at H
            have c6b0 : (((rd_T134 l0_0 x5_1).f0) == a1) = true := beq_iff_eq.mpr c6
            have c6b1 : (((rd_T134 l0_0 x5_1).f0) != a1) = false := bne_eq_false_iff_eq.mpr c6
            clear c6
            obtain rfl := Option.some.inj H
            have hcz7_0 : wr.cell? ⟨gb190, 0, none⟩ = some (.slice A0_0 l0_0.length c0_0) := (blk_cell BK190.out 0).trans rfl
            have hfz7_0 := blk_frozen BK190.out 0
            have p191 : 0 ≤ (x5_1 : Int) := of_decide_eq_true (by first | (with_reducible assumption) | assumption)
            have q191 : x5_1 < (l0_0.length : Int) := of_decide_eq_true (by first | (with_reducible assumption) | assumption)
            obtain ⟨ad191, A191_3, c191_3, e191, hx191_0, hx191_1, hx191_2, hx191_3, hx191_4, hx191_5, hl191_3, hi191_3⟩ := at_T134 HR0_0.out x5_1 p191 q191
            cases e191
            replace hx191_0 := (HB.out.cell (World.block_lt_of_cell? w _ hx191_0)).trans hx191_0
            replace hx191_1 := (HB.out.cell (World.block_lt_of_cell? w _ hx191_1)).trans hx191_1
            replace hx191_2 := (HB.out.cell (World.block_lt_of_cell? w _ hx191_2)).trans hx191_2
            replace hx191_3 := (HB.out.cell (World.block_lt_of_cell? w _ hx191_3)).trans hx191_3
            replace hx191_4 := (HB.out.cell (World.block_lt_of_cell? w _ hx191_4)).trans hx191_4
            replace hx191_5 := (HB.out.cell (World.block_lt_of_cell? w _ hx191_5)).trans hx191_5
            have HR191_3 := Aside0.mk hi191_3
            have HC191_3 := Aside0.mk hl191_3
            clear hi191_3 hl191_3
            replace p191 := eq_true p191
            replace q191 := eq_true q191
            go_wp2
            go_ret
            exact ⟨by first | rfl | (simp [errW_none, errW_some] <;> rfl) | (simp [*, errW_none, errW_some] <;> rfl), by repeat (first | (with_reducible first | exact HB.out | apply below_alloc | apply pw_below_drewN | apply below_drew1 | refine below_set ?_ GE190.out) | exact HB.out)⟩
          · rw [if_neg c6] at H
            have c6b0 : (((rd_T134 l0_0 x5_1).f0) == a1) = false := beq_eq_false_iff_ne.mpr c6
            have c6b1 : (((rd_T134 l0_0 x5_1).f0) != a1) = true := bne_iff_ne.mpr c6
            have H' := Aside0.mk H
            clear H
            have hcz8_0 : wr.cell? ⟨gb190, 0, none⟩ = some (.slice A0_0 l0_0.length c0_0) := (blk_cell BK190.out 0).trans rfl
            have hfz8_0 := blk_frozen BK190.out 0
            have p191 : 0 ≤ (x5_1 : Int) := of_decide_eq_true (by first | (with_reducible assumption) | assumption)
            have q191 : x5_1 < (l0_0.length : Int) := of_decide_eq_true (by first | (with_reducible assumption) | assumption)
            obtain ⟨ad191, A191_3, c191_3, e191, hx191_0, hx191_1, hx191_2, hx191_3, hx191_4, hx191_5, hl191_3, hi191_3⟩ := at_T134 HR0_0.out x5_1 p191 q191
            cases e191
            replace hx191_0 := (HB.out.cell (World.block_lt_of_cell? w _ hx191_0)).trans hx191_0
            replace hx191_1 := (HB.out.cell (World.block_lt_of_cell? w _ hx191_1)).trans hx191_1
            replace hx191_2 := (HB.out.cell (World.block_lt_of_cell? w _ hx191_2)).trans hx191_2
            replace hx191_3 := (HB.out.cell (World.block_lt_of_cell? w _ hx191_3)).trans hx191_3
            replace hx191_4 := (HB.out.cell (World.block_lt_of_cell? w _ hx191_4)).trans hx191_4
            replace hx191_5 := (HB.out.cell (World.block_lt_of_cell? w _ hx191_5)).trans hx191_5
            have HR191_3 := Aside0.mk hi191_3
            have HC191_3 := Aside0.mk hl191_3
            clear hi191_3 hl191_3
            replace p191 := eq_true p191
            replace q191 := eq_true q191
            go_wp2
            go_roundg k1
            case measure => have := HK1.out; omega
            case rel => exact ⟨(wrap64 (x5_1 + 1)), (by first | rfl | (simp; done) | (simp [*]; done)), H', ⟨by have := HK1.out; omega⟩, ⟨by (with_reducible repeat (first | refine blk_drewN ?_ _ | refine blk_drew ?_ | refine blk_alloc ?_ _)); exact BK190.out⟩, ⟨by repeat (first | (with_reducible first | exact HB.out | apply below_alloc | apply pw_below_drewN | apply below_drew1 | refine below_set ?_ GE190.out) | exact HB.out)⟩⟩
        · rw [if_neg c5] at H
          exact absurd H (by simp)
      · rw [if_neg c4] at H
        have c4b0 : decide (x5_1 < (l0_0.length : Int)) = false := decide_eq_false c4
        clear c4
        obtain rfl := Option.some.inj H
        have hcz9_0 : wr.cell? ⟨gb190, 0, none⟩ = some (.slice A0_0 l0_0.length c0_0) := (blk_cell BK190.out 0).trans rfl
        have hfz9_0 := blk_frozen BK190.out 0
        go_wp2
        go_ret
        exact ⟨by first | rfl | (simp [errW_none, errW_some] <;> rfl) | (simp [*, errW_none, errW_some] <;> rfl), by repeat (first | (with_reducible first | exact HB.out | apply below_alloc | apply pw_below_drewN | apply below_drew1 | refine below_set ?_ GE190.out) | exact HB.out)⟩

/-! ### spec_TextOf: function 45 -/
def spec_TextOf.l0 : Nat → Int → List Int → Int → List (S134) → Option (ByteArray)
  | 0, _, _, _, _ => none
  | k + 1, x5, x6, x7, x193000 => (spec_l3Skip.f k x193000 x5).bind fun t198 => (if x7 < t198 then (if 0 ≤ x7 then (if x7 < (x193000.length : Int) then (if ((rd_T134 x193000 x7).f1) = 3 then (if x6.length + ((rd_T134 x193000 x7).f4).size < 140737488355328 then (spec_TextOf.l0 k x5 (x6 ++ bytesOf ((rd_T134 x193000 x7).f4)) (wrap64 (x7 + 1)) x193000) else (none)) else (spec_TextOf.l0 k x5 x6 (wrap64 (x7 + 1)) x193000)) else (none)) else (none)) else (some (strOfNums x6)))
def spec_TextOf.f (k : Nat) (l0_0 : List (S134)) (a1 : Int) : Option (ByteArray) := (spec_TreeOk.f k l0_0).bind fun t193 => (if t193 = true then ((spec_l4At.f k l0_0 a1).bind fun t194 => (if t194 < 0 then (some (⟨#[]⟩ : ByteArray)) else (spec_TextOf.l0 k t194 (([] : List Int)) t194 l0_0))) else (some (⟨#[]⟩ : ByteArray)))
theorem spec_TextOf.mono_l : ∀ k, (∀ y0 y1 y2 y3, LeO (spec_TextOf.l0 k y0 y1 y2 y3) (spec_TextOf.l0 (k + 1) y0 y1 y2 y3))
  | 0 => fun _ _ _ _ r h => by simp [spec_TextOf.l0] at h
  | k + 1 => by
    have ih0 := spec_TextOf.mono_l k
    · intro y0 y1 y2 y3
      unfold spec_TextOf.l0
      repeat' first
      | (with_reducible exact ih0 _ _ _ _)
      | (with_reducible exact spec_TreeOk.mono _ _)
      | (with_reducible exact spec_l3Skip.mono _ _ _)
      | (with_reducible exact spec_l4At.mono _ _ _)
      | (with_reducible exact LeO.refl _)
      | (with_reducible exact LeO.none _)
      | (with_reducible refine LeO.ite ?_ ?_)
      | (with_reducible refine LeO.bind ?_ (fun _ => ?_))
      | exact ih0 _ _ _ _
      | exact spec_TreeOk.mono _ _
      | exact spec_l3Skip.mono _ _ _
      | exact spec_l4At.mono _ _ _
      | exact LeO.none _
      | refine LeO.ite ?_ ?_
      | refine LeO.bind ?_ (fun _ => ?_)
theorem spec_TextOf.mono : ∀ a0 a1 k, LeO (spec_TextOf.f k a0 a1) (spec_TextOf.f (k + 1) a0 a1) := by
  intro a0 a1 k
  have ih0 := spec_TextOf.mono_l k
  unfold spec_TextOf.f
  repeat' first
      | (with_reducible exact ih0 _ _ _ _)
      | (with_reducible exact spec_TreeOk.mono _ _)
      | (with_reducible exact spec_l3Skip.mono _ _ _)
      | (with_reducible exact spec_l4At.mono _ _ _)
      | (with_reducible exact LeO.refl _)
      | (with_reducible exact LeO.none _)
      | (with_reducible refine LeO.ite ?_ ?_)
      | (with_reducible refine LeO.bind ?_ (fun _ => ?_))
      | exact ih0 _ _ _ _
      | exact spec_TreeOk.mono _ _
      | exact spec_l3Skip.mono _ _ _
      | exact spec_l4At.mono _ _ _
      | exact LeO.none _
      | refine LeO.ite ?_ ?_
      | refine LeO.bind ?_ (fun _ => ?_)
set_option maxHeartbeats 8000000 in
set_option maxRecDepth 100000 in
theorem spec_TextOf.calls (k : Nat) (A0_0 : Option Addr) (c0_0 : Nat) (l0_0 : List (S134)) (a1 : Int) (r : ByteArray) (w : World) (hr0_0 : Kd.C k134 w A0_0 l0_0.length l0_0) (hc0_0 : l0_0.length ≤ c0_0) (h : spec_TextOf.f k l0_0 a1 = some r) :
    Calls Try.prog 45 #[.agg #[.slice A0_0 l0_0.length c0_0], .int .i64 a1] w fun e w' => e = .returned (.string r) ∧ Below w.heap.size w w' := by
  have hu57 := Try.underlying57
  have HR0_0 := Aside0.mk hr0_0
  have HC0_0 := Aside0.mk hc0_0
  clear hr0_0 hc0_0
  have HB := Aside0.mk (Below.refl w.heap.size w)
  have H : ((spec_TreeOk.f k l0_0).bind fun t193 => (if t193 = true then ((spec_l4At.f k l0_0 a1).bind fun t194 => (if t194 < 0 then (some (⟨#[]⟩ : ByteArray)) else (spec_TextOf.l0 k t194 (([] : List Int)) t194 l0_0))) else (some (⟨#[]⟩ : ByteArray)))) = some r := h
  clear h
  replace H := Option.bind_eq_some_iff.mp H
  obtain ⟨t193, A30, H⟩ := H
  replace H : (if t193 = true then ((spec_l4At.f k l0_0 a1).bind fun t194 => (if t194 < 0 then (some (⟨#[]⟩ : ByteArray)) else (spec_TextOf.l0 k t194 (([] : List Int)) t194 l0_0))) else (some (⟨#[]⟩ : ByteArray))) = some r := H
  have A3 := Aside0.mk A30
  clear A30
  by_cases c4 : t193 = true
  · subst c4
    have H1 : ((spec_l4At.f k l0_0 a1).bind fun t194 => (if t194 < 0 then (some (⟨#[]⟩ : ByteArray)) else (spec_TextOf.l0 k t194 (([] : List Int)) t194 l0_0))) = some r := by rw [if_pos rfl] at H; exact H
    clear H
    have H := H1
    clear H1
    replace H := Option.bind_eq_some_iff.mp H
    obtain ⟨t194, A50, H⟩ := H
    replace H : (if t194 < 0 then (some (⟨#[]⟩ : ByteArray)) else (spec_TextOf.l0 k t194 (([] : List Int)) t194 l0_0)) = some r := H
    have A5 := Aside0.mk A50
    clear A50
    by_cases c6 : t194 < 0
    · rw [if_pos c6] at H
      have c6b0 : decide (t194 < 0) = true := decide_eq_true c6
      clear c6
      obtain rfl := Option.some.inj H
      go_enter Try.func45, Try.ntmps45
      go_wp2_with (first | ((with_reducible refine gate_dst (N := 2) rfl ?_); refine box_event ?hg (N := 2) ?hd (cs := #[.slice A0_0 l0_0.length c0_0]) (t := 57) ?hr ?_; (case hd => rfl); (case hg => rfl); (case hr => first | (go_simp; done) | (go_simp; rfl)); intro gb192 hg w7 hbox hb; have n0_ := Aside0.mk (below_step (by repeat (first | (with_reducible first | exact HB.out | apply below_alloc | apply pw_below_drewN | apply below_drew1) | exact HB.out)) hb); have n1_ := Aside0.mk (hbox); have n2_ := Aside0.mk ((by rw [hg]; exact (below_size (by repeat (first | (with_reducible first | exact HB.out | apply below_alloc | apply pw_below_drewN | apply below_drew1) | exact HB.out))) : w.heap.size ≤ gb192)); have n3_ := Aside0.mk ((by rw [hg]; exact (below_size (by repeat (first | (with_reducible first | exact HB.out | apply below_alloc | apply pw_below_drewN | apply below_drew1) | exact HB.out))) : w.heap.size ≤ gb192)); clear HB; have HB := n0_; have BK192 := n1_; have GW192 := n2_; have GE192 := n3_; clear n0_ n1_ n2_ n3_; clear hb hbox hg; have hcz8_0 : w7.cell? ⟨gb192, 0, none⟩ = some (.slice A0_0 l0_0.length c0_0) := (blk_cell BK192.out 0).trans rfl; have hfz8_0 := blk_frozen BK192.out 0) | ((with_reducible refine gate_callee (f := 30) rfl ?_); refine goesL_ (some 9) rfl rfl Try.func30 (by kernel_rfl) rfl #[.agg #[.slice A0_0 l0_0.length c0_0]] rfl (by (try simp only [List.map_toArray, List.map_cons, List.map_nil]); first | done | rfl | (simp only [List.length_drop, List.length_take]; rfl)) ?_; (with_reducible refine (spec_TreeOk.calls k _ _ l0_0 true _ ?side1 ?side2 A3.out).mono ?_); (case side1 => repeat (first | exact (Kd.C_below HR0_0.out HB.out) | (with_reducible refine Kd.C_alloc ?_ _) | (with_reducible refine Kd.C_drewN ?_ _) | (with_reducible refine Kd.C_drew ?_))); (case side2 => exact HC0_0.out); rintro e w9 ⟨rfl, hb⟩; refine ⟨_, rfl, ?_⟩; have n0_ := Aside0.mk (blk_below (g := gb192) (o := .cells #[.slice A0_0 l0_0.length c0_0] 57 (0, 0)) (by (with_reducible repeat (first | refine blk_drewN ?_ _ | refine blk_drew ?_ | refine blk_alloc ?_ _)); exact BK192.out) hb); have n1_ := Aside0.mk (below_step (by repeat (first | (with_reducible first | exact HB.out | apply below_alloc | apply pw_below_drewN | apply below_drew1 | refine below_set ?_ GE192.out) | exact HB.out)) hb); clear BK192; clear HB; have BK192 := n0_; have HB := n1_; clear n0_ n1_; (try clear hb); (try clear hb2); (try clear hk); (try clear hi); have hcz10_0 : w9.cell? ⟨gb192, 0, none⟩ = some (.slice A0_0 l0_0.length c0_0) := (blk_cell BK192.out 0).trans rfl; have hfz10_0 := blk_frozen BK192.out 0) | ((with_reducible refine gate_callee (f := 97) rfl ?_); refine goesL_ (some 13) rfl rfl Try.func97 (by kernel_rfl) rfl #[.agg #[.slice A0_0 l0_0.length c0_0], .int .i64 a1] rfl (by (try simp only [List.map_toArray, List.map_cons, List.map_nil]); first | done | rfl | (simp only [List.length_drop, List.length_take]; rfl)) ?_; (with_reducible refine (spec_l4At.calls k _ _ l0_0 a1 t194 _ ?side1 ?side2 A5.out).mono ?_); (case side1 => repeat (first | exact (Kd.C_below HR0_0.out HB.out) | (with_reducible refine Kd.C_alloc ?_ _) | (with_reducible refine Kd.C_drewN ?_ _) | (with_reducible refine Kd.C_drew ?_))); (case side2 => exact HC0_0.out); rintro e w11 ⟨rfl, hb⟩; refine ⟨_, rfl, ?_⟩; have n0_ := Aside0.mk (blk_below (g := gb192) (o := .cells #[.slice A0_0 l0_0.length c0_0] 57 (0, 0)) (by (with_reducible repeat (first | refine blk_drewN ?_ _ | refine blk_drew ?_ | refine blk_alloc ?_ _)); exact BK192.out) hb); have n1_ := Aside0.mk (below_step (by repeat (first | (with_reducible first | exact HB.out | apply below_alloc | apply pw_below_drewN | apply below_drew1 | refine below_set ?_ GE192.out) | exact HB.out)) hb); clear BK192; clear HB; have BK192 := n0_; have HB := n1_; clear n0_ n1_; (try clear hb); (try clear hb2); (try clear hk); (try clear hi)))
      go_ret
      exact ⟨by first | rfl | (simp [errW_none, errW_some] <;> rfl) | (simp [*, errW_none, errW_some] <;> rfl), by repeat (first | (with_reducible first | exact HB.out | apply below_alloc | apply pw_below_drewN | apply below_drew1 | refine below_set ?_ GE192.out) | exact HB.out)⟩
    · rw [if_neg c6] at H
      have c6b0 : decide (t194 < 0) = false := decide_eq_false c6
      clear c6
      obtain ⟨y195, hy195⟩ : ∃ y_ : List Int, y_ = (([] : List Int)) := ⟨_, rfl⟩
      replace H : (spec_TextOf.l0 k t194 y195 t194 l0_0) = some r := by first | (rw [hy195]; with_reducible exact H) | (have H2_ := (Option.bind_some _ _).symm.trans H; rw [hy195]; with_reducible exact H2_) | (have H2_ := (Option.bind_some _ _).symm.trans H; with_reducible exact H2_) | with_reducible exact H | (rw [hy195]; exact H) | exact H
      have Ny195 := Aside0.mk hy195
      clear hy195
      have H' := Aside0.mk H
      clear H
      go_enter Try.func45, Try.ntmps45
      go_wp2_with (first | ((with_reducible refine gate_dst (N := 2) rfl ?_); refine box_event ?hg (N := 2) ?hd (cs := #[.slice A0_0 l0_0.length c0_0]) (t := 57) ?hr ?_; (case hd => rfl); (case hg => rfl); (case hr => first | (go_simp; done) | (go_simp; rfl)); intro gb192 hg w12 hbox hb; have n0_ := Aside0.mk (below_step (by repeat (first | (with_reducible first | exact HB.out | apply below_alloc | apply pw_below_drewN | apply below_drew1) | exact HB.out)) hb); have n1_ := Aside0.mk (hbox); have n2_ := Aside0.mk ((by rw [hg]; exact (below_size (by repeat (first | (with_reducible first | exact HB.out | apply below_alloc | apply pw_below_drewN | apply below_drew1) | exact HB.out))) : w.heap.size ≤ gb192)); have n3_ := Aside0.mk ((by rw [hg]; exact (below_size (by repeat (first | (with_reducible first | exact HB.out | apply below_alloc | apply pw_below_drewN | apply below_drew1) | exact HB.out))) : w.heap.size ≤ gb192)); clear HB; have HB := n0_; have BK192 := n1_; have GW192 := n2_; have GE192 := n3_; clear n0_ n1_ n2_ n3_; clear hb hbox hg; have hcz13_0 : w12.cell? ⟨gb192, 0, none⟩ = some (.slice A0_0 l0_0.length c0_0) := (blk_cell BK192.out 0).trans rfl; have hfz13_0 := blk_frozen BK192.out 0) | ((with_reducible refine gate_callee (f := 30) rfl ?_); refine goesL_ (some 9) rfl rfl Try.func30 (by kernel_rfl) rfl #[.agg #[.slice A0_0 l0_0.length c0_0]] rfl (by (try simp only [List.map_toArray, List.map_cons, List.map_nil]); first | done | rfl | (simp only [List.length_drop, List.length_take]; rfl)) ?_; (with_reducible refine (spec_TreeOk.calls k _ _ l0_0 true _ ?side1 ?side2 A3.out).mono ?_); (case side1 => repeat (first | exact (Kd.C_below HR0_0.out HB.out) | (with_reducible refine Kd.C_alloc ?_ _) | (with_reducible refine Kd.C_drewN ?_ _) | (with_reducible refine Kd.C_drew ?_))); (case side2 => exact HC0_0.out); rintro e w14 ⟨rfl, hb⟩; refine ⟨_, rfl, ?_⟩; have n0_ := Aside0.mk (blk_below (g := gb192) (o := .cells #[.slice A0_0 l0_0.length c0_0] 57 (0, 0)) (by (with_reducible repeat (first | refine blk_drewN ?_ _ | refine blk_drew ?_ | refine blk_alloc ?_ _)); exact BK192.out) hb); have n1_ := Aside0.mk (below_step (by repeat (first | (with_reducible first | exact HB.out | apply below_alloc | apply pw_below_drewN | apply below_drew1 | refine below_set ?_ GE192.out) | exact HB.out)) hb); clear BK192; clear HB; have BK192 := n0_; have HB := n1_; clear n0_ n1_; (try clear hb); (try clear hb2); (try clear hk); (try clear hi); have hcz15_0 : w14.cell? ⟨gb192, 0, none⟩ = some (.slice A0_0 l0_0.length c0_0) := (blk_cell BK192.out 0).trans rfl; have hfz15_0 := blk_frozen BK192.out 0) | ((with_reducible refine gate_callee (f := 97) rfl ?_); refine goesL_ (some 13) rfl rfl Try.func97 (by kernel_rfl) rfl #[.agg #[.slice A0_0 l0_0.length c0_0], .int .i64 a1] rfl (by (try simp only [List.map_toArray, List.map_cons, List.map_nil]); first | done | rfl | (simp only [List.length_drop, List.length_take]; rfl)) ?_; (with_reducible refine (spec_l4At.calls k _ _ l0_0 a1 t194 _ ?side1 ?side2 A5.out).mono ?_); (case side1 => repeat (first | exact (Kd.C_below HR0_0.out HB.out) | (with_reducible refine Kd.C_alloc ?_ _) | (with_reducible refine Kd.C_drewN ?_ _) | (with_reducible refine Kd.C_drew ?_))); (case side2 => exact HC0_0.out); rintro e w16 ⟨rfl, hb⟩; refine ⟨_, rfl, ?_⟩; have n0_ := Aside0.mk (blk_below (g := gb192) (o := .cells #[.slice A0_0 l0_0.length c0_0] 57 (0, 0)) (by (with_reducible repeat (first | refine blk_drewN ?_ _ | refine blk_drew ?_ | refine blk_alloc ?_ _)); exact BK192.out) hb); have n1_ := Aside0.mk (below_step (by repeat (first | (with_reducible first | exact HB.out | apply below_alloc | apply pw_below_drewN | apply below_drew1 | refine below_set ?_ GE192.out) | exact HB.out)) hb); clear BK192; clear HB; have BK192 := n0_; have HB := n1_; clear n0_ n1_; (try clear hb); (try clear hb2); (try clear hk); (try clear hi)) | ((with_reducible refine gate_dst (N := 16) rfl ?_); refine Kd.R_lit (Kd.int .u8) _ 5 ?hg (N := 16) ?hd (xs := ([] : List Int)) (inner := []) (ok := fun _ => True) (okp := fun _ => True) ?hr ?hp (fun _ hk => hk) trivial (Below.refl _ _) (Nat.le_refl _) (by simp) ?_; (case hd => rfl); (case hg => rfl); (case hr => first | (go_simp; done) | (go_simp; rfl)); (case hp => exact (Reps.none _ _)); intro v196 w17 ho18 hb hg_ hnew_; clear hg_ hnew_; (first | rw [← Ny195.out] at ho18 | (simp only [Int.reduceToNat] at ho18; rw [← Ny195.out] at ho18)); have n0_ := Aside0.mk (Kd.R_lower ho18 (below_size (by repeat (first | (with_reducible first | exact HB.out | apply below_alloc | apply pw_below_drewN | apply below_drew1 | refine below_set ?_ GE192.out) | exact HB.out)))); have n1_ := Aside0.mk (blk_below (g := gb192) (o := .cells #[.slice A0_0 l0_0.length c0_0] 57 (0, 0)) (by (with_reducible repeat (first | refine blk_drewN ?_ _ | refine blk_drew ?_ | refine blk_alloc ?_ _)); exact BK192.out) hb); have n2_ := Aside0.mk (below_step (by repeat (first | (with_reducible first | exact HB.out | apply below_alloc | apply pw_below_drewN | apply below_drew1 | refine below_set ?_ GE192.out) | exact HB.out)) hb); clear BK192; clear HB; have HO197 := n0_; have BK192 := n1_; have HB := n2_; clear n0_ n1_ n2_; clear hb ho18))
      go_loopg [6, 7] k (fun kq v6 v7 w' => ∃ (x6_1 : List Int) (x7_1 : Int), v7 = .int .i64 x7_1 ∧ Aside0 (spec_TextOf.l0 kq t194 x6_1 x7_1 l0_0 = some r) ∧ Aside0 (kq ≤ k) ∧ Aside0 (Kd.R (Kd.int .u8) 5 w' w.heap.size (fun _ => True) v6 x6_1) ∧ Aside0 (w'.heap[gb192]? = some (.cells #[(.slice A0_0 l0_0.length c0_0)] 57 (0, 0))) ∧ Aside0 (Below w.heap.size w w'))
      case atStart => exact ⟨(y195), (t194), (by first | rfl | (simp; done) | (simp [*]; done)), H', ⟨Nat.le_refl _⟩, ⟨by (with_reducible repeat (first | apply Kd.R_alloc | apply Kd.R_drewN | apply Kd.R_drew)); exact HO197.out⟩, ⟨by (with_reducible repeat (first | refine blk_drewN ?_ _ | refine blk_drew ?_ | refine blk_alloc ?_ _)); exact BK192.out⟩, ⟨by repeat (first | (with_reducible first | exact HB.out | apply below_alloc | apply pw_below_drewN | apply below_drew1 | refine below_set ?_ GE192.out) | exact HB.out)⟩⟩
      case round =>
        clear H'
        try clear p2
        try clear c3
        try clear c4
        try clear c6
        try clear c6b0
        try clear c9
        try clear hcz10_0
        try clear hcz13_0
        try clear hcz15_0
        try clear hcz8_0
        try clear hfz10_0
        try clear hfz13_0
        try clear hfz15_0
        try clear hfz8_0
        obtain ⟨x6_1, x7_1, rfl, HA, HK1, HO_6, BK192, HB⟩ := hrel
        cases gk with
        | zero => exact absurd HA.out (by simp [spec_TextOf.l0])
        | succ k1 =>
          have H := HA.out
          clear HA
          simp only [spec_TextOf.l0] at H
          replace H := Option.bind_eq_some_iff.mp H
          obtain ⟨t198, A190, H⟩ := H
          replace H : (if x7_1 < t198 then (if 0 ≤ x7_1 then (if x7_1 < (l0_0.length : Int) then (if ((rd_T134 l0_0 x7_1).f1) = 3 then (if x6_1.length + ((rd_T134 l0_0 x7_1).f4).size < 140737488355328 then (spec_TextOf.l0 k1 t194 (x6_1 ++ bytesOf ((rd_T134 l0_0 x7_1).f4)) (wrap64 (x7_1 + 1)) l0_0) else (none)) else (spec_TextOf.l0 k1 t194 x6_1 (wrap64 (x7_1 + 1)) l0_0)) else (none)) else (none)) else (some (strOfNums x6_1))) = some r := H
          have A19 := Aside0.mk A190
          clear A190
          by_cases c20 : x7_1 < t198
          · rw [if_pos c20] at H
            have c20b0 : decide (x7_1 < t198) = true := decide_eq_true c20
            clear c20
            by_cases c21 : 0 ≤ x7_1
            · rw [if_pos c21] at H
              have c21b0 : decide (0 ≤ x7_1) = true := decide_eq_true c21
              clear c21
              by_cases c22 : x7_1 < (l0_0.length : Int)
              · rw [if_pos c22] at H
                have c22b0 : decide (x7_1 < (l0_0.length : Int)) = true := decide_eq_true c22
                clear c22
                by_cases c23 : ((rd_T134 l0_0 x7_1).f1) = 3
                · rw [if_pos c23] at H
                  have c23b0 : (((rd_T134 l0_0 x7_1).f1) == 3) = true := beq_iff_eq.mpr c23
                  have c23b1 : (((rd_T134 l0_0 x7_1).f1) != 3) = false := bne_eq_false_iff_eq.mpr c23
                  clear c23
                  by_cases c24 : x6_1.length + ((rd_T134 l0_0 x7_1).f4).size < 140737488355328
                  · rw [if_pos c24] at H
                    have LMc24 := Aside0.mk c24
                    clear c24
                    obtain ⟨y201, hy201⟩ : ∃ y_ : List Int, y_ = (x6_1 ++ bytesOf ((rd_T134 l0_0 x7_1).f4)) := ⟨_, rfl⟩
                    replace H : (spec_TextOf.l0 k1 t194 y201 (wrap64 (x7_1 + 1)) l0_0) = some r := by first | (rw [hy201]; with_reducible exact H) | (have H2_ := (Option.bind_some _ _).symm.trans H; rw [hy201]; with_reducible exact H2_) | (have H2_ := (Option.bind_some _ _).symm.trans H; with_reducible exact H2_) | with_reducible exact H | (rw [hy201]; exact H) | exact H
                    have Ny201 := Aside0.mk hy201
                    clear hy201
                    have H' := Aside0.mk H
                    clear H
                    have hcz25_0 : wr.cell? ⟨gb192, 0, none⟩ = some (.slice A0_0 l0_0.length c0_0) := (blk_cell BK192.out 0).trans rfl
                    have hfz25_0 := blk_frozen BK192.out 0
                    go_wp2_with (first | ((with_reducible refine gate_callee (f := 85) rfl ?_); refine goesL_ (some 22) rfl rfl Try.func85 (by kernel_rfl) rfl #[.slice A0_0 l0_0.length c0_0, .int .i64 t194] rfl (by (try simp only [List.map_toArray, List.map_cons, List.map_nil]); first | done | rfl | (simp only [List.length_drop, List.length_take]; rfl)) ?_; (with_reducible refine (spec_l3Skip.calls k1 _ _ l0_0 t194 t198 _ ?side1 ?side2 A19.out).mono ?_); (case side1 => repeat (first | exact (Kd.C_below HR0_0.out HB.out) | (with_reducible refine Kd.C_alloc ?_ _) | (with_reducible refine Kd.C_drewN ?_ _) | (with_reducible refine Kd.C_drew ?_))); (case side2 => exact HC0_0.out); rintro e w' ⟨rfl, ⟨nd, rfl⟩⟩; refine ⟨_, rfl, ?_⟩; have p199 : 0 ≤ (x7_1 : Int) := of_decide_eq_true (by first | (with_reducible assumption) | assumption); have q199 : x7_1 < (l0_0.length : Int) := of_decide_eq_true (by first | (with_reducible assumption) | assumption); obtain ⟨ad199, A199_3, c199_3, e199, hx199_0, hx199_1, hx199_2, hx199_3, hx199_4, hx199_5, hl199_3, hi199_3⟩ := at_T134 HR0_0.out x7_1 p199 q199; cases e199; replace hx199_0 := (HB.out.cell (World.block_lt_of_cell? w _ hx199_0)).trans hx199_0; replace hx199_1 := (HB.out.cell (World.block_lt_of_cell? w _ hx199_1)).trans hx199_1; replace hx199_2 := (HB.out.cell (World.block_lt_of_cell? w _ hx199_2)).trans hx199_2; replace hx199_3 := (HB.out.cell (World.block_lt_of_cell? w _ hx199_3)).trans hx199_3; replace hx199_4 := (HB.out.cell (World.block_lt_of_cell? w _ hx199_4)).trans hx199_4; replace hx199_5 := (HB.out.cell (World.block_lt_of_cell? w _ hx199_5)).trans hx199_5; have HR199_3 := Aside0.mk hi199_3; have HC199_3 := Aside0.mk hl199_3; clear hi199_3 hl199_3; replace p199 := eq_true p199; replace q199 := eq_true q199; have p200 : 0 ≤ (x7_1 : Int) := of_decide_eq_true (by first | (with_reducible assumption) | assumption); have q200 : x7_1 < (l0_0.length : Int) := of_decide_eq_true (by first | (with_reducible assumption) | assumption); obtain ⟨ad200, A200_3, c200_3, e200, hx200_0, hx200_1, hx200_2, hx200_3, hx200_4, hx200_5, hl200_3, hi200_3⟩ := at_T134 HR0_0.out x7_1 p200 q200; obtain rfl : ad199 = ad200 := (by injection e200); replace hx200_0 := (HB.out.cell (World.block_lt_of_cell? w _ hx200_0)).trans hx200_0; replace hx200_1 := (HB.out.cell (World.block_lt_of_cell? w _ hx200_1)).trans hx200_1; replace hx200_2 := (HB.out.cell (World.block_lt_of_cell? w _ hx200_2)).trans hx200_2; replace hx200_3 := (HB.out.cell (World.block_lt_of_cell? w _ hx200_3)).trans hx200_3; replace hx200_4 := (HB.out.cell (World.block_lt_of_cell? w _ hx200_4)).trans hx200_4; replace hx200_5 := (HB.out.cell (World.block_lt_of_cell? w _ hx200_5)).trans hx200_5; have HR200_3 := Aside0.mk hi200_3; have HC200_3 := Aside0.mk hl200_3; clear hi200_3 hl200_3; replace p200 := eq_true p200; replace q200 := eq_true q200; have ea_ := Option.some.inj (hx199_3.symm.trans hx200_3); injection ea_ with ea_ en_ ec_; subst ea_; subst ec_; clear en_) | (at_builtin; refine print_append_str (w0 := w) w.heap.size rfl (.tmp 33) _ 86 9 5 rfl Try.underlying86 Try.underlying9 info5 u6 x6_1 ((rd_T134 l0_0 x7_1).f4) rfl rfl ?aO ?aB ?aS ?aL ?_; (case aB => exact (by repeat (first | (with_reducible first | exact HB.out | apply below_alloc | apply pw_below_drewN | apply below_drew1 | refine below_set ?_ GE192.out) | exact HB.out))); (case aO => exact (Kd.own_of_R (by (with_reducible repeat (first | apply Kd.R_alloc | apply Kd.R_drewN | apply Kd.R_drew)); exact HO_6.out))); (case aS => exact (below_size (by repeat (first | (with_reducible first | exact HB.out | apply below_alloc | apply pw_below_drewN | apply below_drew1 | refine below_set ?_ GE192.out) | exact HB.out)))); (case aL => have := LMc24.out; omega); intro v202 w26 ho0 hb hg; have ho := Kd.R_of_own (h1 := fun _ => rfl) (ok := fun _ => True) ho0 (fun _ _ => trivial); clear ho0; have hat := True.intro; rw [← Ny201.out] at ho; change Kd.R (Kd.int .u8) 5 w26 w.heap.size (fun _ => True) v202 y201 at ho; have n0_ := Aside0.mk (blk_grown (g := gb192) (o := .cells #[.slice (some ad199) l0_0.length c0_0] 57 (0, 0)) (by (with_reducible repeat (first | refine blk_drewN ?_ _ | refine blk_drew ?_ | refine blk_alloc ?_ _)); exact BK192.out) hg (Kd.R_ne HO_6.out BK192.out (by decide))); have n1_ := Aside0.mk (hb); have n2_ := Aside0.mk (ho); clear BK192; clear HB; clear HO_6; have BK192 := n0_; have HB := n1_; have HO203 := n2_; clear n0_ n1_ n2_; clear ho hb hg hat))
                    go_roundg k1
                    case measure => have := HK1.out; omega
                    case rel => exact ⟨(y201), (wrap64 (x7_1 + 1)), (by first | rfl | (simp; done) | (simp [*]; done)), H', ⟨by have := HK1.out; omega⟩, ⟨by (with_reducible repeat (first | apply Kd.R_alloc | apply Kd.R_drewN | apply Kd.R_drew)); exact HO203.out⟩, ⟨by (with_reducible repeat (first | refine blk_drewN ?_ _ | refine blk_drew ?_ | refine blk_alloc ?_ _)); exact BK192.out⟩, ⟨by repeat (first | (with_reducible first | exact HB.out | apply below_alloc | apply pw_below_drewN | apply below_drew1 | refine below_set ?_ GE192.out) | exact HB.out)⟩⟩
                  · rw [if_neg c24] at H
                    exact absurd H (by simp)
                · rw [if_neg c23] at H
                  have c23b0 : (((rd_T134 l0_0 x7_1).f1) == 3) = false := beq_eq_false_iff_ne.mpr c23
                  have c23b1 : (((rd_T134 l0_0 x7_1).f1) != 3) = true := bne_iff_ne.mpr c23
                  have H' := Aside0.mk H
                  clear H
                  have hcz27_0 : wr.cell? ⟨gb192, 0, none⟩ = some (.slice A0_0 l0_0.length c0_0) := (blk_cell BK192.out 0).trans rfl
                  have hfz27_0 := blk_frozen BK192.out 0
                  go_wp2_with (first | ((with_reducible refine gate_callee (f := 85) rfl ?_); refine goesL_ (some 22) rfl rfl Try.func85 (by kernel_rfl) rfl #[.slice A0_0 l0_0.length c0_0, .int .i64 t194] rfl (by (try simp only [List.map_toArray, List.map_cons, List.map_nil]); first | done | rfl | (simp only [List.length_drop, List.length_take]; rfl)) ?_; (with_reducible refine (spec_l3Skip.calls k1 _ _ l0_0 t194 t198 _ ?side1 ?side2 A19.out).mono ?_); (case side1 => repeat (first | exact (Kd.C_below HR0_0.out HB.out) | (with_reducible refine Kd.C_alloc ?_ _) | (with_reducible refine Kd.C_drewN ?_ _) | (with_reducible refine Kd.C_drew ?_))); (case side2 => exact HC0_0.out); rintro e w' ⟨rfl, ⟨nd, rfl⟩⟩; refine ⟨_, rfl, ?_⟩; have p199 : 0 ≤ (x7_1 : Int) := of_decide_eq_true (by first | (with_reducible assumption) | assumption); have q199 : x7_1 < (l0_0.length : Int) := of_decide_eq_true (by first | (with_reducible assumption) | assumption); obtain ⟨ad199, A199_3, c199_3, e199, hx199_0, hx199_1, hx199_2, hx199_3, hx199_4, hx199_5, hl199_3, hi199_3⟩ := at_T134 HR0_0.out x7_1 p199 q199; cases e199; replace hx199_0 := (HB.out.cell (World.block_lt_of_cell? w _ hx199_0)).trans hx199_0; replace hx199_1 := (HB.out.cell (World.block_lt_of_cell? w _ hx199_1)).trans hx199_1; replace hx199_2 := (HB.out.cell (World.block_lt_of_cell? w _ hx199_2)).trans hx199_2; replace hx199_3 := (HB.out.cell (World.block_lt_of_cell? w _ hx199_3)).trans hx199_3; replace hx199_4 := (HB.out.cell (World.block_lt_of_cell? w _ hx199_4)).trans hx199_4; replace hx199_5 := (HB.out.cell (World.block_lt_of_cell? w _ hx199_5)).trans hx199_5; have HR199_3 := Aside0.mk hi199_3; have HC199_3 := Aside0.mk hl199_3; clear hi199_3 hl199_3; replace p199 := eq_true p199; replace q199 := eq_true q199))
                  go_roundg k1
                  case measure => have := HK1.out; omega
                  case rel => exact ⟨(x6_1), (wrap64 (x7_1 + 1)), (by first | rfl | (simp; done) | (simp [*]; done)), H', ⟨by have := HK1.out; omega⟩, ⟨by (with_reducible repeat (first | apply Kd.R_alloc | apply Kd.R_drewN | apply Kd.R_drew)); exact HO_6.out⟩, ⟨by (with_reducible repeat (first | refine blk_drewN ?_ _ | refine blk_drew ?_ | refine blk_alloc ?_ _)); exact BK192.out⟩, ⟨by repeat (first | (with_reducible first | exact HB.out | apply below_alloc | apply pw_below_drewN | apply below_drew1 | refine below_set ?_ GE192.out) | exact HB.out)⟩⟩
              · rw [if_neg c22] at H
                exact absurd H (by simp)
            · rw [if_neg c21] at H
              exact absurd H (by simp)
          · rw [if_neg c20] at H
            have c20b0 : decide (x7_1 < t198) = false := decide_eq_false c20
            clear c20
            obtain rfl := Option.some.inj H
            have hcz28_0 : wr.cell? ⟨gb192, 0, none⟩ = some (.slice A0_0 l0_0.length c0_0) := (blk_cell BK192.out 0).trans rfl
            have hfz28_0 := blk_frozen BK192.out 0
            go_wp2_with (first | ((with_reducible refine gate_callee (f := 85) rfl ?_); refine goesL_ (some 22) rfl rfl Try.func85 (by kernel_rfl) rfl #[.slice A0_0 l0_0.length c0_0, .int .i64 t194] rfl (by (try simp only [List.map_toArray, List.map_cons, List.map_nil]); first | done | rfl | (simp only [List.length_drop, List.length_take]; rfl)) ?_; (with_reducible refine (spec_l3Skip.calls k1 _ _ l0_0 t194 t198 _ ?side1 ?side2 A19.out).mono ?_); (case side1 => repeat (first | exact (Kd.C_below HR0_0.out HB.out) | (with_reducible refine Kd.C_alloc ?_ _) | (with_reducible refine Kd.C_drewN ?_ _) | (with_reducible refine Kd.C_drew ?_))); (case side2 => exact HC0_0.out); rintro e w' ⟨rfl, ⟨nd, rfl⟩⟩; refine ⟨_, rfl, ?_⟩; have hcv29 := own_string (P := Try.prog) Try.underlying86 Try.underlying5 Try.underlying9 (Kd.own_of_R (Kd.R_drewN HO_6.out nd))))
            go_ret
            exact ⟨by first | rfl | (simp [errW_none, errW_some] <;> rfl) | (simp [*, errW_none, errW_some] <;> rfl), by repeat (first | (with_reducible first | exact HB.out | apply below_alloc | apply pw_below_drewN | apply below_drew1 | refine below_set ?_ GE192.out) | exact HB.out)⟩
  · replace c4 := Bool.eq_false_iff.mpr c4
    subst c4
    have H1 : (some (⟨#[]⟩ : ByteArray)) = some r := by rw [if_neg (show ¬ (false = true) by decide)] at H; exact H
    clear H
    have H := H1
    clear H1
    obtain rfl := Option.some.inj H
    go_enter Try.func45, Try.ntmps45
    go_wp2_with (first | ((with_reducible refine gate_dst (N := 2) rfl ?_); refine box_event ?hg (N := 2) ?hd (cs := #[.slice A0_0 l0_0.length c0_0]) (t := 57) ?hr ?_; (case hd => rfl); (case hg => rfl); (case hr => first | (go_simp; done) | (go_simp; rfl)); intro gb192 hg w30 hbox hb; have n0_ := Aside0.mk (below_step (by repeat (first | (with_reducible first | exact HB.out | apply below_alloc | apply pw_below_drewN | apply below_drew1) | exact HB.out)) hb); have n1_ := Aside0.mk (hbox); have n2_ := Aside0.mk ((by rw [hg]; exact (below_size (by repeat (first | (with_reducible first | exact HB.out | apply below_alloc | apply pw_below_drewN | apply below_drew1) | exact HB.out))) : w.heap.size ≤ gb192)); have n3_ := Aside0.mk ((by rw [hg]; exact (below_size (by repeat (first | (with_reducible first | exact HB.out | apply below_alloc | apply pw_below_drewN | apply below_drew1) | exact HB.out))) : w.heap.size ≤ gb192)); clear HB; have HB := n0_; have BK192 := n1_; have GW192 := n2_; have GE192 := n3_; clear n0_ n1_ n2_ n3_; clear hb hbox hg; have hcz31_0 : w30.cell? ⟨gb192, 0, none⟩ = some (.slice A0_0 l0_0.length c0_0) := (blk_cell BK192.out 0).trans rfl; have hfz31_0 := blk_frozen BK192.out 0) | ((with_reducible refine gate_callee (f := 30) rfl ?_); refine goesL_ (some 9) rfl rfl Try.func30 (by kernel_rfl) rfl #[.agg #[.slice A0_0 l0_0.length c0_0]] rfl (by (try simp only [List.map_toArray, List.map_cons, List.map_nil]); first | done | rfl | (simp only [List.length_drop, List.length_take]; rfl)) ?_; (with_reducible refine (spec_TreeOk.calls k _ _ l0_0 false _ ?side1 ?side2 A3.out).mono ?_); (case side1 => repeat (first | exact (Kd.C_below HR0_0.out HB.out) | (with_reducible refine Kd.C_alloc ?_ _) | (with_reducible refine Kd.C_drewN ?_ _) | (with_reducible refine Kd.C_drew ?_))); (case side2 => exact HC0_0.out); rintro e w32 ⟨rfl, hb⟩; refine ⟨_, rfl, ?_⟩; have n0_ := Aside0.mk (blk_below (g := gb192) (o := .cells #[.slice A0_0 l0_0.length c0_0] 57 (0, 0)) (by (with_reducible repeat (first | refine blk_drewN ?_ _ | refine blk_drew ?_ | refine blk_alloc ?_ _)); exact BK192.out) hb); have n1_ := Aside0.mk (below_step (by repeat (first | (with_reducible first | exact HB.out | apply below_alloc | apply pw_below_drewN | apply below_drew1 | refine below_set ?_ GE192.out) | exact HB.out)) hb); clear BK192; clear HB; have BK192 := n0_; have HB := n1_; clear n0_ n1_; (try clear hb); (try clear hb2); (try clear hk); (try clear hi)))
    go_ret
    exact ⟨by first | rfl | (simp [errW_none, errW_some] <;> rfl) | (simp [*, errW_none, errW_some] <;> rfl), by repeat (first | (with_reducible first | exact HB.out | apply below_alloc | apply pw_below_drewN | apply below_drew1 | refine below_set ?_ GE192.out) | exact HB.out)⟩

/-! ### impl_attrsRight: function 125 -/
def impl_attrsRight.l0 : Nat → List ByteArray → List (S143) → Int → Int → Option (Bool)
  | 0, _, _, _, _ => none
  | k + 1, x3, x7, x8, x9 => if x9 < x8 then (if 0 ≤ x9 then (if x9 < (x7.length : Int) then (if ((rd_T143 x7 x9).f0).toList = ([] : List UInt8) then (some false) else (if smem x3 ((rd_T143 x7 x9).f0) = true then (some false) else (if (0 : Nat) ≤ 9223372036854775807 then (impl_attrsRight.l0 k (((rd_T143 x7 x9).f0) :: x3) x7 x8 (wrap64 (x9 + 1))) else (none)))) else (none)) else (none)) else (some true)
def impl_attrsRight.f (k : Nat) (l0 : List (S143)) : Option (Bool) := impl_attrsRight.l0 k ([] : List ByteArray) l0 (l0.length : Int) 0
theorem impl_attrsRight.mono_l : ∀ k, (∀ y0 y1 y2 y3, LeO (impl_attrsRight.l0 k y0 y1 y2 y3) (impl_attrsRight.l0 (k + 1) y0 y1 y2 y3))
  | 0 => fun _ _ _ _ r h => by simp [impl_attrsRight.l0] at h
  | k + 1 => by
    have ih0 := impl_attrsRight.mono_l k
    · intro y0 y1 y2 y3
      unfold impl_attrsRight.l0
      repeat' first
      | (with_reducible exact ih0 _ _ _ _)
      | (with_reducible exact LeO.refl _)
      | (with_reducible exact LeO.none _)
      | (with_reducible refine LeO.ite ?_ ?_)
      | (with_reducible refine LeO.bind ?_ (fun _ => ?_))
      | exact ih0 _ _ _ _
      | exact LeO.none _
      | refine LeO.ite ?_ ?_
      | refine LeO.bind ?_ (fun _ => ?_)
theorem impl_attrsRight.mono : ∀ a0 k, LeO (impl_attrsRight.f k a0) (impl_attrsRight.f (k + 1) a0) := by
  intro a0 k
  have ih0 := impl_attrsRight.mono_l k
  unfold impl_attrsRight.f
  repeat' first
      | (with_reducible exact ih0 _ _ _ _)
      | (with_reducible exact LeO.refl _)
      | (with_reducible exact LeO.none _)
      | (with_reducible refine LeO.ite ?_ ?_)
      | (with_reducible refine LeO.bind ?_ (fun _ => ?_))
      | exact ih0 _ _ _ _
      | exact LeO.none _
      | refine LeO.ite ?_ ?_
      | refine LeO.bind ?_ (fun _ => ?_)
set_option maxHeartbeats 8000000 in
set_option maxRecDepth 100000 in
theorem impl_attrsRight.calls (k : Nat) (A0 : Option Addr) (c0 : Nat) (l0 : List (S143)) (r : Bool) (w : World) (hr0 : Kd.C k143 w A0 l0.length l0) (hc0 : l0.length ≤ c0) (h : impl_attrsRight.f k l0 = some r) :
    Calls Try.prog 125 #[.slice A0 l0.length c0] w fun e w' => e = .returned (.bool r) ∧ Below w.heap.size w w' := by
  have hu143 := Try.underlying143
  have HR0 := Aside0.mk hr0
  have HC0 := Aside0.mk hc0
  clear hr0 hc0
  have HB := Aside0.mk (Below.refl w.heap.size w)
  have H : (impl_attrsRight.l0 k ([] : List ByteArray) l0 (l0.length : Int) 0) = some r := h
  clear h
  have H' := Aside0.mk H
  clear H
  have hmm := @run_makeMap Try.prog
  go_enter Try.func125, Try.ntmps125
  go_wp2_with (first | ((with_reducible refine gate_dst (N := 6) rfl ?_); refine make_event ?hg (N := 6) ?hd ?hr ?_; (case hd => rfl); (case hg => rfl); (case hr => first | (go_simp; done) | (go_simp; rfl)); intro gm hg wM hbox hb; have n0_ := Aside0.mk (below_step (by repeat (first | (with_reducible first | exact HB.out | apply below_alloc | apply pw_below_drewN | apply below_drew1) | exact HB.out)) hb); have n1_ := Aside0.mk (show wM.heap[gm]? = some (sobj Value.string []) from hbox); have n2_ := Aside0.mk ((by rw [hg]; exact (below_size (by repeat (first | (with_reducible first | exact HB.out | apply below_alloc | apply pw_below_drewN | apply below_drew1) | exact HB.out)))) : w.heap.size ≤ gm); clear HB; have HB := n0_; have BKM := n1_; have GEM := n2_; clear n0_ n1_ n2_; clear hb hbox hg))
  clear hmm
  go_loopg [9] k (fun kq v9 w' => ∃ (x3_1 : List ByteArray) (x9_1 : Int), v9 = .int .i64 x9_1 ∧ Aside0 (impl_attrsRight.l0 kq x3_1 l0 (l0.length : Int) x9_1 = some r) ∧ Aside0 (kq ≤ k) ∧ Aside0 (w'.heap[gm]? = some (sobj Value.string x3_1)) ∧ Aside0 (Below w.heap.size w w'))
  case atStart => exact ⟨(([] : List ByteArray)), (0), (by first | rfl | (simp; done) | (simp [*]; done)), H', ⟨Nat.le_refl _⟩, ⟨by (with_reducible repeat (first | exact BKM.out | refine blk_drewN ?_ _ | refine blk_drew ?_ | refine blk_alloc ?_ _))⟩, ⟨by repeat (first | (with_reducible first | exact HB.out | apply below_alloc | apply pw_below_drewN | apply below_drew1) | exact HB.out)⟩⟩
  case round =>
    clear H'
    try clear c1
    obtain ⟨x3_1, x9_1, rfl, HA, HK1, BKM, HB⟩ := hrel
    cases gk with
    | zero => exact absurd HA.out (by simp [impl_attrsRight.l0])
    | succ k1 =>
      have H := HA.out
      clear HA
      simp only [impl_attrsRight.l0] at H
      by_cases c2 : x9_1 < (l0.length : Int)
      · rw [if_pos c2] at H
        have c2b0 : decide (x9_1 < (l0.length : Int)) = true := decide_eq_true c2
        clear c2
        by_cases c3 : 0 ≤ x9_1
        · rw [if_pos c3] at H
          have c3b0 : decide (0 ≤ x9_1) = true := decide_eq_true c3
          clear c3
          by_cases c4 : x9_1 < (l0.length : Int)
          · rw [if_pos c4] at H
            have c4b0 : decide (x9_1 < (l0.length : Int)) = true := decide_eq_true c4
            clear c4
            by_cases c5 : ((rd_T143 l0 x9_1).f0).toList = ([] : List UInt8)
            · rw [if_pos c5] at H
              have c5b0 : (((rd_T143 l0 x9_1).f0).toList == ([] : List UInt8)) = true := beq_iff_eq.mpr c5
              have c5b1 : (((rd_T143 l0 x9_1).f0).toList != ([] : List UInt8)) = false := bne_eq_false_iff_eq.mpr c5
              clear c5
              obtain rfl := Option.some.inj H
              have p204 : 0 ≤ (x9_1 : Int) := of_decide_eq_true (by first | (with_reducible assumption) | assumption)
              have q204 : x9_1 < (l0.length : Int) := of_decide_eq_true (by first | (with_reducible assumption) | assumption)
              obtain ⟨ad204, e204, hx204_0, hx204_1⟩ := at_T143 HR0.out x9_1 p204 q204
              cases e204
              replace hx204_0 := (HB.out.cell (World.block_lt_of_cell? w _ hx204_0)).trans hx204_0
              replace hx204_1 := (HB.out.cell (World.block_lt_of_cell? w _ hx204_1)).trans hx204_1
              replace p204 := eq_true p204
              replace q204 := eq_true q204
              go_wp2_with (first | ((with_reducible refine gate_dst (N := 5) rfl ?_); refine box_event ?hg (N := 5) ?hd (cs := #[.string (⟨#[]⟩ : ByteArray), .string (⟨#[]⟩ : ByteArray)]) (t := 143) ?hr ?_; (case hd => rfl); (case hg => rfl); (case hr => first | (go_simp; done) | (go_simp; rfl)); intro gb205 hg w6 hbox hb; have m0_ := Aside0.mk (blk_below (g := gm) (o := sobj Value.string x3_1) (by exact (by (with_reducible repeat (first | exact BKM.out | refine blk_drewN ?_ _ | refine blk_drew ?_ | refine blk_alloc ?_ _)))) hb); have m1_ := Aside0.mk (show gm ≠ gb205 from (by rw [hg]; exact Nat.ne_of_lt (blk_lt (o := sobj Value.string x3_1) (by exact (by (with_reducible repeat (first | exact BKM.out | refine blk_drewN ?_ _ | refine blk_drew ?_ | refine blk_alloc ?_ _))))))); clear BKM; have BKM := m0_; have NBM_205 := m1_; clear m0_ m1_; have n0_ := Aside0.mk (below_step (by repeat (first | (with_reducible first | exact HB.out | apply below_alloc | apply pw_below_drewN | apply below_drew1) | exact HB.out)) hb); have n1_ := Aside0.mk (hbox); have n2_ := Aside0.mk ((by rw [hg]; exact (below_size (by repeat (first | (with_reducible first | exact HB.out | apply below_alloc | apply pw_below_drewN | apply below_drew1) | exact HB.out))) : w.heap.size ≤ gb205)); have n3_ := Aside0.mk ((by rw [hg]; exact (below_size (by repeat (first | (with_reducible first | exact HB.out | apply below_alloc | apply pw_below_drewN | apply below_drew1) | exact HB.out))) : w.heap.size ≤ gb205)); clear HB; have HB := n0_; have BK205 := n1_; have GW205 := n2_; have GE205 := n3_; clear n0_ n1_ n2_ n3_; clear hb hbox hg; have hcz7_0 : w6.cell? ⟨gb205, 0, none⟩ = some (.string (⟨#[]⟩ : ByteArray)) := (blk_cell BK205.out 0).trans rfl; have hcz7_1 : w6.cell? ⟨gb205, 1, none⟩ = some (.string (⟨#[]⟩ : ByteArray)) := (blk_cell BK205.out 1).trans rfl; have hfz7_0 := blk_frozen BK205.out 0; have hfz7_1 := blk_frozen BK205.out 1))
              go_ret
              exact ⟨by first | rfl | (simp [errW_none, errW_some] <;> rfl) | (simp [*, errW_none, errW_some] <;> rfl), by repeat (first | (with_reducible first | exact HB.out | apply below_alloc | apply pw_below_drewN | apply below_drew1 | refine below_set ?_ GE205.out) | exact HB.out)⟩
            · rw [if_neg c5] at H
              have c5b0 : (((rd_T143 l0 x9_1).f0).toList == ([] : List UInt8)) = false := beq_eq_false_iff_ne.mpr c5
              have c5b1 : (((rd_T143 l0 x9_1).f0).toList != ([] : List UInt8)) = true := bne_iff_ne.mpr c5
              by_cases c8 : smem x3_1 ((rd_T143 l0 x9_1).f0) = true
              · rw [if_pos c8] at H
                have CM := Aside0.mk c8
                clear c8
                obtain rfl := Option.some.inj H
                have p204 : 0 ≤ (x9_1 : Int) := of_decide_eq_true (by first | (with_reducible assumption) | assumption)
                have q204 : x9_1 < (l0.length : Int) := of_decide_eq_true (by first | (with_reducible assumption) | assumption)
                obtain ⟨ad204, e204, hx204_0, hx204_1⟩ := at_T143 HR0.out x9_1 p204 q204
                cases e204
                replace hx204_0 := (HB.out.cell (World.block_lt_of_cell? w _ hx204_0)).trans hx204_0
                replace hx204_1 := (HB.out.cell (World.block_lt_of_cell? w _ hx204_1)).trans hx204_1
                replace p204 := eq_true p204
                replace q204 := eq_true q204
                go_wp2_with (first | ((with_reducible refine gate_dst (N := 5) rfl ?_); refine box_event ?hg (N := 5) ?hd (cs := #[.string (⟨#[]⟩ : ByteArray), .string (⟨#[]⟩ : ByteArray)]) (t := 143) ?hr ?_; (case hd => rfl); (case hg => rfl); (case hr => first | (go_simp; done) | (go_simp; rfl)); intro gb205 hg w9 hbox hb; have m0_ := Aside0.mk (blk_below (g := gm) (o := sobj Value.string x3_1) (by exact (by (with_reducible repeat (first | exact BKM.out | refine blk_drewN ?_ _ | refine blk_drew ?_ | refine blk_alloc ?_ _)))) hb); have m1_ := Aside0.mk (show gm ≠ gb205 from (by rw [hg]; exact Nat.ne_of_lt (blk_lt (o := sobj Value.string x3_1) (by exact (by (with_reducible repeat (first | exact BKM.out | refine blk_drewN ?_ _ | refine blk_drew ?_ | refine blk_alloc ?_ _))))))); clear BKM; have BKM := m0_; have NBM_205 := m1_; clear m0_ m1_; have n0_ := Aside0.mk (below_step (by repeat (first | (with_reducible first | exact HB.out | apply below_alloc | apply pw_below_drewN | apply below_drew1) | exact HB.out)) hb); have n1_ := Aside0.mk (hbox); have n2_ := Aside0.mk ((by rw [hg]; exact (below_size (by repeat (first | (with_reducible first | exact HB.out | apply below_alloc | apply pw_below_drewN | apply below_drew1) | exact HB.out))) : w.heap.size ≤ gb205)); have n3_ := Aside0.mk ((by rw [hg]; exact (below_size (by repeat (first | (with_reducible first | exact HB.out | apply below_alloc | apply pw_below_drewN | apply below_drew1) | exact HB.out))) : w.heap.size ≤ gb205)); clear HB; have HB := n0_; have BK205 := n1_; have GW205 := n2_; have GE205 := n3_; clear n0_ n1_ n2_ n3_; clear hb hbox hg; have hcz10_0 : w9.cell? ⟨gb205, 0, none⟩ = some (.string (⟨#[]⟩ : ByteArray)) := (blk_cell BK205.out 0).trans rfl; have hcz10_1 : w9.cell? ⟨gb205, 1, none⟩ = some (.string (⟨#[]⟩ : ByteArray)) := (blk_cell BK205.out 1).trans rfl; have hfz10_0 := blk_frozen BK205.out 0; have hfz10_1 := blk_frozen BK205.out 1) | (at_lookup; (try (refine gate_guard (by rfl) ?_; dsimp only)); refine sget_event (kt := 9) (et := 4) (d := .string) (ek := Value.string) (ks := x3_1) (g := gm) rfl _ _ rfl rfl (((rd_T143 l0 x9_1).f0)) rfl Try.underlying237 Try.underlying9 (fun _ => trivial) vstr_inj zero_bool (by (with_reducible repeat (first | exact BKM.out | refine blk_drewN ?_ _ | refine blk_drew ?_ | refine blk_alloc ?_ _ | refine obj_far ?_ NBM_205.out _))) true CM.out ?_))
                go_ret
                exact ⟨by first | rfl | (simp [errW_none, errW_some] <;> rfl) | (simp [*, errW_none, errW_some] <;> rfl), by repeat (first | (with_reducible first | exact HB.out | apply below_alloc | apply pw_below_drewN | apply below_drew1 | refine below_set ?_ GE205.out) | exact HB.out)⟩
              · rw [if_neg c8] at H
                have CM := Aside0.mk (Bool.eq_false_iff.mpr c8)
                clear c8
                by_cases c11 : (0 : Nat) ≤ 9223372036854775807
                · rw [if_pos c11] at H
                  clear c11
                  have H' := Aside0.mk H
                  clear H
                  have p204 : 0 ≤ (x9_1 : Int) := of_decide_eq_true (by first | (with_reducible assumption) | assumption)
                  have q204 : x9_1 < (l0.length : Int) := of_decide_eq_true (by first | (with_reducible assumption) | assumption)
                  obtain ⟨ad204, e204, hx204_0, hx204_1⟩ := at_T143 HR0.out x9_1 p204 q204
                  cases e204
                  replace hx204_0 := (HB.out.cell (World.block_lt_of_cell? w _ hx204_0)).trans hx204_0
                  replace hx204_1 := (HB.out.cell (World.block_lt_of_cell? w _ hx204_1)).trans hx204_1
                  replace p204 := eq_true p204
                  replace q204 := eq_true q204
                  go_wp2_with (first | ((with_reducible refine gate_dst (N := 5) rfl ?_); refine box_event ?hg (N := 5) ?hd (cs := #[.string (⟨#[]⟩ : ByteArray), .string (⟨#[]⟩ : ByteArray)]) (t := 143) ?hr ?_; (case hd => rfl); (case hg => rfl); (case hr => first | (go_simp; done) | (go_simp; rfl)); intro gb205 hg w12 hbox hb; have m0_ := Aside0.mk (blk_below (g := gm) (o := sobj Value.string x3_1) (by exact (by (with_reducible repeat (first | exact BKM.out | refine blk_drewN ?_ _ | refine blk_drew ?_ | refine blk_alloc ?_ _)))) hb); have m1_ := Aside0.mk (show gm ≠ gb205 from (by rw [hg]; exact Nat.ne_of_lt (blk_lt (o := sobj Value.string x3_1) (by exact (by (with_reducible repeat (first | exact BKM.out | refine blk_drewN ?_ _ | refine blk_drew ?_ | refine blk_alloc ?_ _))))))); clear BKM; have BKM := m0_; have NBM_205 := m1_; clear m0_ m1_; have n0_ := Aside0.mk (below_step (by repeat (first | (with_reducible first | exact HB.out | apply below_alloc | apply pw_below_drewN | apply below_drew1) | exact HB.out)) hb); have n1_ := Aside0.mk (hbox); have n2_ := Aside0.mk ((by rw [hg]; exact (below_size (by repeat (first | (with_reducible first | exact HB.out | apply below_alloc | apply pw_below_drewN | apply below_drew1) | exact HB.out))) : w.heap.size ≤ gb205)); have n3_ := Aside0.mk ((by rw [hg]; exact (below_size (by repeat (first | (with_reducible first | exact HB.out | apply below_alloc | apply pw_below_drewN | apply below_drew1) | exact HB.out))) : w.heap.size ≤ gb205)); clear HB; have HB := n0_; have BK205 := n1_; have GW205 := n2_; have GE205 := n3_; clear n0_ n1_ n2_ n3_; clear hb hbox hg; have hcz13_0 : w12.cell? ⟨gb205, 0, none⟩ = some (.string (⟨#[]⟩ : ByteArray)) := (blk_cell BK205.out 0).trans rfl; have hcz13_1 : w12.cell? ⟨gb205, 1, none⟩ = some (.string (⟨#[]⟩ : ByteArray)) := (blk_cell BK205.out 1).trans rfl; have hfz13_0 := blk_frozen BK205.out 0; have hfz13_1 := blk_frozen BK205.out 1) | (at_lookup; (try (refine gate_guard (by rfl) ?_; dsimp only)); refine sget_event (kt := 9) (et := 4) (d := .string) (ek := Value.string) (ks := x3_1) (g := gm) rfl _ _ rfl rfl (((rd_T143 l0 x9_1).f0)) rfl Try.underlying237 Try.underlying9 (fun _ => trivial) vstr_inj zero_bool (by (with_reducible repeat (first | exact BKM.out | refine blk_drewN ?_ _ | refine blk_drew ?_ | refine blk_alloc ?_ _ | refine obj_far ?_ NBM_205.out _))) false CM.out ?_) | (at_mapUpdate; refine sput_event (kt := 9) (et := 4) (d := .string) (ek := Value.string) (ks := x3_1) (g := gm) rfl _ _ _ rfl rfl rfl (((rd_T143 l0 x9_1).f0)) rfl rfl Try.underlying237 Try.underlying9 (fun _ => trivial) vstr_inj (by (with_reducible repeat (first | exact BKM.out | refine blk_drewN ?_ _ | refine blk_drew ?_ | refine blk_alloc ?_ _ | refine obj_far ?_ NBM_205.out _))) ?_; intro wP hmap hg; have m0_ := Aside0.mk (show wP.heap[gm]? = some (sobj Value.string ((((rd_T143 l0 x9_1).f0)) :: x3_1)) from hmap); have m1_ := Aside0.mk (pw_below_grown (by repeat (first | (with_reducible first | exact HB.out | apply below_alloc | apply pw_below_drewN | apply below_drew1 | refine below_set ?_ GE205.out) | exact HB.out)) _ (below_size (by repeat (first | (with_reducible first | exact HB.out | apply below_alloc | apply pw_below_drewN | apply below_drew1 | refine below_set ?_ GE205.out) | exact HB.out))) hg (fun k hk => by injection hk with hk; rw [← hk]; exact GEM.out)); clear BKM HB; have BKM := m0_; have HB := m1_; clear m0_ m1_ hmap hg))
                  go_roundg k1
                  case measure => have := HK1.out; omega
                  case rel => exact ⟨(((rd_T143 l0 x9_1).f0) :: x3_1), (wrap64 (x9_1 + 1)), (by first | rfl | (simp; done) | (simp [*]; done)), H', ⟨by have := HK1.out; omega⟩, ⟨by (with_reducible repeat (first | exact BKM.out | refine blk_drewN ?_ _ | refine blk_drew ?_ | refine blk_alloc ?_ _))⟩, ⟨by repeat (first | (with_reducible first | exact HB.out | apply below_alloc | apply pw_below_drewN | apply below_drew1 | refine below_set ?_ GE205.out) | exact HB.out)⟩⟩
                · rw [if_neg c11] at H
                  exact absurd H (by simp)
          · rw [if_neg c4] at H
            exact absurd H (by simp)
        · rw [if_neg c3] at H
          exact absurd H (by simp)
      · rw [if_neg c2] at H
        have c2b0 : decide (x9_1 < (l0.length : Int)) = false := decide_eq_false c2
        clear c2
        obtain rfl := Option.some.inj H
        go_wp2
        go_ret
        exact ⟨by first | rfl | (simp [errW_none, errW_some] <;> rfl) | (simp [*, errW_none, errW_some] <;> rfl), by repeat (first | (with_reducible first | exact HB.out | apply below_alloc | apply pw_below_drewN | apply below_drew1) | exact HB.out)⟩

end Go.Proofs.Ytjoanlocikagaaa.QFnExactTextOf
