/- Written by a program (wip/tools/own_print.py) out of the walk that the kit's printer made; turned where it fell. -/
import Derived.Test.YtjghahkecglgdaaQFnExactSpecificityx0
import Derived.Test.YtjghahkecglgdaaQFnExactSpecificityx1
import Derived.Test.YtjghahkecglgdaaQFnExactSpecificityx8
namespace Go.Proofs.Ytjghahkecglgdaa.QFnExactSpecificity
open Go.RowKit Go.Proofs.YtjghahkecglgdaaV.PrintWords Go.Proofs.YtjghahkecglgdaaV.PrintLast Go.Proofs.YtjghahkecglgdaaV.PrintMore
attribute [local go_sem] max2_int min2_int max_two min_two max_three min_three max_four min_four   -- for this text's walks alone
set_option linter.unusedVariables false
set_option linter.unusedSimpArgs false

def eqv106 (x0 y0 : Int) (x1 y1 x2 y2 : List UInt8) (x3 y3 x4 y4 : Int) : Bool := (x0 == y0 && (x1 == y1 && (x2 == y2 && (x3 == y3 && (x4 == y4)))))
theorem eqB106 (d : Nat) (w : World) (x0 y0 : Int) (x1 y1 : ByteArray) (x2 y2 : ByteArray) (x3 y3 : Int) (x4 y4 : Int) :
    (Op.equalIn (d + 2) 106 (.agg #[.int .i64 x0, .string x1, .string x2, .int .i64 x3, .int .i64 x4]) (.agg #[.int .i64 y0, .string y1, .string y2, .int .i64 y3, .int .i64 y4])).run Try.prog w = .ok (eqv106 x0 y0 x1.toList y1.toList x2.toList y2.toList x3 y3 x4 y4) w := eqA106 d w x0 y0 x1 y1 x2 y2 x3 y3 x4 y4
attribute [local go_sem high] eqB106
/-! ### impl_simpleOk: function 92 -/
mutual
def impl_simpleOk.j0 : Nat → Bool → Int → ByteArray → ByteArray → Int → Int → List (S112) → Option (Bool)
  | 0, _, _, _, _, _, _, _ => none
  | k + 1, x47, x221000, x221001, x221002, x221003, x221004, x221005 => if x47 = true then (some false) else (impl_simpleOk.l0 k x221005 (x221005.length : Int) 0)
def impl_simpleOk.l0 : Nat → List (S112) → Int → Int → Option (Bool)
  | 0, _, _, _ => none
  | k + 1, x49, x50, x51 => if x51 < x50 then (if 0 ≤ x51 then (if x51 < (x49.length : Int) then (if (((rd_T112 x49 x51).f0).length : Int) < 1 then (impl_simpleOk.j2 k x49 x50 x51 true ((rd_T112 x49 x51).f0)) else (impl_simpleOk.j2 k x49 x50 x51 (decide ((((rd_T112 x49 x51).f0).length : Int) > 20)) ((rd_T112 x49 x51).f0))) else (none)) else (none)) else (some true)
def impl_simpleOk.j2 : Nat → List (S112) → Int → Int → Bool → List (S106) → Option (Bool)
  | 0, _, _, _, _, _ => none
  | k + 1, x49, x50, x51, x64, x224000 => if x64 = true then (some false) else (impl_simpleOk.l1 k x49 x50 x51 x224000 (x224000.length : Int) 0)
def impl_simpleOk.l1 : Nat → List (S112) → Int → Int → List (S106) → Int → Int → Option (Bool)
  | 0, _, _, _, _, _, _ => none
  | k + 1, x49, x50, x51, x66, x67, x68 => if x68 < x67 then (if 0 ≤ x68 then (if x68 < (x66.length : Int) then ((impl_basicOk.f k ((rd_T106 x66 x68).f0) ((rd_T106 x66 x68).f1) ((rd_T106 x66 x68).f2) ((rd_T106 x66 x68).f3) ((rd_T106 x66 x68).f4) (x68 == 0) true).bind fun t226 => (if t226 = true then (impl_simpleOk.l1 k x49 x50 x51 x66 x67 (wrap64 (x68 + 1))) else (some false))) else (none)) else (none)) else (impl_simpleOk.l0 k x49 x50 (wrap64 (x51 + 1)))
end
def impl_simpleOk.f (k : Nat) (a0_0 : Int) (a0_1 : ByteArray) (a0_2 : ByteArray) (a0_3 : Int) (a0_4 : Int) (l0_5 : List (S112)) (a1 : Bool) : Option (Bool) := if a0_0 < 16 then (if (l0_5.length : Int) = 0 then ((impl_basicOk.f k a0_0 a0_1 a0_2 a0_3 a0_4 a1 true).bind fun t221 => (some t221)) else (some false)) else (if a0_0 > 19 then (impl_simpleOk.j0 k true a0_0 a0_1 a0_2 a0_3 a0_4 l0_5) else (if (!(a0_1.toList == ([] : List UInt8)) || (!(a0_2.toList == ([] : List UInt8)) || (!(a0_3 == 0) || (!(a0_4 == 0))))) = true then (impl_simpleOk.j0 k true a0_0 a0_1 a0_2 a0_3 a0_4 l0_5) else (if (l0_5.length : Int) < 1 then (impl_simpleOk.j0 k true a0_0 a0_1 a0_2 a0_3 a0_4 l0_5) else (impl_simpleOk.j0 k (decide ((l0_5.length : Int) > 20)) a0_0 a0_1 a0_2 a0_3 a0_4 l0_5))))
theorem impl_simpleOk.mono_l : ∀ k, (∀ y0 y1 y2 y3 y4 y5 y6, LeO (impl_simpleOk.j0 k y0 y1 y2 y3 y4 y5 y6) (impl_simpleOk.j0 (k + 1) y0 y1 y2 y3 y4 y5 y6)) ∧ (∀ y0 y1 y2, LeO (impl_simpleOk.l0 k y0 y1 y2) (impl_simpleOk.l0 (k + 1) y0 y1 y2)) ∧ (∀ y0 y1 y2 y3 y4, LeO (impl_simpleOk.j2 k y0 y1 y2 y3 y4) (impl_simpleOk.j2 (k + 1) y0 y1 y2 y3 y4)) ∧ (∀ y0 y1 y2 y3 y4 y5, LeO (impl_simpleOk.l1 k y0 y1 y2 y3 y4 y5) (impl_simpleOk.l1 (k + 1) y0 y1 y2 y3 y4 y5))
  | 0 => ⟨fun _ _ _ _ _ _ _ r h => by simp [impl_simpleOk.j0] at h, fun _ _ _ r h => by simp [impl_simpleOk.l0] at h, fun _ _ _ _ _ r h => by simp [impl_simpleOk.j2] at h, fun _ _ _ _ _ _ r h => by simp [impl_simpleOk.l1] at h⟩
  | k + 1 => by
    obtain ⟨ih0, ih1, ih2, ih3⟩ := impl_simpleOk.mono_l k
    refine ⟨?_, ?_, ?_, ?_⟩
    · intro y0 y1 y2 y3 y4 y5 y6
      unfold impl_simpleOk.j0
      repeat' first
      | (with_reducible exact ih0 _ _ _ _ _ _ _)
      | (with_reducible exact ih1 _ _ _)
      | (with_reducible exact ih2 _ _ _ _ _)
      | (with_reducible exact ih3 _ _ _ _ _ _)
      | (with_reducible exact impl_basicOk.mono _ _ _ _ _ _ _ _)
      | (with_reducible exact LeO.refl _)
      | (with_reducible exact LeO.none _)
      | (with_reducible refine LeO.ite ?_ ?_)
      | (with_reducible refine LeO.bind ?_ (fun _ => ?_))
      | exact ih0 _ _ _ _ _ _ _
      | exact ih1 _ _ _
      | exact ih2 _ _ _ _ _
      | exact ih3 _ _ _ _ _ _
      | exact impl_basicOk.mono _ _ _ _ _ _ _ _
      | exact LeO.none _
      | refine LeO.ite ?_ ?_
      | refine LeO.bind ?_ (fun _ => ?_)
    · intro y0 y1 y2
      unfold impl_simpleOk.l0
      repeat' first
      | (with_reducible exact ih0 _ _ _ _ _ _ _)
      | (with_reducible exact ih1 _ _ _)
      | (with_reducible exact ih2 _ _ _ _ _)
      | (with_reducible exact ih3 _ _ _ _ _ _)
      | (with_reducible exact impl_basicOk.mono _ _ _ _ _ _ _ _)
      | (with_reducible exact LeO.refl _)
      | (with_reducible exact LeO.none _)
      | (with_reducible refine LeO.ite ?_ ?_)
      | (with_reducible refine LeO.bind ?_ (fun _ => ?_))
      | exact ih0 _ _ _ _ _ _ _
      | exact ih1 _ _ _
      | exact ih2 _ _ _ _ _
      | exact ih3 _ _ _ _ _ _
      | exact impl_basicOk.mono _ _ _ _ _ _ _ _
      | exact LeO.none _
      | refine LeO.ite ?_ ?_
      | refine LeO.bind ?_ (fun _ => ?_)
    · intro y0 y1 y2 y3 y4
      unfold impl_simpleOk.j2
      repeat' first
      | (with_reducible exact ih0 _ _ _ _ _ _ _)
      | (with_reducible exact ih1 _ _ _)
      | (with_reducible exact ih2 _ _ _ _ _)
      | (with_reducible exact ih3 _ _ _ _ _ _)
      | (with_reducible exact impl_basicOk.mono _ _ _ _ _ _ _ _)
      | (with_reducible exact LeO.refl _)
      | (with_reducible exact LeO.none _)
      | (with_reducible refine LeO.ite ?_ ?_)
      | (with_reducible refine LeO.bind ?_ (fun _ => ?_))
      | exact ih0 _ _ _ _ _ _ _
      | exact ih1 _ _ _
      | exact ih2 _ _ _ _ _
      | exact ih3 _ _ _ _ _ _
      | exact impl_basicOk.mono _ _ _ _ _ _ _ _
      | exact LeO.none _
      | refine LeO.ite ?_ ?_
      | refine LeO.bind ?_ (fun _ => ?_)
    · intro y0 y1 y2 y3 y4 y5
      unfold impl_simpleOk.l1
      repeat' first
      | (with_reducible exact ih0 _ _ _ _ _ _ _)
      | (with_reducible exact ih1 _ _ _)
      | (with_reducible exact ih2 _ _ _ _ _)
      | (with_reducible exact ih3 _ _ _ _ _ _)
      | (with_reducible exact impl_basicOk.mono _ _ _ _ _ _ _ _)
      | (with_reducible exact LeO.refl _)
      | (with_reducible exact LeO.none _)
      | (with_reducible refine LeO.ite ?_ ?_)
      | (with_reducible refine LeO.bind ?_ (fun _ => ?_))
      | exact ih0 _ _ _ _ _ _ _
      | exact ih1 _ _ _
      | exact ih2 _ _ _ _ _
      | exact ih3 _ _ _ _ _ _
      | exact impl_basicOk.mono _ _ _ _ _ _ _ _
      | exact LeO.none _
      | refine LeO.ite ?_ ?_
      | refine LeO.bind ?_ (fun _ => ?_)
theorem impl_simpleOk.mono : ∀ a0 a1 a2 a3 a4 a5 a6 k, LeO (impl_simpleOk.f k a0 a1 a2 a3 a4 a5 a6) (impl_simpleOk.f (k + 1) a0 a1 a2 a3 a4 a5 a6) := by
  intro a0 a1 a2 a3 a4 a5 a6 k
  obtain ⟨ih0, ih1, ih2, ih3⟩ := impl_simpleOk.mono_l k
  unfold impl_simpleOk.f
  repeat' first
      | (with_reducible exact ih0 _ _ _ _ _ _ _)
      | (with_reducible exact ih1 _ _ _)
      | (with_reducible exact ih2 _ _ _ _ _)
      | (with_reducible exact ih3 _ _ _ _ _ _)
      | (with_reducible exact impl_basicOk.mono _ _ _ _ _ _ _ _)
      | (with_reducible exact LeO.refl _)
      | (with_reducible exact LeO.none _)
      | (with_reducible refine LeO.ite ?_ ?_)
      | (with_reducible refine LeO.bind ?_ (fun _ => ?_))
      | exact ih0 _ _ _ _ _ _ _
      | exact ih1 _ _ _
      | exact ih2 _ _ _ _ _
      | exact ih3 _ _ _ _ _ _
      | exact impl_basicOk.mono _ _ _ _ _ _ _ _
      | exact LeO.none _
      | refine LeO.ite ?_ ?_
      | refine LeO.bind ?_ (fun _ => ?_)
set_option maxHeartbeats 8000000 in
set_option maxRecDepth 100000 in
theorem impl_simpleOk.calls (k : Nat) (a0_0 : Int) (a0_1 : ByteArray) (a0_2 : ByteArray) (a0_3 : Int) (a0_4 : Int) (A0_5 : Option Addr) (c0_5 : Nat) (l0_5 : List (S112)) (a1 : Bool) (r : Bool) (w : World) (hr0_5 : Kd.C k112 w A0_5 l0_5.length l0_5) (hc0_5 : l0_5.length ≤ c0_5) (h : impl_simpleOk.f k a0_0 a0_1 a0_2 a0_3 a0_4 l0_5 a1 = some r) :
    Calls Try.prog 92 #[.agg #[.int .i64 a0_0, .string a0_1, .string a0_2, .int .i64 a0_3, .int .i64 a0_4, .slice A0_5 l0_5.length c0_5], .bool a1] w fun e w' => e = .returned (.bool r) ∧ Below w.heap.size w w' := by
  have hu109 := Try.underlying109
  have hu106 := Try.underlying106
  have hu112 := Try.underlying112
  have HR0_5 := Aside0.mk hr0_5
  have HC0_5 := Aside0.mk hc0_5
  clear hr0_5 hc0_5
  have HB := Aside0.mk (Below.refl w.heap.size w)
  have H : (if a0_0 < 16 then (if (l0_5.length : Int) = 0 then ((impl_basicOk.f k a0_0 a0_1 a0_2 a0_3 a0_4 a1 true).bind fun t221 => (some t221)) else (some false)) else (if a0_0 > 19 then (impl_simpleOk.j0 k true a0_0 a0_1 a0_2 a0_3 a0_4 l0_5) else (if (!(a0_1.toList == ([] : List UInt8)) || (!(a0_2.toList == ([] : List UInt8)) || (!(a0_3 == 0) || (!(a0_4 == 0))))) = true then (impl_simpleOk.j0 k true a0_0 a0_1 a0_2 a0_3 a0_4 l0_5) else (if (l0_5.length : Int) < 1 then (impl_simpleOk.j0 k true a0_0 a0_1 a0_2 a0_3 a0_4 l0_5) else (impl_simpleOk.j0 k (decide ((l0_5.length : Int) > 20)) a0_0 a0_1 a0_2 a0_3 a0_4 l0_5))))) = some r := h
  clear h
  by_cases c3 : a0_0 < 16
  · rw [if_pos c3] at H
    have c3b0 : decide (a0_0 < 16) = true := decide_eq_true c3
    clear c3
    by_cases c4 : (l0_5.length : Int) = 0
    · rw [if_pos c4] at H
      have c4b0 : ((l0_5.length : Int) == 0) = true := beq_iff_eq.mpr c4
      have c4b1 : ((l0_5.length : Int) != 0) = false := bne_eq_false_iff_eq.mpr c4
      clear c4
      replace H := Option.bind_eq_some_iff.mp H
      obtain ⟨t221, A50, H⟩ := H
      replace H : (some t221) = some r := H
      have A5 := Aside0.mk A50
      clear A50
      obtain rfl := Option.some.inj H
      go_enter Try.func92, Try.ntmps92
      go_wp2_with (first | ((with_reducible refine gate_dst (N := 2) rfl ?_); (try (refine gate_guard (by rfl) ?_; dsimp only)); refine box_event ?hg (N := 2) ?hd (cs := #[.int .i64 a0_0, .string a0_1, .string a0_2, .int .i64 a0_3, .int .i64 a0_4, .slice A0_5 l0_5.length c0_5]) (t := 109) ?hr ?_; (case hd => rfl); (case hg => rfl); (case hr => first | (go_simp; done) | (go_simp; rfl)); intro gb220 hg w6 hbox hb; have n0_ := Aside0.mk (below_step (by repeat (first | (with_reducible first | exact HB.out | apply below_alloc | apply pw_below_drewN | apply below_drew1) | exact HB.out)) hb); have n1_ := Aside0.mk (hbox); have n2_ := Aside0.mk ((by rw [hg]; exact (below_size (by repeat (first | (with_reducible first | exact HB.out | apply below_alloc | apply pw_below_drewN | apply below_drew1) | exact HB.out))) : w.heap.size ≤ gb220)); have n3_ := Aside0.mk ((by rw [hg]; exact (below_size (by repeat (first | (with_reducible first | exact HB.out | apply below_alloc | apply pw_below_drewN | apply below_drew1) | exact HB.out))) : w.heap.size ≤ gb220)); clear HB; have HB := n0_; have BK220 := n1_; have GW220 := n2_; have GE220 := n3_; clear n0_ n1_ n2_ n3_; clear hb hbox hg; have hcz7_0 : w6.cell? ⟨gb220, 0, none⟩ = some (.int .i64 a0_0) := (blk_cell BK220.out 0).trans rfl; have hcz7_1 : w6.cell? ⟨gb220, 1, none⟩ = some (.string a0_1) := (blk_cell BK220.out 1).trans rfl; have hcz7_2 : w6.cell? ⟨gb220, 2, none⟩ = some (.string a0_2) := (blk_cell BK220.out 2).trans rfl; have hcz7_3 : w6.cell? ⟨gb220, 3, none⟩ = some (.int .i64 a0_3) := (blk_cell BK220.out 3).trans rfl; have hcz7_4 : w6.cell? ⟨gb220, 4, none⟩ = some (.int .i64 a0_4) := (blk_cell BK220.out 4).trans rfl; have hcz7_5 : w6.cell? ⟨gb220, 5, none⟩ = some (.slice A0_5 l0_5.length c0_5) := (blk_cell BK220.out 5).trans rfl; have hfz7_0 := blk_frozen BK220.out 0; have hfz7_1 := blk_frozen BK220.out 1; have hfz7_2 := blk_frozen BK220.out 2; have hfz7_3 := blk_frozen BK220.out 3; have hfz7_4 := blk_frozen BK220.out 4; have hfz7_5 := blk_frozen BK220.out 5) | (go_at_call 103; (with_reducible refine (impl_basicOk.calls k a0_0 a0_1 a0_2 a0_3 a0_4 a1 true t221 _ A5.out).mono ?_); rintro e w8 ⟨rfl, hb⟩; have n0_ := Aside0.mk (blk_below (g := gb220) (o := .cells #[.int .i64 a0_0, .string a0_1, .string a0_2, .int .i64 a0_3, .int .i64 a0_4, .slice A0_5 l0_5.length c0_5] 109 (0, 0)) (by (with_reducible repeat (first | refine blk_drewN ?_ _ | refine blk_drew ?_ | refine blk_alloc ?_ _)); exact BK220.out) hb); have n1_ := Aside0.mk (below_step (by repeat (first | (with_reducible first | exact HB.out | apply below_alloc | apply pw_below_drewN | apply below_drew1 | refine below_set ?_ GE220.out) | exact HB.out)) hb); clear BK220; clear HB; have BK220 := n0_; have HB := n1_; clear n0_ n1_; (try clear hb); (try clear hb2); (try clear hk); (try clear hi)))
      go_ret
      exact ⟨by first | rfl | (simp [errW_none, errW_some] <;> rfl) | (simp [*, errW_none, errW_some] <;> rfl), by repeat (first | (with_reducible first | exact HB.out | apply below_alloc | apply pw_below_drewN | apply below_drew1 | refine below_set ?_ GE220.out) | exact HB.out)⟩
    · rw [if_neg c4] at H
      have c4b0 : ((l0_5.length : Int) == 0) = false := beq_eq_false_iff_ne.mpr c4
      have c4b1 : ((l0_5.length : Int) != 0) = true := bne_iff_ne.mpr c4
      have c4b2 : ¬ (l0_5 = []) := fun h_ => c4 (by rw [h_]; rfl)
      obtain rfl := Option.some.inj H
      go_enter Try.func92, Try.ntmps92
      go_wp2_with (first | ((with_reducible refine gate_dst (N := 2) rfl ?_); (try (refine gate_guard (by rfl) ?_; dsimp only)); refine box_event ?hg (N := 2) ?hd (cs := #[.int .i64 a0_0, .string a0_1, .string a0_2, .int .i64 a0_3, .int .i64 a0_4, .slice A0_5 l0_5.length c0_5]) (t := 109) ?hr ?_; (case hd => rfl); (case hg => rfl); (case hr => first | (go_simp; done) | (go_simp; rfl)); intro gb220 hg w9 hbox hb; have n0_ := Aside0.mk (below_step (by repeat (first | (with_reducible first | exact HB.out | apply below_alloc | apply pw_below_drewN | apply below_drew1) | exact HB.out)) hb); have n1_ := Aside0.mk (hbox); have n2_ := Aside0.mk ((by rw [hg]; exact (below_size (by repeat (first | (with_reducible first | exact HB.out | apply below_alloc | apply pw_below_drewN | apply below_drew1) | exact HB.out))) : w.heap.size ≤ gb220)); have n3_ := Aside0.mk ((by rw [hg]; exact (below_size (by repeat (first | (with_reducible first | exact HB.out | apply below_alloc | apply pw_below_drewN | apply below_drew1) | exact HB.out))) : w.heap.size ≤ gb220)); clear HB; have HB := n0_; have BK220 := n1_; have GW220 := n2_; have GE220 := n3_; clear n0_ n1_ n2_ n3_; clear hb hbox hg; have hcz10_0 : w9.cell? ⟨gb220, 0, none⟩ = some (.int .i64 a0_0) := (blk_cell BK220.out 0).trans rfl; have hcz10_1 : w9.cell? ⟨gb220, 1, none⟩ = some (.string a0_1) := (blk_cell BK220.out 1).trans rfl; have hcz10_2 : w9.cell? ⟨gb220, 2, none⟩ = some (.string a0_2) := (blk_cell BK220.out 2).trans rfl; have hcz10_3 : w9.cell? ⟨gb220, 3, none⟩ = some (.int .i64 a0_3) := (blk_cell BK220.out 3).trans rfl; have hcz10_4 : w9.cell? ⟨gb220, 4, none⟩ = some (.int .i64 a0_4) := (blk_cell BK220.out 4).trans rfl; have hcz10_5 : w9.cell? ⟨gb220, 5, none⟩ = some (.slice A0_5 l0_5.length c0_5) := (blk_cell BK220.out 5).trans rfl; have hfz10_0 := blk_frozen BK220.out 0; have hfz10_1 := blk_frozen BK220.out 1; have hfz10_2 := blk_frozen BK220.out 2; have hfz10_3 := blk_frozen BK220.out 3; have hfz10_4 := blk_frozen BK220.out 4; have hfz10_5 := blk_frozen BK220.out 5))
      go_ret
      exact ⟨by first | rfl | (simp [errW_none, errW_some] <;> rfl) | (simp [*, errW_none, errW_some] <;> rfl), by repeat (first | (with_reducible first | exact HB.out | apply below_alloc | apply pw_below_drewN | apply below_drew1 | refine below_set ?_ GE220.out) | exact HB.out)⟩
  · rw [if_neg c3] at H
    have c3b0 : decide (a0_0 < 16) = false := decide_eq_false c3
    clear c3
    have HC11 := Aside0.mk H
    clear H
    go_enter Try.func92, Try.ntmps92
    go_upto_region 3 with (first | ((with_reducible refine gate_dst (N := 2) rfl ?_); (try (refine gate_guard (by rfl) ?_; dsimp only)); refine box_event ?hg (N := 2) ?hd (cs := #[.int .i64 a0_0, .string a0_1, .string a0_2, .int .i64 a0_3, .int .i64 a0_4, .slice A0_5 l0_5.length c0_5]) (t := 109) ?hr ?_; (case hd => rfl); (case hg => rfl); (case hr => first | (go_simp; done) | (go_simp; rfl)); intro gb220 hg w12 hbox hb; have n0_ := Aside0.mk (below_step (by repeat (first | (with_reducible first | exact HB.out | apply below_alloc | apply pw_below_drewN | apply below_drew1) | exact HB.out)) hb); have n1_ := Aside0.mk (hbox); have n2_ := Aside0.mk ((by rw [hg]; exact (below_size (by repeat (first | (with_reducible first | exact HB.out | apply below_alloc | apply pw_below_drewN | apply below_drew1) | exact HB.out))) : w.heap.size ≤ gb220)); have n3_ := Aside0.mk ((by rw [hg]; exact (below_size (by repeat (first | (with_reducible first | exact HB.out | apply below_alloc | apply pw_below_drewN | apply below_drew1) | exact HB.out))) : w.heap.size ≤ gb220)); clear HB; have HB := n0_; have BK220 := n1_; have GW220 := n2_; have GE220 := n3_; clear n0_ n1_ n2_ n3_; clear hb hbox hg; have hcz13_0 : w12.cell? ⟨gb220, 0, none⟩ = some (.int .i64 a0_0) := (blk_cell BK220.out 0).trans rfl; have hcz13_1 : w12.cell? ⟨gb220, 1, none⟩ = some (.string a0_1) := (blk_cell BK220.out 1).trans rfl; have hcz13_2 : w12.cell? ⟨gb220, 2, none⟩ = some (.string a0_2) := (blk_cell BK220.out 2).trans rfl; have hcz13_3 : w12.cell? ⟨gb220, 3, none⟩ = some (.int .i64 a0_3) := (blk_cell BK220.out 3).trans rfl; have hcz13_4 : w12.cell? ⟨gb220, 4, none⟩ = some (.int .i64 a0_4) := (blk_cell BK220.out 4).trans rfl; have hcz13_5 : w12.cell? ⟨gb220, 5, none⟩ = some (.slice A0_5 l0_5.length c0_5) := (blk_cell BK220.out 5).trans rfl; have hfz13_0 := blk_frozen BK220.out 0; have hfz13_1 := blk_frozen BK220.out 1; have hfz13_2 := blk_frozen BK220.out 2; have hfz13_3 := blk_frozen BK220.out 3; have hfz13_4 := blk_frozen BK220.out 4; have hfz13_5 := blk_frozen BK220.out 5))
    (try simp only [Act.put, List.setIfInBounds_toArray, List.set_cons_zero, List.set_cons_succ])
    go_cut [47] (fun v47 wc => ∃ (kq : Nat) (x47_10 : Bool), v47 = .bool x47_10 ∧ Aside0 (impl_simpleOk.j0 kq x47_10 a0_0 a0_1 a0_2 a0_3 a0_4 l0_5 = some r) ∧ Aside0 (kq ≤ k) ∧ Aside0 (wc.heap[gb220]? = some (.cells #[.int .i64 a0_0, .string a0_1, .string a0_2, .int .i64 a0_3, .int .i64 a0_4, (.slice A0_5 l0_5.length c0_5)] 109 (0, 0))) ∧ Aside0 (Below w.heap.size w wc))
    case first =>
      have H := HC11.out
      clear HC11
      by_cases c14 : a0_0 > 19
      · rw [if_pos c14] at H
        have c14b0 : decide (19 < a0_0) = true := decide_eq_true c14
        clear c14
        (first | rw [c14b0] | (simp only [i64_w, i32_w]; rw [c14b0]) | rw [c14b1] | skip)
        have H' := Aside0.mk H
        clear H
        have hcz15_0 : w12.cell? ⟨gb220, 0, none⟩ = some (.int .i64 a0_0) := (blk_cell BK220.out 0).trans rfl
        have hcz15_1 : w12.cell? ⟨gb220, 1, none⟩ = some (.string a0_1) := (blk_cell BK220.out 1).trans rfl
        have hcz15_2 : w12.cell? ⟨gb220, 2, none⟩ = some (.string a0_2) := (blk_cell BK220.out 2).trans rfl
        have hcz15_3 : w12.cell? ⟨gb220, 3, none⟩ = some (.int .i64 a0_3) := (blk_cell BK220.out 3).trans rfl
        have hcz15_4 : w12.cell? ⟨gb220, 4, none⟩ = some (.int .i64 a0_4) := (blk_cell BK220.out 4).trans rfl
        have hcz15_5 : w12.cell? ⟨gb220, 5, none⟩ = some (.slice A0_5 l0_5.length c0_5) := (blk_cell BK220.out 5).trans rfl
        have hfz15_0 := blk_frozen BK220.out 0
        have hfz15_1 := blk_frozen BK220.out 1
        have hfz15_2 := blk_frozen BK220.out 2
        have hfz15_3 := blk_frozen BK220.out 3
        have hfz15_4 := blk_frozen BK220.out 4
        have hfz15_5 := blk_frozen BK220.out 5
        go_wp2
        go_meet
        case rel => exact ⟨_, (true), (by first | rfl | (simp; done) | (simp [*]; done)), H', ⟨by first | omega | exact Nat.le_refl _⟩, ⟨by (with_reducible repeat (first | refine blk_drewN ?_ _ | refine blk_drew ?_ | refine blk_alloc ?_ _)); exact BK220.out⟩, ⟨by repeat (first | (with_reducible first | exact HB.out | apply below_alloc | apply pw_below_drewN | apply below_drew1 | refine below_set ?_ GE220.out) | exact HB.out)⟩⟩
      · rw [if_neg c14] at H
        have c14b0 : decide (19 < a0_0) = false := decide_eq_false c14
        clear c14
        (first | rw [c14b0] | (simp only [i64_w, i32_w]; rw [c14b0]) | rw [c14b1] | skip)
        by_cases c16 : (!(a0_1.toList == ([] : List UInt8)) || (!(a0_2.toList == ([] : List UInt8)) || (!(a0_3 == 0) || (!(a0_4 == 0))))) = true
        · rw [if_pos c16] at H
          have c16b0 : (!(a0_1.toList == ([] : List UInt8)) || (!(a0_2.toList == ([] : List UInt8)) || (!(a0_3 == 0) || (!(a0_4 == 0))))) = true := c16
          have c16e : eqv106 a0_0 a0_0 a0_1.toList ([] : List UInt8) a0_2.toList ([] : List UInt8) a0_3 0 a0_4 0 = false := by unfold eqv106; rw [beq_self_eq_true, Bool.true_and]; revert c16b0; cases (a0_1.toList == ([] : List UInt8)) <;> cases (a0_2.toList == ([] : List UInt8)) <;> cases (a0_3 == 0) <;> cases (a0_4 == 0) <;> simp
          clear c16b0
          clear c16
          have H' := Aside0.mk H
          clear H
          have hcz17_0 : w12.cell? ⟨gb220, 0, none⟩ = some (.int .i64 a0_0) := (blk_cell BK220.out 0).trans rfl
          have hcz17_1 : w12.cell? ⟨gb220, 1, none⟩ = some (.string a0_1) := (blk_cell BK220.out 1).trans rfl
          have hcz17_2 : w12.cell? ⟨gb220, 2, none⟩ = some (.string a0_2) := (blk_cell BK220.out 2).trans rfl
          have hcz17_3 : w12.cell? ⟨gb220, 3, none⟩ = some (.int .i64 a0_3) := (blk_cell BK220.out 3).trans rfl
          have hcz17_4 : w12.cell? ⟨gb220, 4, none⟩ = some (.int .i64 a0_4) := (blk_cell BK220.out 4).trans rfl
          have hcz17_5 : w12.cell? ⟨gb220, 5, none⟩ = some (.slice A0_5 l0_5.length c0_5) := (blk_cell BK220.out 5).trans rfl
          have hfz17_0 := blk_frozen BK220.out 0
          have hfz17_1 := blk_frozen BK220.out 1
          have hfz17_2 := blk_frozen BK220.out 2
          have hfz17_3 := blk_frozen BK220.out 3
          have hfz17_4 := blk_frozen BK220.out 4
          have hfz17_5 := blk_frozen BK220.out 5
          go_wp2
          go_meet
          case rel => exact ⟨_, (true), (by first | rfl | (simp; done) | (simp [*]; done)), H', ⟨by first | omega | exact Nat.le_refl _⟩, ⟨by (with_reducible repeat (first | refine blk_drewN ?_ _ | refine blk_drew ?_ | refine blk_alloc ?_ _)); exact BK220.out⟩, ⟨by repeat (first | (with_reducible first | exact HB.out | apply below_alloc | apply pw_below_drewN | apply below_drew1 | refine below_set ?_ GE220.out) | exact HB.out)⟩⟩
        · rw [if_neg c16] at H
          have c16b0 : (!(a0_1.toList == ([] : List UInt8)) || (!(a0_2.toList == ([] : List UInt8)) || (!(a0_3 == 0) || (!(a0_4 == 0))))) = false := by simpa using c16
          have c16e : eqv106 a0_0 a0_0 a0_1.toList ([] : List UInt8) a0_2.toList ([] : List UInt8) a0_3 0 a0_4 0 = true := by unfold eqv106; rw [beq_self_eq_true, Bool.true_and]; revert c16b0; cases (a0_1.toList == ([] : List UInt8)) <;> cases (a0_2.toList == ([] : List UInt8)) <;> cases (a0_3 == 0) <;> cases (a0_4 == 0) <;> simp
          clear c16b0
          clear c16
          by_cases c18 : (l0_5.length : Int) < 1
          · rw [if_pos c18] at H
            have c18b0 : decide ((l0_5.length : Int) < 1) = true := decide_eq_true c18
            have c18b1 : decide (l0_5.length < 1) = true := decide_eq_true (by omega)
            clear c18
            have H' := Aside0.mk H
            clear H
            have hcz19_0 : w12.cell? ⟨gb220, 0, none⟩ = some (.int .i64 a0_0) := (blk_cell BK220.out 0).trans rfl
            have hcz19_1 : w12.cell? ⟨gb220, 1, none⟩ = some (.string a0_1) := (blk_cell BK220.out 1).trans rfl
            have hcz19_2 : w12.cell? ⟨gb220, 2, none⟩ = some (.string a0_2) := (blk_cell BK220.out 2).trans rfl
            have hcz19_3 : w12.cell? ⟨gb220, 3, none⟩ = some (.int .i64 a0_3) := (blk_cell BK220.out 3).trans rfl
            have hcz19_4 : w12.cell? ⟨gb220, 4, none⟩ = some (.int .i64 a0_4) := (blk_cell BK220.out 4).trans rfl
            have hcz19_5 : w12.cell? ⟨gb220, 5, none⟩ = some (.slice A0_5 l0_5.length c0_5) := (blk_cell BK220.out 5).trans rfl
            have hfz19_0 := blk_frozen BK220.out 0
            have hfz19_1 := blk_frozen BK220.out 1
            have hfz19_2 := blk_frozen BK220.out 2
            have hfz19_3 := blk_frozen BK220.out 3
            have hfz19_4 := blk_frozen BK220.out 4
            have hfz19_5 := blk_frozen BK220.out 5
            go_wp2
            go_meet
            case rel => exact ⟨_, (true), (by first | rfl | (simp; done) | (simp [*]; done)), H', ⟨by first | omega | exact Nat.le_refl _⟩, ⟨by (with_reducible repeat (first | refine blk_drewN ?_ _ | refine blk_drew ?_ | refine blk_alloc ?_ _)); exact BK220.out⟩, ⟨by repeat (first | (with_reducible first | exact HB.out | apply below_alloc | apply pw_below_drewN | apply below_drew1 | refine below_set ?_ GE220.out) | exact HB.out)⟩⟩
          · rw [if_neg c18] at H
            have c18b0 : decide ((l0_5.length : Int) < 1) = false := decide_eq_false c18
            have c18b1 : decide (l0_5.length < 1) = false := decide_eq_false (by omega)
            clear c18
            have H' := Aside0.mk H
            clear H
            have hcz20_0 : w12.cell? ⟨gb220, 0, none⟩ = some (.int .i64 a0_0) := (blk_cell BK220.out 0).trans rfl
            have hcz20_1 : w12.cell? ⟨gb220, 1, none⟩ = some (.string a0_1) := (blk_cell BK220.out 1).trans rfl
            have hcz20_2 : w12.cell? ⟨gb220, 2, none⟩ = some (.string a0_2) := (blk_cell BK220.out 2).trans rfl
            have hcz20_3 : w12.cell? ⟨gb220, 3, none⟩ = some (.int .i64 a0_3) := (blk_cell BK220.out 3).trans rfl
            have hcz20_4 : w12.cell? ⟨gb220, 4, none⟩ = some (.int .i64 a0_4) := (blk_cell BK220.out 4).trans rfl
            have hcz20_5 : w12.cell? ⟨gb220, 5, none⟩ = some (.slice A0_5 l0_5.length c0_5) := (blk_cell BK220.out 5).trans rfl
            have hfz20_0 := blk_frozen BK220.out 0
            have hfz20_1 := blk_frozen BK220.out 1
            have hfz20_2 := blk_frozen BK220.out 2
            have hfz20_3 := blk_frozen BK220.out 3
            have hfz20_4 := blk_frozen BK220.out 4
            have hfz20_5 := blk_frozen BK220.out 5
            go_wp2
            go_meet
            case rel => exact ⟨_, (decide ((l0_5.length : Int) > 20)), (by first | rfl | (simp; done) | (simp [*]; done)), H', ⟨by first | omega | exact Nat.le_refl _⟩, ⟨by (with_reducible repeat (first | refine blk_drewN ?_ _ | refine blk_drew ?_ | refine blk_alloc ?_ _)); exact BK220.out⟩, ⟨by repeat (first | (with_reducible first | exact HB.out | apply below_alloc | apply pw_below_drewN | apply below_drew1 | refine below_set ?_ GE220.out) | exact HB.out)⟩⟩
    case rest =>
      clear HC11
      try clear c1
      try clear p2
      try clear c3
      try clear c3b0
      try clear c4
      try clear c4b0
      try clear c4b1
      try clear c4b2
      try clear c9
      try clear c14
      try clear c14b0
      try clear c16
      try clear c16b0
      try clear c18
      try clear c18b0
      try clear c18b1
      try clear hcz10_0
      try clear hcz10_1
      try clear hcz10_2
      try clear hcz10_3
      try clear hcz10_4
      try clear hcz10_5
      try clear hcz13_0
      try clear hcz13_1
      try clear hcz13_2
      try clear hcz13_3
      try clear hcz13_4
      try clear hcz13_5
      try clear hcz15_0
      try clear hcz15_1
      try clear hcz15_2
      try clear hcz15_3
      try clear hcz15_4
      try clear hcz15_5
      try clear hcz17_0
      try clear hcz17_1
      try clear hcz17_2
      try clear hcz17_3
      try clear hcz17_4
      try clear hcz17_5
      try clear hcz19_0
      try clear hcz19_1
      try clear hcz19_2
      try clear hcz19_3
      try clear hcz19_4
      try clear hcz19_5
      try clear hcz20_0
      try clear hcz20_1
      try clear hcz20_2
      try clear hcz20_3
      try clear hcz20_4
      try clear hcz20_5
      try clear hcz7_0
      try clear hcz7_1
      try clear hcz7_2
      try clear hcz7_3
      try clear hcz7_4
      try clear hcz7_5
      try clear hfz10_0
      try clear hfz10_1
      try clear hfz10_2
      try clear hfz10_3
      try clear hfz10_4
      try clear hfz10_5
      try clear hfz13_0
      try clear hfz13_1
      try clear hfz13_2
      try clear hfz13_3
      try clear hfz13_4
      try clear hfz13_5
      try clear hfz15_0
      try clear hfz15_1
      try clear hfz15_2
      try clear hfz15_3
      try clear hfz15_4
      try clear hfz15_5
      try clear hfz17_0
      try clear hfz17_1
      try clear hfz17_2
      try clear hfz17_3
      try clear hfz17_4
      try clear hfz17_5
      try clear hfz19_0
      try clear hfz19_1
      try clear hfz19_2
      try clear hfz19_3
      try clear hfz19_4
      try clear hfz19_5
      try clear hfz20_0
      try clear hfz20_1
      try clear hfz20_2
      try clear hfz20_3
      try clear hfz20_4
      try clear hfz20_5
      try clear hfz7_0
      try clear hfz7_1
      try clear hfz7_2
      try clear hfz7_3
      try clear hfz7_4
      try clear hfz7_5
      obtain ⟨kq, x47_10, rfl, HA, HJ10, BK220, HB⟩ := hcut
      cases kq with
      | zero => exact absurd HA.out (by simp [impl_simpleOk.j0])
      | succ kj10 =>
        have H := HA.out
        clear HA
        simp only [impl_simpleOk.j0] at H
        by_cases c21 : x47_10 = true
        · subst c21
          have H1 : (some false) = some r := by rw [if_pos rfl] at H; exact H
          clear H
          have H := H1
          clear H1
          obtain rfl := Option.some.inj H
          go_wp2
          go_ret
          exact ⟨by first | rfl | (simp [errW_none, errW_some] <;> rfl) | (simp [*, errW_none, errW_some] <;> rfl), by repeat (first | (with_reducible first | exact HB.out | apply below_alloc | apply pw_below_drewN | apply below_drew1 | refine below_set ?_ GE220.out) | exact HB.out)⟩
        · replace c21 := Bool.eq_false_iff.mpr c21
          subst c21
          have H1 : (impl_simpleOk.l0 kj10 l0_5 (l0_5.length : Int) 0) = some r := by rw [if_neg (show ¬ (false = true) by decide)] at H; exact H
          clear H
          have H := H1
          clear H1
          have H' := Aside0.mk H
          clear H
          have hcz22_0 : wc.cell? ⟨gb220, 0, none⟩ = some (.int .i64 a0_0) := (blk_cell BK220.out 0).trans rfl
          have hcz22_1 : wc.cell? ⟨gb220, 1, none⟩ = some (.string a0_1) := (blk_cell BK220.out 1).trans rfl
          have hcz22_2 : wc.cell? ⟨gb220, 2, none⟩ = some (.string a0_2) := (blk_cell BK220.out 2).trans rfl
          have hcz22_3 : wc.cell? ⟨gb220, 3, none⟩ = some (.int .i64 a0_3) := (blk_cell BK220.out 3).trans rfl
          have hcz22_4 : wc.cell? ⟨gb220, 4, none⟩ = some (.int .i64 a0_4) := (blk_cell BK220.out 4).trans rfl
          have hcz22_5 : wc.cell? ⟨gb220, 5, none⟩ = some (.slice A0_5 l0_5.length c0_5) := (blk_cell BK220.out 5).trans rfl
          have hfz22_0 := blk_frozen BK220.out 0
          have hfz22_1 := blk_frozen BK220.out 1
          have hfz22_2 := blk_frozen BK220.out 2
          have hfz22_3 := blk_frozen BK220.out 3
          have hfz22_4 := blk_frozen BK220.out 4
          have hfz22_5 := blk_frozen BK220.out 5
          go_wp2
          go_loopg [51] kj10 (fun kq v51 w' => ∃ (x51_2 : Int), v51 = .int .i64 x51_2 ∧ Aside0 (impl_simpleOk.l0 kq l0_5 (l0_5.length : Int) x51_2 = some r) ∧ Aside0 (kq ≤ kj10) ∧ Aside0 (w'.heap[gb220]? = some (.cells #[.int .i64 a0_0, .string a0_1, .string a0_2, .int .i64 a0_3, .int .i64 a0_4, (.slice A0_5 l0_5.length c0_5)] 109 (0, 0))) ∧ Aside0 (Below w.heap.size w w'))
          case atStart => exact ⟨(0), (by first | rfl | (simp; done) | (simp [*]; done)), H', ⟨Nat.le_refl _⟩, ⟨by (with_reducible repeat (first | refine blk_drewN ?_ _ | refine blk_drew ?_ | refine blk_alloc ?_ _)); exact BK220.out⟩, ⟨by repeat (first | (with_reducible first | exact HB.out | apply below_alloc | apply pw_below_drewN | apply below_drew1 | refine below_set ?_ GE220.out) | exact HB.out)⟩⟩
          case round =>
            clear H'
            try clear c1
            try clear c2
            try clear p2
            try clear c3
            try clear c3b0
            try clear c4
            try clear c4b0
            try clear c4b1
            try clear c4b2
            try clear c9
            try clear c14
            try clear c14b0
            try clear c16
            try clear c16b0
            try clear c18
            try clear c18b0
            try clear c18b1
            try clear c21
            try clear hcz10_0
            try clear hcz10_1
            try clear hcz10_2
            try clear hcz10_3
            try clear hcz10_4
            try clear hcz10_5
            try clear hcz13_0
            try clear hcz13_1
            try clear hcz13_2
            try clear hcz13_3
            try clear hcz13_4
            try clear hcz13_5
            try clear hcz15_0
            try clear hcz15_1
            try clear hcz15_2
            try clear hcz15_3
            try clear hcz15_4
            try clear hcz15_5
            try clear hcz17_0
            try clear hcz17_1
            try clear hcz17_2
            try clear hcz17_3
            try clear hcz17_4
            try clear hcz17_5
            try clear hcz19_0
            try clear hcz19_1
            try clear hcz19_2
            try clear hcz19_3
            try clear hcz19_4
            try clear hcz19_5
            try clear hcz20_0
            try clear hcz20_1
            try clear hcz20_2
            try clear hcz20_3
            try clear hcz20_4
            try clear hcz20_5
            try clear hcz22_0
            try clear hcz22_1
            try clear hcz22_2
            try clear hcz22_3
            try clear hcz22_4
            try clear hcz22_5
            try clear hcz7_0
            try clear hcz7_1
            try clear hcz7_2
            try clear hcz7_3
            try clear hcz7_4
            try clear hcz7_5
            try clear hfz10_0
            try clear hfz10_1
            try clear hfz10_2
            try clear hfz10_3
            try clear hfz10_4
            try clear hfz10_5
            try clear hfz13_0
            try clear hfz13_1
            try clear hfz13_2
            try clear hfz13_3
            try clear hfz13_4
            try clear hfz13_5
            try clear hfz15_0
            try clear hfz15_1
            try clear hfz15_2
            try clear hfz15_3
            try clear hfz15_4
            try clear hfz15_5
            try clear hfz17_0
            try clear hfz17_1
            try clear hfz17_2
            try clear hfz17_3
            try clear hfz17_4
            try clear hfz17_5
            try clear hfz19_0
            try clear hfz19_1
            try clear hfz19_2
            try clear hfz19_3
            try clear hfz19_4
            try clear hfz19_5
            try clear hfz20_0
            try clear hfz20_1
            try clear hfz20_2
            try clear hfz20_3
            try clear hfz20_4
            try clear hfz20_5
            try clear hfz22_0
            try clear hfz22_1
            try clear hfz22_2
            try clear hfz22_3
            try clear hfz22_4
            try clear hfz22_5
            try clear hfz7_0
            try clear hfz7_1
            try clear hfz7_2
            try clear hfz7_3
            try clear hfz7_4
            try clear hfz7_5
            try clear p2
            obtain ⟨x51_2, rfl, HA, HK2, BK220, HB⟩ := hrel
            cases gk with
            | zero => exact absurd HA.out (by simp [impl_simpleOk.l0])
            | succ k2 =>
              have H := HA.out
              clear HA
              simp only [impl_simpleOk.l0] at H
              by_cases c23 : x51_2 < (l0_5.length : Int)
              · rw [if_pos c23] at H
                have c23b0 : decide (x51_2 < (l0_5.length : Int)) = true := decide_eq_true c23
                clear c23
                by_cases c24 : 0 ≤ x51_2
                · rw [if_pos c24] at H
                  have c24b0 : decide (0 ≤ x51_2) = true := decide_eq_true c24
                  clear c24
                  by_cases c25 : x51_2 < (l0_5.length : Int)
                  · rw [if_pos c25] at H
                    have c25b0 : decide (x51_2 < (l0_5.length : Int)) = true := decide_eq_true c25
                    clear c25
                    have HC26 := Aside0.mk H
                    clear H
                    have p222 : 0 ≤ (x51_2 : Int) := of_decide_eq_true (by first | (with_reducible assumption) | assumption)
                    have q222 : x51_2 < (l0_5.length : Int) := of_decide_eq_true (by first | (with_reducible assumption) | assumption)
                    obtain ⟨ad222, A222_0, c222_0, e222, hx222_0, hl222_0, hi222_0⟩ := at_T112 HR0_5.out x51_2 p222 q222
                    cases e222
                    replace hx222_0 := (HB.out.cell (World.block_lt_of_cell? w _ hx222_0)).trans hx222_0
                    have HR222_0 := Aside0.mk hi222_0
                    have HC222_0 := Aside0.mk hl222_0
                    clear hi222_0 hl222_0
                    replace p222 := eq_true p222
                    replace q222 := eq_true q222
                    go_upto_region 8 with (first | ((with_reducible refine gate_dst (N := 6) rfl ?_); (try (refine gate_guard (by rfl) ?_; dsimp only)); refine box_event ?hg (N := 6) ?hd (cs := #[.slice none 0 0]) (t := 112) ?hr ?_; (case hd => rfl); (case hg => rfl); (case hr => first | (go_simp; done) | (go_simp; rfl)); intro gb223 hg w27 hbox hb; have n0_ := Aside0.mk (blk_below (g := gb220) (o := .cells #[.int .i64 a0_0, .string a0_1, .string a0_2, .int .i64 a0_3, .int .i64 a0_4, .slice (some ad222) l0_5.length c0_5] 109 (0, 0)) (by (with_reducible repeat (first | refine blk_drewN ?_ _ | refine blk_drew ?_ | refine blk_alloc ?_ _)); exact BK220.out) hb); have n1_ := Aside0.mk (below_step (by repeat (first | (with_reducible first | exact HB.out | apply below_alloc | apply pw_below_drewN | apply below_drew1 | refine below_set ?_ GE220.out) | exact HB.out)) hb); have n2_ := Aside0.mk (hbox); have n3_ := Aside0.mk ((by rw [hg]; exact (below_size (by repeat (first | (with_reducible first | exact HB.out | apply below_alloc | apply pw_below_drewN | apply below_drew1 | refine below_set ?_ GE220.out) | exact HB.out))) : w.heap.size ≤ gb223)); have n4_ := Aside0.mk ((by rw [hg]; exact (below_size (by repeat (first | (with_reducible first | exact HB.out | apply below_alloc | apply pw_below_drewN | apply below_drew1 | refine below_set ?_ GE220.out) | exact HB.out))) : w.heap.size ≤ gb223)); have n5_ := Aside0.mk ((by rw [hg]; exact Nat.ne_of_lt (blk_lt (g := gb220) (o := .cells #[.int .i64 a0_0, .string a0_1, .string a0_2, .int .i64 a0_3, .int .i64 a0_4, .slice (some ad222) l0_5.length c0_5] 109 (0, 0)) (by (with_reducible repeat (first | refine blk_drewN ?_ _ | refine blk_drew ?_ | refine blk_alloc ?_ _)); exact BK220.out)) : gb220 ≠ gb223)); have n6_ := Aside0.mk ((by rw [hg]; exact Nat.ne_of_gt (blk_lt (g := gb220) (o := .cells #[.int .i64 a0_0, .string a0_1, .string a0_2, .int .i64 a0_3, .int .i64 a0_4, .slice (some ad222) l0_5.length c0_5] 109 (0, 0)) (by (with_reducible repeat (first | refine blk_drewN ?_ _ | refine blk_drew ?_ | refine blk_alloc ?_ _)); exact BK220.out)) : gb223 ≠ gb220)); clear BK220; clear HB; have BK220 := n0_; have HB := n1_; have BK223 := n2_; have GW223 := n3_; have GE223 := n4_; have NB220_223 := n5_; have NB223_220 := n6_; clear n0_ n1_ n2_ n3_ n4_ n5_ n6_; clear hb hbox hg; have hnb28 := NB223_220.out; have hnc28 := NB220_223.out; have hcz29_0 : w27.cell? ⟨gb223, 0, none⟩ = some (.slice none 0 0) := (blk_cell BK223.out 0).trans rfl; have hfz29_0 := blk_frozen BK223.out 0))
                    (try simp only [Act.put, List.setIfInBounds_toArray, List.set_cons_zero, List.set_cons_succ])
                    go_cut [64] (fun v64 wc => ∃ (kq : Nat) (x64_25 : Bool), v64 = .bool x64_25 ∧ Aside0 (impl_simpleOk.j2 kq l0_5 (l0_5.length : Int) x51_2 x64_25 ((rd_T112 l0_5 x51_2).f0) = some r) ∧ Aside0 (kq ≤ k2) ∧ Aside0 (wc.heap[gb220]? = some (.cells #[.int .i64 a0_0, .string a0_1, .string a0_2, .int .i64 a0_3, .int .i64 a0_4, (.slice (some ad222) l0_5.length c0_5)] 109 (0, 0))) ∧ Aside0 (wc.heap[gb223]? = some (.cells #[(.slice A222_0 ((rd_T112 l0_5 x51_2).f0).length c222_0)] 112 (0, 0))) ∧ Aside0 (Below w.heap.size w wc))
                    case first =>
                      have H := HC26.out
                      clear HC26
                      by_cases c30 : (((rd_T112 l0_5 x51_2).f0).length : Int) < 1
                      · rw [if_pos c30] at H
                        have c30b0 : decide ((((rd_T112 l0_5 x51_2).f0).length : Int) < 1) = true := decide_eq_true c30
                        have c30b1 : decide (((rd_T112 l0_5 x51_2).f0).length < 1) = true := decide_eq_true (by omega)
                        clear c30
                        (first | rw [c30b0] | (simp only [i64_w, i32_w]; rw [c30b0]) | rw [c30b1] | skip)
                        have H' := Aside0.mk H
                        clear H
                        have hnb31 := NB223_220.out
                        have hnc31 := NB220_223.out
                        have hcz32_0 : w27.cell? ⟨gb223, 0, none⟩ = some (.slice none 0 0) := (blk_cell BK223.out 0).trans rfl
                        have hfz32_0 := blk_frozen BK223.out 0
                        go_wp2
                        go_meet
                        case rel => exact ⟨_, (true), (by first | rfl | (simp; done) | (simp [*]; done)), H', ⟨by have := HJ10.out; have := HK2.out; first | omega | exact Nat.le_refl _⟩, ⟨by (with_reducible repeat (first | refine blk_drewN ?_ _ | refine blk_drew ?_ | refine blk_alloc ?_ _)); refine blk_far ?_ NB220_223.out _; (with_reducible repeat (first | refine blk_drewN ?_ _ | refine blk_drew ?_ | refine blk_alloc ?_ _)); exact BK220.out⟩, ⟨by (with_reducible repeat (first | refine blk_drewN ?_ _ | refine blk_drew ?_ | refine blk_alloc ?_ _)); refine blk_put (cs := #[.slice none 0 0]) ?_ 0 _ rfl; (with_reducible repeat (first | refine blk_drewN ?_ _ | refine blk_drew ?_ | refine blk_alloc ?_ _)); exact BK223.out⟩, ⟨by repeat (first | (with_reducible first | exact HB.out | apply below_alloc | apply pw_below_drewN | apply below_drew1 | refine below_set ?_ GE220.out | refine below_set ?_ GE223.out) | exact HB.out)⟩⟩
                      · rw [if_neg c30] at H
                        have c30b0 : decide ((((rd_T112 l0_5 x51_2).f0).length : Int) < 1) = false := decide_eq_false c30
                        have c30b1 : decide (((rd_T112 l0_5 x51_2).f0).length < 1) = false := decide_eq_false (by omega)
                        clear c30
                        (first | rw [c30b0] | (simp only [i64_w, i32_w]; rw [c30b0]) | rw [c30b1] | skip)
                        have H' := Aside0.mk H
                        clear H
                        have hnb33 := NB223_220.out
                        have hnc33 := NB220_223.out
                        have hcz34_0 : w27.cell? ⟨gb223, 0, none⟩ = some (.slice none 0 0) := (blk_cell BK223.out 0).trans rfl
                        have hfz34_0 := blk_frozen BK223.out 0
                        go_wp2
                        go_meet
                        case rel => exact ⟨_, (decide ((((rd_T112 l0_5 x51_2).f0).length : Int) > 20)), (by first | rfl | (simp; done) | (simp [*]; done)), H', ⟨by have := HJ10.out; have := HK2.out; first | omega | exact Nat.le_refl _⟩, ⟨by (with_reducible repeat (first | refine blk_drewN ?_ _ | refine blk_drew ?_ | refine blk_alloc ?_ _)); refine blk_far ?_ NB220_223.out _; (with_reducible repeat (first | refine blk_drewN ?_ _ | refine blk_drew ?_ | refine blk_alloc ?_ _)); exact BK220.out⟩, ⟨by (with_reducible repeat (first | refine blk_drewN ?_ _ | refine blk_drew ?_ | refine blk_alloc ?_ _)); refine blk_put (cs := #[.slice none 0 0]) ?_ 0 _ rfl; (with_reducible repeat (first | refine blk_drewN ?_ _ | refine blk_drew ?_ | refine blk_alloc ?_ _)); exact BK223.out⟩, ⟨by repeat (first | (with_reducible first | exact HB.out | apply below_alloc | apply pw_below_drewN | apply below_drew1 | refine below_set ?_ GE220.out | refine below_set ?_ GE223.out) | exact HB.out)⟩⟩
                    case rest =>
                      clear HC26
                      try clear c1
                      try clear c2
                      try clear p2
                      try clear q2
                      try clear hx2
                      try clear c3
                      try clear c3b0
                      try clear c4
                      try clear c4b0
                      try clear c4b1
                      try clear c4b2
                      try clear c9
                      try clear c14
                      try clear c14b0
                      try clear c16
                      try clear c16b0
                      try clear c18
                      try clear c18b0
                      try clear c18b1
                      try clear c21
                      try clear c22
                      try clear p22
                      try clear q22
                      try clear hx22
                      try clear c23
                      try clear c23b0
                      try clear c24
                      try clear c24b0
                      try clear c25
                      try clear c25b0
                      try clear c28
                      try clear c30
                      try clear c30b0
                      try clear c30b1
                      try clear c31
                      try clear c33
                      try clear hcz10_0
                      try clear hcz10_1
                      try clear hcz10_2
                      try clear hcz10_3
                      try clear hcz10_4
                      try clear hcz10_5
                      try clear hcz13_0
                      try clear hcz13_1
                      try clear hcz13_2
                      try clear hcz13_3
                      try clear hcz13_4
                      try clear hcz13_5
                      try clear hcz15_0
                      try clear hcz15_1
                      try clear hcz15_2
                      try clear hcz15_3
                      try clear hcz15_4
                      try clear hcz15_5
                      try clear hcz17_0
                      try clear hcz17_1
                      try clear hcz17_2
                      try clear hcz17_3
                      try clear hcz17_4
                      try clear hcz17_5
                      try clear hcz19_0
                      try clear hcz19_1
                      try clear hcz19_2
                      try clear hcz19_3
                      try clear hcz19_4
                      try clear hcz19_5
                      try clear hcz20_0
                      try clear hcz20_1
                      try clear hcz20_2
                      try clear hcz20_3
                      try clear hcz20_4
                      try clear hcz20_5
                      try clear hcz22_0
                      try clear hcz22_1
                      try clear hcz22_2
                      try clear hcz22_3
                      try clear hcz22_4
                      try clear hcz22_5
                      try clear hcz29_0
                      try clear hcz32_0
                      try clear hcz34_0
                      try clear hcz7_0
                      try clear hcz7_1
                      try clear hcz7_2
                      try clear hcz7_3
                      try clear hcz7_4
                      try clear hcz7_5
                      try clear hfz10_0
                      try clear hfz10_1
                      try clear hfz10_2
                      try clear hfz10_3
                      try clear hfz10_4
                      try clear hfz10_5
                      try clear hfz13_0
                      try clear hfz13_1
                      try clear hfz13_2
                      try clear hfz13_3
                      try clear hfz13_4
                      try clear hfz13_5
                      try clear hfz15_0
                      try clear hfz15_1
                      try clear hfz15_2
                      try clear hfz15_3
                      try clear hfz15_4
                      try clear hfz15_5
                      try clear hfz17_0
                      try clear hfz17_1
                      try clear hfz17_2
                      try clear hfz17_3
                      try clear hfz17_4
                      try clear hfz17_5
                      try clear hfz19_0
                      try clear hfz19_1
                      try clear hfz19_2
                      try clear hfz19_3
                      try clear hfz19_4
                      try clear hfz19_5
                      try clear hfz20_0
                      try clear hfz20_1
                      try clear hfz20_2
                      try clear hfz20_3
                      try clear hfz20_4
                      try clear hfz20_5
                      try clear hfz22_0
                      try clear hfz22_1
                      try clear hfz22_2
                      try clear hfz22_3
                      try clear hfz22_4
                      try clear hfz22_5
                      try clear hfz29_0
                      try clear hfz32_0
                      try clear hfz34_0
                      try clear hfz7_0
                      try clear hfz7_1
                      try clear hfz7_2
                      try clear hfz7_3
                      try clear hfz7_4
                      try clear hfz7_5
                      try clear hx222_0
                      try clear p2
                      try clear p222
                      try clear q222
                      obtain ⟨kq, x64_25, rfl, HA, HJ25, BK220, BK223, HB⟩ := hcut
                      cases kq with
                      | zero => exact absurd HA.out (by simp [impl_simpleOk.j2])
                      | succ kj25 =>
                        have H := HA.out
                        clear HA
                        simp only [impl_simpleOk.j2] at H
                        by_cases c35 : x64_25 = true
                        · subst c35
                          have H1 : (some false) = some r := by rw [if_pos rfl] at H; exact H
                          clear H
                          have H := H1
                          clear H1
                          obtain rfl := Option.some.inj H
                          go_wp2
                          go_ret
                          exact ⟨by first | rfl | (simp [errW_none, errW_some] <;> rfl) | (simp [*, errW_none, errW_some] <;> rfl), by repeat (first | (with_reducible first | exact HB.out | apply below_alloc | apply pw_below_drewN | apply below_drew1 | refine below_set ?_ GE220.out | refine below_set ?_ GE223.out) | exact HB.out)⟩
                        · replace c35 := Bool.eq_false_iff.mpr c35
                          subst c35
                          have H1 : (impl_simpleOk.l1 kj25 l0_5 (l0_5.length : Int) x51_2 ((rd_T112 l0_5 x51_2).f0) (((rd_T112 l0_5 x51_2).f0).length : Int) 0) = some r := by rw [if_neg (show ¬ (false = true) by decide)] at H; exact H
                          clear H
                          have H := H1
                          clear H1
                          have H' := Aside0.mk H
                          clear H
                          have hnb36 := NB223_220.out
                          have hnc36 := NB220_223.out
                          have hcz37_0 : wc.cell? ⟨gb223, 0, none⟩ = some (.slice A222_0 ((rd_T112 l0_5 x51_2).f0).length c222_0) := (blk_cell BK223.out 0).trans rfl
                          have hfz37_0 := blk_frozen BK223.out 0
                          go_wp2
                          go_loopg [68] kj25 (fun kq v68 w' => ∃ (x68_4 : Int), v68 = .int .i64 x68_4 ∧ Aside0 (impl_simpleOk.l1 kq l0_5 (l0_5.length : Int) x51_2 ((rd_T112 l0_5 x51_2).f0) (((rd_T112 l0_5 x51_2).f0).length : Int) x68_4 = some r) ∧ Aside0 (kq ≤ kj25) ∧ Aside0 (w'.heap[gb220]? = some (.cells #[.int .i64 a0_0, .string a0_1, .string a0_2, .int .i64 a0_3, .int .i64 a0_4, (.slice (some ad222) l0_5.length c0_5)] 109 (0, 0))) ∧ Aside0 (w'.heap[gb223]? = some (.cells #[(.slice A222_0 ((rd_T112 l0_5 x51_2).f0).length c222_0)] 112 (0, 0))) ∧ Aside0 (Below w.heap.size w w'))
                          case atStart => exact ⟨(0), (by first | rfl | (simp; done) | (simp [*]; done)), H', ⟨Nat.le_refl _⟩, ⟨by (with_reducible repeat (first | refine blk_drewN ?_ _ | refine blk_drew ?_ | refine blk_alloc ?_ _)); exact BK220.out⟩, ⟨by (with_reducible repeat (first | refine blk_drewN ?_ _ | refine blk_drew ?_ | refine blk_alloc ?_ _)); exact BK223.out⟩, ⟨by repeat (first | (with_reducible first | exact HB.out | apply below_alloc | apply pw_below_drewN | apply below_drew1 | refine below_set ?_ GE220.out | refine below_set ?_ GE223.out) | exact HB.out)⟩⟩
                          case round =>
                            clear H'
                            try clear c1
                            try clear c2
                            try clear p2
                            try clear q2
                            try clear hx2
                            try clear c3
                            try clear c3b0
                            try clear c4
                            try clear c4b0
                            try clear c4b1
                            try clear c4b2
                            try clear c9
                            try clear c14
                            try clear c14b0
                            try clear c16
                            try clear c16b0
                            try clear c18
                            try clear c18b0
                            try clear c18b1
                            try clear c21
                            try clear c22
                            try clear p22
                            try clear q22
                            try clear hx22
                            try clear c23
                            try clear c23b0
                            try clear c24
                            try clear c24b0
                            try clear c25
                            try clear c25b0
                            try clear c28
                            try clear c30
                            try clear c30b0
                            try clear c30b1
                            try clear c31
                            try clear c33
                            try clear c35
                            try clear c36
                            try clear hcz10_0
                            try clear hcz10_1
                            try clear hcz10_2
                            try clear hcz10_3
                            try clear hcz10_4
                            try clear hcz10_5
                            try clear hcz13_0
                            try clear hcz13_1
                            try clear hcz13_2
                            try clear hcz13_3
                            try clear hcz13_4
                            try clear hcz13_5
                            try clear hcz15_0
                            try clear hcz15_1
                            try clear hcz15_2
                            try clear hcz15_3
                            try clear hcz15_4
                            try clear hcz15_5
                            try clear hcz17_0
                            try clear hcz17_1
                            try clear hcz17_2
                            try clear hcz17_3
                            try clear hcz17_4
                            try clear hcz17_5
                            try clear hcz19_0
                            try clear hcz19_1
                            try clear hcz19_2
                            try clear hcz19_3
                            try clear hcz19_4
                            try clear hcz19_5
                            try clear hcz20_0
                            try clear hcz20_1
                            try clear hcz20_2
                            try clear hcz20_3
                            try clear hcz20_4
                            try clear hcz20_5
                            try clear hcz22_0
                            try clear hcz22_1
                            try clear hcz22_2
                            try clear hcz22_3
                            try clear hcz22_4
                            try clear hcz22_5
                            try clear hcz29_0
                            try clear hcz32_0
                            try clear hcz34_0
                            try clear hcz37_0
                            try clear hcz7_0
                            try clear hcz7_1
                            try clear hcz7_2
                            try clear hcz7_3
                            try clear hcz7_4
                            try clear hcz7_5
                            try clear hfz10_0
                            try clear hfz10_1
                            try clear hfz10_2
                            try clear hfz10_3
                            try clear hfz10_4
                            try clear hfz10_5
                            try clear hfz13_0
                            try clear hfz13_1
                            try clear hfz13_2
                            try clear hfz13_3
                            try clear hfz13_4
                            try clear hfz13_5
                            try clear hfz15_0
                            try clear hfz15_1
                            try clear hfz15_2
                            try clear hfz15_3
                            try clear hfz15_4
                            try clear hfz15_5
                            try clear hfz17_0
                            try clear hfz17_1
                            try clear hfz17_2
                            try clear hfz17_3
                            try clear hfz17_4
                            try clear hfz17_5
                            try clear hfz19_0
                            try clear hfz19_1
                            try clear hfz19_2
                            try clear hfz19_3
                            try clear hfz19_4
                            try clear hfz19_5
                            try clear hfz20_0
                            try clear hfz20_1
                            try clear hfz20_2
                            try clear hfz20_3
                            try clear hfz20_4
                            try clear hfz20_5
                            try clear hfz22_0
                            try clear hfz22_1
                            try clear hfz22_2
                            try clear hfz22_3
                            try clear hfz22_4
                            try clear hfz22_5
                            try clear hfz29_0
                            try clear hfz32_0
                            try clear hfz34_0
                            try clear hfz37_0
                            try clear hfz7_0
                            try clear hfz7_1
                            try clear hfz7_2
                            try clear hfz7_3
                            try clear hfz7_4
                            try clear hfz7_5
                            try clear hx222_0
                            try clear p2
                            try clear p22
                            try clear p222
                            try clear q2
                            try clear q22
                            try clear q222
                            obtain ⟨x68_4, rfl, HA, HK4, BK220, BK223, HB⟩ := hrel
                            cases gk with
                            | zero => exact absurd HA.out (by simp [impl_simpleOk.l1])
                            | succ k4 =>
                              have H := HA.out
                              clear HA
                              simp only [impl_simpleOk.l1] at H
                              by_cases c38 : x68_4 < (((rd_T112 l0_5 x51_2).f0).length : Int)
                              · rw [if_pos c38] at H
                                have c38b0 : decide (x68_4 < (((rd_T112 l0_5 x51_2).f0).length : Int)) = true := decide_eq_true c38
                                clear c38
                                by_cases c39 : 0 ≤ x68_4
                                · rw [if_pos c39] at H
                                  have c39b0 : decide (0 ≤ x68_4) = true := decide_eq_true c39
                                  clear c39
                                  by_cases c40 : x68_4 < (((rd_T112 l0_5 x51_2).f0).length : Int)
                                  · rw [if_pos c40] at H
                                    have c40b0 : decide (x68_4 < (((rd_T112 l0_5 x51_2).f0).length : Int)) = true := decide_eq_true c40
                                    clear c40
                                    replace H := Option.bind_eq_some_iff.mp H
                                    obtain ⟨t226, A410, H⟩ := H
                                    replace H : (if t226 = true then (impl_simpleOk.l1 k4 l0_5 (l0_5.length : Int) x51_2 ((rd_T112 l0_5 x51_2).f0) (((rd_T112 l0_5 x51_2).f0).length : Int) (wrap64 (x68_4 + 1))) else (some false)) = some r := H
                                    have A41 := Aside0.mk A410
                                    clear A410
                                    by_cases c42 : t226 = true
                                    · subst c42
                                      have H1 : (impl_simpleOk.l1 k4 l0_5 (l0_5.length : Int) x51_2 ((rd_T112 l0_5 x51_2).f0) (((rd_T112 l0_5 x51_2).f0).length : Int) (wrap64 (x68_4 + 1))) = some r := by rw [if_pos rfl] at H; exact H
                                      clear H
                                      have H := H1
                                      clear H1
                                      have H' := Aside0.mk H
                                      clear H
                                      have p224 : 0 ≤ (x68_4 : Int) := of_decide_eq_true (by first | (with_reducible assumption) | assumption)
                                      have q224 : x68_4 < (((rd_T112 l0_5 x51_2).f0).length : Int) := of_decide_eq_true (by first | (with_reducible assumption) | assumption)
                                      obtain ⟨ad224, e224, hx224_0, hx224_1, hx224_2, hx224_3, hx224_4⟩ := at_T106 HR222_0.out x68_4 p224 q224
                                      cases e224
                                      replace hx224_0 := (HB.out.cell (World.block_lt_of_cell? w _ hx224_0)).trans hx224_0
                                      replace hx224_1 := (HB.out.cell (World.block_lt_of_cell? w _ hx224_1)).trans hx224_1
                                      replace hx224_2 := (HB.out.cell (World.block_lt_of_cell? w _ hx224_2)).trans hx224_2
                                      replace hx224_3 := (HB.out.cell (World.block_lt_of_cell? w _ hx224_3)).trans hx224_3
                                      replace hx224_4 := (HB.out.cell (World.block_lt_of_cell? w _ hx224_4)).trans hx224_4
                                      replace p224 := eq_true p224
                                      replace q224 := eq_true q224
                                      go_wp2_with (first | ((with_reducible refine gate_dst (N := 8) rfl ?_); (try (refine gate_guard (by rfl) ?_; dsimp only)); refine box_event ?hg (N := 8) ?hd (cs := #[.int .i64 0, .string (⟨#[]⟩ : ByteArray), .string (⟨#[]⟩ : ByteArray), .int .i64 0, .int .i64 0]) (t := 106) ?hr ?_; (case hd => rfl); (case hg => rfl); (case hr => first | (go_simp; done) | (go_simp; rfl)); intro gb225 hg w43 hbox hb; have n0_ := Aside0.mk (blk_below (g := gb220) (o := .cells #[.int .i64 a0_0, .string a0_1, .string a0_2, .int .i64 a0_3, .int .i64 a0_4, .slice (some ad222) l0_5.length c0_5] 109 (0, 0)) (by (with_reducible repeat (first | refine blk_drewN ?_ _ | refine blk_drew ?_ | refine blk_alloc ?_ _)); exact BK220.out) hb); have n1_ := Aside0.mk (blk_below (g := gb223) (o := .cells #[.slice (some ad224) ((rd_T112 l0_5 x51_2).f0).length c222_0] 112 (0, 0)) (by (with_reducible repeat (first | refine blk_drewN ?_ _ | refine blk_drew ?_ | refine blk_alloc ?_ _)); exact BK223.out) hb); have n2_ := Aside0.mk (below_step (by repeat (first | (with_reducible first | exact HB.out | apply below_alloc | apply pw_below_drewN | apply below_drew1 | refine below_set ?_ GE220.out | refine below_set ?_ GE223.out) | exact HB.out)) hb); have n3_ := Aside0.mk (hbox); have n4_ := Aside0.mk ((by rw [hg]; exact (below_size (by repeat (first | (with_reducible first | exact HB.out | apply below_alloc | apply pw_below_drewN | apply below_drew1 | refine below_set ?_ GE220.out | refine below_set ?_ GE223.out) | exact HB.out))) : w.heap.size ≤ gb225)); have n5_ := Aside0.mk ((by rw [hg]; exact (below_size (by repeat (first | (with_reducible first | exact HB.out | apply below_alloc | apply pw_below_drewN | apply below_drew1 | refine below_set ?_ GE220.out | refine below_set ?_ GE223.out) | exact HB.out))) : w.heap.size ≤ gb225)); have n6_ := Aside0.mk ((by rw [hg]; exact Nat.ne_of_lt (blk_lt (g := gb220) (o := .cells #[.int .i64 a0_0, .string a0_1, .string a0_2, .int .i64 a0_3, .int .i64 a0_4, .slice (some ad222) l0_5.length c0_5] 109 (0, 0)) (by (with_reducible repeat (first | refine blk_drewN ?_ _ | refine blk_drew ?_ | refine blk_alloc ?_ _)); exact BK220.out)) : gb220 ≠ gb225)); have n7_ := Aside0.mk ((by rw [hg]; exact Nat.ne_of_gt (blk_lt (g := gb220) (o := .cells #[.int .i64 a0_0, .string a0_1, .string a0_2, .int .i64 a0_3, .int .i64 a0_4, .slice (some ad222) l0_5.length c0_5] 109 (0, 0)) (by (with_reducible repeat (first | refine blk_drewN ?_ _ | refine blk_drew ?_ | refine blk_alloc ?_ _)); exact BK220.out)) : gb225 ≠ gb220)); have n8_ := Aside0.mk ((by rw [hg]; exact Nat.ne_of_lt (blk_lt (g := gb223) (o := .cells #[.slice (some ad224) ((rd_T112 l0_5 x51_2).f0).length c222_0] 112 (0, 0)) (by (with_reducible repeat (first | refine blk_drewN ?_ _ | refine blk_drew ?_ | refine blk_alloc ?_ _)); exact BK223.out)) : gb223 ≠ gb225)); have n9_ := Aside0.mk ((by rw [hg]; exact Nat.ne_of_gt (blk_lt (g := gb223) (o := .cells #[.slice (some ad224) ((rd_T112 l0_5 x51_2).f0).length c222_0] 112 (0, 0)) (by (with_reducible repeat (first | refine blk_drewN ?_ _ | refine blk_drew ?_ | refine blk_alloc ?_ _)); exact BK223.out)) : gb225 ≠ gb223)); clear BK220; clear BK223; clear HB; have BK220 := n0_; have BK223 := n1_; have HB := n2_; have BK225 := n3_; have GW225 := n4_; have GE225 := n5_; have NB220_225 := n6_; have NB225_220 := n7_; have NB223_225 := n8_; have NB225_223 := n9_; clear n0_ n1_ n2_ n3_ n4_ n5_ n6_ n7_ n8_ n9_; clear hb hbox hg; have hnb44 := NB225_220.out; have hnc44 := NB220_225.out; have hnb45 := NB225_223.out; have hnc45 := NB223_225.out; have hcz46_0 : w43.cell? ⟨gb225, 0, none⟩ = some (.int .i64 0) := (blk_cell BK225.out 0).trans rfl; have hcz46_1 : w43.cell? ⟨gb225, 1, none⟩ = some (.string (⟨#[]⟩ : ByteArray)) := (blk_cell BK225.out 1).trans rfl; have hcz46_2 : w43.cell? ⟨gb225, 2, none⟩ = some (.string (⟨#[]⟩ : ByteArray)) := (blk_cell BK225.out 2).trans rfl; have hcz46_3 : w43.cell? ⟨gb225, 3, none⟩ = some (.int .i64 0) := (blk_cell BK225.out 3).trans rfl; have hcz46_4 : w43.cell? ⟨gb225, 4, none⟩ = some (.int .i64 0) := (blk_cell BK225.out 4).trans rfl; have hfz46_0 := blk_frozen BK225.out 0; have hfz46_1 := blk_frozen BK225.out 1; have hfz46_2 := blk_frozen BK225.out 2; have hfz46_3 := blk_frozen BK225.out 3; have hfz46_4 := blk_frozen BK225.out 4) | ((with_reducible refine gate_callee (f := 103) rfl ?_); refine goesL_ (some 76) rfl rfl Try.func103 (by kernel_rfl) rfl #[.agg #[.int .i64 ((rd_T106 ((rd_T112 l0_5 x51_2).f0) x68_4).f0), .string ((rd_T106 ((rd_T112 l0_5 x51_2).f0) x68_4).f1), .string ((rd_T106 ((rd_T112 l0_5 x51_2).f0) x68_4).f2), .int .i64 ((rd_T106 ((rd_T112 l0_5 x51_2).f0) x68_4).f3), .int .i64 ((rd_T106 ((rd_T112 l0_5 x51_2).f0) x68_4).f4)], .bool (x68_4 == 0), .bool true] rfl (by (try simp only [List.map_toArray, List.map_cons, List.map_nil]); first | done | rfl | (simp only [List.length_drop, List.length_take]; rfl)) ?_; (with_reducible refine (impl_basicOk.calls k4 ((rd_T106 ((rd_T112 l0_5 x51_2).f0) x68_4).f0) ((rd_T106 ((rd_T112 l0_5 x51_2).f0) x68_4).f1) ((rd_T106 ((rd_T112 l0_5 x51_2).f0) x68_4).f2) ((rd_T106 ((rd_T112 l0_5 x51_2).f0) x68_4).f3) ((rd_T106 ((rd_T112 l0_5 x51_2).f0) x68_4).f4) (x68_4 == 0) true true _ A41.out).mono ?_); rintro e w47 ⟨rfl, hb⟩; refine ⟨_, rfl, ?_⟩; have n0_ := Aside0.mk (blk_below (g := gb220) (o := .cells #[.int .i64 a0_0, .string a0_1, .string a0_2, .int .i64 a0_3, .int .i64 a0_4, .slice (some ad222) l0_5.length c0_5] 109 (0, 0)) (by (with_reducible repeat (first | refine blk_drewN ?_ _ | refine blk_drew ?_ | refine blk_alloc ?_ _)); refine blk_far ?_ NB220_225.out _; (with_reducible repeat (first | refine blk_drewN ?_ _ | refine blk_drew ?_ | refine blk_alloc ?_ _)); refine blk_far ?_ NB220_225.out _; (with_reducible repeat (first | refine blk_drewN ?_ _ | refine blk_drew ?_ | refine blk_alloc ?_ _)); refine blk_far ?_ NB220_225.out _; (with_reducible repeat (first | refine blk_drewN ?_ _ | refine blk_drew ?_ | refine blk_alloc ?_ _)); refine blk_far ?_ NB220_225.out _; (with_reducible repeat (first | refine blk_drewN ?_ _ | refine blk_drew ?_ | refine blk_alloc ?_ _)); refine blk_far ?_ NB220_225.out _; (with_reducible repeat (first | refine blk_drewN ?_ _ | refine blk_drew ?_ | refine blk_alloc ?_ _)); exact BK220.out) hb); have n1_ := Aside0.mk (blk_below (g := gb223) (o := .cells #[.slice (some ad224) ((rd_T112 l0_5 x51_2).f0).length c222_0] 112 (0, 0)) (by (with_reducible repeat (first | refine blk_drewN ?_ _ | refine blk_drew ?_ | refine blk_alloc ?_ _)); refine blk_far ?_ NB223_225.out _; (with_reducible repeat (first | refine blk_drewN ?_ _ | refine blk_drew ?_ | refine blk_alloc ?_ _)); refine blk_far ?_ NB223_225.out _; (with_reducible repeat (first | refine blk_drewN ?_ _ | refine blk_drew ?_ | refine blk_alloc ?_ _)); refine blk_far ?_ NB223_225.out _; (with_reducible repeat (first | refine blk_drewN ?_ _ | refine blk_drew ?_ | refine blk_alloc ?_ _)); refine blk_far ?_ NB223_225.out _; (with_reducible repeat (first | refine blk_drewN ?_ _ | refine blk_drew ?_ | refine blk_alloc ?_ _)); refine blk_far ?_ NB223_225.out _; (with_reducible repeat (first | refine blk_drewN ?_ _ | refine blk_drew ?_ | refine blk_alloc ?_ _)); exact BK223.out) hb); have n2_ := Aside0.mk (blk_below (g := gb225) (o := .cells #[.int .i64 ((rd_T106 ((rd_T112 l0_5 x51_2).f0) x68_4).f0), .string ((rd_T106 ((rd_T112 l0_5 x51_2).f0) x68_4).f1), .string ((rd_T106 ((rd_T112 l0_5 x51_2).f0) x68_4).f2), .int .i64 ((rd_T106 ((rd_T112 l0_5 x51_2).f0) x68_4).f3), .int .i64 ((rd_T106 ((rd_T112 l0_5 x51_2).f0) x68_4).f4)] 106 (0, 0)) (by (with_reducible repeat (first | refine blk_drewN ?_ _ | refine blk_drew ?_ | refine blk_alloc ?_ _)); refine blk_put (cs := #[.int .i64 ((rd_T106 ((rd_T112 l0_5 x51_2).f0) x68_4).f0), .string ((rd_T106 ((rd_T112 l0_5 x51_2).f0) x68_4).f1), .string ((rd_T106 ((rd_T112 l0_5 x51_2).f0) x68_4).f2), .int .i64 ((rd_T106 ((rd_T112 l0_5 x51_2).f0) x68_4).f3), .int .i64 0]) ?_ 4 _ rfl; (with_reducible repeat (first | refine blk_drewN ?_ _ | refine blk_drew ?_ | refine blk_alloc ?_ _)); refine blk_put (cs := #[.int .i64 ((rd_T106 ((rd_T112 l0_5 x51_2).f0) x68_4).f0), .string ((rd_T106 ((rd_T112 l0_5 x51_2).f0) x68_4).f1), .string ((rd_T106 ((rd_T112 l0_5 x51_2).f0) x68_4).f2), .int .i64 0, .int .i64 0]) ?_ 3 _ rfl; (with_reducible repeat (first | refine blk_drewN ?_ _ | refine blk_drew ?_ | refine blk_alloc ?_ _)); refine blk_put (cs := #[.int .i64 ((rd_T106 ((rd_T112 l0_5 x51_2).f0) x68_4).f0), .string ((rd_T106 ((rd_T112 l0_5 x51_2).f0) x68_4).f1), .string (⟨#[]⟩ : ByteArray), .int .i64 0, .int .i64 0]) ?_ 2 _ rfl; (with_reducible repeat (first | refine blk_drewN ?_ _ | refine blk_drew ?_ | refine blk_alloc ?_ _)); refine blk_put (cs := #[.int .i64 ((rd_T106 ((rd_T112 l0_5 x51_2).f0) x68_4).f0), .string (⟨#[]⟩ : ByteArray), .string (⟨#[]⟩ : ByteArray), .int .i64 0, .int .i64 0]) ?_ 1 _ rfl; (with_reducible repeat (first | refine blk_drewN ?_ _ | refine blk_drew ?_ | refine blk_alloc ?_ _)); refine blk_put (cs := #[.int .i64 0, .string (⟨#[]⟩ : ByteArray), .string (⟨#[]⟩ : ByteArray), .int .i64 0, .int .i64 0]) ?_ 0 _ rfl; (with_reducible repeat (first | refine blk_drewN ?_ _ | refine blk_drew ?_ | refine blk_alloc ?_ _)); exact BK225.out) hb); have n3_ := Aside0.mk (below_step (by repeat (first | (with_reducible first | exact HB.out | apply below_alloc | apply pw_below_drewN | apply below_drew1 | refine below_set ?_ GE220.out | refine below_set ?_ GE223.out | refine below_set ?_ GE225.out) | exact HB.out)) hb); clear BK220; clear BK223; clear BK225; clear HB; have BK220 := n0_; have BK223 := n1_; have BK225 := n2_; have HB := n3_; clear n0_ n1_ n2_ n3_; (try clear hb); (try clear hb2); (try clear hk); (try clear hi)))
                                      go_roundg k4
                                      case measure => have := HJ10.out; have := HK2.out; have := HJ25.out; have := HK4.out; omega
                                      case rel => exact ⟨(wrap64 (x68_4 + 1)), (by first | rfl | (simp; done) | (simp [*]; done)), H', ⟨by have := HJ10.out; have := HK2.out; have := HJ25.out; have := HK4.out; omega⟩, ⟨by (with_reducible repeat (first | refine blk_drewN ?_ _ | refine blk_drew ?_ | refine blk_alloc ?_ _)); exact BK220.out⟩, ⟨by (with_reducible repeat (first | refine blk_drewN ?_ _ | refine blk_drew ?_ | refine blk_alloc ?_ _)); exact BK223.out⟩, ⟨by repeat (first | (with_reducible first | exact HB.out | apply below_alloc | apply pw_below_drewN | apply below_drew1 | refine below_set ?_ GE220.out | refine below_set ?_ GE223.out | refine below_set ?_ GE225.out) | exact HB.out)⟩⟩
                                    · replace c42 := Bool.eq_false_iff.mpr c42
                                      subst c42
                                      have H1 : (some false) = some r := by rw [if_neg (show ¬ (false = true) by decide)] at H; exact H
                                      clear H
                                      have H := H1
                                      clear H1
                                      obtain rfl := Option.some.inj H
                                      have p224 : 0 ≤ (x68_4 : Int) := of_decide_eq_true (by first | (with_reducible assumption) | assumption)
                                      have q224 : x68_4 < (((rd_T112 l0_5 x51_2).f0).length : Int) := of_decide_eq_true (by first | (with_reducible assumption) | assumption)
                                      obtain ⟨ad224, e224, hx224_0, hx224_1, hx224_2, hx224_3, hx224_4⟩ := at_T106 HR222_0.out x68_4 p224 q224
                                      cases e224
                                      replace hx224_0 := (HB.out.cell (World.block_lt_of_cell? w _ hx224_0)).trans hx224_0
                                      replace hx224_1 := (HB.out.cell (World.block_lt_of_cell? w _ hx224_1)).trans hx224_1
                                      replace hx224_2 := (HB.out.cell (World.block_lt_of_cell? w _ hx224_2)).trans hx224_2
                                      replace hx224_3 := (HB.out.cell (World.block_lt_of_cell? w _ hx224_3)).trans hx224_3
                                      replace hx224_4 := (HB.out.cell (World.block_lt_of_cell? w _ hx224_4)).trans hx224_4
                                      replace p224 := eq_true p224
                                      replace q224 := eq_true q224
                                      go_wp2_with (first | ((with_reducible refine gate_dst (N := 8) rfl ?_); (try (refine gate_guard (by rfl) ?_; dsimp only)); refine box_event ?hg (N := 8) ?hd (cs := #[.int .i64 0, .string (⟨#[]⟩ : ByteArray), .string (⟨#[]⟩ : ByteArray), .int .i64 0, .int .i64 0]) (t := 106) ?hr ?_; (case hd => rfl); (case hg => rfl); (case hr => first | (go_simp; done) | (go_simp; rfl)); intro gb225 hg w48 hbox hb; have n0_ := Aside0.mk (blk_below (g := gb220) (o := .cells #[.int .i64 a0_0, .string a0_1, .string a0_2, .int .i64 a0_3, .int .i64 a0_4, .slice (some ad222) l0_5.length c0_5] 109 (0, 0)) (by (with_reducible repeat (first | refine blk_drewN ?_ _ | refine blk_drew ?_ | refine blk_alloc ?_ _)); exact BK220.out) hb); have n1_ := Aside0.mk (blk_below (g := gb223) (o := .cells #[.slice (some ad224) ((rd_T112 l0_5 x51_2).f0).length c222_0] 112 (0, 0)) (by (with_reducible repeat (first | refine blk_drewN ?_ _ | refine blk_drew ?_ | refine blk_alloc ?_ _)); exact BK223.out) hb); have n2_ := Aside0.mk (below_step (by repeat (first | (with_reducible first | exact HB.out | apply below_alloc | apply pw_below_drewN | apply below_drew1 | refine below_set ?_ GE220.out | refine below_set ?_ GE223.out) | exact HB.out)) hb); have n3_ := Aside0.mk (hbox); have n4_ := Aside0.mk ((by rw [hg]; exact (below_size (by repeat (first | (with_reducible first | exact HB.out | apply below_alloc | apply pw_below_drewN | apply below_drew1 | refine below_set ?_ GE220.out | refine below_set ?_ GE223.out) | exact HB.out))) : w.heap.size ≤ gb225)); have n5_ := Aside0.mk ((by rw [hg]; exact (below_size (by repeat (first | (with_reducible first | exact HB.out | apply below_alloc | apply pw_below_drewN | apply below_drew1 | refine below_set ?_ GE220.out | refine below_set ?_ GE223.out) | exact HB.out))) : w.heap.size ≤ gb225)); have n6_ := Aside0.mk ((by rw [hg]; exact Nat.ne_of_lt (blk_lt (g := gb220) (o := .cells #[.int .i64 a0_0, .string a0_1, .string a0_2, .int .i64 a0_3, .int .i64 a0_4, .slice (some ad222) l0_5.length c0_5] 109 (0, 0)) (by (with_reducible repeat (first | refine blk_drewN ?_ _ | refine blk_drew ?_ | refine blk_alloc ?_ _)); exact BK220.out)) : gb220 ≠ gb225)); have n7_ := Aside0.mk ((by rw [hg]; exact Nat.ne_of_gt (blk_lt (g := gb220) (o := .cells #[.int .i64 a0_0, .string a0_1, .string a0_2, .int .i64 a0_3, .int .i64 a0_4, .slice (some ad222) l0_5.length c0_5] 109 (0, 0)) (by (with_reducible repeat (first | refine blk_drewN ?_ _ | refine blk_drew ?_ | refine blk_alloc ?_ _)); exact BK220.out)) : gb225 ≠ gb220)); have n8_ := Aside0.mk ((by rw [hg]; exact Nat.ne_of_lt (blk_lt (g := gb223) (o := .cells #[.slice (some ad224) ((rd_T112 l0_5 x51_2).f0).length c222_0] 112 (0, 0)) (by (with_reducible repeat (first | refine blk_drewN ?_ _ | refine blk_drew ?_ | refine blk_alloc ?_ _)); exact BK223.out)) : gb223 ≠ gb225)); have n9_ := Aside0.mk ((by rw [hg]; exact Nat.ne_of_gt (blk_lt (g := gb223) (o := .cells #[.slice (some ad224) ((rd_T112 l0_5 x51_2).f0).length c222_0] 112 (0, 0)) (by (with_reducible repeat (first | refine blk_drewN ?_ _ | refine blk_drew ?_ | refine blk_alloc ?_ _)); exact BK223.out)) : gb225 ≠ gb223)); clear BK220; clear BK223; clear HB; have BK220 := n0_; have BK223 := n1_; have HB := n2_; have BK225 := n3_; have GW225 := n4_; have GE225 := n5_; have NB220_225 := n6_; have NB225_220 := n7_; have NB223_225 := n8_; have NB225_223 := n9_; clear n0_ n1_ n2_ n3_ n4_ n5_ n6_ n7_ n8_ n9_; clear hb hbox hg; have hnb49 := NB225_220.out; have hnc49 := NB220_225.out; have hnb50 := NB225_223.out; have hnc50 := NB223_225.out; have hcz51_0 : w48.cell? ⟨gb225, 0, none⟩ = some (.int .i64 0) := (blk_cell BK225.out 0).trans rfl; have hcz51_1 : w48.cell? ⟨gb225, 1, none⟩ = some (.string (⟨#[]⟩ : ByteArray)) := (blk_cell BK225.out 1).trans rfl; have hcz51_2 : w48.cell? ⟨gb225, 2, none⟩ = some (.string (⟨#[]⟩ : ByteArray)) := (blk_cell BK225.out 2).trans rfl; have hcz51_3 : w48.cell? ⟨gb225, 3, none⟩ = some (.int .i64 0) := (blk_cell BK225.out 3).trans rfl; have hcz51_4 : w48.cell? ⟨gb225, 4, none⟩ = some (.int .i64 0) := (blk_cell BK225.out 4).trans rfl; have hfz51_0 := blk_frozen BK225.out 0; have hfz51_1 := blk_frozen BK225.out 1; have hfz51_2 := blk_frozen BK225.out 2; have hfz51_3 := blk_frozen BK225.out 3; have hfz51_4 := blk_frozen BK225.out 4) | ((with_reducible refine gate_callee (f := 103) rfl ?_); refine goesL_ (some 76) rfl rfl Try.func103 (by kernel_rfl) rfl #[.agg #[.int .i64 ((rd_T106 ((rd_T112 l0_5 x51_2).f0) x68_4).f0), .string ((rd_T106 ((rd_T112 l0_5 x51_2).f0) x68_4).f1), .string ((rd_T106 ((rd_T112 l0_5 x51_2).f0) x68_4).f2), .int .i64 ((rd_T106 ((rd_T112 l0_5 x51_2).f0) x68_4).f3), .int .i64 ((rd_T106 ((rd_T112 l0_5 x51_2).f0) x68_4).f4)], .bool (x68_4 == 0), .bool true] rfl (by (try simp only [List.map_toArray, List.map_cons, List.map_nil]); first | done | rfl | (simp only [List.length_drop, List.length_take]; rfl)) ?_; (with_reducible refine (impl_basicOk.calls k4 ((rd_T106 ((rd_T112 l0_5 x51_2).f0) x68_4).f0) ((rd_T106 ((rd_T112 l0_5 x51_2).f0) x68_4).f1) ((rd_T106 ((rd_T112 l0_5 x51_2).f0) x68_4).f2) ((rd_T106 ((rd_T112 l0_5 x51_2).f0) x68_4).f3) ((rd_T106 ((rd_T112 l0_5 x51_2).f0) x68_4).f4) (x68_4 == 0) true false _ A41.out).mono ?_); rintro e w52 ⟨rfl, hb⟩; refine ⟨_, rfl, ?_⟩; have n0_ := Aside0.mk (blk_below (g := gb220) (o := .cells #[.int .i64 a0_0, .string a0_1, .string a0_2, .int .i64 a0_3, .int .i64 a0_4, .slice (some ad222) l0_5.length c0_5] 109 (0, 0)) (by (with_reducible repeat (first | refine blk_drewN ?_ _ | refine blk_drew ?_ | refine blk_alloc ?_ _)); refine blk_far ?_ NB220_225.out _; (with_reducible repeat (first | refine blk_drewN ?_ _ | refine blk_drew ?_ | refine blk_alloc ?_ _)); refine blk_far ?_ NB220_225.out _; (with_reducible repeat (first | refine blk_drewN ?_ _ | refine blk_drew ?_ | refine blk_alloc ?_ _)); refine blk_far ?_ NB220_225.out _; (with_reducible repeat (first | refine blk_drewN ?_ _ | refine blk_drew ?_ | refine blk_alloc ?_ _)); refine blk_far ?_ NB220_225.out _; (with_reducible repeat (first | refine blk_drewN ?_ _ | refine blk_drew ?_ | refine blk_alloc ?_ _)); refine blk_far ?_ NB220_225.out _; (with_reducible repeat (first | refine blk_drewN ?_ _ | refine blk_drew ?_ | refine blk_alloc ?_ _)); exact BK220.out) hb); have n1_ := Aside0.mk (blk_below (g := gb223) (o := .cells #[.slice (some ad224) ((rd_T112 l0_5 x51_2).f0).length c222_0] 112 (0, 0)) (by (with_reducible repeat (first | refine blk_drewN ?_ _ | refine blk_drew ?_ | refine blk_alloc ?_ _)); refine blk_far ?_ NB223_225.out _; (with_reducible repeat (first | refine blk_drewN ?_ _ | refine blk_drew ?_ | refine blk_alloc ?_ _)); refine blk_far ?_ NB223_225.out _; (with_reducible repeat (first | refine blk_drewN ?_ _ | refine blk_drew ?_ | refine blk_alloc ?_ _)); refine blk_far ?_ NB223_225.out _; (with_reducible repeat (first | refine blk_drewN ?_ _ | refine blk_drew ?_ | refine blk_alloc ?_ _)); refine blk_far ?_ NB223_225.out _; (with_reducible repeat (first | refine blk_drewN ?_ _ | refine blk_drew ?_ | refine blk_alloc ?_ _)); refine blk_far ?_ NB223_225.out _; (with_reducible repeat (first | refine blk_drewN ?_ _ | refine blk_drew ?_ | refine blk_alloc ?_ _)); exact BK223.out) hb); have n2_ := Aside0.mk (blk_below (g := gb225) (o := .cells #[.int .i64 ((rd_T106 ((rd_T112 l0_5 x51_2).f0) x68_4).f0), .string ((rd_T106 ((rd_T112 l0_5 x51_2).f0) x68_4).f1), .string ((rd_T106 ((rd_T112 l0_5 x51_2).f0) x68_4).f2), .int .i64 ((rd_T106 ((rd_T112 l0_5 x51_2).f0) x68_4).f3), .int .i64 ((rd_T106 ((rd_T112 l0_5 x51_2).f0) x68_4).f4)] 106 (0, 0)) (by (with_reducible repeat (first | refine blk_drewN ?_ _ | refine blk_drew ?_ | refine blk_alloc ?_ _)); refine blk_put (cs := #[.int .i64 ((rd_T106 ((rd_T112 l0_5 x51_2).f0) x68_4).f0), .string ((rd_T106 ((rd_T112 l0_5 x51_2).f0) x68_4).f1), .string ((rd_T106 ((rd_T112 l0_5 x51_2).f0) x68_4).f2), .int .i64 ((rd_T106 ((rd_T112 l0_5 x51_2).f0) x68_4).f3), .int .i64 0]) ?_ 4 _ rfl; (with_reducible repeat (first | refine blk_drewN ?_ _ | refine blk_drew ?_ | refine blk_alloc ?_ _)); refine blk_put (cs := #[.int .i64 ((rd_T106 ((rd_T112 l0_5 x51_2).f0) x68_4).f0), .string ((rd_T106 ((rd_T112 l0_5 x51_2).f0) x68_4).f1), .string ((rd_T106 ((rd_T112 l0_5 x51_2).f0) x68_4).f2), .int .i64 0, .int .i64 0]) ?_ 3 _ rfl; (with_reducible repeat (first | refine blk_drewN ?_ _ | refine blk_drew ?_ | refine blk_alloc ?_ _)); refine blk_put (cs := #[.int .i64 ((rd_T106 ((rd_T112 l0_5 x51_2).f0) x68_4).f0), .string ((rd_T106 ((rd_T112 l0_5 x51_2).f0) x68_4).f1), .string (⟨#[]⟩ : ByteArray), .int .i64 0, .int .i64 0]) ?_ 2 _ rfl; (with_reducible repeat (first | refine blk_drewN ?_ _ | refine blk_drew ?_ | refine blk_alloc ?_ _)); refine blk_put (cs := #[.int .i64 ((rd_T106 ((rd_T112 l0_5 x51_2).f0) x68_4).f0), .string (⟨#[]⟩ : ByteArray), .string (⟨#[]⟩ : ByteArray), .int .i64 0, .int .i64 0]) ?_ 1 _ rfl; (with_reducible repeat (first | refine blk_drewN ?_ _ | refine blk_drew ?_ | refine blk_alloc ?_ _)); refine blk_put (cs := #[.int .i64 0, .string (⟨#[]⟩ : ByteArray), .string (⟨#[]⟩ : ByteArray), .int .i64 0, .int .i64 0]) ?_ 0 _ rfl; (with_reducible repeat (first | refine blk_drewN ?_ _ | refine blk_drew ?_ | refine blk_alloc ?_ _)); exact BK225.out) hb); have n3_ := Aside0.mk (below_step (by repeat (first | (with_reducible first | exact HB.out | apply below_alloc | apply pw_below_drewN | apply below_drew1 | refine below_set ?_ GE220.out | refine below_set ?_ GE223.out | refine below_set ?_ GE225.out) | exact HB.out)) hb); clear BK220; clear BK223; clear BK225; clear HB; have BK220 := n0_; have BK223 := n1_; have BK225 := n2_; have HB := n3_; clear n0_ n1_ n2_ n3_; (try clear hb); (try clear hb2); (try clear hk); (try clear hi)))
                                      go_ret
                                      exact ⟨by first | rfl | (simp [errW_none, errW_some] <;> rfl) | (simp [*, errW_none, errW_some] <;> rfl), by repeat (first | (with_reducible first | exact HB.out | apply below_alloc | apply pw_below_drewN | apply below_drew1 | refine below_set ?_ GE220.out | refine below_set ?_ GE223.out | refine below_set ?_ GE225.out) | exact HB.out)⟩
                                  · rw [if_neg c40] at H
                                    exact absurd H (by simp)
                                · rw [if_neg c39] at H
                                  exact absurd H (by simp)
                              · rw [if_neg c38] at H
                                have c38b0 : decide (x68_4 < (((rd_T112 l0_5 x51_2).f0).length : Int)) = false := decide_eq_false c38
                                clear c38
                                have H' := Aside0.mk H
                                clear H
                                go_wp2
                                go_roundg k4
                                case measure => have := HJ10.out; have := HK2.out; have := HJ25.out; have := HK4.out; omega
                                case rel => exact ⟨(wrap64 (x51_2 + 1)), (by first | rfl | (simp; done) | (simp [*]; done)), H', ⟨by have := HJ10.out; have := HK2.out; have := HJ25.out; have := HK4.out; omega⟩, ⟨by (with_reducible repeat (first | refine blk_drewN ?_ _ | refine blk_drew ?_ | refine blk_alloc ?_ _)); exact BK220.out⟩, ⟨by repeat (first | (with_reducible first | exact HB.out | apply below_alloc | apply pw_below_drewN | apply below_drew1 | refine below_set ?_ GE220.out | refine below_set ?_ GE223.out) | exact HB.out)⟩⟩
                  · rw [if_neg c25] at H
                    exact absurd H (by simp)
                · rw [if_neg c24] at H
                  exact absurd H (by simp)
              · rw [if_neg c23] at H
                have c23b0 : decide (x51_2 < (l0_5.length : Int)) = false := decide_eq_false c23
                clear c23
                obtain rfl := Option.some.inj H
                go_wp2
                go_ret
                exact ⟨by first | rfl | (simp [errW_none, errW_some] <;> rfl) | (simp [*, errW_none, errW_some] <;> rfl), by repeat (first | (with_reducible first | exact HB.out | apply below_alloc | apply pw_below_drewN | apply below_drew1 | refine below_set ?_ GE220.out) | exact HB.out)⟩

end Go.Proofs.Ytjghahkecglgdaa.QFnExactSpecificity
