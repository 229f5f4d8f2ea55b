/- Written by a program (wip/tools/own_print.py) out of the walk that the kit's printer made; turned where it fell. -/
-- PRINTED by print.py (a twelfth state) out of the translation. Not trusted: Lean checks it.
import Derived.Test.YtbogfagafdokeaaQFnExactSpotLessx0
import Derived.Test.YtbogfagafdokeaaQFnExactSpotLessx7
namespace Go.Proofs.Ytbogfagafdokeaa.QFnExactSpotLess
open Go.RowKit Go.Proofs.YtbogfagafdokeaaV.PrintWords Go.Proofs.YtbogfagafdokeaaV.PrintLast Go.Proofs.YtbogfagafdokeaaV.PrintMore
attribute [local go_sem] max2_int min2_int max_two min_two max_three min_three max_four min_four   -- for this text's walks alone
set_option linter.unusedVariables false
set_option linter.unusedSimpArgs false
private theorem blkf6 {w : World} {g : Nat} {t : TypeId} {c0 c1 c2 c3 c4 c5 : Value} (h : w.heap[g]? = some (.cells #[c0, c1, c2, c3, c4, c5] t (0, 0))) : w.cell? ⟨g, 0, none⟩ = some c0 ∧ w.cell? ⟨g, 1, none⟩ = some c1 ∧ w.cell? ⟨g, 2, none⟩ = some c2 ∧ w.cell? ⟨g, 3, none⟩ = some c3 ∧ w.cell? ⟨g, 4, none⟩ = some c4 ∧ w.cell? ⟨g, 5, none⟩ = some c5 ∧ w.frozen? ⟨g, 0, none⟩ = false ∧ w.frozen? ⟨g, 1, none⟩ = false ∧ w.frozen? ⟨g, 2, none⟩ = false ∧ w.frozen? ⟨g, 3, none⟩ = false ∧ w.frozen? ⟨g, 4, none⟩ = false ∧ w.frozen? ⟨g, 5, none⟩ = false := ⟨(blk_cell h 0).trans rfl, (blk_cell h 1).trans rfl, (blk_cell h 2).trans rfl, (blk_cell h 3).trans rfl, (blk_cell h 4).trans rfl, (blk_cell h 5).trans rfl, blk_frozen h 0, blk_frozen h 1, blk_frozen h 2, blk_frozen h 3, blk_frozen h 4, blk_frozen h 5⟩

/-! ### impl_nodeRight: function 32 -/
def impl_nodeRight.j0 : Nat → Bool → Int → Int → ByteArray → List (S99) → ByteArray → Int → Option (Bool)
  | 0, _, _, _, _, _, _, _ => none
  | k + 1, x24, x274000, x274001, x274002, x274003, x274004, x274005 => if x24 = true then (some false) else (if x274001 = 1 then (if x274002.toList = ([] : List UInt8) then (if (x274003.length : Int) = 0 then (some (x274004.toList == ([] : List UInt8))) else (some false)) else (some false)) else (if x274001 = 2 then (if x274002.toList = ([] : List UInt8) then (some false) else (if x274004.toList = ([] : List UInt8) then ((impl_attrsRight.f k x274003).bind fun t274 => (some t274)) else (some false))) else (if x274001 = 3 then (if x274004.toList = ([] : List UInt8) then (some false) else (if x274002.toList = ([] : List UInt8) then (if (x274003.length : Int) = 0 then (some (x274005 == 0)) else (some false)) else (some false))) else (if x274001 = 4 then (if x274002.toList = ([] : List UInt8) then (if (x274003.length : Int) = 0 then (some (x274005 == 0)) else (some false)) else (some false)) else (if x274001 = 5 then (if x274004.toList = ([] : List UInt8) then (if (x274003.length : Int) = 0 then (some (x274005 == 0)) else (some false)) else (some false)) else (some false))))))
def impl_nodeRight.f (k : Nat) (a0_0 : Int) (a0_1 : Int) (a0_2 : ByteArray) (l0_3 : List (S99)) (a0_4 : ByteArray) (a0_5 : Int) (a1 : Bool) : Option (Bool) := if a0_0 < 0 then (impl_nodeRight.j0 k true a0_0 a0_1 a0_2 l0_3 a0_4 a0_5) else (if a0_0 > 1000000 then (impl_nodeRight.j0 k true a0_0 a0_1 a0_2 l0_3 a0_4 a0_5) else (if a0_5 < 0 then (impl_nodeRight.j0 k true a0_0 a0_1 a0_2 l0_3 a0_4 a0_5) else (impl_nodeRight.j0 k (a1 != (a0_1 == 1)) a0_0 a0_1 a0_2 l0_3 a0_4 a0_5)))
theorem impl_nodeRight.mono_l : ∀ k, (∀ y0 y1 y2 y3 y4 y5 y6, LeO (impl_nodeRight.j0 k y0 y1 y2 y3 y4 y5 y6) (impl_nodeRight.j0 (k + 1) y0 y1 y2 y3 y4 y5 y6))
 | 0 => fun _ _ _ _ _ _ _ r h => by simp [impl_nodeRight.j0] at h
 | k + 1 => by
  have ih0 := impl_nodeRight.mono_l k
  ·intro y0 y1 y2 y3 y4 y5 y6
   unfold impl_nodeRight.j0
   repeat' first
  |(with_reducible exact ih0 _ _ _ _ _ _ _)
  |(with_reducible exact impl_attrsRight.mono _ _)
  |(with_reducible exact LeO.refl _)
  |(with_reducible exact LeO.none _)
  |(with_reducible refine LeO.ite ?_ ?_)
  |(with_reducible refine LeO.bind ?_ (fun _ => ?_))
  |exact ih0 _ _ _ _ _ _ _
  |exact impl_attrsRight.mono _ _
  |exact LeO.none _
  |refine LeO.ite ?_ ?_
  |refine LeO.bind ?_ (fun _ => ?_)
theorem impl_nodeRight.mono : ∀ a0 a1 a2 a3 a4 a5 a6 k, LeO (impl_nodeRight.f k a0 a1 a2 a3 a4 a5 a6) (impl_nodeRight.f (k + 1) a0 a1 a2 a3 a4 a5 a6) := by
 intro a0 a1 a2 a3 a4 a5 a6 k
 have ih0 := impl_nodeRight.mono_l k
 unfold impl_nodeRight.f
 repeat' first
  |(with_reducible exact ih0 _ _ _ _ _ _ _)
  |(with_reducible exact impl_attrsRight.mono _ _)
  |(with_reducible exact LeO.refl _)
  |(with_reducible exact LeO.none _)
  |(with_reducible refine LeO.ite ?_ ?_)
  |(with_reducible refine LeO.bind ?_ (fun _ => ?_))
  |exact ih0 _ _ _ _ _ _ _
  |exact impl_attrsRight.mono _ _
  |exact LeO.none _
  |refine LeO.ite ?_ ?_
  |refine LeO.bind ?_ (fun _ => ?_)
set_option maxHeartbeats 8000000 in
set_option maxRecDepth 100000 in
theorem impl_nodeRight.calls (k : Nat) (a0_0 : Int) (a0_1 : Int) (a0_2 : ByteArray) (A0_3 : Option Addr) (c0_3 : Nat) (l0_3 : List (S99)) (a0_4 : ByteArray) (a0_5 : Int) (a1 : Bool) (r : Bool) (w : World) (hr0_3 : Kd.C k99 w A0_3 l0_3.length l0_3) (hc0_3 : l0_3.length ≤ c0_3) (h : impl_nodeRight.f k a0_0 a0_1 a0_2 l0_3 a0_4 a0_5 a1 = some r) :
  Calls Try.prog 32 #[.agg #[.int .i64 a0_0, .int .i64 a0_1, .string a0_2, .slice A0_3 l0_3.length c0_3, .string a0_4, .int .i64 a0_5], .bool a1] w fun e w' => e = .returned (.bool r) ∧ Below w.heap.size w w' := by
 have hu59 := Try.underlying59
 have HR0_3 := Aside0.mk hr0_3
 have HC0_3 := Aside0.mk hc0_3
 clear hr0_3 hc0_3
 have HB := Aside0.mk (Below.refl w.heap.size w)
 have H : (if a0_0 < 0 then (impl_nodeRight.j0 k true a0_0 a0_1 a0_2 l0_3 a0_4 a0_5) else (if a0_0 > 1000000 then (impl_nodeRight.j0 k true a0_0 a0_1 a0_2 l0_3 a0_4 a0_5) else (if a0_5 < 0 then (impl_nodeRight.j0 k true a0_0 a0_1 a0_2 l0_3 a0_4 a0_5) else (impl_nodeRight.j0 k (a1 != (a0_1 == 1)) a0_0 a0_1 a0_2 l0_3 a0_4 a0_5)))) = some r := h
 clear h
 have HC3 := Aside0.mk H
 clear H
 go_enter Try.func32, Try.ntmps32
 go_upto_region 1 with (first|((with_reducible refine gate_dst (N := 2) rfl ?_);(try (refine gate_guard (by rfl) ?_;dsimp only));refine box_event ?hg (N := 2) ?hd (cs := #[.int .i64 a0_0, .int .i64 a0_1, .string a0_2, .slice A0_3 l0_3.length c0_3, .string a0_4, .int .i64 a0_5]) (t := 59) ?hr ?_;(case hd => rfl);(case hg => rfl);(case hr => first|(go_simp;done)|(go_simp;rfl));intro gb273 hg w4 hbox hb;have n0_ := Aside0.mk (below_step (by repeat (first|(with_reducible first|exact HB.out|apply below_alloc|apply pw_below_drewN|apply below_drew1)|exact HB.out)) hb);have n1_ := Aside0.mk (hbox);have n2_ := Aside0.mk ((by rw [hg];exact (below_size (by repeat (first|(with_reducible first|exact HB.out|apply below_alloc|apply pw_below_drewN|apply below_drew1)|exact HB.out))) : w.heap.size ≤ gb273));have n3_ := Aside0.mk ((by rw [hg];exact (below_size (by repeat (first|(with_reducible first|exact HB.out|apply below_alloc|apply pw_below_drewN|apply below_drew1)|exact HB.out))) : w.heap.size ≤ gb273));clear HB;have HB := n0_;have BK273 := n1_;have GW273 := n2_;have GE273 := n3_;clear n0_ n1_ n2_ n3_;clear hb hbox hg))
 (try simp only [Act.put, List.setIfInBounds_toArray, List.set_cons_zero, List.set_cons_succ])
 go_cut [24] (fun v24 wc => ∃ (kq : Nat) (x24_2 : Bool), v24 = .bool x24_2 ∧ Aside0 (impl_nodeRight.j0 kq x24_2 a0_0 a0_1 a0_2 l0_3 a0_4 a0_5 = some r) ∧ Aside0 (kq ≤ k) ∧ Aside0 (wc.heap[gb273]? = some (.cells #[.int .i64 a0_0, .int .i64 a0_1, .string a0_2, (.slice A0_3 l0_3.length c0_3), .string a0_4, .int .i64 a0_5] 59 (0, 0))) ∧ Aside0 (Below w.heap.size w wc))
 case first =>
  have H := HC3.out
  clear HC3
  by_cases c5 : a0_0 < 0
  ·rw [if_pos c5] at H
   have c5b0 : decide (a0_0 < 0) = true := decide_eq_true c5
   clear c5
   (first|rw [c5b0]|(simp only [i64_w, i32_w];rw [c5b0])|rw [c5b1]|skip)
   have H' := Aside0.mk H
   clear H
   obtain ⟨hcz6_0,hcz6_1,hcz6_2,hcz6_3,hcz6_4,hcz6_5,hfz6_0,hfz6_1,hfz6_2,hfz6_3,hfz6_4,hfz6_5⟩ := blkf6 BK273.out
   go_wp2
   go_meet
   case rel => exact ⟨_, (true),(by first|rfl|(simp;done)|(simp [*];done)), H', ⟨by first|omega|exact Nat.le_refl _⟩,⟨by (with_reducible repeat (first|refine blk_drewN ?_ _|refine blk_drew ?_|refine blk_alloc ?_ _));exact BK273.out⟩,⟨by repeat (first|exact HB.out|apply below_alloc|apply pw_below_drewN|apply below_drew1|refine below_set ?_ GE273.out)⟩⟩
  ·rw [if_neg c5] at H
   have c5b0 : decide (a0_0 < 0) = false := decide_eq_false c5
   clear c5
   (first|rw [c5b0]|(simp only [i64_w, i32_w];rw [c5b0])|rw [c5b1]|skip)
   by_cases c7 : a0_0 > 1000000
   ·rw [if_pos c7] at H
    have c7b0 : decide (1000000 < a0_0) = true := decide_eq_true c7
    clear c7
    have H' := Aside0.mk H
    clear H
    obtain ⟨hcz8_0,hcz8_1,hcz8_2,hcz8_3,hcz8_4,hcz8_5,hfz8_0,hfz8_1,hfz8_2,hfz8_3,hfz8_4,hfz8_5⟩ := blkf6 BK273.out
    go_wp2
    go_meet
    case rel => exact ⟨_, (true),(by first|rfl|(simp;done)|(simp [*];done)), H', ⟨by first|omega|exact Nat.le_refl _⟩,⟨by (with_reducible repeat (first|refine blk_drewN ?_ _|refine blk_drew ?_|refine blk_alloc ?_ _));exact BK273.out⟩,⟨by repeat (first|exact HB.out|apply below_alloc|apply pw_below_drewN|apply below_drew1|refine below_set ?_ GE273.out)⟩⟩
   ·rw [if_neg c7] at H
    have c7b0 : decide (1000000 < a0_0) = false := decide_eq_false c7
    clear c7
    by_cases c9 : a0_5 < 0
    ·rw [if_pos c9] at H
     have c9b0 : decide (a0_5 < 0) = true := decide_eq_true c9
     clear c9
     have H' := Aside0.mk H
     clear H
     obtain ⟨hcz10_0,hcz10_1,hcz10_2,hcz10_3,hcz10_4,hcz10_5,hfz10_0,hfz10_1,hfz10_2,hfz10_3,hfz10_4,hfz10_5⟩ := blkf6 BK273.out
     go_wp2
     go_meet
     case rel => exact ⟨_, (true),(by first|rfl|(simp;done)|(simp [*];done)), H', ⟨by first|omega|exact Nat.le_refl _⟩,⟨by (with_reducible repeat (first|refine blk_drewN ?_ _|refine blk_drew ?_|refine blk_alloc ?_ _));exact BK273.out⟩,⟨by repeat (first|exact HB.out|apply below_alloc|apply pw_below_drewN|apply below_drew1|refine below_set ?_ GE273.out)⟩⟩
    ·rw [if_neg c9] at H
     have c9b0 : decide (a0_5 < 0) = false := decide_eq_false c9
     clear c9
     have H' := Aside0.mk H
     clear H
     obtain ⟨hcz11_0,hcz11_1,hcz11_2,hcz11_3,hcz11_4,hcz11_5,hfz11_0,hfz11_1,hfz11_2,hfz11_3,hfz11_4,hfz11_5⟩ := blkf6 BK273.out
     go_wp2
     go_meet
     case rel => exact ⟨_, ((a1 != (a0_1 == 1))),(by first|rfl|(simp;done)|(simp [*];done)), H', ⟨by first|omega|exact Nat.le_refl _⟩,⟨by (with_reducible repeat (first|refine blk_drewN ?_ _|refine blk_drew ?_|refine blk_alloc ?_ _));exact BK273.out⟩,⟨by repeat (first|exact HB.out|apply below_alloc|apply pw_below_drewN|apply below_drew1|refine below_set ?_ GE273.out)⟩⟩
 case rest =>
  clear HC3
  try clear p2;try clear c3;try clear c5;try clear c5b0;try clear c7;try clear c7b0;try clear c9;try clear c9b0;try clear hcz10_0;try clear hcz10_1;try clear hcz10_2;try clear hcz10_3;try clear hcz10_4;try clear hcz10_5;try clear hcz11_0;try clear hcz11_1;try clear hcz11_2;try clear hcz11_3;try clear hcz11_4;try clear hcz11_5;try clear hcz6_0;try clear hcz6_1;try clear hcz6_2;try clear hcz6_3;try clear hcz6_4;try clear hcz6_5;try clear hcz8_0;try clear hcz8_1;try clear hcz8_2;try clear hcz8_3;try clear hcz8_4;try clear hcz8_5;try clear hfz10_0;try clear hfz10_1;try clear hfz10_2;try clear hfz10_3;try clear hfz10_4;try clear hfz10_5;try clear hfz11_0;try clear hfz11_1;try clear hfz11_2;try clear hfz11_3;try clear hfz11_4;try clear hfz11_5;try clear hfz6_0;try clear hfz6_1;try clear hfz6_2;try clear hfz6_3;try clear hfz6_4;try clear hfz6_5;try clear hfz8_0;try clear hfz8_1;try clear hfz8_2;try clear hfz8_3;try clear hfz8_4;try clear hfz8_5
  obtain ⟨kq, x24_2, rfl, HA, HJ2, BK273, HB⟩ := hcut
  cases kq with
 |zero => exact absurd HA.out (by simp [impl_nodeRight.j0])
 |succ kj2 =>
   have H := HA.out
   clear HA
   simp only [impl_nodeRight.j0] at H
   by_cases c12 : x24_2 = true
   ·subst c12
    have H1 : (some false) = some r := by rw [if_pos rfl] at H;exact H
    clear H
    have H := H1
    clear H1
    obtain rfl := Option.some.inj H
    go_wp2
    go_ret
    exact ⟨by first|rfl|(simp [errW_none, errW_some] <;> rfl)|(simp [*, errW_none, errW_some] <;> rfl), by repeat (first|exact HB.out|apply below_alloc|apply pw_below_drewN|apply below_drew1|refine below_set ?_ GE273.out)⟩
   ·replace c12 := Bool.eq_false_iff.mpr c12
    subst c12
    have H1 : (if a0_1 = 1 then (if a0_2.toList = ([] : List UInt8) then (if (l0_3.length : Int) = 0 then (some (a0_4.toList == ([] : List UInt8))) else (some false)) else (some false)) else (if a0_1 = 2 then (if a0_2.toList = ([] : List UInt8) then (some false) else (if a0_4.toList = ([] : List UInt8) then ((impl_attrsRight.f kj2 l0_3).bind fun t274 => (some t274)) else (some false))) else (if a0_1 = 3 then (if a0_4.toList = ([] : List UInt8) then (some false) else (if a0_2.toList = ([] : List UInt8) then (if (l0_3.length : Int) = 0 then (some (a0_5 == 0)) else (some false)) else (some false))) else (if a0_1 = 4 then (if a0_2.toList = ([] : List UInt8) then (if (l0_3.length : Int) = 0 then (some (a0_5 == 0)) else (some false)) else (some false)) else (if a0_1 = 5 then (if a0_4.toList = ([] : List UInt8) then (if (l0_3.length : Int) = 0 then (some (a0_5 == 0)) else (some false)) else (some false)) else (some false)))))) = some r := by rw [if_neg (show ¬ (false = true) by decide)] at H;exact H
    clear H
    have H := H1
    clear H1
    by_cases c13 : a0_1 = 1
    ·rw [if_pos c13] at H
     have c13b0 : (a0_1 == 1) = true := beq_iff_eq.mpr c13
     have c13b1 : (a0_1 != 1) = false := bne_eq_false_iff_eq.mpr c13
     clear c13
     by_cases c14 : a0_2.toList = ([] : List UInt8)
     ·rw [if_pos c14] at H
      have c14b0 : (a0_2.toList == ([] : List UInt8)) = true := beq_iff_eq.mpr c14
      have c14b1 : (a0_2.toList != ([] : List UInt8)) = false := bne_eq_false_iff_eq.mpr c14
      clear c14
      by_cases c15 : (l0_3.length : Int) = 0
      ·rw [if_pos c15] at H
       have c15b0 : ((l0_3.length : Int) == 0) = true := beq_iff_eq.mpr c15
       have c15b1 : ((l0_3.length : Int) != 0) = false := bne_eq_false_iff_eq.mpr c15
       clear c15
       obtain rfl := Option.some.inj H
       obtain ⟨hcz16_0,hcz16_1,hcz16_2,hcz16_3,hcz16_4,hcz16_5,hfz16_0,hfz16_1,hfz16_2,hfz16_3,hfz16_4,hfz16_5⟩ := blkf6 BK273.out
       go_wp2
       go_ret
       exact ⟨by first|rfl|(simp [errW_none, errW_some] <;> rfl)|(simp [*, errW_none, errW_some] <;> rfl), by repeat (first|exact HB.out|apply below_alloc|apply pw_below_drewN|apply below_drew1|refine below_set ?_ GE273.out)⟩
      ·rw [if_neg c15] at H
       have c15b0 : ((l0_3.length : Int) == 0) = false := beq_eq_false_iff_ne.mpr c15
       have c15b1 : ((l0_3.length : Int) != 0) = true := bne_iff_ne.mpr c15
       have c15b2 : ¬ (l0_3 = []) := fun h_ => c15 (by rw [h_];rfl)
       obtain rfl := Option.some.inj H
       obtain ⟨hcz17_0,hcz17_1,hcz17_2,hcz17_3,hcz17_4,hcz17_5,hfz17_0,hfz17_1,hfz17_2,hfz17_3,hfz17_4,hfz17_5⟩ := blkf6 BK273.out
       go_wp2
       go_ret
       exact ⟨by first|rfl|(simp [errW_none, errW_some] <;> rfl)|(simp [*, errW_none, errW_some] <;> rfl), by repeat (first|exact HB.out|apply below_alloc|apply pw_below_drewN|apply below_drew1|refine below_set ?_ GE273.out)⟩
     ·rw [if_neg c14] at H
      have c14b0 : (a0_2.toList == ([] : List UInt8)) = false := beq_eq_false_iff_ne.mpr c14
      have c14b1 : (a0_2.toList != ([] : List UInt8)) = true := bne_iff_ne.mpr c14
      obtain rfl := Option.some.inj H
      obtain ⟨hcz18_0,hcz18_1,hcz18_2,hcz18_3,hcz18_4,hcz18_5,hfz18_0,hfz18_1,hfz18_2,hfz18_3,hfz18_4,hfz18_5⟩ := blkf6 BK273.out
      go_wp2
      go_ret
      exact ⟨by first|rfl|(simp [errW_none, errW_some] <;> rfl)|(simp [*, errW_none, errW_some] <;> rfl), by repeat (first|exact HB.out|apply below_alloc|apply pw_below_drewN|apply below_drew1|refine below_set ?_ GE273.out)⟩
    ·rw [if_neg c13] at H
     have c13b0 : (a0_1 == 1) = false := beq_eq_false_iff_ne.mpr c13
     have c13b1 : (a0_1 != 1) = true := bne_iff_ne.mpr c13
     by_cases c19 : a0_1 = 2
     ·rw [if_pos c19] at H
      have c19b0 : (a0_1 == 2) = true := beq_iff_eq.mpr c19
      have c19b1 : (a0_1 != 2) = false := bne_eq_false_iff_eq.mpr c19
      clear c19
      by_cases c20 : a0_2.toList = ([] : List UInt8)
      ·rw [if_pos c20] at H
       have c20b0 : (a0_2.toList == ([] : List UInt8)) = true := beq_iff_eq.mpr c20
       have c20b1 : (a0_2.toList != ([] : List UInt8)) = false := bne_eq_false_iff_eq.mpr c20
       clear c20
       obtain rfl := Option.some.inj H
       obtain ⟨hcz21_0,hcz21_1,hcz21_2,hcz21_3,hcz21_4,hcz21_5,hfz21_0,hfz21_1,hfz21_2,hfz21_3,hfz21_4,hfz21_5⟩ := blkf6 BK273.out
       go_wp2
       go_ret
       exact ⟨by first|rfl|(simp [errW_none, errW_some] <;> rfl)|(simp [*, errW_none, errW_some] <;> rfl), by repeat (first|exact HB.out|apply below_alloc|apply pw_below_drewN|apply below_drew1|refine below_set ?_ GE273.out)⟩
      ·rw [if_neg c20] at H
       have c20b0 : (a0_2.toList == ([] : List UInt8)) = false := beq_eq_false_iff_ne.mpr c20
       have c20b1 : (a0_2.toList != ([] : List UInt8)) = true := bne_iff_ne.mpr c20
       by_cases c22 : a0_4.toList = ([] : List UInt8)
       ·rw [if_pos c22] at H
        have c22b0 : (a0_4.toList == ([] : List UInt8)) = true := beq_iff_eq.mpr c22
        have c22b1 : (a0_4.toList != ([] : List UInt8)) = false := bne_eq_false_iff_eq.mpr c22
        clear c22
        replace H := Option.bind_eq_some_iff.mp H
        obtain ⟨t274, A230, H⟩ := H
        replace H : (some t274) = some r := H
        have A23 := Aside0.mk A230
        clear A230
        obtain rfl := Option.some.inj H
        obtain ⟨hcz24_0,hcz24_1,hcz24_2,hcz24_3,hcz24_4,hcz24_5,hfz24_0,hfz24_1,hfz24_2,hfz24_3,hfz24_4,hfz24_5⟩ := blkf6 BK273.out
        go_wp2_with (first|(go_at_call 44;(with_reducible refine (impl_attrsRight.calls kj2 _ _ l0_3 t274 _ ?side1 ?side2 A23.out).mono ?_);(case side1 => repeat (first|exact (Kd.C_below HR0_3.out HB.out)|(with_reducible refine Kd.C_alloc ?_ _)|(with_reducible refine Kd.C_drewN ?_ _)|(with_reducible refine Kd.C_drew ?_)));(case side2 => exact HC0_3.out);rintro e w25 ⟨rfl, hb⟩;have n0_ := Aside0.mk (blk_below (g := gb273) (o := .cells #[.int .i64 a0_0, .int .i64 a0_1, .string a0_2, .slice A0_3 l0_3.length c0_3, .string a0_4, .int .i64 a0_5] 59 (0, 0)) (by (with_reducible repeat (first|refine blk_drewN ?_ _|refine blk_drew ?_|refine blk_alloc ?_ _));exact BK273.out) hb);have n1_ := Aside0.mk (below_step (by repeat (first|exact HB.out|apply below_alloc|apply pw_below_drewN|apply below_drew1|refine below_set ?_ GE273.out)) hb);clear BK273;clear HB;have BK273 := n0_;have HB := n1_;clear n0_ n1_;(try clear hb);(try clear hb2);(try clear hk);(try clear hi)))
        go_ret
        exact ⟨by first|rfl|(simp [errW_none, errW_some] <;> rfl)|(simp [*, errW_none, errW_some] <;> rfl), by repeat (first|exact HB.out|apply below_alloc|apply pw_below_drewN|apply below_drew1|refine below_set ?_ GE273.out)⟩
       ·rw [if_neg c22] at H
        have c22b0 : (a0_4.toList == ([] : List UInt8)) = false := beq_eq_false_iff_ne.mpr c22
        have c22b1 : (a0_4.toList != ([] : List UInt8)) = true := bne_iff_ne.mpr c22
        obtain rfl := Option.some.inj H
        obtain ⟨hcz26_0,hcz26_1,hcz26_2,hcz26_3,hcz26_4,hcz26_5,hfz26_0,hfz26_1,hfz26_2,hfz26_3,hfz26_4,hfz26_5⟩ := blkf6 BK273.out
        go_wp2
        go_ret
        exact ⟨by first|rfl|(simp [errW_none, errW_some] <;> rfl)|(simp [*, errW_none, errW_some] <;> rfl), by repeat (first|exact HB.out|apply below_alloc|apply pw_below_drewN|apply below_drew1|refine below_set ?_ GE273.out)⟩
     ·rw [if_neg c19] at H
      have c19b0 : (a0_1 == 2) = false := beq_eq_false_iff_ne.mpr c19
      have c19b1 : (a0_1 != 2) = true := bne_iff_ne.mpr c19
      by_cases c27 : a0_1 = 3
      ·rw [if_pos c27] at H
       have c27b0 : (a0_1 == 3) = true := beq_iff_eq.mpr c27
       have c27b1 : (a0_1 != 3) = false := bne_eq_false_iff_eq.mpr c27
       clear c27
       by_cases c28 : a0_4.toList = ([] : List UInt8)
       ·rw [if_pos c28] at H
        have c28b0 : (a0_4.toList == ([] : List UInt8)) = true := beq_iff_eq.mpr c28
        have c28b1 : (a0_4.toList != ([] : List UInt8)) = false := bne_eq_false_iff_eq.mpr c28
        clear c28
        obtain rfl := Option.some.inj H
        obtain ⟨hcz29_0,hcz29_1,hcz29_2,hcz29_3,hcz29_4,hcz29_5,hfz29_0,hfz29_1,hfz29_2,hfz29_3,hfz29_4,hfz29_5⟩ := blkf6 BK273.out
        go_wp2
        go_ret
        exact ⟨by first|rfl|(simp [errW_none, errW_some] <;> rfl)|(simp [*, errW_none, errW_some] <;> rfl), by repeat (first|exact HB.out|apply below_alloc|apply pw_below_drewN|apply below_drew1|refine below_set ?_ GE273.out)⟩
       ·rw [if_neg c28] at H
        have c28b0 : (a0_4.toList == ([] : List UInt8)) = false := beq_eq_false_iff_ne.mpr c28
        have c28b1 : (a0_4.toList != ([] : List UInt8)) = true := bne_iff_ne.mpr c28
        by_cases c30 : a0_2.toList = ([] : List UInt8)
        ·rw [if_pos c30] at H
         have c30b0 : (a0_2.toList == ([] : List UInt8)) = true := beq_iff_eq.mpr c30
         have c30b1 : (a0_2.toList != ([] : List UInt8)) = false := bne_eq_false_iff_eq.mpr c30
         clear c30
         by_cases c31 : (l0_3.length : Int) = 0
         ·rw [if_pos c31] at H
          have c31b0 : ((l0_3.length : Int) == 0) = true := beq_iff_eq.mpr c31
          have c31b1 : ((l0_3.length : Int) != 0) = false := bne_eq_false_iff_eq.mpr c31
          clear c31
          obtain rfl := Option.some.inj H
          obtain ⟨hcz32_0,hcz32_1,hcz32_2,hcz32_3,hcz32_4,hcz32_5,hfz32_0,hfz32_1,hfz32_2,hfz32_3,hfz32_4,hfz32_5⟩ := blkf6 BK273.out
          go_wp2
          go_ret
          exact ⟨by first|rfl|(simp [errW_none, errW_some] <;> rfl)|(simp [*, errW_none, errW_some] <;> rfl), by repeat (first|exact HB.out|apply below_alloc|apply pw_below_drewN|apply below_drew1|refine below_set ?_ GE273.out)⟩
         ·rw [if_neg c31] at H
          have c31b0 : ((l0_3.length : Int) == 0) = false := beq_eq_false_iff_ne.mpr c31
          have c31b1 : ((l0_3.length : Int) != 0) = true := bne_iff_ne.mpr c31
          have c31b2 : ¬ (l0_3 = []) := fun h_ => c31 (by rw [h_];rfl)
          obtain rfl := Option.some.inj H
          obtain ⟨hcz33_0,hcz33_1,hcz33_2,hcz33_3,hcz33_4,hcz33_5,hfz33_0,hfz33_1,hfz33_2,hfz33_3,hfz33_4,hfz33_5⟩ := blkf6 BK273.out
          go_wp2
          go_ret
          exact ⟨by first|rfl|(simp [errW_none, errW_some] <;> rfl)|(simp [*, errW_none, errW_some] <;> rfl), by repeat (first|exact HB.out|apply below_alloc|apply pw_below_drewN|apply below_drew1|refine below_set ?_ GE273.out)⟩
        ·rw [if_neg c30] at H
         have c30b0 : (a0_2.toList == ([] : List UInt8)) = false := beq_eq_false_iff_ne.mpr c30
         have c30b1 : (a0_2.toList != ([] : List UInt8)) = true := bne_iff_ne.mpr c30
         obtain rfl := Option.some.inj H
         obtain ⟨hcz34_0,hcz34_1,hcz34_2,hcz34_3,hcz34_4,hcz34_5,hfz34_0,hfz34_1,hfz34_2,hfz34_3,hfz34_4,hfz34_5⟩ := blkf6 BK273.out
         go_wp2
         go_ret
         exact ⟨by first|rfl|(simp [errW_none, errW_some] <;> rfl)|(simp [*, errW_none, errW_some] <;> rfl), by repeat (first|exact HB.out|apply below_alloc|apply pw_below_drewN|apply below_drew1|refine below_set ?_ GE273.out)⟩
      ·rw [if_neg c27] at H
       have c27b0 : (a0_1 == 3) = false := beq_eq_false_iff_ne.mpr c27
       have c27b1 : (a0_1 != 3) = true := bne_iff_ne.mpr c27
       by_cases c35 : a0_1 = 4
       ·rw [if_pos c35] at H
        have c35b0 : (a0_1 == 4) = true := beq_iff_eq.mpr c35
        have c35b1 : (a0_1 != 4) = false := bne_eq_false_iff_eq.mpr c35
        clear c35
        by_cases c36 : a0_2.toList = ([] : List UInt8)
        ·rw [if_pos c36] at H
         have c36b0 : (a0_2.toList == ([] : List UInt8)) = true := beq_iff_eq.mpr c36
         have c36b1 : (a0_2.toList != ([] : List UInt8)) = false := bne_eq_false_iff_eq.mpr c36
         clear c36
         by_cases c37 : (l0_3.length : Int) = 0
         ·rw [if_pos c37] at H
          have c37b0 : ((l0_3.length : Int) == 0) = true := beq_iff_eq.mpr c37
          have c37b1 : ((l0_3.length : Int) != 0) = false := bne_eq_false_iff_eq.mpr c37
          clear c37
          obtain rfl := Option.some.inj H
          obtain ⟨hcz38_0,hcz38_1,hcz38_2,hcz38_3,hcz38_4,hcz38_5,hfz38_0,hfz38_1,hfz38_2,hfz38_3,hfz38_4,hfz38_5⟩ := blkf6 BK273.out
          go_wp2
          go_ret
          exact ⟨by first|rfl|(simp [errW_none, errW_some] <;> rfl)|(simp [*, errW_none, errW_some] <;> rfl), by repeat (first|exact HB.out|apply below_alloc|apply pw_below_drewN|apply below_drew1|refine below_set ?_ GE273.out)⟩
         ·rw [if_neg c37] at H
          have c37b0 : ((l0_3.length : Int) == 0) = false := beq_eq_false_iff_ne.mpr c37
          have c37b1 : ((l0_3.length : Int) != 0) = true := bne_iff_ne.mpr c37
          have c37b2 : ¬ (l0_3 = []) := fun h_ => c37 (by rw [h_];rfl)
          obtain rfl := Option.some.inj H
          obtain ⟨hcz39_0,hcz39_1,hcz39_2,hcz39_3,hcz39_4,hcz39_5,hfz39_0,hfz39_1,hfz39_2,hfz39_3,hfz39_4,hfz39_5⟩ := blkf6 BK273.out
          go_wp2
          go_ret
          exact ⟨by first|rfl|(simp [errW_none, errW_some] <;> rfl)|(simp [*, errW_none, errW_some] <;> rfl), by repeat (first|exact HB.out|apply below_alloc|apply pw_below_drewN|apply below_drew1|refine below_set ?_ GE273.out)⟩
        ·rw [if_neg c36] at H
         have c36b0 : (a0_2.toList == ([] : List UInt8)) = false := beq_eq_false_iff_ne.mpr c36
         have c36b1 : (a0_2.toList != ([] : List UInt8)) = true := bne_iff_ne.mpr c36
         obtain rfl := Option.some.inj H
         obtain ⟨hcz40_0,hcz40_1,hcz40_2,hcz40_3,hcz40_4,hcz40_5,hfz40_0,hfz40_1,hfz40_2,hfz40_3,hfz40_4,hfz40_5⟩ := blkf6 BK273.out
         go_wp2
         go_ret
         exact ⟨by first|rfl|(simp [errW_none, errW_some] <;> rfl)|(simp [*, errW_none, errW_some] <;> rfl), by repeat (first|exact HB.out|apply below_alloc|apply pw_below_drewN|apply below_drew1|refine below_set ?_ GE273.out)⟩
       ·rw [if_neg c35] at H
        have c35b0 : (a0_1 == 4) = false := beq_eq_false_iff_ne.mpr c35
        have c35b1 : (a0_1 != 4) = true := bne_iff_ne.mpr c35
        by_cases c41 : a0_1 = 5
        ·rw [if_pos c41] at H
         have c41b0 : (a0_1 == 5) = true := beq_iff_eq.mpr c41
         have c41b1 : (a0_1 != 5) = false := bne_eq_false_iff_eq.mpr c41
         clear c41
         by_cases c42 : a0_4.toList = ([] : List UInt8)
         ·rw [if_pos c42] at H
          have c42b0 : (a0_4.toList == ([] : List UInt8)) = true := beq_iff_eq.mpr c42
          have c42b1 : (a0_4.toList != ([] : List UInt8)) = false := bne_eq_false_iff_eq.mpr c42
          clear c42
          by_cases c43 : (l0_3.length : Int) = 0
          ·rw [if_pos c43] at H
           have c43b0 : ((l0_3.length : Int) == 0) = true := beq_iff_eq.mpr c43
           have c43b1 : ((l0_3.length : Int) != 0) = false := bne_eq_false_iff_eq.mpr c43
           clear c43
           obtain rfl := Option.some.inj H
           obtain ⟨hcz44_0,hcz44_1,hcz44_2,hcz44_3,hcz44_4,hcz44_5,hfz44_0,hfz44_1,hfz44_2,hfz44_3,hfz44_4,hfz44_5⟩ := blkf6 BK273.out
           go_wp2
           go_ret
           exact ⟨by first|rfl|(simp [errW_none, errW_some] <;> rfl)|(simp [*, errW_none, errW_some] <;> rfl), by repeat (first|exact HB.out|apply below_alloc|apply pw_below_drewN|apply below_drew1|refine below_set ?_ GE273.out)⟩
          ·rw [if_neg c43] at H
           have c43b0 : ((l0_3.length : Int) == 0) = false := beq_eq_false_iff_ne.mpr c43
           have c43b1 : ((l0_3.length : Int) != 0) = true := bne_iff_ne.mpr c43
           have c43b2 : ¬ (l0_3 = []) := fun h_ => c43 (by rw [h_];rfl)
           obtain rfl := Option.some.inj H
           obtain ⟨hcz45_0,hcz45_1,hcz45_2,hcz45_3,hcz45_4,hcz45_5,hfz45_0,hfz45_1,hfz45_2,hfz45_3,hfz45_4,hfz45_5⟩ := blkf6 BK273.out
           go_wp2
           go_ret
           exact ⟨by first|rfl|(simp [errW_none, errW_some] <;> rfl)|(simp [*, errW_none, errW_some] <;> rfl), by repeat (first|exact HB.out|apply below_alloc|apply pw_below_drewN|apply below_drew1|refine below_set ?_ GE273.out)⟩
         ·rw [if_neg c42] at H
          have c42b0 : (a0_4.toList == ([] : List UInt8)) = false := beq_eq_false_iff_ne.mpr c42
          have c42b1 : (a0_4.toList != ([] : List UInt8)) = true := bne_iff_ne.mpr c42
          obtain rfl := Option.some.inj H
          obtain ⟨hcz46_0,hcz46_1,hcz46_2,hcz46_3,hcz46_4,hcz46_5,hfz46_0,hfz46_1,hfz46_2,hfz46_3,hfz46_4,hfz46_5⟩ := blkf6 BK273.out
          go_wp2
          go_ret
          exact ⟨by first|rfl|(simp [errW_none, errW_some] <;> rfl)|(simp [*, errW_none, errW_some] <;> rfl), by repeat (first|exact HB.out|apply below_alloc|apply pw_below_drewN|apply below_drew1|refine below_set ?_ GE273.out)⟩
        ·rw [if_neg c41] at H
         have c41b0 : (a0_1 == 5) = false := beq_eq_false_iff_ne.mpr c41
         have c41b1 : (a0_1 != 5) = true := bne_iff_ne.mpr c41
         obtain rfl := Option.some.inj H
         obtain ⟨hcz47_0,hcz47_1,hcz47_2,hcz47_3,hcz47_4,hcz47_5,hfz47_0,hfz47_1,hfz47_2,hfz47_3,hfz47_4,hfz47_5⟩ := blkf6 BK273.out
         go_wp2
         go_ret
         exact ⟨by first|rfl|(simp [errW_none, errW_some] <;> rfl)|(simp [*, errW_none, errW_some] <;> rfl), by repeat (first|exact HB.out|apply below_alloc|apply pw_below_drewN|apply below_drew1|refine below_set ?_ GE273.out)⟩

end Go.Proofs.Ytbogfagafdokeaa.QFnExactSpotLess
