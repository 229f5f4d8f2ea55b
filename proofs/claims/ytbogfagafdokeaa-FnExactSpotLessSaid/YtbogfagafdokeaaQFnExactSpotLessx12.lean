/- Written by a program (wip/tools/own_print.py) out of the walk that the kit's printer made; turned where it fell. -/
-- PRINTED by print.py (a twelfth state) out of the translation. Not trusted: Lean checks it.
import Derived.Test.YtbogfagafdokeaaQFnExactSpotLessx0
import Derived.Test.YtbogfagafdokeaaQFnExactSpotLessx11
namespace Go.Proofs.Ytbogfagafdokeaa.QFnExactSpotLess
open Go.RowKit Go.Proofs.YtbogfagafdokeaaV.PrintWords Go.Proofs.YtbogfagafdokeaaV.PrintLast Go.Proofs.YtbogfagafdokeaaV.PrintMore
attribute [local go_sem] max2_int min2_int max_two min_two max_three min_three max_four min_four   -- for this text's walks alone
set_option linter.unusedVariables false
set_option linter.unusedSimpArgs false

/-! ### laws_eqNodeS: function 22 -/
def laws_eqNodeS.l0 : Nat → List (S59) → List (S59) → Int → Option (Bool)
  | 0, _, _, _ => none
  | k + 1, x0, x1, x5 => if x5 < (x0.length : Int) then (if 0 ≤ x5 then (if x5 < (x1.length : Int) then ((laws_eqNode.f k ((rd_T59 x0 x5).f0) ((rd_T59 x0 x5).f1) ((rd_T59 x0 x5).f2) ((rd_T59 x0 x5).f3) ((rd_T59 x0 x5).f4) ((rd_T59 x0 x5).f5) ((rd_T59 x1 x5).f0) ((rd_T59 x1 x5).f1) ((rd_T59 x1 x5).f2) ((rd_T59 x1 x5).f3) ((rd_T59 x1 x5).f4) ((rd_T59 x1 x5).f5)).bind fun t320 => (if t320 = true then (laws_eqNodeS.l0 k x0 x1 (wrap64 (x5 + 1))) else (none))) else (none)) else (none)) else (some true)
def laws_eqNodeS.f (k : Nat) (l0 : List (S59)) (l1 : List (S59)) : Option (Bool) := if (l0.length : Int) = (l1.length : Int) then (laws_eqNodeS.l0 k l0 l1 0) else (none)
theorem laws_eqNodeS.mono_l : ∀ k, (∀ y0 y1 y2, LeO (laws_eqNodeS.l0 k y0 y1 y2) (laws_eqNodeS.l0 (k + 1) y0 y1 y2))
 | 0 => fun _ _ _ r h => by simp [laws_eqNodeS.l0] at h
 | k + 1 => by
  have ih0 := laws_eqNodeS.mono_l k
  ·intro y0 y1 y2
   unfold laws_eqNodeS.l0
   repeat' first
  |(with_reducible exact ih0 _ _ _)
  |(with_reducible exact laws_eqNode.mono _ _ _ _ _ _ _ _ _ _ _ _ _)
  |(with_reducible exact LeO.refl _)
  |(with_reducible exact LeO.none _)
  |(with_reducible refine LeO.ite ?_ ?_)
  |(with_reducible refine LeO.bind ?_ (fun _ => ?_))
  |exact ih0 _ _ _
  |exact laws_eqNode.mono _ _ _ _ _ _ _ _ _ _ _ _ _
  |exact LeO.none _
  |refine LeO.ite ?_ ?_
  |refine LeO.bind ?_ (fun _ => ?_)
theorem laws_eqNodeS.mono : ∀ a0 a1 k, LeO (laws_eqNodeS.f k a0 a1) (laws_eqNodeS.f (k + 1) a0 a1) := by
 intro a0 a1 k
 have ih0 := laws_eqNodeS.mono_l k
 unfold laws_eqNodeS.f
 repeat' first
  |(with_reducible exact ih0 _ _ _)
  |(with_reducible exact laws_eqNode.mono _ _ _ _ _ _ _ _ _ _ _ _ _)
  |(with_reducible exact LeO.refl _)
  |(with_reducible exact LeO.none _)
  |(with_reducible refine LeO.ite ?_ ?_)
  |(with_reducible refine LeO.bind ?_ (fun _ => ?_))
  |exact ih0 _ _ _
  |exact laws_eqNode.mono _ _ _ _ _ _ _ _ _ _ _ _ _
  |exact LeO.none _
  |refine LeO.ite ?_ ?_
  |refine LeO.bind ?_ (fun _ => ?_)
def laws_eqNodeS.T6 : Bool × List (List Nat × List Nat) := (true, [([], []), ([], []), ([0, 1], [0, 1]), ([2], [2]), ([], []), ([], []), ([4, 5], [4, 5]), ([6], [6]), ([3, 7], [3, 7]), ([8], [8])])
def laws_eqNodeS.B6 : List Nat := [0, 0, 3, 7, 0, 0, 48, 112, 255, 511]
theorem laws_eqNodeS.tab6 : rtab .any (opsOf Try.f22 6) = laws_eqNodeS.T6 := by kernel_rfl
theorem laws_eqNodeS.bits6 : waitsOk laws_eqNodeS.T6.2 laws_eqNodeS.B6 = true := by kernel_rfl
set_option maxHeartbeats 8000000 in
set_option maxRecDepth 100000 in
theorem laws_eqNodeS.calls (k : Nat) (A0 : Option Addr) (c0 : Nat) (l0 : List (S59)) (A1 : Option Addr) (c1 : Nat) (l1 : List (S59)) (r : Bool) (w : World) (hr0 : Kd.C k59 w A0 l0.length l0) (hc0 : l0.length ≤ c0) (hr1 : Kd.C k59 w A1 l1.length l1) (hc1 : l1.length ≤ c1) (h : laws_eqNodeS.f k l0 l1 = some r) :
  Calls Try.prog 22 #[.slice A0 l0.length c0, .slice A1 l1.length c1] w fun e w' => e = .returned (.bool r) ∧ Below w.heap.size w w' := by
 have hu59 := Try.underlying59
 have HR0 := Aside0.mk hr0
 have HC0 := Aside0.mk hc0
 clear hr0 hc0
 have HR1 := Aside0.mk hr1
 have HC1 := Aside0.mk hc1
 clear hr1 hc1
 have HB := Aside0.mk (Below.refl w.heap.size w)
 have H : (if (l0.length : Int) = (l1.length : Int) then (laws_eqNodeS.l0 k l0 l1 0) else (none)) = some r := h
 clear h
 by_cases c3 : (l0.length : Int) = (l1.length : Int)
 ·rw [if_pos c3] at H
  have c3b0 : ((l0.length : Int) == (l1.length : Int)) = true := beq_iff_eq.mpr c3
  have c3b1 : ((l0.length : Int) != (l1.length : Int)) = false := bne_eq_false_iff_eq.mpr c3
  have c3b2 : (l0.length == l1.length) = true := by first|simpa using c3|(simp at c3 ⊢;omega)
  clear c3
  have H' := Aside0.mk H
  clear H
  go_enter Try.func22, Try.ntmps22
  go_wp2
  go_loopg [5] k (fun kq v5 w' => ∃ (x5_1 : Int), v5 = .int .i64 x5_1 ∧ Aside0 (laws_eqNodeS.l0 kq l0 l1 x5_1 = some r) ∧ Aside0 (kq ≤ k) ∧ Aside0 (Below w.heap.size w w'))
  case atStart => exact ⟨(0),(by first|rfl|(simp;done)|(simp [*];done)), H', ⟨Nat.le_refl _⟩,⟨by repeat (first|(with_reducible first|exact HB.out|apply below_alloc|apply pw_below_drewN|apply below_drew1)|exact HB.out)⟩⟩
  case round =>
   clear H'
   try clear c1;try clear c2;try clear p2;try clear c3;try clear c3b0;try clear c3b1;try clear c3b2
   obtain ⟨x5_1, rfl, HA, HK1, HB⟩ := hrel
   cases gk with
  |zero => exact absurd HA.out (by simp [laws_eqNodeS.l0])
  |succ k1 =>
    have H := HA.out
    clear HA
    simp only [laws_eqNodeS.l0] at H
    by_cases c4 : x5_1 < (l0.length : Int)
    ·rw [if_pos c4] at H
     have c4b0 : decide (x5_1 < (l0.length : Int)) = true := decide_eq_true c4
     clear c4
     by_cases c5 : 0 ≤ x5_1
     ·rw [if_pos c5] at H
      have c5b0 : decide (0 ≤ x5_1) = true := decide_eq_true c5
      clear c5
      by_cases c6 : x5_1 < (l1.length : Int)
      ·rw [if_pos c6] at H
       have c6b0 : decide (x5_1 < (l1.length : Int)) = true := decide_eq_true c6
       clear c6
       replace H := Option.bind_eq_some_iff.mp H
       obtain ⟨t320, A70, H⟩ := H
       replace H : (if t320 = true then (laws_eqNodeS.l0 k1 l0 l1 (wrap64 (x5_1 + 1))) else (none)) = some r := H
       have A7 := Aside0.mk A70
       clear A70
       by_cases c8 : t320 = true
       ·subst c8
        have H1 : (laws_eqNodeS.l0 k1 l0 l1 (wrap64 (x5_1 + 1))) = some r := by rw [if_pos rfl] at H;exact H
        clear H
        have H := H1
        clear H1
        have H' := Aside0.mk H
        clear H
        try go_wp2
        have n0_ := Aside0.mk (below_drew1 HB.out)
        clear HB
        have HB := n0_
        clear n0_
        have p318 : 0 ≤ (x5_1 : Int) := of_decide_eq_true (by first|(with_reducible assumption)|assumption)
        have q318 : x5_1 < (l0.length : Int) := of_decide_eq_true (by first|(with_reducible assumption)|assumption)
        obtain ⟨ad318, A318_3, c318_3, e318, hx318_0, hx318_1, hx318_2, hx318_3, hx318_4, hx318_5, hl318_3, hi318_3⟩ := at_T59 HR0.out x5_1 p318 q318
        have hw318_5 := hx318_5
        have hw318_4 := hx318_4
        have hw318_3 := hx318_3
        have hw318_2 := hx318_2
        have hw318_1 := hx318_1
        have hw318_0 := hx318_0
        cases e318
        replace hx318_0 := pw_cell_below HB.out hx318_0
        replace hx318_1 := pw_cell_below HB.out hx318_1
        replace hx318_2 := pw_cell_below HB.out hx318_2
        replace hx318_3 := pw_cell_below HB.out hx318_3
        replace hx318_4 := pw_cell_below HB.out hx318_4
        replace hx318_5 := pw_cell_below HB.out hx318_5
        have HR318_3 := Aside0.mk hi318_3
        have HC318_3 := Aside0.mk hl318_3
        clear hi318_3 hl318_3
        replace p318 := eq_true p318
        replace q318 := eq_true q318
        have p319 : 0 ≤ (x5_1 : Int) := of_decide_eq_true (by first|(with_reducible assumption)|assumption)
        have q319 : x5_1 < (l1.length : Int) := of_decide_eq_true (by first|(with_reducible assumption)|assumption)
        obtain ⟨ad319, A319_3, c319_3, e319, hx319_0, hx319_1, hx319_2, hx319_3, hx319_4, hx319_5, hl319_3, hi319_3⟩ := at_T59 HR1.out x5_1 p319 q319
        have hw319_5 := hx319_5
        have hw319_4 := hx319_4
        have hw319_3 := hx319_3
        have hw319_2 := hx319_2
        have hw319_1 := hx319_1
        have hw319_0 := hx319_0
        cases e319
        replace hx319_0 := pw_cell_below HB.out hx319_0
        replace hx319_1 := pw_cell_below HB.out hx319_1
        replace hx319_2 := pw_cell_below HB.out hx319_2
        replace hx319_3 := pw_cell_below HB.out hx319_3
        replace hx319_4 := pw_cell_below HB.out hx319_4
        replace hx319_5 := pw_cell_below HB.out hx319_5
        have HR319_3 := Aside0.mk hi319_3
        have HC319_3 := Aside0.mk hl319_3
        clear hi319_3 hl319_3
        replace p319 := eq_true p319
        replace q319 := eq_true q319
        refine start_ (n := 10) (S := fun w' => w'.cell? (ad318.add ((x5_1).toNat * 6)) = some (.int .i64 ((rd_T59 l0 x5_1).f0)) ∧ w'.cell? ⟨(ad318.add ((x5_1).toNat * 6)).block, (ad318.add ((x5_1).toNat * 6)).off + 1, none⟩ = some (.int .i64 ((rd_T59 l0 x5_1).f1)) ∧ w'.cell? ⟨(ad318.add ((x5_1).toNat * 6)).block, (ad318.add ((x5_1).toNat * 6)).off + 2, none⟩ = some (.string ((rd_T59 l0 x5_1).f2)) ∧ w'.cell? ⟨(ad318.add ((x5_1).toNat * 6)).block, (ad318.add ((x5_1).toNat * 6)).off + 3, none⟩ = some (.slice A318_3 ((rd_T59 l0 x5_1).f3).length c318_3) ∧ w'.cell? ⟨(ad318.add ((x5_1).toNat * 6)).block, (ad318.add ((x5_1).toNat * 6)).off + 4, none⟩ = some (.string ((rd_T59 l0 x5_1).f4)) ∧ w'.cell? ⟨(ad318.add ((x5_1).toNat * 6)).block, (ad318.add ((x5_1).toNat * 6)).off + 5, none⟩ = some (.int .i64 ((rd_T59 l0 x5_1).f5)) ∧ w'.cell? (ad319.add ((x5_1).toNat * 6)) = some (.int .i64 ((rd_T59 l1 x5_1).f0)) ∧ w'.cell? ⟨(ad319.add ((x5_1).toNat * 6)).block, (ad319.add ((x5_1).toNat * 6)).off + 1, none⟩ = some (.int .i64 ((rd_T59 l1 x5_1).f1)) ∧ w'.cell? ⟨(ad319.add ((x5_1).toNat * 6)).block, (ad319.add ((x5_1).toNat * 6)).off + 2, none⟩ = some (.string ((rd_T59 l1 x5_1).f2)) ∧ w'.cell? ⟨(ad319.add ((x5_1).toNat * 6)).block, (ad319.add ((x5_1).toNat * 6)).off + 3, none⟩ = some (.slice A319_3 ((rd_T59 l1 x5_1).f3).length c319_3) ∧ w'.cell? ⟨(ad319.add ((x5_1).toNat * 6)).block, (ad319.add ((x5_1).toNat * 6)).off + 4, none⟩ = some (.string ((rd_T59 l1 x5_1).f4)) ∧ w'.cell? ⟨(ad319.add ((x5_1).toNat * 6)).block, (ad319.add ((x5_1).toNat * 6)).off + 5, none⟩ = some (.int .i64 ((rd_T59 l1 x5_1).f5))) (ds := []) #[false, false, false, false, false, false, false, false, false, false] (by kernel_rfl) rfl rfl ⟨((HB.out.cell (World.block_lt_of_cell? w _ hw318_0)).trans hw318_0),((HB.out.cell (World.block_lt_of_cell? w _ hw318_1)).trans hw318_1),((HB.out.cell (World.block_lt_of_cell? w _ hw318_2)).trans hw318_2),((HB.out.cell (World.block_lt_of_cell? w _ hw318_3)).trans hw318_3),((HB.out.cell (World.block_lt_of_cell? w _ hw318_4)).trans hw318_4),((HB.out.cell (World.block_lt_of_cell? w _ hw318_5)).trans hw318_5),((HB.out.cell (World.block_lt_of_cell? w _ hw319_0)).trans hw319_0),((HB.out.cell (World.block_lt_of_cell? w _ hw319_1)).trans hw319_1),((HB.out.cell (World.block_lt_of_cell? w _ hw319_2)).trans hw319_2),((HB.out.cell (World.block_lt_of_cell? w _ hw319_3)).trans hw319_3),((HB.out.cell (World.block_lt_of_cell? w _ hw319_4)).trans hw319_4),((HB.out.cell (World.block_lt_of_cell? w _ hw319_5)).trans hw319_5)⟩ (fun hHeld => ?_);refine with_tabW laws_eqNodeS.tab6 laws_eqNodeS.bits6 (fun HT_ HW_ => ?_)
        generalize wr.drew = w9 at HB HR318_3 HR319_3 hx318_0 hx318_1 hx318_2 hx318_3 hx318_4 hx318_5 hx319_0 hx319_1 hx319_2 hx319_3 hx319_4 hx319_5 hHeld ⊢
        refine pure_ (i := 0) (N := some 17) (v := ?_) (a' := ?_) #[true, false, false, false, false, false, false, false, false, false] rfl rfl (any_of HT_.out (by kernel_rfl)) (fun _ _ _ h => h) (Or.inl ⟨by rfl, ?_⟩) ?_ ?_
        rotate_left
        ·intro w'
         go_simp
         with_reducible rfl
        rotate_left
        ·simp only [Act.put, List.setIfInBounds_toArray, List.set_cons_zero, List.set_cons_succ, i64_w, i32_w]
         rfl
        refine pure_ (i := 1) (N := some 18) (v := ?_) (a' := ?_) #[true, true, false, false, false, false, false, false, false, false] rfl rfl (any_of HT_.out (by kernel_rfl)) (fun _ _ _ h => h) (Or.inl ⟨by rfl, ?_⟩) ?_ ?_
        rotate_left
        ·intro w'
         go_simp
         with_reducible rfl
        rotate_left
        ·simp only [Act.put, List.setIfInBounds_toArray, List.set_cons_zero, List.set_cons_succ, i64_w, i32_w]
         rfl
        refine pure_ (i := 2) (N := some 19) (v := ?_) (a' := ?_) #[true, true, true, false, false, false, false, false, false, false] rfl rfl (any_of HT_.out (by kernel_rfl)) (fun _ _ _ h => h) (Or.inl ⟨by rfl, ?_⟩) ?_ ?_
        rotate_left
        ·intro w'
         go_simp
         with_reducible rfl
        rotate_left
        ·simp only [Act.put, List.setIfInBounds_toArray, List.set_cons_zero, List.set_cons_succ, i64_w, i32_w]
         rfl
        refine pure_ (i := 4) (N := some 21) (v := ?_) (a' := ?_) #[true, true, true, false, true, false, false, false, false, false] rfl rfl (any_of HT_.out (by kernel_rfl)) (fun _ _ _ h => h) (Or.inl ⟨by rfl, ?_⟩) ?_ ?_
        rotate_left
        ·intro w'
         go_simp
         with_reducible rfl
        rotate_left
        ·simp only [Act.put, List.setIfInBounds_toArray, List.set_cons_zero, List.set_cons_succ, i64_w, i32_w]
         rfl
        refine pure_ (i := 5) (N := some 22) (v := ?_) (a' := ?_) #[true, true, true, false, true, true, false, false, false, false] rfl rfl (any_of HT_.out (by kernel_rfl)) (fun _ _ _ h => h) (Or.inl ⟨by rfl, ?_⟩) ?_ ?_
        rotate_left
        ·intro w'
         go_simp
         with_reducible rfl
        rotate_left
        ·simp only [Act.put, List.setIfInBounds_toArray, List.set_cons_zero, List.set_cons_succ, i64_w, i32_w]
         rfl
        refine pure_ (i := 6) (N := some 23) (v := ?_) (a' := ?_) #[true, true, true, false, true, true, true, false, false, false] rfl rfl (any_of HT_.out (by kernel_rfl)) (fun _ _ _ h => h) (Or.inl ⟨by rfl, ?_⟩) ?_ ?_
        rotate_left
        ·intro w'
         go_simp
         with_reducible rfl
        rotate_left
        ·simp only [Act.put, List.setIfInBounds_toArray, List.set_cons_zero, List.set_cons_succ, i64_w, i32_w]
         rfl
        refine take_ (i := 3) (N := some 20) (v := ?_) (a' := ?_) #[true, true, true, true, true, true, true, false, false, false] rfl rfl (take_ofW HT_.out HW_.out (by kernel_rfl)) (fun _ _ _ h => h) (Or.inl ⟨by rfl, ?_⟩) hHeld ?_ ?_
        rotate_left
        ·rintro w' ⟨s0, s1, s2, s3, s4, s5, s6, s7, s8, s9, s10, s11⟩
         go_simp
         with_reducible rfl
        rotate_left
        ·simp only [Act.put, List.setIfInBounds_toArray, List.set_cons_zero, List.set_cons_succ, i64_w, i32_w]
         rfl
        refine take_ (i := 7) (N := some 24) (v := ?_) (a' := ?_) #[true, true, true, true, true, true, true, true, false, false] rfl rfl (take_ofW HT_.out HW_.out (by kernel_rfl)) (fun _ _ _ h => h) (Or.inl ⟨by rfl, ?_⟩) hHeld ?_ ?_
        rotate_left
        ·rintro w' ⟨s0, s1, s2, s3, s4, s5, s6, s7, s8, s9, s10, s11⟩
         go_simp
         with_reducible rfl
        rotate_left
        ·simp only [Act.put, List.setIfInBounds_toArray, List.set_cons_zero, List.set_cons_succ, i64_w, i32_w]
         rfl
        refine one_ (i := 8) (N := some 25) #[true, true, true, true, true, true, true, true, true, false] rfl rfl (one_of HT_.out (by kernel_rfl)) (by decide) (fun K hK => ?_)
        refine goes_ Try.func36 (by kernel_rfl) rfl #[.agg #[.int .i64 ((rd_T59 l0 x5_1).f0), .int .i64 ((rd_T59 l0 x5_1).f1), .string ((rd_T59 l0 x5_1).f2), .slice A318_3 ((rd_T59 l0 x5_1).f3).length c318_3, .string ((rd_T59 l0 x5_1).f4), .int .i64 ((rd_T59 l0 x5_1).f5)], .agg #[.int .i64 ((rd_T59 l1 x5_1).f0), .int .i64 ((rd_T59 l1 x5_1).f1), .string ((rd_T59 l1 x5_1).f2), .slice A319_3 ((rd_T59 l1 x5_1).f3).length c319_3, .string ((rd_T59 l1 x5_1).f4), .int .i64 ((rd_T59 l1 x5_1).f5)]] (by rfl) rfl rfl (by (try simp only [List.map_toArray, List.map_cons, List.map_nil]);first|done|rfl|(simp only [List.length_drop, List.length_take];rfl)) ?_
        with_reducible refine (laws_eqNode.calls k1 ((rd_T59 l0 x5_1).f0) ((rd_T59 l0 x5_1).f1) ((rd_T59 l0 x5_1).f2) _ _ ((rd_T59 l0 x5_1).f3) ((rd_T59 l0 x5_1).f4) ((rd_T59 l0 x5_1).f5) ((rd_T59 l1 x5_1).f0) ((rd_T59 l1 x5_1).f1) ((rd_T59 l1 x5_1).f2) _ _ ((rd_T59 l1 x5_1).f3) ((rd_T59 l1 x5_1).f4) ((rd_T59 l1 x5_1).f5) true _ ?side1 ?side2 ?side3 ?side4 A7.out).mono ?_
        (case side1 => repeat (first|exact (Kd.C_below HR318_3.out HB.out)|(with_reducible refine Kd.C_alloc ?_ _)|(with_reducible refine Kd.C_drewN ?_ _)|(with_reducible refine Kd.C_drew ?_)))
        (case side2 => exact HC318_3.out)
        (case side3 => repeat (first|exact (Kd.C_below HR319_3.out HB.out)|(with_reducible refine Kd.C_alloc ?_ _)|(with_reducible refine Kd.C_drewN ?_ _)|(with_reducible refine Kd.C_drew ?_)))
        (case side4 => exact HC319_3.out)
        rintro e w10 ⟨rfl, hb⟩
        refine ⟨_, rfl, ?_⟩
        have n0_ := Aside0.mk (below_step (by repeat (first|(with_reducible first|exact HB.out|apply below_alloc|apply pw_below_drewN|apply below_drew1)|exact HB.out)) hb)
        clear HB
        have HB := n0_
        clear n0_
        (try clear hb)
        (try clear hb2)
        (try clear hk)
        (try clear hi)
        refine hK.out _ _ ⟨((HB.out.cell (World.block_lt_of_cell? w _ hw318_0)).trans hw318_0),((HB.out.cell (World.block_lt_of_cell? w _ hw318_1)).trans hw318_1),((HB.out.cell (World.block_lt_of_cell? w _ hw318_2)).trans hw318_2),((HB.out.cell (World.block_lt_of_cell? w _ hw318_3)).trans hw318_3),((HB.out.cell (World.block_lt_of_cell? w _ hw318_4)).trans hw318_4),((HB.out.cell (World.block_lt_of_cell? w _ hw318_5)).trans hw318_5),((HB.out.cell (World.block_lt_of_cell? w _ hw319_0)).trans hw319_0),((HB.out.cell (World.block_lt_of_cell? w _ hw319_1)).trans hw319_1),((HB.out.cell (World.block_lt_of_cell? w _ hw319_2)).trans hw319_2),((HB.out.cell (World.block_lt_of_cell? w _ hw319_3)).trans hw319_3),((HB.out.cell (World.block_lt_of_cell? w _ hw319_4)).trans hw319_4),((HB.out.cell (World.block_lt_of_cell? w _ hw319_5)).trans hw319_5)⟩ (fun hHeld => ?_)
        clear hK K
        refine norm_ (a' := ?_) ?_ ?_
        rotate_left
        ·show Act.put _ (some 25) _ = _
         simp only [Act.put, List.setIfInBounds_toArray, List.set_cons_zero, List.set_cons_succ, i64_w, i32_w]
         rfl
        refine pure_ (i := 9) (N := some 26) (v := ?_) (a' := ?_) #[true, true, true, true, true, true, true, true, true, true] rfl rfl (any_of HT_.out (by kernel_rfl)) (fun _ _ _ h => h) (Or.inl ⟨by rfl, ?_⟩) ?_ ?_
        rotate_left
        ·intro w'
         go_simp
         with_reducible rfl
        rotate_left
        ·simp only [Act.put, List.setIfInBounds_toArray, List.set_cons_zero, List.set_cons_succ, i64_w, i32_w]
         rfl
        refine done_ (done_of HT_.out (by kernel_rfl)) ?_
        try go_wp2
        go_roundg k1
        case measure => have := HK1.out;omega
        case rel => exact ⟨(wrap64 (x5_1 + 1)),(by first|rfl|(simp;done)|(simp [*];done)), H', ⟨by have := HK1.out;omega⟩,⟨by repeat (first|(with_reducible first|exact HB.out|apply below_alloc|apply pw_below_drewN|apply below_drew1)|exact HB.out)⟩⟩
       ·replace c8 := Bool.eq_false_iff.mpr c8
        subst c8
        exact absurd H (by simp)
      ·rw [if_neg c6] at H
       exact absurd H (by simp)
     ·rw [if_neg c5] at H
      exact absurd H (by simp)
    ·rw [if_neg c4] at H
     have c4b0 : decide (x5_1 < (l0.length : Int)) = false := decide_eq_false c4
     clear c4
     obtain rfl := Option.some.inj H
     go_wp2
     go_ret
     exact ⟨by first|rfl|(simp [errW_none, errW_some] <;> rfl)|(simp [*, errW_none, errW_some] <;> rfl), by repeat (first|(with_reducible first|exact HB.out|apply below_alloc|apply pw_below_drewN|apply below_drew1)|exact HB.out)⟩
 ·rw [if_neg c3] at H
  exact absurd H (by simp)

/-! ### laws_eqTree: function 10 -/
def laws_eqTree.f (k : Nat) (l0_0 : List (S59)) (l1_0 : List (S59)) : Option (Bool) := (laws_eqNodeS.f k l0_0 l1_0).bind fun t323 => (if t323 = true then (some true) else (none))
theorem laws_eqTree.mono : ∀ a0 a1 k, LeO (laws_eqTree.f k a0 a1) (laws_eqTree.f (k + 1) a0 a1) := by
 intro a0 a1 k
 unfold laws_eqTree.f
 repeat' first
  |(with_reducible exact laws_eqNodeS.mono _ _ _)
  |(with_reducible exact LeO.refl _)
  |(with_reducible exact LeO.none _)
  |(with_reducible refine LeO.ite ?_ ?_)
  |(with_reducible refine LeO.bind ?_ (fun _ => ?_))
  |exact laws_eqNodeS.mono _ _ _
  |exact LeO.none _
  |refine LeO.ite ?_ ?_
  |refine LeO.bind ?_ (fun _ => ?_)
set_option maxHeartbeats 8000000 in
set_option maxRecDepth 100000 in
theorem laws_eqTree.calls (k : Nat) (A0_0 : Option Addr) (c0_0 : Nat) (l0_0 : List (S59)) (A1_0 : Option Addr) (c1_0 : Nat) (l1_0 : List (S59)) (r : Bool) (w : World) (hr0_0 : Kd.C k59 w A0_0 l0_0.length l0_0) (hc0_0 : l0_0.length ≤ c0_0) (hr1_0 : Kd.C k59 w A1_0 l1_0.length l1_0) (hc1_0 : l1_0.length ≤ c1_0) (h : laws_eqTree.f k l0_0 l1_0 = some r) :
  Calls Try.prog 10 #[.agg #[.slice A0_0 l0_0.length c0_0], .agg #[.slice A1_0 l1_0.length c1_0]] w fun e w' => e = .returned (.bool r) ∧ Below w.heap.size w w' := by
 have hu31 := Try.underlying31
 have HR0_0 := Aside0.mk hr0_0
 have HC0_0 := Aside0.mk hc0_0
 clear hr0_0 hc0_0
 have HR1_0 := Aside0.mk hr1_0
 have HC1_0 := Aside0.mk hc1_0
 clear hr1_0 hc1_0
 have HB := Aside0.mk (Below.refl w.heap.size w)
 have H : ((laws_eqNodeS.f k l0_0 l1_0).bind fun t323 => (if t323 = true then (some true) else (none))) = some r := h
 clear h
 replace H := Option.bind_eq_some_iff.mp H
 obtain ⟨t323, A30, H⟩ := H
 replace H : (if t323 = true then (some true) else (none)) = some r := H
 have A3 := Aside0.mk A30
 clear A30
 by_cases c4 : t323 = true
 ·subst c4
  have H1 : (some true) = some r := by rw [if_pos rfl] at H;exact H
  clear H
  have H := H1
  clear H1
  obtain rfl := Option.some.inj H
  go_enter Try.func10, Try.ntmps10
  go_wp2_with (first|((with_reducible refine gate_dst (N := 2) rfl ?_);refine box_event ?hg (N := 2) ?hd (cs := #[.slice A0_0 l0_0.length c0_0]) (t := 31) ?hr ?_;(case hd => rfl);(case hg => rfl);(case hr => first|(go_simp;done)|(go_simp;rfl));intro gb321 hg w5 hbox hb;have n0_ := Aside0.mk (below_step (by repeat (first|(with_reducible first|exact HB.out|apply below_alloc|apply pw_below_drewN|apply below_drew1)|exact HB.out)) hb);have n1_ := Aside0.mk (hbox);have n2_ := Aside0.mk ((by rw [hg];exact (below_size (by repeat (first|(with_reducible first|exact HB.out|apply below_alloc|apply pw_below_drewN|apply below_drew1)|exact HB.out))) : w.heap.size ≤ gb321));have n3_ := Aside0.mk ((by rw [hg];exact (below_size (by repeat (first|(with_reducible first|exact HB.out|apply below_alloc|apply pw_below_drewN|apply below_drew1)|exact HB.out))) : w.heap.size ≤ gb321));clear HB;have HB := n0_;have BK321 := n1_;have GW321 := n2_;have GE321 := n3_;clear n0_ n1_ n2_ n3_;clear hb hbox hg)|((with_reducible refine gate_dst (N := 3) rfl ?_);refine box_event ?hg (N := 3) ?hd (cs := #[.slice A1_0 l1_0.length c1_0]) (t := 31) ?hr ?_;(case hd => rfl);(case hg => rfl);(case hr => first|(go_simp;done)|(go_simp;rfl));intro gb322 hg w6 hbox hb;have n0_ := Aside0.mk (blk_below (g := gb321) (o := .cells #[.slice A0_0 l0_0.length c0_0] 31 (0, 0)) (by (with_reducible repeat (first|refine blk_drewN ?_ _|refine blk_drew ?_|refine blk_alloc ?_ _));exact BK321.out) hb);have n1_ := Aside0.mk (below_step (by repeat (first|exact HB.out|apply below_alloc|apply pw_below_drewN|apply below_drew1|refine below_set ?_ GE321.out)) hb);have n2_ := Aside0.mk (hbox);have n3_ := Aside0.mk ((by rw [hg];exact (below_size (by repeat (first|exact HB.out|apply below_alloc|apply pw_below_drewN|apply below_drew1|refine below_set ?_ GE321.out))) : w.heap.size ≤ gb322));have n4_ := Aside0.mk ((by rw [hg];exact (below_size (by repeat (first|exact HB.out|apply below_alloc|apply pw_below_drewN|apply below_drew1|refine below_set ?_ GE321.out))) : w.heap.size ≤ gb322));have n5_ := Aside0.mk ((by rw [hg];exact Nat.ne_of_lt (blk_lt (g := gb321) (o := .cells #[.slice A0_0 l0_0.length c0_0] 31 (0, 0)) (by (with_reducible repeat (first|refine blk_drewN ?_ _|refine blk_drew ?_|refine blk_alloc ?_ _));exact BK321.out)) : gb321 ≠ gb322));have n6_ := Aside0.mk ((by rw [hg];exact Nat.ne_of_gt (blk_lt (g := gb321) (o := .cells #[.slice A0_0 l0_0.length c0_0] 31 (0, 0)) (by (with_reducible repeat (first|refine blk_drewN ?_ _|refine blk_drew ?_|refine blk_alloc ?_ _));exact BK321.out)) : gb322 ≠ gb321));clear BK321;clear HB;have BK321 := n0_;have HB := n1_;have BK322 := n2_;have GW322 := n3_;have GE322 := n4_;have NB321_322 := n5_;have NB322_321 := n6_;clear n0_ n1_ n2_ n3_ n4_ n5_ n6_;clear hb hbox hg;have hnb7 := NB321_322.out;have hnc7 := NB322_321.out;have hcz8_0 : w6.cell? ⟨gb321, 0, none⟩ = some (.slice A0_0 l0_0.length c0_0) := (blk_cell BK321.out 0).trans rfl;have hfz8_0 := blk_frozen BK321.out 0;have hcz9_0 : w6.cell? ⟨gb322, 0, none⟩ = some (.slice A1_0 l1_0.length c1_0) := (blk_cell BK322.out 0).trans rfl;have hfz9_0 := blk_frozen BK322.out 0)|((with_reducible refine gate_callee (f := 22) rfl ?_);refine goesL_ (some 9) rfl rfl Try.func22 (by kernel_rfl) rfl #[.slice A0_0 l0_0.length c0_0, .slice A1_0 l1_0.length c1_0] rfl (by (try simp only [List.map_toArray, List.map_cons, List.map_nil]);first|done|rfl|(simp only [List.length_drop, List.length_take];rfl)) ?_;(with_reducible refine (laws_eqNodeS.calls k _ _ l0_0 _ _ l1_0 true _ ?side1 ?side2 ?side3 ?side4 A3.out).mono ?_);(case side1 => repeat (first|exact (Kd.C_below HR0_0.out HB.out)|(with_reducible refine Kd.C_alloc ?_ _)|(with_reducible refine Kd.C_drewN ?_ _)|(with_reducible refine Kd.C_drew ?_)));(case side2 => exact HC0_0.out);(case side3 => repeat (first|exact (Kd.C_below HR1_0.out HB.out)|(with_reducible refine Kd.C_alloc ?_ _)|(with_reducible refine Kd.C_drewN ?_ _)|(with_reducible refine Kd.C_drew ?_)));(case side4 => exact HC1_0.out);rintro e w10 ⟨rfl, hb⟩;refine ⟨_, rfl, ?_⟩;have n0_ := Aside0.mk (blk_below (g := gb321) (o := .cells #[.slice A0_0 l0_0.length c0_0] 31 (0, 0)) (by (with_reducible repeat (first|refine blk_drewN ?_ _|refine blk_drew ?_|refine blk_alloc ?_ _));exact BK321.out) hb);have n1_ := Aside0.mk (blk_below (g := gb322) (o := .cells #[.slice A1_0 l1_0.length c1_0] 31 (0, 0)) (by (with_reducible repeat (first|refine blk_drewN ?_ _|refine blk_drew ?_|refine blk_alloc ?_ _));exact BK322.out) hb);have n2_ := Aside0.mk (below_step (by repeat (first|exact HB.out|apply below_alloc|apply pw_below_drewN|apply below_drew1|refine below_set ?_ GE321.out|refine below_set ?_ GE322.out)) hb);clear BK321;clear BK322;clear HB;have BK321 := n0_;have BK322 := n1_;have HB := n2_;clear n0_ n1_ n2_;(try clear hb);(try clear hb2);(try clear hk);(try clear hi)))
  go_ret
  exact ⟨by first|rfl|(simp [errW_none, errW_some] <;> rfl)|(simp [*, errW_none, errW_some] <;> rfl), by repeat (first|exact HB.out|apply below_alloc|apply pw_below_drewN|apply below_drew1|refine below_set ?_ GE321.out|refine below_set ?_ GE322.out)⟩
 ·replace c4 := Bool.eq_false_iff.mpr c4
  subst c4
  exact absurd H (by simp)

end Go.Proofs.Ytbogfagafdokeaa.QFnExactSpotLess
