/- Written by a program (wip/tools/own_print.py) out of the walk that the kit's printer made; turned where it fell. -/
-- PRINTED by print.py (a twelfth state) out of the translation. Not trusted: Lean checks it.
import Derived.Test.YtamhebnfgegijaaQFnExactCodePointsx0
namespace Go.Proofs.Ytamhebnfgegijaa.QFnExactCodePoints
open Go.RowKit Go.Proofs.YtamhebnfgegijaaV.PrintWords Go.Proofs.YtamhebnfgegijaaV.PrintLast Go.Proofs.YtamhebnfgegijaaV.PrintMore
attribute [local go_sem] max2_int min2_int max_two min_two max_three min_three max_four min_four   -- for this text's walks alone
set_option linter.unusedVariables false
set_option linter.unusedSimpArgs false

/-! ### spec_l1Seq: function 9 -/
mutual
def spec_l1Seq.j0 : Nat → List Int → Int → Int → Int → Int → Bool → Option (Int × Bool)
  | 0, _, _, _, _, _, _ => none
  | k + 1, x0, x1, x6, x8, x9, x23 => if x23 = true then (spec_l1Seq.j3 k x0 x1 1 x8 x9) else (if x6 ≥ 224 then (spec_l1Seq.j1 k x0 x1 x6 x8 x9 (decide (x6 ≤ 239))) else (spec_l1Seq.j1 k x0 x1 x6 x8 x9 false))
def spec_l1Seq.j3 : Nat → List Int → Int → Int → Int → Int → Option (Int × Bool)
  | 0, _, _, _, _, _ => none
  | k + 1, x0, x1, x7, x8, x9 => spec_l1Seq.l0 k x0 x1 x7 x8 x9 1 0
def spec_l1Seq.l0 : Nat → List Int → Int → Int → Int → Int → Int → Int → Option (Int × Bool)
  | 0, _, _, _, _, _, _, _ => none
  | k + 1, x0, x1, x7, x8, x9, x10, x11 => if x11 < x7 then (if (wrap64 (x1 + x10)) ≥ (x0.length : Int) then (some (x10, false)) else (if 0 ≤ (wrap64 (x1 + x10)) then (if (wrap64 (x1 + x10)) < (x0.length : Int) then (if (rd x0 (wrap64 (x1 + x10))) < x8 then (some (x10, false)) else (if (rd x0 (wrap64 (x1 + x10))) > x9 then (some (x10, false)) else (spec_l1Seq.l0 k x0 x1 x7 128 191 (wrap64 (x10 + 1)) (wrap64 (x11 + 1))))) else (none)) else (none))) else (some (x10, true))
def spec_l1Seq.j1 : Nat → List Int → Int → Int → Int → Int → Bool → Option (Int × Bool)
  | 0, _, _, _, _, _, _ => none
  | k + 1, x0, x1, x6, x8, x9, x29 => if x29 = true then (if x6 = 224 then (if x6 = 237 then (spec_l1Seq.j3 k x0 x1 2 160 159) else (spec_l1Seq.j3 k x0 x1 2 160 x9)) else (if x6 = 237 then (spec_l1Seq.j3 k x0 x1 2 x8 159) else (spec_l1Seq.j3 k x0 x1 2 x8 x9))) else (if x6 ≥ 240 then (spec_l1Seq.j2 k x0 x1 x6 x8 x9 (decide (x6 ≤ 244))) else (spec_l1Seq.j2 k x0 x1 x6 x8 x9 false))
def spec_l1Seq.j2 : Nat → List Int → Int → Int → Int → Int → Bool → Option (Int × Bool)
  | 0, _, _, _, _, _, _ => none
  | k + 1, x0, x1, x6, x8, x9, x39 => if x39 = true then (if x6 = 240 then (if x6 = 244 then (spec_l1Seq.j3 k x0 x1 3 144 143) else (spec_l1Seq.j3 k x0 x1 3 144 x9)) else (if x6 = 244 then (spec_l1Seq.j3 k x0 x1 3 x8 143) else (spec_l1Seq.j3 k x0 x1 3 x8 x9))) else (some (0, false))
end
def spec_l1Seq.f (k : Nat) (l0 : List Int) (a1 : Int) : Option (Int × Bool) := if 0 ≤ a1 then (if a1 < (l0.length : Int) then (if (rd l0 a1) < 128 then (some (1, true)) else (if (rd l0 a1) ≥ 194 then (spec_l1Seq.j0 k l0 a1 (rd l0 a1) 128 191 (decide ((rd l0 a1) ≤ 223))) else (spec_l1Seq.j0 k l0 a1 (rd l0 a1) 128 191 false))) else (none)) else (none)
theorem spec_l1Seq.mono_l : ∀ k, (∀ y0 y1 y2 y3 y4 y5, LeO (spec_l1Seq.j0 k y0 y1 y2 y3 y4 y5) (spec_l1Seq.j0 (k + 1) y0 y1 y2 y3 y4 y5)) ∧ (∀ y0 y1 y2 y3 y4, LeO (spec_l1Seq.j3 k y0 y1 y2 y3 y4) (spec_l1Seq.j3 (k + 1) y0 y1 y2 y3 y4)) ∧ (∀ y0 y1 y2 y3 y4 y5 y6, LeO (spec_l1Seq.l0 k y0 y1 y2 y3 y4 y5 y6) (spec_l1Seq.l0 (k + 1) y0 y1 y2 y3 y4 y5 y6)) ∧ (∀ y0 y1 y2 y3 y4 y5, LeO (spec_l1Seq.j1 k y0 y1 y2 y3 y4 y5) (spec_l1Seq.j1 (k + 1) y0 y1 y2 y3 y4 y5)) ∧ (∀ y0 y1 y2 y3 y4 y5, LeO (spec_l1Seq.j2 k y0 y1 y2 y3 y4 y5) (spec_l1Seq.j2 (k + 1) y0 y1 y2 y3 y4 y5))
  | 0 => ⟨fun _ _ _ _ _ _ r h => by simp [spec_l1Seq.j0] at h, fun _ _ _ _ _ r h => by simp [spec_l1Seq.j3] at h, fun _ _ _ _ _ _ _ r h => by simp [spec_l1Seq.l0] at h, fun _ _ _ _ _ _ r h => by simp [spec_l1Seq.j1] at h, fun _ _ _ _ _ _ r h => by simp [spec_l1Seq.j2] at h⟩
  | k + 1 => by
    obtain ⟨ih0, ih1, ih2, ih3, ih4⟩ := spec_l1Seq.mono_l k
    refine ⟨?_, ?_, ?_, ?_, ?_⟩
    · intro y0 y1 y2 y3 y4 y5
      unfold spec_l1Seq.j0
      repeat' first
      | (with_reducible exact ih0 _ _ _ _ _ _)
      | (with_reducible exact ih1 _ _ _ _ _)
      | (with_reducible exact ih2 _ _ _ _ _ _ _)
      | (with_reducible exact ih3 _ _ _ _ _ _)
      | (with_reducible exact ih4 _ _ _ _ _ _)
      | (with_reducible exact LeO.refl _)
      | (with_reducible exact LeO.none _)
      | (with_reducible refine LeO.ite ?_ ?_)
      | (with_reducible refine LeO.bind ?_ (fun _ => ?_))
      | exact ih0 _ _ _ _ _ _
      | exact ih1 _ _ _ _ _
      | exact ih2 _ _ _ _ _ _ _
      | exact ih3 _ _ _ _ _ _
      | exact ih4 _ _ _ _ _ _
      | exact LeO.none _
      | refine LeO.ite ?_ ?_
      | refine LeO.bind ?_ (fun _ => ?_)
    · intro y0 y1 y2 y3 y4
      unfold spec_l1Seq.j3
      repeat' first
      | (with_reducible exact ih0 _ _ _ _ _ _)
      | (with_reducible exact ih1 _ _ _ _ _)
      | (with_reducible exact ih2 _ _ _ _ _ _ _)
      | (with_reducible exact ih3 _ _ _ _ _ _)
      | (with_reducible exact ih4 _ _ _ _ _ _)
      | (with_reducible exact LeO.refl _)
      | (with_reducible exact LeO.none _)
      | (with_reducible refine LeO.ite ?_ ?_)
      | (with_reducible refine LeO.bind ?_ (fun _ => ?_))
      | exact ih0 _ _ _ _ _ _
      | exact ih1 _ _ _ _ _
      | exact ih2 _ _ _ _ _ _ _
      | exact ih3 _ _ _ _ _ _
      | exact ih4 _ _ _ _ _ _
      | exact LeO.none _
      | refine LeO.ite ?_ ?_
      | refine LeO.bind ?_ (fun _ => ?_)
    · intro y0 y1 y2 y3 y4 y5 y6
      unfold spec_l1Seq.l0
      repeat' first
      | (with_reducible exact ih0 _ _ _ _ _ _)
      | (with_reducible exact ih1 _ _ _ _ _)
      | (with_reducible exact ih2 _ _ _ _ _ _ _)
      | (with_reducible exact ih3 _ _ _ _ _ _)
      | (with_reducible exact ih4 _ _ _ _ _ _)
      | (with_reducible exact LeO.refl _)
      | (with_reducible exact LeO.none _)
      | (with_reducible refine LeO.ite ?_ ?_)
      | (with_reducible refine LeO.bind ?_ (fun _ => ?_))
      | exact ih0 _ _ _ _ _ _
      | exact ih1 _ _ _ _ _
      | exact ih2 _ _ _ _ _ _ _
      | exact ih3 _ _ _ _ _ _
      | exact ih4 _ _ _ _ _ _
      | exact LeO.none _
      | refine LeO.ite ?_ ?_
      | refine LeO.bind ?_ (fun _ => ?_)
    · intro y0 y1 y2 y3 y4 y5
      unfold spec_l1Seq.j1
      repeat' first
      | (with_reducible exact ih0 _ _ _ _ _ _)
      | (with_reducible exact ih1 _ _ _ _ _)
      | (with_reducible exact ih2 _ _ _ _ _ _ _)
      | (with_reducible exact ih3 _ _ _ _ _ _)
      | (with_reducible exact ih4 _ _ _ _ _ _)
      | (with_reducible exact LeO.refl _)
      | (with_reducible exact LeO.none _)
      | (with_reducible refine LeO.ite ?_ ?_)
      | (with_reducible refine LeO.bind ?_ (fun _ => ?_))
      | exact ih0 _ _ _ _ _ _
      | exact ih1 _ _ _ _ _
      | exact ih2 _ _ _ _ _ _ _
      | exact ih3 _ _ _ _ _ _
      | exact ih4 _ _ _ _ _ _
      | exact LeO.none _
      | refine LeO.ite ?_ ?_
      | refine LeO.bind ?_ (fun _ => ?_)
    · intro y0 y1 y2 y3 y4 y5
      unfold spec_l1Seq.j2
      repeat' first
      | (with_reducible exact ih0 _ _ _ _ _ _)
      | (with_reducible exact ih1 _ _ _ _ _)
      | (with_reducible exact ih2 _ _ _ _ _ _ _)
      | (with_reducible exact ih3 _ _ _ _ _ _)
      | (with_reducible exact ih4 _ _ _ _ _ _)
      | (with_reducible exact LeO.refl _)
      | (with_reducible exact LeO.none _)
      | (with_reducible refine LeO.ite ?_ ?_)
      | (with_reducible refine LeO.bind ?_ (fun _ => ?_))
      | exact ih0 _ _ _ _ _ _
      | exact ih1 _ _ _ _ _
      | exact ih2 _ _ _ _ _ _ _
      | exact ih3 _ _ _ _ _ _
      | exact ih4 _ _ _ _ _ _
      | exact LeO.none _
      | refine LeO.ite ?_ ?_
      | refine LeO.bind ?_ (fun _ => ?_)
theorem spec_l1Seq.mono : ∀ a0 a1 k, LeO (spec_l1Seq.f k a0 a1) (spec_l1Seq.f (k + 1) a0 a1) := by
  intro a0 a1 k
  obtain ⟨ih0, ih1, ih2, ih3, ih4⟩ := spec_l1Seq.mono_l k
  unfold spec_l1Seq.f
  repeat' first
      | (with_reducible exact ih0 _ _ _ _ _ _)
      | (with_reducible exact ih1 _ _ _ _ _)
      | (with_reducible exact ih2 _ _ _ _ _ _ _)
      | (with_reducible exact ih3 _ _ _ _ _ _)
      | (with_reducible exact ih4 _ _ _ _ _ _)
      | (with_reducible exact LeO.refl _)
      | (with_reducible exact LeO.none _)
      | (with_reducible refine LeO.ite ?_ ?_)
      | (with_reducible refine LeO.bind ?_ (fun _ => ?_))
      | exact ih0 _ _ _ _ _ _
      | exact ih1 _ _ _ _ _
      | exact ih2 _ _ _ _ _ _ _
      | exact ih3 _ _ _ _ _ _
      | exact ih4 _ _ _ _ _ _
      | exact LeO.none _
      | refine LeO.ite ?_ ?_
      | refine LeO.bind ?_ (fun _ => ?_)
set_option maxHeartbeats 8000000 in
set_option maxRecDepth 100000 in
theorem spec_l1Seq.calls (k : Nat) (A0 : Option Addr) (c0 : Nat) (l0 : List Int) (a1 : Int) (r1 : Int) (r2 : Bool) (w : World) (hr0 : Kd.C (Kd.int .u8) w A0 l0.length l0) (hc0 : l0.length ≤ c0) (h : spec_l1Seq.f k l0 a1 = some (r1, r2)) :
    Calls Try.prog 9 #[.slice A0 l0.length c0, .int .i64 a1] w fun e w' => e = .returned (.tuple #[.int .i64 r1, .bool r2]) ∧ Drawn0 w w' := by
  have HR0 := Aside0.mk hr0
  have HC0 := Aside0.mk hc0
  clear hr0 hc0
  have H : (if 0 ≤ a1 then (if a1 < (l0.length : Int) then (if (rd l0 a1) < 128 then (some (1, true)) else (if (rd l0 a1) ≥ 194 then (spec_l1Seq.j0 k l0 a1 (rd l0 a1) 128 191 (decide ((rd l0 a1) ≤ 223))) else (spec_l1Seq.j0 k l0 a1 (rd l0 a1) 128 191 false))) else (none)) else (none)) = some (r1, r2) := h
  clear h
  by_cases c3 : 0 ≤ a1
  · rw [if_pos c3] at H
    have c3b0 : decide (0 ≤ a1) = true := decide_eq_true c3
    clear c3
    by_cases c4 : a1 < (l0.length : Int)
    · rw [if_pos c4] at H
      have c4b0 : decide (a1 < (l0.length : Int)) = true := decide_eq_true c4
      clear c4
      by_cases c5 : (rd l0 a1) < 128
      · rw [if_pos c5] at H
        have c5b0 : decide ((rd l0 a1) < 128) = true := decide_eq_true c5
        clear c5
        simp only [Option.some.injEq, Prod.mk.injEq] at H
        obtain ⟨rfl, rfl⟩ := H
        have p101 : 0 ≤ (a1 : Int) := of_decide_eq_true (by first | (with_reducible assumption) | assumption)
        have q101 : a1 < (l0.length : Int) := of_decide_eq_true (by first | (with_reducible assumption) | assumption)
        obtain ⟨ad101, e101, hx101_0⟩ := Kd.at_int HR0.out a1 p101 q101
        cases e101
        replace p101 := eq_true p101
        replace q101 := eq_true q101
        go_enter Try.func9, Try.ntmps9
        go_wp2
        go_ret2
        exact ⟨by first | rfl | (simp; done) | (simp [*]; done), by repeat (first | exact Drawn0.refl _ | apply Drawn0.step)⟩
      · rw [if_neg c5] at H
        have c5b0 : decide ((rd l0 a1) < 128) = false := decide_eq_false c5
        clear c5
        have HC6 := Aside0.mk H
        clear H
        have p101 : 0 ≤ (a1 : Int) := of_decide_eq_true (by first | (with_reducible assumption) | assumption)
        have q101 : a1 < (l0.length : Int) := of_decide_eq_true (by first | (with_reducible assumption) | assumption)
        obtain ⟨ad101, e101, hx101_0⟩ := Kd.at_int HR0.out a1 p101 q101
        cases e101
        replace p101 := eq_true p101
        replace q101 := eq_true q101
        go_enter Try.func9, Try.ntmps9
        go_upto_region 7 with (fail)
        go_cut [23] (fun v23 wc => ∃ (kq : Nat) (x23_5 : Bool), v23 = .bool x23_5 ∧ Aside0 (spec_l1Seq.j0 kq l0 a1 (rd l0 a1) 128 191 x23_5 = some (r1, r2)) ∧ Aside0 (kq ≤ k) ∧ Drawn0 w wc)
        case first =>
          have H := HC6.out
          clear HC6
          by_cases c7 : (rd l0 a1) ≥ 194
          · rw [if_pos c7] at H
            have c7b0 : decide (194 ≤ (rd l0 a1)) = true := decide_eq_true c7
            clear c7
            (first | rw [c7b0] | (simp only [i64_w, i32_w]; rw [c7b0]) | rw [c7b1] | skip)
            have H' := Aside0.mk H
            clear H
            go_wp2
            go_meet
            case rel => exact ⟨_, (decide ((rd l0 a1) ≤ 223)), (by first | rfl | (simp; done) | (simp [*]; done)), H', ⟨by first | omega | exact Nat.le_refl _⟩, by repeat (first | exact Drawn0.refl _ | apply Drawn0.step)⟩
          · rw [if_neg c7] at H
            have c7b0 : decide (194 ≤ (rd l0 a1)) = false := decide_eq_false c7
            clear c7
            (first | rw [c7b0] | (simp only [i64_w, i32_w]; rw [c7b0]) | rw [c7b1] | skip)
            have H' := Aside0.mk H
            clear H
            go_wp2
            go_meet
            case rel => exact ⟨_, (false), (by first | rfl | (simp; done) | (simp [*]; done)), H', ⟨by first | omega | exact Nat.le_refl _⟩, by repeat (first | exact Drawn0.refl _ | apply Drawn0.step)⟩
        case rest =>
          clear HC6
          try clear p1
          try clear q1
          try clear hx1
          try clear p2
          try clear c3
          try clear c3b0
          try clear c4
          try clear c4b0
          try clear c5
          try clear c5b0
          try clear c7
          try clear c7b0
          try clear hx101_0
          try clear p101
          try clear q101
          obtain ⟨kq, x23_5, rfl, HA, HJ5, ⟨mc5, rfl⟩⟩ := hcut
          cases kq with
          | zero => exact absurd HA.out (by simp [spec_l1Seq.j0])
          | succ kj5 =>
            have H := HA.out
            clear HA
            simp only [spec_l1Seq.j0] at H
            have HC8 := Aside0.mk H
            clear H
            go_upto_if 23 with (fail)
            go_cut [7, 8, 9] (fun v7 v8 v9 wc => ∃ (kq : Nat) (x7_7 : Int) (x8_7 : Int) (x9_7 : Int), v7 = .int .i64 x7_7 ∧ v8 = .int .u8 x8_7 ∧ v9 = .int .u8 x9_7 ∧ Aside0 (spec_l1Seq.j3 kq l0 a1 x7_7 x8_7 x9_7 = some (r1, r2)) ∧ Aside0 (kq ≤ kj5) ∧ Drawn0 w wc)
            case first =>
              have H := HC8.out
              clear HC8
              by_cases c9 : x23_5 = true
              · subst c9
                have H1 : (spec_l1Seq.j3 kj5 l0 a1 1 128 191) = some (r1, r2) := by rw [if_pos rfl] at H; exact H
                clear H
                have H := H1
                clear H1
                have H' := Aside0.mk H
                clear H
                go_wp2
                go_meet
                case rel => exact ⟨_, (1), (128), (191), (by first | rfl | (simp; done) | (simp [*]; done)), (by first | rfl | (simp; done) | (simp [*]; done)), (by first | rfl | (simp; done) | (simp [*]; done)), H', ⟨by have := HJ5.out; first | omega | exact Nat.le_refl _⟩, by repeat (first | exact Drawn0.refl _ | apply Drawn0.step)⟩
              · replace c9 := Bool.eq_false_iff.mpr c9
                subst c9
                have H1 : (if (rd l0 a1) ≥ 224 then (spec_l1Seq.j1 kj5 l0 a1 (rd l0 a1) 128 191 (decide ((rd l0 a1) ≤ 239))) else (spec_l1Seq.j1 kj5 l0 a1 (rd l0 a1) 128 191 false)) = some (r1, r2) := by rw [if_neg (show ¬ (false = true) by decide)] at H; exact H
                clear H
                have H := H1
                clear H1
                have HC10 := Aside0.mk H
                clear H
                go_upto_region 9 with (fail)
                go_cut [29] (fun v29 wc => ∃ (kq : Nat) (x29_9 : Bool), v29 = .bool x29_9 ∧ Aside0 (spec_l1Seq.j1 kq l0 a1 (rd l0 a1) 128 191 x29_9 = some (r1, r2)) ∧ Aside0 (kq ≤ kj5) ∧ Drawn0 w wc)
                case first =>
                  have H := HC10.out
                  clear HC10
                  by_cases c11 : (rd l0 a1) ≥ 224
                  · rw [if_pos c11] at H
                    have c11b0 : decide (224 ≤ (rd l0 a1)) = true := decide_eq_true c11
                    clear c11
                    (first | rw [c11b0] | (simp only [i64_w, i32_w]; rw [c11b0]) | rw [c11b1] | skip)
                    have H' := Aside0.mk H
                    clear H
                    go_wp2
                    go_meet
                    case rel => exact ⟨_, (decide ((rd l0 a1) ≤ 239)), (by first | rfl | (simp; done) | (simp [*]; done)), H', ⟨by have := HJ5.out; first | omega | exact Nat.le_refl _⟩, by repeat (first | exact Drawn0.refl _ | apply Drawn0.step)⟩
                  · rw [if_neg c11] at H
                    have c11b0 : decide (224 ≤ (rd l0 a1)) = false := decide_eq_false c11
                    clear c11
                    (first | rw [c11b0] | (simp only [i64_w, i32_w]; rw [c11b0]) | rw [c11b1] | skip)
                    have H' := Aside0.mk H
                    clear H
                    go_wp2
                    go_meet
                    case rel => exact ⟨_, (false), (by first | rfl | (simp; done) | (simp [*]; done)), H', ⟨by have := HJ5.out; first | omega | exact Nat.le_refl _⟩, by repeat (first | exact Drawn0.refl _ | apply Drawn0.step)⟩
                case rest =>
                  clear HC10
                  try clear c1
                  try clear p1
                  try clear q1
                  try clear hx1
                  try clear p2
                  try clear c3
                  try clear c3b0
                  try clear c4
                  try clear c4b0
                  try clear c5
                  try clear c5b0
                  try clear c7
                  try clear c7b0
                  try clear c9
                  try clear p10
                  try clear q10
                  try clear hx10
                  try clear c11
                  try clear c11b0
                  try clear hx101_0
                  try clear p1
                  try clear p101
                  try clear p2
                  try clear q1
                  try clear q101
                  obtain ⟨kq, x29_9, rfl, HA, HJ9, ⟨mc9, rfl⟩⟩ := hcut
                  cases kq with
                  | zero => exact absurd HA.out (by simp [spec_l1Seq.j1])
                  | succ kj9 =>
                    have H := HA.out
                    clear HA
                    simp only [spec_l1Seq.j1] at H
                    by_cases c12 : x29_9 = true
                    · subst c12
                      have H1 : (if (rd l0 a1) = 224 then (if (rd l0 a1) = 237 then (spec_l1Seq.j3 kj9 l0 a1 2 160 159) else (spec_l1Seq.j3 kj9 l0 a1 2 160 191)) else (if (rd l0 a1) = 237 then (spec_l1Seq.j3 kj9 l0 a1 2 128 159) else (spec_l1Seq.j3 kj9 l0 a1 2 128 191))) = some (r1, r2) := by rw [if_pos rfl] at H; exact H
                      clear H
                      have H := H1
                      clear H1
                      by_cases c13 : (rd l0 a1) = 224
                      · rw [if_pos c13] at H
                        have c13b0 : ((rd l0 a1) == 224) = true := beq_iff_eq.mpr c13
                        have c13b1 : ((rd l0 a1) != 224) = false := bne_eq_false_iff_eq.mpr c13
                        clear c13
                        by_cases c14 : (rd l0 a1) = 237
                        · rw [if_pos c14] at H
                          have c14b0 : ((rd l0 a1) == 237) = true := beq_iff_eq.mpr c14
                          have c14b1 : ((rd l0 a1) != 237) = false := bne_eq_false_iff_eq.mpr c14
                          clear c14
                          have H' := Aside0.mk H
                          clear H
                          go_wp2
                          go_meet
                          case rel => exact ⟨_, (2), (160), (159), (by first | rfl | (simp; done) | (simp [*]; done)), (by first | rfl | (simp; done) | (simp [*]; done)), (by first | rfl | (simp; done) | (simp [*]; done)), H', ⟨by have := HJ5.out; have := HJ9.out; first | omega | exact Nat.le_refl _⟩, by repeat (first | exact Drawn0.refl _ | apply Drawn0.step)⟩
                        · rw [if_neg c14] at H
                          have c14b0 : ((rd l0 a1) == 237) = false := beq_eq_false_iff_ne.mpr c14
                          have c14b1 : ((rd l0 a1) != 237) = true := bne_iff_ne.mpr c14
                          have H' := Aside0.mk H
                          clear H
                          go_wp2
                          go_meet
                          case rel => exact ⟨_, (2), (160), (191), (by first | rfl | (simp; done) | (simp [*]; done)), (by first | rfl | (simp; done) | (simp [*]; done)), (by first | rfl | (simp; done) | (simp [*]; done)), H', ⟨by have := HJ5.out; have := HJ9.out; first | omega | exact Nat.le_refl _⟩, by repeat (first | exact Drawn0.refl _ | apply Drawn0.step)⟩
                      · rw [if_neg c13] at H
                        have c13b0 : ((rd l0 a1) == 224) = false := beq_eq_false_iff_ne.mpr c13
                        have c13b1 : ((rd l0 a1) != 224) = true := bne_iff_ne.mpr c13
                        by_cases c15 : (rd l0 a1) = 237
                        · rw [if_pos c15] at H
                          have c15b0 : ((rd l0 a1) == 237) = true := beq_iff_eq.mpr c15
                          have c15b1 : ((rd l0 a1) != 237) = false := bne_eq_false_iff_eq.mpr c15
                          clear c15
                          have H' := Aside0.mk H
                          clear H
                          go_wp2
                          go_meet
                          case rel => exact ⟨_, (2), (128), (159), (by first | rfl | (simp; done) | (simp [*]; done)), (by first | rfl | (simp; done) | (simp [*]; done)), (by first | rfl | (simp; done) | (simp [*]; done)), H', ⟨by have := HJ5.out; have := HJ9.out; first | omega | exact Nat.le_refl _⟩, by repeat (first | exact Drawn0.refl _ | apply Drawn0.step)⟩
                        · rw [if_neg c15] at H
                          have c15b0 : ((rd l0 a1) == 237) = false := beq_eq_false_iff_ne.mpr c15
                          have c15b1 : ((rd l0 a1) != 237) = true := bne_iff_ne.mpr c15
                          have H' := Aside0.mk H
                          clear H
                          go_wp2
                          go_meet
                          case rel => exact ⟨_, (2), (128), (191), (by first | rfl | (simp; done) | (simp [*]; done)), (by first | rfl | (simp; done) | (simp [*]; done)), (by first | rfl | (simp; done) | (simp [*]; done)), H', ⟨by have := HJ5.out; have := HJ9.out; first | omega | exact Nat.le_refl _⟩, by repeat (first | exact Drawn0.refl _ | apply Drawn0.step)⟩
                    · replace c12 := Bool.eq_false_iff.mpr c12
                      subst c12
                      have H1 : (if (rd l0 a1) ≥ 240 then (spec_l1Seq.j2 kj9 l0 a1 (rd l0 a1) 128 191 (decide ((rd l0 a1) ≤ 244))) else (spec_l1Seq.j2 kj9 l0 a1 (rd l0 a1) 128 191 false)) = some (r1, r2) := by rw [if_neg (show ¬ (false = true) by decide)] at H; exact H
                      clear H
                      have H := H1
                      clear H1
                      have HC16 := Aside0.mk H
                      clear H
                      go_upto_region 15 with (fail)
                      go_cut [39] (fun v39 wc => ∃ (kq : Nat) (x39_15 : Bool), v39 = .bool x39_15 ∧ Aside0 (spec_l1Seq.j2 kq l0 a1 (rd l0 a1) 128 191 x39_15 = some (r1, r2)) ∧ Aside0 (kq ≤ kj9) ∧ Drawn0 w wc)
                      case first =>
                        have H := HC16.out
                        clear HC16
                        by_cases c17 : (rd l0 a1) ≥ 240
                        · rw [if_pos c17] at H
                          have c17b0 : decide (240 ≤ (rd l0 a1)) = true := decide_eq_true c17
                          clear c17
                          (first | rw [c17b0] | (simp only [i64_w, i32_w]; rw [c17b0]) | rw [c17b1] | skip)
                          have H' := Aside0.mk H
                          clear H
                          go_wp2
                          go_meet
                          case rel => exact ⟨_, (decide ((rd l0 a1) ≤ 244)), (by first | rfl | (simp; done) | (simp [*]; done)), H', ⟨by have := HJ5.out; have := HJ9.out; first | omega | exact Nat.le_refl _⟩, by repeat (first | exact Drawn0.refl _ | apply Drawn0.step)⟩
                        · rw [if_neg c17] at H
                          have c17b0 : decide (240 ≤ (rd l0 a1)) = false := decide_eq_false c17
                          clear c17
                          (first | rw [c17b0] | (simp only [i64_w, i32_w]; rw [c17b0]) | rw [c17b1] | skip)
                          have H' := Aside0.mk H
                          clear H
                          go_wp2
                          go_meet
                          case rel => exact ⟨_, (false), (by first | rfl | (simp; done) | (simp [*]; done)), H', ⟨by have := HJ5.out; have := HJ9.out; first | omega | exact Nat.le_refl _⟩, by repeat (first | exact Drawn0.refl _ | apply Drawn0.step)⟩
                      case rest =>
                        clear HC16
                        try clear c1
                        try clear p1
                        try clear q1
                        try clear hx1
                        try clear p2
                        try clear c3
                        try clear c3b0
                        try clear c4
                        try clear c4b0
                        try clear c5
                        try clear c5b0
                        try clear c7
                        try clear c7b0
                        try clear c9
                        try clear p10
                        try clear q10
                        try clear hx10
                        try clear c11
                        try clear c11b0
                        try clear c12
                        try clear c13
                        try clear c13b0
                        try clear c13b1
                        try clear c14
                        try clear c14b0
                        try clear c14b1
                        try clear c15
                        try clear c15b0
                        try clear c15b1
                        try clear c17
                        try clear c17b0
                        try clear hx101_0
                        try clear p1
                        try clear p10
                        try clear p101
                        try clear p2
                        try clear q1
                        try clear q10
                        try clear q101
                        obtain ⟨kq, x39_15, rfl, HA, HJ15, ⟨mc15, rfl⟩⟩ := hcut
                        cases kq with
                        | zero => exact absurd HA.out (by simp [spec_l1Seq.j2])
                        | succ kj15 =>
                          have H := HA.out
                          clear HA
                          simp only [spec_l1Seq.j2] at H
                          by_cases c18 : x39_15 = true
                          · subst c18
                            have H1 : (if (rd l0 a1) = 240 then (if (rd l0 a1) = 244 then (spec_l1Seq.j3 kj15 l0 a1 3 144 143) else (spec_l1Seq.j3 kj15 l0 a1 3 144 191)) else (if (rd l0 a1) = 244 then (spec_l1Seq.j3 kj15 l0 a1 3 128 143) else (spec_l1Seq.j3 kj15 l0 a1 3 128 191))) = some (r1, r2) := by rw [if_pos rfl] at H; exact H
                            clear H
                            have H := H1
                            clear H1
                            by_cases c19 : (rd l0 a1) = 240
                            · rw [if_pos c19] at H
                              have c19b0 : ((rd l0 a1) == 240) = true := beq_iff_eq.mpr c19
                              have c19b1 : ((rd l0 a1) != 240) = false := bne_eq_false_iff_eq.mpr c19
                              clear c19
                              by_cases c20 : (rd l0 a1) = 244
                              · rw [if_pos c20] at H
                                have c20b0 : ((rd l0 a1) == 244) = true := beq_iff_eq.mpr c20
                                have c20b1 : ((rd l0 a1) != 244) = false := bne_eq_false_iff_eq.mpr c20
                                clear c20
                                have H' := Aside0.mk H
                                clear H
                                go_wp2
                                go_meet
                                case rel => exact ⟨_, (3), (144), (143), (by first | rfl | (simp; done) | (simp [*]; done)), (by first | rfl | (simp; done) | (simp [*]; done)), (by first | rfl | (simp; done) | (simp [*]; done)), H', ⟨by have := HJ5.out; have := HJ9.out; have := HJ15.out; first | omega | exact Nat.le_refl _⟩, by repeat (first | exact Drawn0.refl _ | apply Drawn0.step)⟩
                              · rw [if_neg c20] at H
                                have c20b0 : ((rd l0 a1) == 244) = false := beq_eq_false_iff_ne.mpr c20
                                have c20b1 : ((rd l0 a1) != 244) = true := bne_iff_ne.mpr c20
                                have H' := Aside0.mk H
                                clear H
                                go_wp2
                                go_meet
                                case rel => exact ⟨_, (3), (144), (191), (by first | rfl | (simp; done) | (simp [*]; done)), (by first | rfl | (simp; done) | (simp [*]; done)), (by first | rfl | (simp; done) | (simp [*]; done)), H', ⟨by have := HJ5.out; have := HJ9.out; have := HJ15.out; first | omega | exact Nat.le_refl _⟩, by repeat (first | exact Drawn0.refl _ | apply Drawn0.step)⟩
                            · rw [if_neg c19] at H
                              have c19b0 : ((rd l0 a1) == 240) = false := beq_eq_false_iff_ne.mpr c19
                              have c19b1 : ((rd l0 a1) != 240) = true := bne_iff_ne.mpr c19
                              by_cases c21 : (rd l0 a1) = 244
                              · rw [if_pos c21] at H
                                have c21b0 : ((rd l0 a1) == 244) = true := beq_iff_eq.mpr c21
                                have c21b1 : ((rd l0 a1) != 244) = false := bne_eq_false_iff_eq.mpr c21
                                clear c21
                                have H' := Aside0.mk H
                                clear H
                                go_wp2
                                go_meet
                                case rel => exact ⟨_, (3), (128), (143), (by first | rfl | (simp; done) | (simp [*]; done)), (by first | rfl | (simp; done) | (simp [*]; done)), (by first | rfl | (simp; done) | (simp [*]; done)), H', ⟨by have := HJ5.out; have := HJ9.out; have := HJ15.out; first | omega | exact Nat.le_refl _⟩, by repeat (first | exact Drawn0.refl _ | apply Drawn0.step)⟩
                              · rw [if_neg c21] at H
                                have c21b0 : ((rd l0 a1) == 244) = false := beq_eq_false_iff_ne.mpr c21
                                have c21b1 : ((rd l0 a1) != 244) = true := bne_iff_ne.mpr c21
                                have H' := Aside0.mk H
                                clear H
                                go_wp2
                                go_meet
                                case rel => exact ⟨_, (3), (128), (191), (by first | rfl | (simp; done) | (simp [*]; done)), (by first | rfl | (simp; done) | (simp [*]; done)), (by first | rfl | (simp; done) | (simp [*]; done)), H', ⟨by have := HJ5.out; have := HJ9.out; have := HJ15.out; first | omega | exact Nat.le_refl _⟩, by repeat (first | exact Drawn0.refl _ | apply Drawn0.step)⟩
                          · replace c18 := Bool.eq_false_iff.mpr c18
                            subst c18
                            have H1 : (some (0, false)) = some (r1, r2) := by rw [if_neg (show ¬ (false = true) by decide)] at H; exact H
                            clear H
                            have H := H1
                            clear H1
                            simp only [Option.some.injEq, Prod.mk.injEq] at H
                            obtain ⟨rfl, rfl⟩ := H
                            go_wp2
                            go_ret2
                            exact ⟨by first | rfl | (simp; done) | (simp [*]; done), by repeat (first | exact Drawn0.refl _ | apply Drawn0.step)⟩
            case rest =>
              clear HC8
              try clear c1
              try clear p1
              try clear q1
              try clear hx1
              try clear c2
              try clear p2
              try clear c3
              try clear c3b0
              try clear c4
              try clear c4b0
              try clear c5
              try clear c5b0
              try clear c7
              try clear c7b0
              try clear c9
              try clear p10
              try clear q10
              try clear hx10
              try clear c11
              try clear c11b0
              try clear c12
              try clear c13
              try clear c13b0
              try clear c13b1
              try clear c14
              try clear c14b0
              try clear c14b1
              try clear c15
              try clear c15b0
              try clear c15b1
              try clear c17
              try clear c17b0
              try clear c18
              try clear c19
              try clear c19b0
              try clear c19b1
              try clear c20
              try clear c20b0
              try clear c20b1
              try clear c21
              try clear c21b0
              try clear c21b1
              try clear hx101_0
              try clear p1
              try clear p10
              try clear p101
              try clear p2
              try clear q1
              try clear q10
              try clear q101
              obtain ⟨kq, x7_7, x8_7, x9_7, rfl, rfl, rfl, HA, HJ7, ⟨mc7, rfl⟩⟩ := hcut
              cases kq with
              | zero => exact absurd HA.out (by simp [spec_l1Seq.j3])
              | succ kj7 =>
                have H := HA.out
                clear HA
                simp only [spec_l1Seq.j3] at H
                have H' := Aside0.mk H
                clear H
                go_wp2
                go_loopg [8, 9, 10, 11] kj7 (fun kq v8 v9 v10 v11 w' => ∃ (x8_3 : Int) (x9_3 : Int) (x10_3 : Int) (x11_3 : Int), v8 = .int .u8 x8_3 ∧ v9 = .int .u8 x9_3 ∧ v10 = .int .i64 x10_3 ∧ v11 = .int .i64 x11_3 ∧ Aside0 (spec_l1Seq.l0 kq l0 a1 x7_7 x8_3 x9_3 x10_3 x11_3 = some (r1, r2)) ∧ Aside0 (kq ≤ kj7) ∧ Drawn0 w w')
                case atStart => exact ⟨(x8_7), (x9_7), (1), (0), (by first | rfl | (simp; done) | (simp [*]; done)), (by first | rfl | (simp; done) | (simp [*]; done)), (by first | rfl | (simp; done) | (simp [*]; done)), (by first | rfl | (simp; done) | (simp [*]; done)), H', ⟨Nat.le_refl _⟩, by repeat (first | exact Drawn0.refl _ | apply Drawn0.step)⟩
                case round =>
                  clear H'
                  try clear c1
                  try clear p1
                  try clear q1
                  try clear hx1
                  try clear c2
                  try clear p2
                  try clear c3
                  try clear c3b0
                  try clear c4
                  try clear c4b0
                  try clear c5
                  try clear c5b0
                  try clear c7
                  try clear c7b0
                  try clear c9
                  try clear p10
                  try clear q10
                  try clear hx10
                  try clear c11
                  try clear c11b0
                  try clear c12
                  try clear c13
                  try clear c13b0
                  try clear c13b1
                  try clear c14
                  try clear c14b0
                  try clear c14b1
                  try clear c15
                  try clear c15b0
                  try clear c15b1
                  try clear c17
                  try clear c17b0
                  try clear c18
                  try clear c19
                  try clear c19b0
                  try clear c19b1
                  try clear c20
                  try clear c20b0
                  try clear c20b1
                  try clear c21
                  try clear c21b0
                  try clear c21b1
                  try clear hx101_0
                  try clear p1
                  try clear p10
                  try clear p101
                  try clear p2
                  try clear q1
                  try clear q10
                  try clear q101
                  obtain ⟨x8_3, x9_3, x10_3, x11_3, rfl, rfl, rfl, rfl, HA, HK3, ⟨m3, rfl⟩⟩ := hrel
                  cases gk with
                  | zero => exact absurd HA.out (by simp [spec_l1Seq.l0])
                  | succ k3 =>
                    have H := HA.out
                    clear HA
                    simp only [spec_l1Seq.l0] at H
                    by_cases c22 : x11_3 < x7_7
                    · rw [if_pos c22] at H
                      have c22b0 : decide (x11_3 < x7_7) = true := decide_eq_true c22
                      clear c22
                      by_cases c23 : (wrap64 (a1 + x10_3)) ≥ (l0.length : Int)
                      · rw [if_pos c23] at H
                        have c23b0 : decide ((l0.length : Int) ≤ (wrap64 (a1 + x10_3))) = true := decide_eq_true c23
                        clear c23
                        simp only [Option.some.injEq, Prod.mk.injEq] at H
                        obtain ⟨rfl, rfl⟩ := H
                        go_wp2
                        go_ret2
                        exact ⟨by first | rfl | (simp; done) | (simp [*]; done), by repeat (first | exact Drawn0.refl _ | apply Drawn0.step)⟩
                      · rw [if_neg c23] at H
                        have c23b0 : decide ((l0.length : Int) ≤ (wrap64 (a1 + x10_3))) = false := decide_eq_false c23
                        clear c23
                        obtain ⟨ji24, hji24⟩ : ∃ j_ : Int, (wrap64 (a1 + x10_3)) = j_ := ⟨_, rfl⟩
                        replace H : (if 0 ≤ (ji24) then (if (ji24) < (l0.length : Int) then (if (rd l0 (ji24)) < x8_3 then (some (x10_3, false)) else (if (rd l0 (ji24)) > x9_3 then (some (x10_3, false)) else (spec_l1Seq.l0 k3 l0 a1 x7_7 128 191 (wrap64 (x10_3 + 1)) (wrap64 (x11_3 + 1))))) else (none)) else (none)) = some (r1, r2) := by first | (rw [hji24] at H; exact H) | (simp only [hji24] at H ⊢; exact H)
                        (try rw [hji24] at c23b0)
                        have hji24w : (IntKind.i64.wrap (a1 + x10_3)) = ji24 := (i64_w _).trans hji24
                        by_cases c25 : 0 ≤ (ji24)
                        · rw [if_pos c25] at H
                          have c25b0 : decide (0 ≤ (ji24)) = true := decide_eq_true c25
                          clear c25
                          by_cases c26 : (ji24) < (l0.length : Int)
                          · rw [if_pos c26] at H
                            have c26b0 : decide ((ji24) < (l0.length : Int)) = true := decide_eq_true c26
                            clear c26
                            by_cases c27 : (rd l0 (ji24)) < x8_3
                            · rw [if_pos c27] at H
                              have c27b0 : decide ((rd l0 (ji24)) < x8_3) = true := decide_eq_true c27
                              clear c27
                              simp only [Option.some.injEq, Prod.mk.injEq] at H
                              obtain ⟨rfl, rfl⟩ := H
                              have p102 : 0 ≤ ((ji24) : Int) := of_decide_eq_true (by first | (with_reducible assumption) | assumption)
                              have q102 : (ji24) < (l0.length : Int) := of_decide_eq_true (by first | (with_reducible assumption) | assumption)
                              obtain ⟨ad102, e102, hx102_0⟩ := Kd.at_int HR0.out (ji24) p102 q102
                              obtain rfl : ad101 = ad102 := (by injection e102)
                              replace p102 := eq_true p102
                              replace q102 := eq_true q102
                              go_wp2
                              go_ret2
                              exact ⟨by first | rfl | (simp; done) | (simp only [← hji24] <;> (first | rfl | simp)) | (simp [*]; done), by repeat (first | exact Drawn0.refl _ | apply Drawn0.step)⟩
                            · rw [if_neg c27] at H
                              have c27b0 : decide ((rd l0 (ji24)) < x8_3) = false := decide_eq_false c27
                              clear c27
                              by_cases c28 : (rd l0 (ji24)) > x9_3
                              · rw [if_pos c28] at H
                                have c28b0 : decide (x9_3 < (rd l0 (ji24))) = true := decide_eq_true c28
                                clear c28
                                simp only [Option.some.injEq, Prod.mk.injEq] at H
                                obtain ⟨rfl, rfl⟩ := H
                                have p102 : 0 ≤ ((ji24) : Int) := of_decide_eq_true (by first | (with_reducible assumption) | assumption)
                                have q102 : (ji24) < (l0.length : Int) := of_decide_eq_true (by first | (with_reducible assumption) | assumption)
                                obtain ⟨ad102, e102, hx102_0⟩ := Kd.at_int HR0.out (ji24) p102 q102
                                obtain rfl : ad101 = ad102 := (by injection e102)
                                replace p102 := eq_true p102
                                replace q102 := eq_true q102
                                have p103 : 0 ≤ ((ji24) : Int) := of_decide_eq_true (by first | (with_reducible assumption) | assumption)
                                have q103 : (ji24) < (l0.length : Int) := of_decide_eq_true (by first | (with_reducible assumption) | assumption)
                                obtain ⟨ad103, e103, hx103_0⟩ := Kd.at_int HR0.out (ji24) p103 q103
                                obtain rfl : ad101 = ad103 := (by injection e103)
                                replace p103 := eq_true p103
                                replace q103 := eq_true q103
                                go_wp2
                                go_ret2
                                exact ⟨by first | rfl | (simp; done) | (simp only [← hji24] <;> (first | rfl | simp)) | (simp [*]; done), by repeat (first | exact Drawn0.refl _ | apply Drawn0.step)⟩
                              · rw [if_neg c28] at H
                                have c28b0 : decide (x9_3 < (rd l0 (ji24))) = false := decide_eq_false c28
                                clear c28
                                have H' := Aside0.mk H
                                clear H
                                have p102 : 0 ≤ ((ji24) : Int) := of_decide_eq_true (by first | (with_reducible assumption) | assumption)
                                have q102 : (ji24) < (l0.length : Int) := of_decide_eq_true (by first | (with_reducible assumption) | assumption)
                                obtain ⟨ad102, e102, hx102_0⟩ := Kd.at_int HR0.out (ji24) p102 q102
                                obtain rfl : ad101 = ad102 := (by injection e102)
                                replace p102 := eq_true p102
                                replace q102 := eq_true q102
                                have p103 : 0 ≤ ((ji24) : Int) := of_decide_eq_true (by first | (with_reducible assumption) | assumption)
                                have q103 : (ji24) < (l0.length : Int) := of_decide_eq_true (by first | (with_reducible assumption) | assumption)
                                obtain ⟨ad103, e103, hx103_0⟩ := Kd.at_int HR0.out (ji24) p103 q103
                                obtain rfl : ad101 = ad103 := (by injection e103)
                                replace p103 := eq_true p103
                                replace q103 := eq_true q103
                                go_wp2
                                go_roundg k3
                                case measure => have := HJ5.out; have := HJ7.out; have := HK3.out; omega
                                case rel => exact ⟨(128), (191), (wrap64 (x10_3 + 1)), (wrap64 (x11_3 + 1)), (by first | rfl | (simp; done) | (simp [*]; done)), (by first | rfl | (simp; done) | (simp [*]; done)), (by first | rfl | (simp; done) | (simp [*]; done)), (by first | rfl | (simp; done) | (simp [*]; done)), H', ⟨by have := HJ5.out; have := HJ7.out; have := HK3.out; omega⟩, by repeat (first | exact Drawn0.refl _ | apply Drawn0.step)⟩
                          · rw [if_neg c26] at H
                            exact absurd H (by simp)
                        · rw [if_neg c25] at H
                          exact absurd H (by simp)
                    · rw [if_neg c22] at H
                      have c22b0 : decide (x11_3 < x7_7) = false := decide_eq_false c22
                      clear c22
                      simp only [Option.some.injEq, Prod.mk.injEq] at H
                      obtain ⟨rfl, rfl⟩ := H
                      go_wp2
                      go_ret2
                      exact ⟨by first | rfl | (simp; done) | (simp [*]; done), by repeat (first | exact Drawn0.refl _ | apply Drawn0.step)⟩
    · rw [if_neg c4] at H
      exact absurd H (by simp)
  · rw [if_neg c3] at H
    exact absurd H (by simp)

end Go.Proofs.Ytamhebnfgegijaa.QFnExactCodePoints
