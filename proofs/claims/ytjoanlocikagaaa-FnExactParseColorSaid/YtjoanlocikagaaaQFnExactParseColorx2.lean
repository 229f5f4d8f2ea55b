/- Written by a program (wip/tools/own_print.py) out of the walk that the kit's printer made; turned where it fell. -/
-- PRINTED by print.py (a twelfth state) out of the translation. Not trusted: Lean checks it.
import Derived.Test.YtjoanlocikagaaaQFnExactParseColorx0
import Derived.Test.YtjoanlocikagaaaQFnExactParseColorx1
namespace Go.Proofs.Ytjoanlocikagaaa.QFnExactParseColor
open Go.RowKit Go.Proofs.YtjoanlocikagaaaW.PrintWords Go.Proofs.YtjoanlocikagaaaW.PrintLast Go.Proofs.YtjoanlocikagaaaW.PrintMore
attribute [local go_sem] max2_int min2_int max_two min_two max_three min_three max_four min_four   -- for this text's walks alone
set_option linter.unusedVariables false
set_option linter.unusedSimpArgs false

/-! ### spec_ParseColor: function 20 -/
mutual
def spec_ParseColor.j1 : Nat → List (S96) → Option (Int × Bool)
  | 0, _ => none
  | k + 1, x4 => if 0 < (x4.length : Int) then (if ((rd_T96 x4 0).f0) = 4 then (if (((rd_T96 x4 0).f1).size : Int) = 3 then (spec_ParseColor.j2 k ((rd_T96 x4 0).f1) false) else (spec_ParseColor.j2 k ((rd_T96 x4 0).f1) ((((rd_T96 x4 0).f1).size : Int) != 6))) else (spec_ParseColor.j2 k ((rd_T96 x4 0).f1) true)) else (none)
def spec_ParseColor.j2 : Nat → ByteArray → Bool → Option (Int × Bool)
  | 0, _, _ => none
  | k + 1, x8, x62 => if x62 = true then (some (0, false)) else (spec_ParseColor.l1 k x8 0 0)
def spec_ParseColor.l1 : Nat → ByteArray → Int → Int → Option (Int × Bool)
  | 0, _, _, _ => none
  | k + 1, x8, x9, x10 => if x10 < (x8.size : Int) then (if 0 ≤ x10 then ((spec_l2Hex.f k (bt x8 x10)).bind fun t151 => (if t151 > 15 then (some (0, false)) else (if (x8.size : Int) = 3 then (spec_ParseColor.l1 k x8 (wrap64 ((wrap64 ((wrap64 ((wrap64 (x9 * 16)) + t151)) * 16)) + t151)) (wrap64 (x10 + 1))) else (spec_ParseColor.l1 k x8 (wrap64 ((wrap64 (x9 * 16)) + t151)) (wrap64 (x10 + 1)))))) else (none)) else (some (x9, true))
def spec_ParseColor.l0 : Nat → List (S96) → List ByteArray → List Int → Int → Option (Int × Bool)
  | 0, _, _, _, _ => none
  | k + 1, x4, x5, x6, x7 => if x7 < (x5.length : Int) then (if 0 < (x4.length : Int) then ((spec_l1Lower.f k ((rd_T96 x4 0).f1)).bind fun t146 => (if 0 ≤ x7 then (if t146.toList = (rdOf ByteArray.empty x5 x7).toList then (if x7 < (x6.length : Int) then (some (rd x6 x7, true)) else (none)) else (spec_ParseColor.l0 k x4 x5 x6 (wrap64 (x7 + 1)))) else (none))) else (none)) else (spec_ParseColor.j1 k x4)
end
def spec_ParseColor.f (k : Nat) (l0 : List (S96)) : Option (Int × Bool) := (spec_l7Trim.f k l0).bind fun t135 => (if (t135.length : Int) = 1 then (if 0 < (t135.length : Int) then (if ((rd_T96 t135 0).f0) = 1 then (spec_ParseColor.l0 k t135 (([(⟨#[98, 108, 97, 99, 107]⟩ : ByteArray), (⟨#[119, 104, 105, 116, 101]⟩ : ByteArray), (⟨#[114, 101, 100]⟩ : ByteArray), (⟨#[103, 114, 101, 101, 110]⟩ : ByteArray), (⟨#[98, 108, 117, 101]⟩ : ByteArray), (⟨#[121, 101, 108, 108, 111, 119]⟩ : ByteArray), (⟨#[103, 114, 97, 121]⟩ : ByteArray), (⟨#[110, 97, 118, 121]⟩ : ByteArray), (⟨#[116, 101, 97, 108]⟩ : ByteArray), (⟨#[109, 97, 114, 111, 111, 110]⟩ : ByteArray), (⟨#[115, 105, 108, 118, 101, 114]⟩ : ByteArray), (⟨#[111, 114, 97, 110, 103, 101]⟩ : ByteArray)] : List ByteArray)) (([0, 16777215, 16711680, 32768, 255, 16776960, 8421504, 128, 32896, 8388608, 12632256, 16753920] : List Int)) 0) else (spec_ParseColor.j1 k t135)) else (none)) else (some (0, false)))
theorem spec_ParseColor.mono_l : ∀ k, (∀ y0, LeO (spec_ParseColor.j1 k y0) (spec_ParseColor.j1 (k + 1) y0)) ∧ (∀ y0 y1, LeO (spec_ParseColor.j2 k y0 y1) (spec_ParseColor.j2 (k + 1) y0 y1)) ∧ (∀ y0 y1 y2, LeO (spec_ParseColor.l1 k y0 y1 y2) (spec_ParseColor.l1 (k + 1) y0 y1 y2)) ∧ (∀ y0 y1 y2 y3, LeO (spec_ParseColor.l0 k y0 y1 y2 y3) (spec_ParseColor.l0 (k + 1) y0 y1 y2 y3))
  | 0 => ⟨fun _ r h => by simp [spec_ParseColor.j1] at h, fun _ _ r h => by simp [spec_ParseColor.j2] at h, fun _ _ _ r h => by simp [spec_ParseColor.l1] at h, fun _ _ _ _ r h => by simp [spec_ParseColor.l0] at h⟩
  | k + 1 => by
    obtain ⟨ih0, ih1, ih2, ih3⟩ := spec_ParseColor.mono_l k
    refine ⟨?_, ?_, ?_, ?_⟩
    · intro y0
      unfold spec_ParseColor.j1
      repeat' first
      | (with_reducible exact ih0 _)
      | (with_reducible exact ih1 _ _)
      | (with_reducible exact ih2 _ _ _)
      | (with_reducible exact ih3 _ _ _ _)
      | (with_reducible exact spec_l1Lower.mono _ _)
      | (with_reducible exact spec_l2Hex.mono _ _)
      | (with_reducible exact spec_l7Trim.mono _ _)
      | (with_reducible exact LeO.refl _)
      | (with_reducible exact LeO.none _)
      | (with_reducible refine LeO.ite ?_ ?_)
      | (with_reducible refine LeO.bind ?_ (fun _ => ?_))
      | exact ih0 _
      | exact ih1 _ _
      | exact ih2 _ _ _
      | exact ih3 _ _ _ _
      | exact spec_l1Lower.mono _ _
      | exact spec_l2Hex.mono _ _
      | exact spec_l7Trim.mono _ _
      | exact LeO.none _
      | refine LeO.ite ?_ ?_
      | refine LeO.bind ?_ (fun _ => ?_)
    · intro y0 y1
      unfold spec_ParseColor.j2
      repeat' first
      | (with_reducible exact ih0 _)
      | (with_reducible exact ih1 _ _)
      | (with_reducible exact ih2 _ _ _)
      | (with_reducible exact ih3 _ _ _ _)
      | (with_reducible exact spec_l1Lower.mono _ _)
      | (with_reducible exact spec_l2Hex.mono _ _)
      | (with_reducible exact spec_l7Trim.mono _ _)
      | (with_reducible exact LeO.refl _)
      | (with_reducible exact LeO.none _)
      | (with_reducible refine LeO.ite ?_ ?_)
      | (with_reducible refine LeO.bind ?_ (fun _ => ?_))
      | exact ih0 _
      | exact ih1 _ _
      | exact ih2 _ _ _
      | exact ih3 _ _ _ _
      | exact spec_l1Lower.mono _ _
      | exact spec_l2Hex.mono _ _
      | exact spec_l7Trim.mono _ _
      | exact LeO.none _
      | refine LeO.ite ?_ ?_
      | refine LeO.bind ?_ (fun _ => ?_)
    · intro y0 y1 y2
      unfold spec_ParseColor.l1
      repeat' first
      | (with_reducible exact ih0 _)
      | (with_reducible exact ih1 _ _)
      | (with_reducible exact ih2 _ _ _)
      | (with_reducible exact ih3 _ _ _ _)
      | (with_reducible exact spec_l1Lower.mono _ _)
      | (with_reducible exact spec_l2Hex.mono _ _)
      | (with_reducible exact spec_l7Trim.mono _ _)
      | (with_reducible exact LeO.refl _)
      | (with_reducible exact LeO.none _)
      | (with_reducible refine LeO.ite ?_ ?_)
      | (with_reducible refine LeO.bind ?_ (fun _ => ?_))
      | exact ih0 _
      | exact ih1 _ _
      | exact ih2 _ _ _
      | exact ih3 _ _ _ _
      | exact spec_l1Lower.mono _ _
      | exact spec_l2Hex.mono _ _
      | exact spec_l7Trim.mono _ _
      | exact LeO.none _
      | refine LeO.ite ?_ ?_
      | refine LeO.bind ?_ (fun _ => ?_)
    · intro y0 y1 y2 y3
      unfold spec_ParseColor.l0
      repeat' first
      | (with_reducible exact ih0 _)
      | (with_reducible exact ih1 _ _)
      | (with_reducible exact ih2 _ _ _)
      | (with_reducible exact ih3 _ _ _ _)
      | (with_reducible exact spec_l1Lower.mono _ _)
      | (with_reducible exact spec_l2Hex.mono _ _)
      | (with_reducible exact spec_l7Trim.mono _ _)
      | (with_reducible exact LeO.refl _)
      | (with_reducible exact LeO.none _)
      | (with_reducible refine LeO.ite ?_ ?_)
      | (with_reducible refine LeO.bind ?_ (fun _ => ?_))
      | exact ih0 _
      | exact ih1 _ _
      | exact ih2 _ _ _
      | exact ih3 _ _ _ _
      | exact spec_l1Lower.mono _ _
      | exact spec_l2Hex.mono _ _
      | exact spec_l7Trim.mono _ _
      | exact LeO.none _
      | refine LeO.ite ?_ ?_
      | refine LeO.bind ?_ (fun _ => ?_)
theorem spec_ParseColor.mono : ∀ a0 k, LeO (spec_ParseColor.f k a0) (spec_ParseColor.f (k + 1) a0) := by
  intro a0 k
  obtain ⟨ih0, ih1, ih2, ih3⟩ := spec_ParseColor.mono_l k
  unfold spec_ParseColor.f
  repeat' first
      | (with_reducible exact ih0 _)
      | (with_reducible exact ih1 _ _)
      | (with_reducible exact ih2 _ _ _)
      | (with_reducible exact ih3 _ _ _ _)
      | (with_reducible exact spec_l1Lower.mono _ _)
      | (with_reducible exact spec_l2Hex.mono _ _)
      | (with_reducible exact spec_l7Trim.mono _ _)
      | (with_reducible exact LeO.refl _)
      | (with_reducible exact LeO.none _)
      | (with_reducible refine LeO.ite ?_ ?_)
      | (with_reducible refine LeO.bind ?_ (fun _ => ?_))
      | exact ih0 _
      | exact ih1 _ _
      | exact ih2 _ _ _
      | exact ih3 _ _ _ _
      | exact spec_l1Lower.mono _ _
      | exact spec_l2Hex.mono _ _
      | exact spec_l7Trim.mono _ _
      | exact LeO.none _
      | refine LeO.ite ?_ ?_
      | refine LeO.bind ?_ (fun _ => ?_)
def spec_ParseColor.T10 : Bool × List (List Nat × List Nat) := (true, [([], []), ([0], [0]), ([1], [1]), ([2], [2]), ([3], [3]), ([], []), ([], []), ([5, 6], [5, 6]), ([7], [7]), ([4, 8], [4, 8])])
def spec_ParseColor.B10 : List Nat := [0, 1, 3, 7, 15, 0, 0, 96, 224, 511]
theorem spec_ParseColor.tab10 : rtab .any (opsOf Try.f20 10) = spec_ParseColor.T10 := by kernel_rfl
theorem spec_ParseColor.bits10 : waitsOk spec_ParseColor.T10.2 spec_ParseColor.B10 = true := by kernel_rfl
set_option maxHeartbeats 8000000 in
set_option maxRecDepth 100000 in
theorem spec_ParseColor.calls (k : Nat) (A0 : Option Addr) (c0 : Nat) (l0 : List (S96)) (r1 : Int) (r2 : Bool) (w : World) (hr0 : Kd.C k96 w A0 l0.length l0) (hc0 : l0.length ≤ c0) (h : spec_ParseColor.f k l0 = some (r1, r2)) :
    Calls Try.prog 20 #[.slice A0 l0.length c0] w fun e w' => e = .returned (.tuple #[.int .i64 r1, .bool r2]) ∧ Below w.heap.size w w' := by
  have HR0 := Aside0.mk hr0
  have HC0 := Aside0.mk hc0
  clear hr0 hc0
  have HB := Aside0.mk (Below.refl w.heap.size w)
  have H : ((spec_l7Trim.f k l0).bind fun t135 => (if (t135.length : Int) = 1 then (if 0 < (t135.length : Int) then (if ((rd_T96 t135 0).f0) = 1 then (spec_ParseColor.l0 k t135 (([(⟨#[98, 108, 97, 99, 107]⟩ : ByteArray), (⟨#[119, 104, 105, 116, 101]⟩ : ByteArray), (⟨#[114, 101, 100]⟩ : ByteArray), (⟨#[103, 114, 101, 101, 110]⟩ : ByteArray), (⟨#[98, 108, 117, 101]⟩ : ByteArray), (⟨#[121, 101, 108, 108, 111, 119]⟩ : ByteArray), (⟨#[103, 114, 97, 121]⟩ : ByteArray), (⟨#[110, 97, 118, 121]⟩ : ByteArray), (⟨#[116, 101, 97, 108]⟩ : ByteArray), (⟨#[109, 97, 114, 111, 111, 110]⟩ : ByteArray), (⟨#[115, 105, 108, 118, 101, 114]⟩ : ByteArray), (⟨#[111, 114, 97, 110, 103, 101]⟩ : ByteArray)] : List ByteArray)) (([0, 16777215, 16711680, 32768, 255, 16776960, 8421504, 128, 32896, 8388608, 12632256, 16753920] : List Int)) 0) else (spec_ParseColor.j1 k t135)) else (none)) else (some (0, false)))) = some (r1, r2) := h
  clear h
  replace H := Option.bind_eq_some_iff.mp H
  obtain ⟨t135, A20, H⟩ := H
  replace H : (if (t135.length : Int) = 1 then (if 0 < (t135.length : Int) then (if ((rd_T96 t135 0).f0) = 1 then (spec_ParseColor.l0 k t135 (([(⟨#[98, 108, 97, 99, 107]⟩ : ByteArray), (⟨#[119, 104, 105, 116, 101]⟩ : ByteArray), (⟨#[114, 101, 100]⟩ : ByteArray), (⟨#[103, 114, 101, 101, 110]⟩ : ByteArray), (⟨#[98, 108, 117, 101]⟩ : ByteArray), (⟨#[121, 101, 108, 108, 111, 119]⟩ : ByteArray), (⟨#[103, 114, 97, 121]⟩ : ByteArray), (⟨#[110, 97, 118, 121]⟩ : ByteArray), (⟨#[116, 101, 97, 108]⟩ : ByteArray), (⟨#[109, 97, 114, 111, 111, 110]⟩ : ByteArray), (⟨#[115, 105, 108, 118, 101, 114]⟩ : ByteArray), (⟨#[111, 114, 97, 110, 103, 101]⟩ : ByteArray)] : List ByteArray)) (([0, 16777215, 16711680, 32768, 255, 16776960, 8421504, 128, 32896, 8388608, 12632256, 16753920] : List Int)) 0) else (spec_ParseColor.j1 k t135)) else (none)) else (some (0, false))) = some (r1, r2) := H
  have A2 := Aside0.mk A20
  clear A20
  by_cases c3 : (t135.length : Int) = 1
  · rw [if_pos c3] at H
    have c3b0 : ((t135.length : Int) == 1) = true := beq_iff_eq.mpr c3
    have c3b1 : ((t135.length : Int) != 1) = false := bne_eq_false_iff_eq.mpr c3
    clear c3
    by_cases c4 : 0 < (t135.length : Int)
    · rw [if_pos c4] at H
      have c4b0 : decide (0 < (t135.length : Int)) = true := decide_eq_true c4
      have c4b1 : decide (0 < t135.length) = true := decide_eq_true (by omega)
      clear c4
      have HC5 := Aside0.mk H
      clear H
      go_enter Try.func20, Try.ntmps20
      go_upto_if 21 with (first | ((with_reducible refine gate_callee (f := 56) rfl ?_); refine goesL_ (some 13) rfl rfl Try.func56 (by kernel_rfl) rfl #[.slice A0 l0.length c0] rfl (by (try simp only [List.map_toArray, List.map_cons, List.map_nil]); first | done | rfl | (simp only [List.length_drop, List.length_take]; rfl)) ?_; (with_reducible refine (spec_l7Trim.calls k _ _ l0 t135 _ ?side1 ?side2 A2.out).mono ?_); (case side1 => repeat (first | exact HR0.out | (with_reducible refine Kd.C_alloc ?_ _) | (with_reducible refine Kd.C_drewN ?_ _) | (with_reducible refine Kd.C_drew ?_))); (case side2 => exact HC0.out); rintro e w6 ⟨v136, rfl, ho0, hb⟩; refine ⟨_, rfl, ?_⟩; have n0_ := Aside0.mk (Kd.R_lower ho0 (below_size (by repeat (first | (with_reducible first | exact HB.out | apply below_alloc | apply pw_below_drewN | apply below_drew1) | exact HB.out)))); have n1_ := Aside0.mk (below_step (by repeat (first | (with_reducible first | exact HB.out | apply below_alloc | apply pw_below_drewN | apply below_drew1) | exact HB.out)) hb); clear HB; have HO137 := n0_; have HB := n1_; clear n0_ n1_; (try clear hb); (try clear hb2); (try clear hk); (try clear hi); (try clear ho0); obtain ⟨Ao7, co7, eo7⟩ := Kd.R_slice HO137.out; subst eo7; have p138 : 0 ≤ (0 : Int) := (by omega); have q138 : 0 < (t135.length : Int) := of_decide_eq_true (by first | (with_reducible assumption) | assumption); obtain ⟨ad138, e138, hx138_0, hx138_1, hx138_2, hx138_3⟩ := at_T96 (Kd.R_reads' HO137.out).2.2 0 p138 q138; cases e138; have qi138 : (0 < t135.length) = True := eq_true (by omega); (try rw [show ((0 : Int)).toNat = 0 from rfl] at hx138_0); (try rw [show 0 * 4 = 0 from rfl] at hx138_0); (try rw [Addr.add_zero'] at hx138_0); (try rw [show ((0 : Int)).toNat = 0 from rfl] at hx138_1); (try rw [show 0 * 4 = 0 from rfl] at hx138_1); (try rw [Addr.add_zero'] at hx138_1); (try rw [show ((0 : Int)).toNat = 0 from rfl] at hx138_2); (try rw [show 0 * 4 = 0 from rfl] at hx138_2); (try rw [Addr.add_zero'] at hx138_2); (try rw [show ((0 : Int)).toNat = 0 from rfl] at hx138_3); (try rw [show 0 * 4 = 0 from rfl] at hx138_3); (try rw [Addr.add_zero'] at hx138_3); replace p138 := eq_true p138; replace q138 := eq_true q138))
      (try simp only [Act.put, List.setIfInBounds_toArray, List.set_cons_zero, List.set_cons_succ])
      go_cut [] (fun wc => ∃ (kq : Nat), Aside0 (spec_ParseColor.j1 kq t135 = some (r1, r2)) ∧ Aside0 (kq ≤ k) ∧ Aside0 (Kd.R k96 96 wc w.heap.size (fun _ => True) (.slice (some ad138) t135.length co7) t135) ∧ Aside0 (Below w.heap.size w wc))
      case first =>
        have H := HC5.out
        clear HC5
        by_cases c8 : ((rd_T96 t135 0).f0) = 1
        · rw [if_pos c8] at H
          have c8b0 : (((rd_T96 t135 0).f0) == 1) = true := beq_iff_eq.mpr c8
          have c8b1 : (((rd_T96 t135 0).f0) != 1) = false := bne_eq_false_iff_eq.mpr c8
          clear c8
          (first | rw [c8b0] | (simp only [i64_w, i32_w]; rw [c8b0]) | rw [c8b1] | skip)
          obtain ⟨y139, hy139⟩ : ∃ y_ : List ByteArray, y_ = (([(⟨#[98, 108, 97, 99, 107]⟩ : ByteArray), (⟨#[119, 104, 105, 116, 101]⟩ : ByteArray), (⟨#[114, 101, 100]⟩ : ByteArray), (⟨#[103, 114, 101, 101, 110]⟩ : ByteArray), (⟨#[98, 108, 117, 101]⟩ : ByteArray), (⟨#[121, 101, 108, 108, 111, 119]⟩ : ByteArray), (⟨#[103, 114, 97, 121]⟩ : ByteArray), (⟨#[110, 97, 118, 121]⟩ : ByteArray), (⟨#[116, 101, 97, 108]⟩ : ByteArray), (⟨#[109, 97, 114, 111, 111, 110]⟩ : ByteArray), (⟨#[115, 105, 108, 118, 101, 114]⟩ : ByteArray), (⟨#[111, 114, 97, 110, 103, 101]⟩ : ByteArray)] : List ByteArray)) := ⟨_, rfl⟩
          replace H : (spec_ParseColor.l0 k t135 y139 (([0, 16777215, 16711680, 32768, 255, 16776960, 8421504, 128, 32896, 8388608, 12632256, 16753920] : List Int)) 0) = some (r1, r2) := by first | (rw [hy139]; with_reducible exact H) | (have H2_ := (Option.bind_some _ _).symm.trans H; rw [hy139]; with_reducible exact H2_) | (have H2_ := (Option.bind_some _ _).symm.trans H; with_reducible exact H2_) | with_reducible exact H | (rw [hy139]; exact H) | exact H
          have Ny139 := Aside0.mk hy139
          clear hy139
          obtain ⟨y142, hy142⟩ : ∃ y_ : List Int, y_ = (([0, 16777215, 16711680, 32768, 255, 16776960, 8421504, 128, 32896, 8388608, 12632256, 16753920] : List Int)) := ⟨_, rfl⟩
          replace H : (spec_ParseColor.l0 k t135 y139 y142 0) = some (r1, r2) := by first | (rw [hy142]; with_reducible exact H) | (have H2_ := (Option.bind_some _ _).symm.trans H; rw [hy142]; with_reducible exact H2_) | (have H2_ := (Option.bind_some _ _).symm.trans H; with_reducible exact H2_) | with_reducible exact H | (rw [hy142]; exact H) | exact H
          have Ny142 := Aside0.mk hy142
          clear hy142
          have H' := Aside0.mk H
          clear H
          go_wp2_with (first | ((with_reducible refine gate_dst (N := 22) rfl ?_); (try (refine gate_guard (by rfl) ?_; dsimp only)); refine Kd.R_lit Kd.string _ 9 ?hg (N := 22) ?hd (xs := ([(⟨#[98, 108, 97, 99, 107]⟩ : ByteArray), (⟨#[119, 104, 105, 116, 101]⟩ : ByteArray), (⟨#[114, 101, 100]⟩ : ByteArray), (⟨#[103, 114, 101, 101, 110]⟩ : ByteArray), (⟨#[98, 108, 117, 101]⟩ : ByteArray), (⟨#[121, 101, 108, 108, 111, 119]⟩ : ByteArray), (⟨#[103, 114, 97, 121]⟩ : ByteArray), (⟨#[110, 97, 118, 121]⟩ : ByteArray), (⟨#[116, 101, 97, 108]⟩ : ByteArray), (⟨#[109, 97, 114, 111, 111, 110]⟩ : ByteArray), (⟨#[115, 105, 108, 118, 101, 114]⟩ : ByteArray), (⟨#[111, 114, 97, 110, 103, 101]⟩ : ByteArray)] : List ByteArray)) (inner := [.string (⟨#[98, 108, 97, 99, 107]⟩ : ByteArray), .string (⟨#[119, 104, 105, 116, 101]⟩ : ByteArray), .string (⟨#[114, 101, 100]⟩ : ByteArray), .string (⟨#[103, 114, 101, 101, 110]⟩ : ByteArray), .string (⟨#[98, 108, 117, 101]⟩ : ByteArray), .string (⟨#[121, 101, 108, 108, 111, 119]⟩ : ByteArray), .string (⟨#[103, 114, 97, 121]⟩ : ByteArray), .string (⟨#[110, 97, 118, 121]⟩ : ByteArray), .string (⟨#[116, 101, 97, 108]⟩ : ByteArray), .string (⟨#[109, 97, 114, 111, 111, 110]⟩ : ByteArray), .string (⟨#[115, 105, 108, 118, 101, 114]⟩ : ByteArray), .string (⟨#[111, 114, 97, 110, 103, 101]⟩ : ByteArray)]) (ok := fun _ => True) (okp := fun _ => True) ?hr ?hp (fun _ hk => hk) trivial (Below.refl _ _) (Nat.le_refl _) (by simp) ?_; (case hd => rfl); (case hg => rfl); (case hr => first | (go_simp; done) | (go_simp; rfl)); (case hp => exact (Reps.one (show Kd.M Kd.string _ _ _ (⟨#[98, 108, 97, 99, 107]⟩ : ByteArray) [.string (⟨#[98, 108, 97, 99, 107]⟩ : ByteArray)] from rfl) (Reps.one (show Kd.M Kd.string _ _ _ (⟨#[119, 104, 105, 116, 101]⟩ : ByteArray) [.string (⟨#[119, 104, 105, 116, 101]⟩ : ByteArray)] from rfl) (Reps.one (show Kd.M Kd.string _ _ _ (⟨#[114, 101, 100]⟩ : ByteArray) [.string (⟨#[114, 101, 100]⟩ : ByteArray)] from rfl) (Reps.one (show Kd.M Kd.string _ _ _ (⟨#[103, 114, 101, 101, 110]⟩ : ByteArray) [.string (⟨#[103, 114, 101, 101, 110]⟩ : ByteArray)] from rfl) (Reps.one (show Kd.M Kd.string _ _ _ (⟨#[98, 108, 117, 101]⟩ : ByteArray) [.string (⟨#[98, 108, 117, 101]⟩ : ByteArray)] from rfl) (Reps.one (show Kd.M Kd.string _ _ _ (⟨#[121, 101, 108, 108, 111, 119]⟩ : ByteArray) [.string (⟨#[121, 101, 108, 108, 111, 119]⟩ : ByteArray)] from rfl) (Reps.one (show Kd.M Kd.string _ _ _ (⟨#[103, 114, 97, 121]⟩ : ByteArray) [.string (⟨#[103, 114, 97, 121]⟩ : ByteArray)] from rfl) (Reps.one (show Kd.M Kd.string _ _ _ (⟨#[110, 97, 118, 121]⟩ : ByteArray) [.string (⟨#[110, 97, 118, 121]⟩ : ByteArray)] from rfl) (Reps.one (show Kd.M Kd.string _ _ _ (⟨#[116, 101, 97, 108]⟩ : ByteArray) [.string (⟨#[116, 101, 97, 108]⟩ : ByteArray)] from rfl) (Reps.one (show Kd.M Kd.string _ _ _ (⟨#[109, 97, 114, 111, 111, 110]⟩ : ByteArray) [.string (⟨#[109, 97, 114, 111, 111, 110]⟩ : ByteArray)] from rfl) (Reps.one (show Kd.M Kd.string _ _ _ (⟨#[115, 105, 108, 118, 101, 114]⟩ : ByteArray) [.string (⟨#[115, 105, 108, 118, 101, 114]⟩ : ByteArray)] from rfl) (Reps.one (show Kd.M Kd.string _ _ _ (⟨#[111, 114, 97, 110, 103, 101]⟩ : ByteArray) [.string (⟨#[111, 114, 97, 110, 103, 101]⟩ : ByteArray)] from rfl) (Reps.none _ _)))))))))))))); intro v140 w9 ho10 hb hg_ hnew_; clear hg_ hnew_; (first | rw [← Ny139.out] at ho10 | (simp only [Int.reduceToNat] at ho10; rw [← Ny139.out] at ho10)); have n0_ := Aside0.mk (Kd.R_below (by (with_reducible repeat (first | apply Kd.R_alloc | apply Kd.R_drewN | apply Kd.R_drew)); exact HO137.out) hb); have n1_ := Aside0.mk (Kd.R_lower ho10 (below_size (by repeat (first | (with_reducible first | exact HB.out | apply below_alloc | apply pw_below_drewN | apply below_drew1) | exact HB.out)))); have n2_ := Aside0.mk (below_step (by repeat (first | (with_reducible first | exact HB.out | apply below_alloc | apply pw_below_drewN | apply below_drew1) | exact HB.out)) hb); clear HO137; clear HB; have HO137 := n0_; have HO141 := n1_; have HB := n2_; clear n0_ n1_ n2_; clear hb ho10) | ((with_reducible refine gate_dst (N := 23) rfl ?_); (try (refine gate_guard (by rfl) ?_; dsimp only)); refine Kd.R_lit (Kd.int .i64) _ 3 ?hg (N := 23) ?hd (xs := ([0, 16777215, 16711680, 32768, 255, 16776960, 8421504, 128, 32896, 8388608, 12632256, 16753920] : List Int)) (inner := [.int .i64 0, .int .i64 16777215, .int .i64 16711680, .int .i64 32768, .int .i64 255, .int .i64 16776960, .int .i64 8421504, .int .i64 128, .int .i64 32896, .int .i64 8388608, .int .i64 12632256, .int .i64 16753920]) (ok := fun _ => True) (okp := fun _ => True) ?hr ?hp (fun _ hk => hk) trivial (Below.refl _ _) (Nat.le_refl _) (by simp) ?_; (case hd => rfl); (case hg => rfl); (case hr => first | (go_simp; done) | (go_simp; rfl)); (case hp => exact (Reps.one (show Kd.M (Kd.int .i64) _ _ _ 0 [.int .i64 0] from rfl) (Reps.one (show Kd.M (Kd.int .i64) _ _ _ 16777215 [.int .i64 16777215] from rfl) (Reps.one (show Kd.M (Kd.int .i64) _ _ _ 16711680 [.int .i64 16711680] from rfl) (Reps.one (show Kd.M (Kd.int .i64) _ _ _ 32768 [.int .i64 32768] from rfl) (Reps.one (show Kd.M (Kd.int .i64) _ _ _ 255 [.int .i64 255] from rfl) (Reps.one (show Kd.M (Kd.int .i64) _ _ _ 16776960 [.int .i64 16776960] from rfl) (Reps.one (show Kd.M (Kd.int .i64) _ _ _ 8421504 [.int .i64 8421504] from rfl) (Reps.one (show Kd.M (Kd.int .i64) _ _ _ 128 [.int .i64 128] from rfl) (Reps.one (show Kd.M (Kd.int .i64) _ _ _ 32896 [.int .i64 32896] from rfl) (Reps.one (show Kd.M (Kd.int .i64) _ _ _ 8388608 [.int .i64 8388608] from rfl) (Reps.one (show Kd.M (Kd.int .i64) _ _ _ 12632256 [.int .i64 12632256] from rfl) (Reps.one (show Kd.M (Kd.int .i64) _ _ _ 16753920 [.int .i64 16753920] from rfl) (Reps.none _ _)))))))))))))); intro v143 w11 ho12 hb hg_ hnew_; clear hg_ hnew_; (first | rw [← Ny142.out] at ho12 | (simp only [Int.reduceToNat] at ho12; rw [← Ny142.out] at ho12)); have n0_ := Aside0.mk (Kd.R_below (by (with_reducible repeat (first | apply Kd.R_alloc | apply Kd.R_drewN | apply Kd.R_drew)); exact HO137.out) hb); have n1_ := Aside0.mk (Kd.R_below (by (with_reducible repeat (first | apply Kd.R_alloc | apply Kd.R_drewN | apply Kd.R_drew)); exact HO141.out) hb); have n2_ := Aside0.mk (Kd.R_lower ho12 (below_size (by repeat (first | (with_reducible first | exact HB.out | apply below_alloc | apply pw_below_drewN | apply below_drew1) | exact HB.out)))); have n3_ := Aside0.mk (below_step (by repeat (first | (with_reducible first | exact HB.out | apply below_alloc | apply pw_below_drewN | apply below_drew1) | exact HB.out)) hb); clear HO137; clear HO141; clear HB; have HO137 := n0_; have HO141 := n1_; have HO144 := n2_; have HB := n3_; clear n0_ n1_ n2_ n3_; clear hb ho12))
          go_loopg [7] k (fun kq v7 w' => ∃ (x7_1 : Int), v7 = .int .i64 x7_1 ∧ Aside0 (spec_ParseColor.l0 kq t135 y139 y142 x7_1 = some (r1, r2)) ∧ Aside0 (kq ≤ k) ∧ Aside0 (Kd.R k96 96 w' w.heap.size (fun _ => True) (.slice (some ad138) t135.length co7) t135) ∧ Aside0 (Kd.R Kd.string 9 w' w.heap.size (fun _ => True) v140 y139) ∧ Aside0 (Kd.R (Kd.int .i64) 3 w' w.heap.size (fun _ => True) v143 y142) ∧ Aside0 (Below w.heap.size w w'))
          case atStart => exact ⟨(0), (by first | rfl | (simp; done) | (simp [*]; done)), H', ⟨Nat.le_refl _⟩, ⟨by (with_reducible repeat (first | apply Kd.R_alloc | apply Kd.R_drewN | apply Kd.R_drew)); exact HO137.out⟩, ⟨by (with_reducible repeat (first | apply Kd.R_alloc | apply Kd.R_drewN | apply Kd.R_drew)); exact HO141.out⟩, ⟨by (with_reducible repeat (first | apply Kd.R_alloc | apply Kd.R_drewN | apply Kd.R_drew)); exact HO144.out⟩, ⟨by repeat (first | (with_reducible first | exact HB.out | apply below_alloc | apply pw_below_drewN | apply below_drew1) | exact HB.out)⟩⟩
          case round =>
            clear H'
            try clear p1
            try clear q1
            try clear hx1
            try clear qi1
            try clear c2
            try clear p2
            try clear c3
            try clear c3b0
            try clear c3b1
            try clear c4
            try clear c4b0
            try clear c4b1
            try clear c5
            try clear c8
            try clear c8b0
            try clear c8b1
            try clear hx138_0
            try clear hx138_1
            try clear hx138_2
            try clear hx138_3
            try clear p138
            try clear q138
            obtain ⟨x7_1, rfl, HA, HK1, HO_4, HO_5, HO_6, HB⟩ := hrel
            cases gk with
            | zero => exact absurd HA.out (by simp [spec_ParseColor.l0])
            | succ k1 =>
              have H := HA.out
              clear HA
              simp only [spec_ParseColor.l0] at H
              by_cases c13 : x7_1 < (y139.length : Int)
              · rw [if_pos c13] at H
                have c13b0 : decide (x7_1 < (y139.length : Int)) = true := decide_eq_true c13
                clear c13
                by_cases c14 : 0 < (t135.length : Int)
                · rw [if_pos c14] at H
                  have c14b0 : decide (0 < (t135.length : Int)) = true := decide_eq_true c14
                  have c14b1 : decide (0 < t135.length) = true := decide_eq_true (by omega)
                  clear c14
                  replace H := Option.bind_eq_some_iff.mp H
                  obtain ⟨t146, A150, H⟩ := H
                  replace H : (if 0 ≤ x7_1 then (if t146.toList = (rdOf ByteArray.empty y139 x7_1).toList then (if x7_1 < (y142.length : Int) then (some (rd y142 x7_1, true)) else (none)) else (spec_ParseColor.l0 k1 t135 y139 y142 (wrap64 (x7_1 + 1)))) else (none)) = some (r1, r2) := H
                  have A15 := Aside0.mk A150
                  clear A150
                  by_cases c16 : 0 ≤ x7_1
                  · rw [if_pos c16] at H
                    have c16b0 : decide (0 ≤ x7_1) = true := decide_eq_true c16
                    clear c16
                    by_cases c17 : t146.toList = (rdOf ByteArray.empty y139 x7_1).toList
                    · rw [if_pos c17] at H
                      have c17b0 : (t146.toList == (rdOf ByteArray.empty y139 x7_1).toList) = true := beq_iff_eq.mpr c17
                      have c17b1 : (t146.toList != (rdOf ByteArray.empty y139 x7_1).toList) = false := bne_eq_false_iff_eq.mpr c17
                      clear c17
                      by_cases c18 : x7_1 < (y142.length : Int)
                      · rw [if_pos c18] at H
                        have c18b0 : decide (x7_1 < (y142.length : Int)) = true := decide_eq_true c18
                        clear c18
                        simp only [Option.some.injEq, Prod.mk.injEq] at H
                        obtain ⟨rfl, rfl⟩ := H
                        obtain ⟨Ao19, co19, eo19⟩ := Kd.R_slice HO_5.out
                        subst eo19
                        try go_wp2
                        have n0_ := Aside0.mk (Kd.R_drew HO_4.out)
                        have n1_ := Aside0.mk (Kd.R_drew HO_5.out)
                        have n2_ := Aside0.mk (Kd.R_drew HO_6.out)
                        have n3_ := Aside0.mk (below_drew1 HB.out)
                        clear HO_4
                        clear HO_5
                        clear HO_6
                        clear HB
                        have HO_4 := n0_
                        have HO_5 := n1_
                        have HO_6 := n2_
                        have HB := n3_
                        clear n0_ n1_ n2_ n3_
                        have p145 : 0 ≤ (0 : Int) := (by omega)
                        have q145 : 0 < (t135.length : Int) := of_decide_eq_true (by first | (with_reducible assumption) | assumption)
                        obtain ⟨ad145, e145, hx145_0, hx145_1, hx145_2, hx145_3⟩ := at_T96 (Kd.R_reads' HO_4.out).2.2 0 p145 q145
                        obtain rfl : ad138 = ad145 := (by injection e145)
                        have qi145 : (0 < t135.length) = True := eq_true (by omega)
                        (try rw [show ((0 : Int)).toNat = 0 from rfl] at hx145_0)
                        (try rw [show 0 * 4 = 0 from rfl] at hx145_0)
                        (try rw [Addr.add_zero'] at hx145_0)
                        (try rw [show ((0 : Int)).toNat = 0 from rfl] at hx145_1)
                        (try rw [show 0 * 4 = 0 from rfl] at hx145_1)
                        (try rw [Addr.add_zero'] at hx145_1)
                        (try rw [show ((0 : Int)).toNat = 0 from rfl] at hx145_2)
                        (try rw [show 0 * 4 = 0 from rfl] at hx145_2)
                        (try rw [Addr.add_zero'] at hx145_2)
                        (try rw [show ((0 : Int)).toNat = 0 from rfl] at hx145_3)
                        (try rw [show 0 * 4 = 0 from rfl] at hx145_3)
                        (try rw [Addr.add_zero'] at hx145_3)
                        replace p145 := eq_true p145
                        replace q145 := eq_true q145
                        have p147 : 0 ≤ (x7_1 : Int) := of_decide_eq_true (by first | (with_reducible assumption) | assumption)
                        have q147 : x7_1 < (y139.length : Int) := of_decide_eq_true (by first | (with_reducible assumption) | assumption)
                        obtain ⟨ad147, e147, hx147_0⟩ := Kd.at_string (Kd.R_reads' HO_5.out).2.2 x7_1 p147 q147
                        cases e147
                        replace p147 := eq_true p147
                        replace q147 := eq_true q147
                        refine start_ (n := 10) (S := fun w' => w'.cell? ad138 = some (.int .i64 ((rd_T96 t135 0).f0)) ∧ w'.cell? ⟨ad138.block, ad138.off + 1, none⟩ = some (.string ((rd_T96 t135 0).f1)) ∧ w'.cell? ⟨ad138.block, ad138.off + 2, none⟩ = some (.int .i64 ((rd_T96 t135 0).f2)) ∧ w'.cell? ⟨ad138.block, ad138.off + 3, none⟩ = some (.string ((rd_T96 t135 0).f3)) ∧ w'.cell? (ad147.add (x7_1).toNat) = some (.string (rdOf ByteArray.empty y139 x7_1))) (ds := []) #[false, false, false, false, false, false, false, false, false, false] (by kernel_rfl) rfl rfl ⟨hx145_0, hx145_1, hx145_2, hx145_3, hx147_0⟩ (fun hHeld => ?_); refine with_tabW spec_ParseColor.tab10 spec_ParseColor.bits10 (fun HT_ HW_ => ?_)
                        generalize wr.drew = w20 at HO_4 HO_5 HO_6 HB hx145_0 hx145_1 hx145_2 hx145_3 hx147_0 hHeld ⊢
                        refine pure_ (i := 0) (N := some 30) (v := ?_) (a' := ?_) #[true, false, false, false, false, false, false, false, false, false] rfl rfl (any_of HT_.out (by kernel_rfl)) (fun _ _ _ h => h) (Or.inl ⟨by rfl, ?_⟩) ?_ ?_
                        rotate_left
                        · intro w'
                          go_simp
                          with_reducible rfl
                        rotate_left
                        · simp only [Act.put, List.setIfInBounds_toArray, List.set_cons_zero, List.set_cons_succ, i64_w, i32_w]
                          rfl
                        refine pure_ (i := 1) (N := some 31) (v := ?_) (a' := ?_) #[true, true, false, false, false, false, false, false, false, false] rfl rfl (any_of HT_.out (by kernel_rfl)) (fun _ _ _ h => h) (Or.inl ⟨by rfl, ?_⟩) ?_ ?_
                        rotate_left
                        · intro w'
                          go_simp
                          with_reducible rfl
                        rotate_left
                        · simp only [Act.put, List.setIfInBounds_toArray, List.set_cons_zero, List.set_cons_succ, i64_w, i32_w]
                          rfl
                        refine pure_ (i := 2) (N := some 32) (v := ?_) (a' := ?_) #[true, true, true, false, false, false, false, false, false, false] rfl rfl (any_of HT_.out (by kernel_rfl)) (fun _ _ _ h => h) (Or.inl ⟨by rfl, ?_⟩) ?_ ?_
                        rotate_left
                        · intro w'
                          go_simp
                          with_reducible rfl
                        rotate_left
                        · simp only [Act.put, List.setIfInBounds_toArray, List.set_cons_zero, List.set_cons_succ, i64_w, i32_w]
                          rfl
                        refine pure_ (i := 5) (N := some 35) (v := ?_) (a' := ?_) #[true, true, true, false, false, true, false, false, false, false] rfl rfl (any_of HT_.out (by kernel_rfl)) (fun _ _ _ h => h) (Or.inl ⟨by rfl, ?_⟩) ?_ ?_
                        rotate_left
                        · intro w'
                          go_simp
                          with_reducible rfl
                        rotate_left
                        · simp only [Act.put, List.setIfInBounds_toArray, List.set_cons_zero, List.set_cons_succ, i64_w, i32_w]
                          rfl
                        refine pure_ (i := 6) (N := some 36) (v := ?_) (a' := ?_) #[true, true, true, false, false, true, true, false, false, false] rfl rfl (any_of HT_.out (by kernel_rfl)) (fun _ _ _ h => h) (Or.inl ⟨by rfl, ?_⟩) ?_ ?_
                        rotate_left
                        · intro w'
                          go_simp
                          with_reducible rfl
                        rotate_left
                        · simp only [Act.put, List.setIfInBounds_toArray, List.set_cons_zero, List.set_cons_succ, i64_w, i32_w]
                          rfl
                        refine pure_ (i := 7) (N := some 37) (v := ?_) (a' := ?_) #[true, true, true, false, false, true, true, true, false, false] rfl rfl (any_of HT_.out (by kernel_rfl)) (fun _ _ _ h => h) (Or.inl ⟨by rfl, ?_⟩) ?_ ?_
                        rotate_left
                        · intro w'
                          go_simp
                          with_reducible rfl
                        rotate_left
                        · simp only [Act.put, List.setIfInBounds_toArray, List.set_cons_zero, List.set_cons_succ, i64_w, i32_w]
                          rfl
                        refine take_ (i := 3) (N := some 33) (v := ?_) (a' := ?_) #[true, true, true, true, false, true, true, true, false, false] rfl rfl (take_ofW HT_.out HW_.out (by kernel_rfl)) (fun _ _ _ h => h) (Or.inl ⟨by rfl, ?_⟩) hHeld ?_ ?_
                        rotate_left
                        · rintro w' ⟨s0, s1, s2, s3, s4⟩
                          go_simp
                          with_reducible rfl
                        rotate_left
                        · simp only [Act.put, List.setIfInBounds_toArray, List.set_cons_zero, List.set_cons_succ, i64_w, i32_w]
                          rfl
                        refine take_ (i := 8) (N := some 38) (v := ?_) (a' := ?_) #[true, true, true, true, false, true, true, true, true, false] rfl rfl (take_ofW HT_.out HW_.out (by kernel_rfl)) (fun _ _ _ h => h) (Or.inl ⟨by rfl, ?_⟩) hHeld ?_ ?_
                        rotate_left
                        · rintro w' ⟨s0, s1, s2, s3, s4⟩
                          go_simp
                          with_reducible rfl
                        rotate_left
                        · simp only [Act.put, List.setIfInBounds_toArray, List.set_cons_zero, List.set_cons_succ, i64_w, i32_w]
                          rfl
                        refine one_ (i := 4) (N := some 34) #[true, true, true, true, true, true, true, true, true, false] rfl rfl (one_of HT_.out (by kernel_rfl)) (by decide) (fun K hK => ?_)
                        refine goes_ Try.func57 (by kernel_rfl) rfl #[.string ((rd_T96 t135 0).f1)] (by rfl) rfl rfl (by (try simp only [List.map_toArray, List.map_cons, List.map_nil]); first | done | rfl | (simp only [List.length_drop, List.length_take]; rfl)) ?_
                        with_reducible refine (spec_l1Lower.calls k1 ((rd_T96 t135 0).f1) t146 _ A15.out).mono ?_
                        rintro e w21 ⟨rfl, hb⟩
                        have HS0_ := (hb.cell (World.block_lt_of_cell? _ _ (hHeld.1))).trans (hHeld.1)
                        have HS1_ := (hb.cell (World.block_lt_of_cell? _ _ (hHeld.2.1))).trans (hHeld.2.1)
                        have HS2_ := (hb.cell (World.block_lt_of_cell? _ _ (hHeld.2.2.1))).trans (hHeld.2.2.1)
                        have HS3_ := (hb.cell (World.block_lt_of_cell? _ _ (hHeld.2.2.2.1))).trans (hHeld.2.2.2.1)
                        have HS4_ := (hb.cell (World.block_lt_of_cell? _ _ (hHeld.2.2.2.2))).trans (hHeld.2.2.2.2)
                        refine ⟨_, rfl, ?_⟩
                        have n0_ := Aside0.mk (Kd.R_below (by (with_reducible repeat (first | apply Kd.R_alloc | apply Kd.R_drewN | apply Kd.R_drew)); exact HO_4.out) hb)
                        have n1_ := Aside0.mk (Kd.R_below (by (with_reducible repeat (first | apply Kd.R_alloc | apply Kd.R_drewN | apply Kd.R_drew)); exact HO_5.out) hb)
                        have n2_ := Aside0.mk (Kd.R_below (by (with_reducible repeat (first | apply Kd.R_alloc | apply Kd.R_drewN | apply Kd.R_drew)); exact HO_6.out) hb)
                        have n3_ := Aside0.mk (below_step (by repeat (first | (with_reducible first | exact HB.out | apply below_alloc | apply pw_below_drewN | apply below_drew1) | exact HB.out)) hb)
                        clear HO_4
                        clear HO_5
                        clear HO_6
                        clear HB
                        have HO_4 := n0_
                        have HO_5 := n1_
                        have HO_6 := n2_
                        have HB := n3_
                        clear n0_ n1_ n2_ n3_
                        (try clear hb)
                        (try clear hb2)
                        (try clear hk)
                        (try clear hi)
                        refine hK.out _ _ ⟨HS0_, HS1_, HS2_, HS3_, HS4_⟩ (fun hHeld => ?_)
                        clear hK K
                        refine norm_ (a' := ?_) ?_ ?_
                        rotate_left
                        · show Act.put _ (some 34) _ = _
                          simp only [Act.put, List.setIfInBounds_toArray, List.set_cons_zero, List.set_cons_succ, i64_w, i32_w]
                          rfl
                        refine pure_ (i := 9) (N := some 39) (v := ?_) (a' := ?_) #[true, true, true, true, true, true, true, true, true, true] rfl rfl (any_of HT_.out (by kernel_rfl)) (fun _ _ _ h => h) (Or.inl ⟨by rfl, ?_⟩) ?_ ?_
                        rotate_left
                        · intro w'
                          go_simp
                          with_reducible rfl
                        rotate_left
                        · simp only [Act.put, List.setIfInBounds_toArray, List.set_cons_zero, List.set_cons_succ, i64_w, i32_w]
                          rfl
                        refine done_ (done_of HT_.out (by kernel_rfl)) ?_
                        obtain ⟨Ao22, co22, eo22⟩ := Kd.R_slice HO_6.out
                        subst eo22
                        have p148 : 0 ≤ (x7_1 : Int) := of_decide_eq_true (by first | (with_reducible assumption) | assumption)
                        have q148 : x7_1 < (y142.length : Int) := of_decide_eq_true (by first | (with_reducible assumption) | assumption)
                        obtain ⟨ad148, e148, hx148_0⟩ := Kd.at_int (Kd.R_reads' HO_6.out).2.2 x7_1 p148 q148
                        cases e148
                        replace p148 := eq_true p148
                        replace q148 := eq_true q148
                        try go_wp2
                        go_ret2
                        exact ⟨by first | rfl | (simp [errW_none, errW_some] <;> rfl) | (simp [*, errW_none, errW_some] <;> rfl), by repeat (first | (with_reducible first | exact HB.out | apply below_alloc | apply pw_below_drewN | apply below_drew1) | exact HB.out)⟩
                      · rw [if_neg c18] at H
                        exact absurd H (by simp)
                    · rw [if_neg c17] at H
                      have c17b0 : (t146.toList == (rdOf ByteArray.empty y139 x7_1).toList) = false := beq_eq_false_iff_ne.mpr c17
                      have c17b1 : (t146.toList != (rdOf ByteArray.empty y139 x7_1).toList) = true := bne_iff_ne.mpr c17
                      have H' := Aside0.mk H
                      clear H
                      obtain ⟨Ao23, co23, eo23⟩ := Kd.R_slice HO_5.out
                      subst eo23
                      try go_wp2
                      have n0_ := Aside0.mk (Kd.R_drew HO_4.out)
                      have n1_ := Aside0.mk (Kd.R_drew HO_5.out)
                      have n2_ := Aside0.mk (Kd.R_drew HO_6.out)
                      have n3_ := Aside0.mk (below_drew1 HB.out)
                      clear HO_4
                      clear HO_5
                      clear HO_6
                      clear HB
                      have HO_4 := n0_
                      have HO_5 := n1_
                      have HO_6 := n2_
                      have HB := n3_
                      clear n0_ n1_ n2_ n3_
                      have p145 : 0 ≤ (0 : Int) := (by omega)
                      have q145 : 0 < (t135.length : Int) := of_decide_eq_true (by first | (with_reducible assumption) | assumption)
                      obtain ⟨ad145, e145, hx145_0, hx145_1, hx145_2, hx145_3⟩ := at_T96 (Kd.R_reads' HO_4.out).2.2 0 p145 q145
                      obtain rfl : ad138 = ad145 := (by injection e145)
                      have qi145 : (0 < t135.length) = True := eq_true (by omega)
                      (try rw [show ((0 : Int)).toNat = 0 from rfl] at hx145_0)
                      (try rw [show 0 * 4 = 0 from rfl] at hx145_0)
                      (try rw [Addr.add_zero'] at hx145_0)
                      (try rw [show ((0 : Int)).toNat = 0 from rfl] at hx145_1)
                      (try rw [show 0 * 4 = 0 from rfl] at hx145_1)
                      (try rw [Addr.add_zero'] at hx145_1)
                      (try rw [show ((0 : Int)).toNat = 0 from rfl] at hx145_2)
                      (try rw [show 0 * 4 = 0 from rfl] at hx145_2)
                      (try rw [Addr.add_zero'] at hx145_2)
                      (try rw [show ((0 : Int)).toNat = 0 from rfl] at hx145_3)
                      (try rw [show 0 * 4 = 0 from rfl] at hx145_3)
                      (try rw [Addr.add_zero'] at hx145_3)
                      replace p145 := eq_true p145
                      replace q145 := eq_true q145
                      have p147 : 0 ≤ (x7_1 : Int) := of_decide_eq_true (by first | (with_reducible assumption) | assumption)
                      have q147 : x7_1 < (y139.length : Int) := of_decide_eq_true (by first | (with_reducible assumption) | assumption)
                      obtain ⟨ad147, e147, hx147_0⟩ := Kd.at_string (Kd.R_reads' HO_5.out).2.2 x7_1 p147 q147
                      cases e147
                      replace p147 := eq_true p147
                      replace q147 := eq_true q147
                      refine start_ (n := 10) (S := fun w' => w'.cell? ad138 = some (.int .i64 ((rd_T96 t135 0).f0)) ∧ w'.cell? ⟨ad138.block, ad138.off + 1, none⟩ = some (.string ((rd_T96 t135 0).f1)) ∧ w'.cell? ⟨ad138.block, ad138.off + 2, none⟩ = some (.int .i64 ((rd_T96 t135 0).f2)) ∧ w'.cell? ⟨ad138.block, ad138.off + 3, none⟩ = some (.string ((rd_T96 t135 0).f3)) ∧ w'.cell? (ad147.add (x7_1).toNat) = some (.string (rdOf ByteArray.empty y139 x7_1))) (ds := []) #[false, false, false, false, false, false, false, false, false, false] (by kernel_rfl) rfl rfl ⟨hx145_0, hx145_1, hx145_2, hx145_3, hx147_0⟩ (fun hHeld => ?_); refine with_tabW spec_ParseColor.tab10 spec_ParseColor.bits10 (fun HT_ HW_ => ?_)
                      generalize wr.drew = w24 at HO_4 HO_5 HO_6 HB hx145_0 hx145_1 hx145_2 hx145_3 hx147_0 hHeld ⊢
                      refine pure_ (i := 0) (N := some 30) (v := ?_) (a' := ?_) #[true, false, false, false, false, false, false, false, false, false] rfl rfl (any_of HT_.out (by kernel_rfl)) (fun _ _ _ h => h) (Or.inl ⟨by rfl, ?_⟩) ?_ ?_
                      rotate_left
                      · intro w'
                        go_simp
                        with_reducible rfl
                      rotate_left
                      · simp only [Act.put, List.setIfInBounds_toArray, List.set_cons_zero, List.set_cons_succ, i64_w, i32_w]
                        rfl
                      refine pure_ (i := 1) (N := some 31) (v := ?_) (a' := ?_) #[true, true, false, false, false, false, false, false, false, false] rfl rfl (any_of HT_.out (by kernel_rfl)) (fun _ _ _ h => h) (Or.inl ⟨by rfl, ?_⟩) ?_ ?_
                      rotate_left
                      · intro w'
                        go_simp
                        with_reducible rfl
                      rotate_left
                      · simp only [Act.put, List.setIfInBounds_toArray, List.set_cons_zero, List.set_cons_succ, i64_w, i32_w]
                        rfl
                      refine pure_ (i := 2) (N := some 32) (v := ?_) (a' := ?_) #[true, true, true, false, false, false, false, false, false, false] rfl rfl (any_of HT_.out (by kernel_rfl)) (fun _ _ _ h => h) (Or.inl ⟨by rfl, ?_⟩) ?_ ?_
                      rotate_left
                      · intro w'
                        go_simp
                        with_reducible rfl
                      rotate_left
                      · simp only [Act.put, List.setIfInBounds_toArray, List.set_cons_zero, List.set_cons_succ, i64_w, i32_w]
                        rfl
                      refine pure_ (i := 5) (N := some 35) (v := ?_) (a' := ?_) #[true, true, true, false, false, true, false, false, false, false] rfl rfl (any_of HT_.out (by kernel_rfl)) (fun _ _ _ h => h) (Or.inl ⟨by rfl, ?_⟩) ?_ ?_
                      rotate_left
                      · intro w'
                        go_simp
                        with_reducible rfl
                      rotate_left
                      · simp only [Act.put, List.setIfInBounds_toArray, List.set_cons_zero, List.set_cons_succ, i64_w, i32_w]
                        rfl
                      refine pure_ (i := 6) (N := some 36) (v := ?_) (a' := ?_) #[true, true, true, false, false, true, true, false, false, false] rfl rfl (any_of HT_.out (by kernel_rfl)) (fun _ _ _ h => h) (Or.inl ⟨by rfl, ?_⟩) ?_ ?_
                      rotate_left
                      · intro w'
                        go_simp
                        with_reducible rfl
                      rotate_left
                      · simp only [Act.put, List.setIfInBounds_toArray, List.set_cons_zero, List.set_cons_succ, i64_w, i32_w]
                        rfl
                      refine pure_ (i := 7) (N := some 37) (v := ?_) (a' := ?_) #[true, true, true, false, false, true, true, true, false, false] rfl rfl (any_of HT_.out (by kernel_rfl)) (fun _ _ _ h => h) (Or.inl ⟨by rfl, ?_⟩) ?_ ?_
                      rotate_left
                      · intro w'
                        go_simp
                        with_reducible rfl
                      rotate_left
                      · simp only [Act.put, List.setIfInBounds_toArray, List.set_cons_zero, List.set_cons_succ, i64_w, i32_w]
                        rfl
                      refine take_ (i := 3) (N := some 33) (v := ?_) (a' := ?_) #[true, true, true, true, false, true, true, true, false, false] rfl rfl (take_ofW HT_.out HW_.out (by kernel_rfl)) (fun _ _ _ h => h) (Or.inl ⟨by rfl, ?_⟩) hHeld ?_ ?_
                      rotate_left
                      · rintro w' ⟨s0, s1, s2, s3, s4⟩
                        go_simp
                        with_reducible rfl
                      rotate_left
                      · simp only [Act.put, List.setIfInBounds_toArray, List.set_cons_zero, List.set_cons_succ, i64_w, i32_w]
                        rfl
                      refine take_ (i := 8) (N := some 38) (v := ?_) (a' := ?_) #[true, true, true, true, false, true, true, true, true, false] rfl rfl (take_ofW HT_.out HW_.out (by kernel_rfl)) (fun _ _ _ h => h) (Or.inl ⟨by rfl, ?_⟩) hHeld ?_ ?_
                      rotate_left
                      · rintro w' ⟨s0, s1, s2, s3, s4⟩
                        go_simp
                        with_reducible rfl
                      rotate_left
                      · simp only [Act.put, List.setIfInBounds_toArray, List.set_cons_zero, List.set_cons_succ, i64_w, i32_w]
                        rfl
                      refine one_ (i := 4) (N := some 34) #[true, true, true, true, true, true, true, true, true, false] rfl rfl (one_of HT_.out (by kernel_rfl)) (by decide) (fun K hK => ?_)
                      refine goes_ Try.func57 (by kernel_rfl) rfl #[.string ((rd_T96 t135 0).f1)] (by rfl) rfl rfl (by (try simp only [List.map_toArray, List.map_cons, List.map_nil]); first | done | rfl | (simp only [List.length_drop, List.length_take]; rfl)) ?_
                      with_reducible refine (spec_l1Lower.calls k1 ((rd_T96 t135 0).f1) t146 _ A15.out).mono ?_
                      rintro e w25 ⟨rfl, hb⟩
                      have HS0_ := (hb.cell (World.block_lt_of_cell? _ _ (hHeld.1))).trans (hHeld.1)
                      have HS1_ := (hb.cell (World.block_lt_of_cell? _ _ (hHeld.2.1))).trans (hHeld.2.1)
                      have HS2_ := (hb.cell (World.block_lt_of_cell? _ _ (hHeld.2.2.1))).trans (hHeld.2.2.1)
                      have HS3_ := (hb.cell (World.block_lt_of_cell? _ _ (hHeld.2.2.2.1))).trans (hHeld.2.2.2.1)
                      have HS4_ := (hb.cell (World.block_lt_of_cell? _ _ (hHeld.2.2.2.2))).trans (hHeld.2.2.2.2)
                      refine ⟨_, rfl, ?_⟩
                      have n0_ := Aside0.mk (Kd.R_below (by (with_reducible repeat (first | apply Kd.R_alloc | apply Kd.R_drewN | apply Kd.R_drew)); exact HO_4.out) hb)
                      have n1_ := Aside0.mk (Kd.R_below (by (with_reducible repeat (first | apply Kd.R_alloc | apply Kd.R_drewN | apply Kd.R_drew)); exact HO_5.out) hb)
                      have n2_ := Aside0.mk (Kd.R_below (by (with_reducible repeat (first | apply Kd.R_alloc | apply Kd.R_drewN | apply Kd.R_drew)); exact HO_6.out) hb)
                      have n3_ := Aside0.mk (below_step (by repeat (first | (with_reducible first | exact HB.out | apply below_alloc | apply pw_below_drewN | apply below_drew1) | exact HB.out)) hb)
                      clear HO_4
                      clear HO_5
                      clear HO_6
                      clear HB
                      have HO_4 := n0_
                      have HO_5 := n1_
                      have HO_6 := n2_
                      have HB := n3_
                      clear n0_ n1_ n2_ n3_
                      (try clear hb)
                      (try clear hb2)
                      (try clear hk)
                      (try clear hi)
                      refine hK.out _ _ ⟨HS0_, HS1_, HS2_, HS3_, HS4_⟩ (fun hHeld => ?_)
                      clear hK K
                      refine norm_ (a' := ?_) ?_ ?_
                      rotate_left
                      · show Act.put _ (some 34) _ = _
                        simp only [Act.put, List.setIfInBounds_toArray, List.set_cons_zero, List.set_cons_succ, i64_w, i32_w]
                        rfl
                      refine pure_ (i := 9) (N := some 39) (v := ?_) (a' := ?_) #[true, true, true, true, true, true, true, true, true, true] rfl rfl (any_of HT_.out (by kernel_rfl)) (fun _ _ _ h => h) (Or.inl ⟨by rfl, ?_⟩) ?_ ?_
                      rotate_left
                      · intro w'
                        go_simp
                        with_reducible rfl
                      rotate_left
                      · simp only [Act.put, List.setIfInBounds_toArray, List.set_cons_zero, List.set_cons_succ, i64_w, i32_w]
                        rfl
                      refine done_ (done_of HT_.out (by kernel_rfl)) ?_
                      try go_wp2
                      go_roundg k1
                      case measure => have := HK1.out; omega
                      case rel => exact ⟨(wrap64 (x7_1 + 1)), (by first | rfl | (simp; done) | (simp [*]; done)), H', ⟨by have := HK1.out; omega⟩, ⟨by (with_reducible repeat (first | apply Kd.R_alloc | apply Kd.R_drewN | apply Kd.R_drew)); exact HO_4.out⟩, ⟨by (with_reducible repeat (first | apply Kd.R_alloc | apply Kd.R_drewN | apply Kd.R_drew)); exact HO_5.out⟩, ⟨by (with_reducible repeat (first | apply Kd.R_alloc | apply Kd.R_drewN | apply Kd.R_drew)); exact HO_6.out⟩, ⟨by repeat (first | (with_reducible first | exact HB.out | apply below_alloc | apply pw_below_drewN | apply below_drew1) | exact HB.out)⟩⟩
                  · rw [if_neg c16] at H
                    exact absurd H (by simp)
                · rw [if_neg c14] at H
                  exact absurd H (by simp)
              · rw [if_neg c13] at H
                have c13b0 : decide (x7_1 < (y139.length : Int)) = false := decide_eq_false c13
                clear c13
                have H' := Aside0.mk H
                clear H
                obtain ⟨Ao26, co26, eo26⟩ := Kd.R_slice HO_5.out
                subst eo26
                go_wp2
                go_meet
                case rel => exact ⟨_, H', ⟨by have := HK1.out; first | omega | exact Nat.le_refl _⟩, ⟨by (with_reducible repeat (first | apply Kd.R_alloc | apply Kd.R_drewN | apply Kd.R_drew)); exact HO_4.out⟩, ⟨by repeat (first | (with_reducible first | exact HB.out | apply below_alloc | apply pw_below_drewN | apply below_drew1) | exact HB.out)⟩⟩
        · rw [if_neg c8] at H
          have c8b0 : (((rd_T96 t135 0).f0) == 1) = false := beq_eq_false_iff_ne.mpr c8
          have c8b1 : (((rd_T96 t135 0).f0) != 1) = true := bne_iff_ne.mpr c8
          (first | rw [c8b0] | (simp only [i64_w, i32_w]; rw [c8b0]) | rw [c8b1] | skip)
          have H' := Aside0.mk H
          clear H
          go_wp2
          go_meet
          case rel => exact ⟨_, H', ⟨by first | omega | exact Nat.le_refl _⟩, ⟨by (with_reducible repeat (first | apply Kd.R_alloc | apply Kd.R_drewN | apply Kd.R_drew)); exact HO137.out⟩, ⟨by repeat (first | (with_reducible first | exact HB.out | apply below_alloc | apply pw_below_drewN | apply below_drew1) | exact HB.out)⟩⟩
      case rest =>
        clear HC5
        try clear c1
        try clear p1
        try clear q1
        try clear hx1
        try clear qi1
        try clear c2
        try clear p2
        try clear c3
        try clear c3b0
        try clear c3b1
        try clear c4
        try clear c4b0
        try clear c4b1
        try clear c5
        try clear p6
        try clear c8
        try clear c8b0
        try clear c8b1
        try clear c13
        try clear c13b0
        try clear p13
        try clear q13
        try clear hx13
        try clear qi13
        try clear c14
        try clear c14b0
        try clear c14b1
        try clear p14
        try clear q14
        try clear hx14
        try clear qi14
        try clear c16
        try clear c16b0
        try clear c17
        try clear c17b0
        try clear c17b1
        try clear c18
        try clear c18b0
        try clear c20
        try clear hx138_0
        try clear hx138_1
        try clear hx138_2
        try clear hx138_3
        try clear hx145_0
        try clear hx145_1
        try clear hx145_2
        try clear hx145_3
        try clear hx147_0
        try clear hx148_0
        try clear p1
        try clear p138
        try clear p145
        try clear p147
        try clear p148
        try clear p2
        try clear q1
        try clear q138
        try clear q145
        try clear q147
        try clear q148
        obtain ⟨kq, HA, HJ4, HO_4, HB⟩ := hcut
        cases kq with
        | zero => exact absurd HA.out (by simp [spec_ParseColor.j1])
        | succ kj4 =>
          have H := HA.out
          clear HA
          simp only [spec_ParseColor.j1] at H
          by_cases c27 : 0 < (t135.length : Int)
          · rw [if_pos c27] at H
            have c27b0 : decide (0 < (t135.length : Int)) = true := decide_eq_true c27
            have c27b1 : decide (0 < t135.length) = true := decide_eq_true (by omega)
            clear c27
            have HC28 := Aside0.mk H
            clear H
            have p149 : 0 ≤ (0 : Int) := (by omega)
            have q149 : 0 < (t135.length : Int) := of_decide_eq_true (by first | (with_reducible assumption) | assumption)
            obtain ⟨ad149, e149, hx149_0, hx149_1, hx149_2, hx149_3⟩ := at_T96 (Kd.R_reads' HO_4.out).2.2 0 p149 q149
            obtain rfl : ad138 = ad149 := (by injection e149)
            have qi149 : (0 < t135.length) = True := eq_true (by omega)
            (try rw [show ((0 : Int)).toNat = 0 from rfl] at hx149_0)
            (try rw [show 0 * 4 = 0 from rfl] at hx149_0)
            (try rw [Addr.add_zero'] at hx149_0)
            (try rw [show ((0 : Int)).toNat = 0 from rfl] at hx149_1)
            (try rw [show 0 * 4 = 0 from rfl] at hx149_1)
            (try rw [Addr.add_zero'] at hx149_1)
            (try rw [show ((0 : Int)).toNat = 0 from rfl] at hx149_2)
            (try rw [show 0 * 4 = 0 from rfl] at hx149_2)
            (try rw [Addr.add_zero'] at hx149_2)
            (try rw [show ((0 : Int)).toNat = 0 from rfl] at hx149_3)
            (try rw [show 0 * 4 = 0 from rfl] at hx149_3)
            (try rw [Addr.add_zero'] at hx149_3)
            replace p149 := eq_true p149
            replace q149 := eq_true q149
            go_upto_region 13 with (fail)
            go_cut [62] (fun v62 wc => ∃ (kq : Nat) (x62_27 : Bool), v62 = .bool x62_27 ∧ Aside0 (spec_ParseColor.j2 kq ((rd_T96 t135 0).f1) x62_27 = some (r1, r2)) ∧ Aside0 (kq ≤ kj4) ∧ Aside0 (Below w.heap.size w wc))
            case first =>
              have H := HC28.out
              clear HC28
              by_cases c29 : ((rd_T96 t135 0).f0) = 4
              · rw [if_pos c29] at H
                have c29b0 : (((rd_T96 t135 0).f0) == 4) = true := beq_iff_eq.mpr c29
                have c29b1 : (((rd_T96 t135 0).f0) != 4) = false := bne_eq_false_iff_eq.mpr c29
                clear c29
                (first | rw [c29b0] | (simp only [i64_w, i32_w]; rw [c29b0]) | rw [c29b1] | skip)
                by_cases c30 : (((rd_T96 t135 0).f1).size : Int) = 3
                · rw [if_pos c30] at H
                  have c30b0 : ((((rd_T96 t135 0).f1).size : Int) == 3) = true := beq_iff_eq.mpr c30
                  have c30b1 : ((((rd_T96 t135 0).f1).size : Int) != 3) = false := bne_eq_false_iff_eq.mpr c30
                  clear c30
                  have H' := Aside0.mk H
                  clear H
                  have p150 : 0 ≤ (0 : Int) := (by omega)
                  have q150 : 0 < (t135.length : Int) := of_decide_eq_true (by first | (with_reducible assumption) | assumption)
                  obtain ⟨ad150, e150, hx150_0, hx150_1, hx150_2, hx150_3⟩ := at_T96 (Kd.R_reads' HO_4.out).2.2 0 p150 q150
                  obtain rfl : ad138 = ad150 := (by injection e150)
                  have qi150 : (0 < t135.length) = True := eq_true (by omega)
                  (try rw [show ((0 : Int)).toNat = 0 from rfl] at hx150_0)
                  (try rw [show 0 * 4 = 0 from rfl] at hx150_0)
                  (try rw [Addr.add_zero'] at hx150_0)
                  (try rw [show ((0 : Int)).toNat = 0 from rfl] at hx150_1)
                  (try rw [show 0 * 4 = 0 from rfl] at hx150_1)
                  (try rw [Addr.add_zero'] at hx150_1)
                  (try rw [show ((0 : Int)).toNat = 0 from rfl] at hx150_2)
                  (try rw [show 0 * 4 = 0 from rfl] at hx150_2)
                  (try rw [Addr.add_zero'] at hx150_2)
                  (try rw [show ((0 : Int)).toNat = 0 from rfl] at hx150_3)
                  (try rw [show 0 * 4 = 0 from rfl] at hx150_3)
                  (try rw [Addr.add_zero'] at hx150_3)
                  replace p150 := eq_true p150
                  replace q150 := eq_true q150
                  go_wp2
                  go_meet
                  case rel => exact ⟨_, (false), (by first | rfl | (simp; done) | (simp [*]; done)), H', ⟨by have := HJ4.out; first | omega | exact Nat.le_refl _⟩, ⟨by repeat (first | (with_reducible first | exact HB.out | apply below_alloc | apply pw_below_drewN | apply below_drew1) | exact HB.out)⟩⟩
                · rw [if_neg c30] at H
                  have c30b0 : ((((rd_T96 t135 0).f1).size : Int) == 3) = false := beq_eq_false_iff_ne.mpr c30
                  have c30b1 : ((((rd_T96 t135 0).f1).size : Int) != 3) = true := bne_iff_ne.mpr c30
                  have H' := Aside0.mk H
                  clear H
                  have p150 : 0 ≤ (0 : Int) := (by omega)
                  have q150 : 0 < (t135.length : Int) := of_decide_eq_true (by first | (with_reducible assumption) | assumption)
                  obtain ⟨ad150, e150, hx150_0, hx150_1, hx150_2, hx150_3⟩ := at_T96 (Kd.R_reads' HO_4.out).2.2 0 p150 q150
                  obtain rfl : ad138 = ad150 := (by injection e150)
                  have qi150 : (0 < t135.length) = True := eq_true (by omega)
                  (try rw [show ((0 : Int)).toNat = 0 from rfl] at hx150_0)
                  (try rw [show 0 * 4 = 0 from rfl] at hx150_0)
                  (try rw [Addr.add_zero'] at hx150_0)
                  (try rw [show ((0 : Int)).toNat = 0 from rfl] at hx150_1)
                  (try rw [show 0 * 4 = 0 from rfl] at hx150_1)
                  (try rw [Addr.add_zero'] at hx150_1)
                  (try rw [show ((0 : Int)).toNat = 0 from rfl] at hx150_2)
                  (try rw [show 0 * 4 = 0 from rfl] at hx150_2)
                  (try rw [Addr.add_zero'] at hx150_2)
                  (try rw [show ((0 : Int)).toNat = 0 from rfl] at hx150_3)
                  (try rw [show 0 * 4 = 0 from rfl] at hx150_3)
                  (try rw [Addr.add_zero'] at hx150_3)
                  replace p150 := eq_true p150
                  replace q150 := eq_true q150
                  go_wp2
                  go_meet
                  case rel => exact ⟨_, (((((rd_T96 t135 0).f1).size : Int) != 6)), (by first | rfl | (simp; done) | (simp [*]; done)), H', ⟨by have := HJ4.out; first | omega | exact Nat.le_refl _⟩, ⟨by repeat (first | (with_reducible first | exact HB.out | apply below_alloc | apply pw_below_drewN | apply below_drew1) | exact HB.out)⟩⟩
              · rw [if_neg c29] at H
                have c29b0 : (((rd_T96 t135 0).f0) == 4) = false := beq_eq_false_iff_ne.mpr c29
                have c29b1 : (((rd_T96 t135 0).f0) != 4) = true := bne_iff_ne.mpr c29
                (first | rw [c29b0] | (simp only [i64_w, i32_w]; rw [c29b0]) | rw [c29b1] | skip)
                have H' := Aside0.mk H
                clear H
                have p150 : 0 ≤ (0 : Int) := (by omega)
                have q150 : 0 < (t135.length : Int) := of_decide_eq_true (by first | (with_reducible assumption) | assumption)
                obtain ⟨ad150, e150, hx150_0, hx150_1, hx150_2, hx150_3⟩ := at_T96 (Kd.R_reads' HO_4.out).2.2 0 p150 q150
                obtain rfl : ad138 = ad150 := (by injection e150)
                have qi150 : (0 < t135.length) = True := eq_true (by omega)
                (try rw [show ((0 : Int)).toNat = 0 from rfl] at hx150_0)
                (try rw [show 0 * 4 = 0 from rfl] at hx150_0)
                (try rw [Addr.add_zero'] at hx150_0)
                (try rw [show ((0 : Int)).toNat = 0 from rfl] at hx150_1)
                (try rw [show 0 * 4 = 0 from rfl] at hx150_1)
                (try rw [Addr.add_zero'] at hx150_1)
                (try rw [show ((0 : Int)).toNat = 0 from rfl] at hx150_2)
                (try rw [show 0 * 4 = 0 from rfl] at hx150_2)
                (try rw [Addr.add_zero'] at hx150_2)
                (try rw [show ((0 : Int)).toNat = 0 from rfl] at hx150_3)
                (try rw [show 0 * 4 = 0 from rfl] at hx150_3)
                (try rw [Addr.add_zero'] at hx150_3)
                replace p150 := eq_true p150
                replace q150 := eq_true q150
                go_wp2
                go_meet
                case rel => exact ⟨_, (true), (by first | rfl | (simp; done) | (simp [*]; done)), H', ⟨by have := HJ4.out; first | omega | exact Nat.le_refl _⟩, ⟨by repeat (first | (with_reducible first | exact HB.out | apply below_alloc | apply pw_below_drewN | apply below_drew1) | exact HB.out)⟩⟩
            case rest =>
              clear HC28
              try clear c1
              try clear p1
              try clear q1
              try clear hx1
              try clear qi1
              try clear c2
              try clear p2
              try clear c3
              try clear c3b0
              try clear c3b1
              try clear c4
              try clear c4b0
              try clear c4b1
              try clear c5
              try clear p6
              try clear c8
              try clear c8b0
              try clear c8b1
              try clear c13
              try clear c13b0
              try clear p13
              try clear q13
              try clear hx13
              try clear qi13
              try clear c14
              try clear c14b0
              try clear c14b1
              try clear p14
              try clear q14
              try clear hx14
              try clear qi14
              try clear p15
              try clear q15
              try clear hx15
              try clear qi15
              try clear c16
              try clear c16b0
              try clear c17
              try clear c17b0
              try clear c17b1
              try clear c18
              try clear c18b0
              try clear c20
              try clear c27
              try clear c27b0
              try clear c27b1
              try clear c29
              try clear c29b0
              try clear c29b1
              try clear c30
              try clear c30b0
              try clear c30b1
              try clear hx138_0
              try clear hx138_1
              try clear hx138_2
              try clear hx138_3
              try clear hx145_0
              try clear hx145_1
              try clear hx145_2
              try clear hx145_3
              try clear hx147_0
              try clear hx148_0
              try clear hx149_0
              try clear hx149_1
              try clear hx149_2
              try clear hx149_3
              try clear hx150_0
              try clear hx150_1
              try clear hx150_2
              try clear hx150_3
              try clear p1
              try clear p13
              try clear p138
              try clear p14
              try clear p145
              try clear p147
              try clear p148
              try clear p149
              try clear p150
              try clear p2
              try clear p6
              try clear q1
              try clear q13
              try clear q138
              try clear q14
              try clear q145
              try clear q147
              try clear q148
              try clear q149
              try clear q150
              obtain ⟨kq, x62_27, rfl, HA, HJ27, HB⟩ := hcut
              cases kq with
              | zero => exact absurd HA.out (by simp [spec_ParseColor.j2])
              | succ kj27 =>
                have H := HA.out
                clear HA
                simp only [spec_ParseColor.j2] at H
                by_cases c31 : x62_27 = true
                · subst c31
                  have H1 : (some (0, false)) = some (r1, r2) := by rw [if_pos rfl] at H; exact H
                  clear H
                  have H := H1
                  clear H1
                  simp only [Option.some.injEq, Prod.mk.injEq] at H
                  obtain ⟨rfl, rfl⟩ := H
                  go_wp2
                  go_ret2
                  exact ⟨by first | rfl | (simp [errW_none, errW_some] <;> rfl) | (simp [*, errW_none, errW_some] <;> rfl), by repeat (first | (with_reducible first | exact HB.out | apply below_alloc | apply pw_below_drewN | apply below_drew1) | exact HB.out)⟩
                · replace c31 := Bool.eq_false_iff.mpr c31
                  subst c31
                  have H1 : (spec_ParseColor.l1 kj27 ((rd_T96 t135 0).f1) 0 0) = some (r1, r2) := by rw [if_neg (show ¬ (false = true) by decide)] at H; exact H
                  clear H
                  have H := H1
                  clear H1
                  have H' := Aside0.mk H
                  clear H
                  go_wp2
                  go_loopg [9, 10] kj27 (fun kq v9 v10 w' => ∃ (x9_3 : Int) (x10_3 : Int), v9 = .int .i64 x9_3 ∧ v10 = .int .i64 x10_3 ∧ Aside0 (spec_ParseColor.l1 kq ((rd_T96 t135 0).f1) x9_3 x10_3 = some (r1, r2)) ∧ Aside0 (kq ≤ kj27) ∧ Aside0 (Below w.heap.size w w'))
                  case atStart => exact ⟨(0), (0), (by first | rfl | (simp; done) | (simp [*]; done)), (by first | rfl | (simp; done) | (simp [*]; done)), H', ⟨Nat.le_refl _⟩, ⟨by repeat (first | (with_reducible first | exact HB.out | apply below_alloc | apply pw_below_drewN | apply below_drew1) | exact HB.out)⟩⟩
                  case round =>
                    clear H'
                    try clear c1
                    try clear p1
                    try clear q1
                    try clear hx1
                    try clear qi1
                    try clear c2
                    try clear p2
                    try clear c3
                    try clear c3b0
                    try clear c3b1
                    try clear c4
                    try clear c4b0
                    try clear c4b1
                    try clear c5
                    try clear p6
                    try clear c8
                    try clear c8b0
                    try clear c8b1
                    try clear c13
                    try clear c13b0
                    try clear p13
                    try clear q13
                    try clear hx13
                    try clear qi13
                    try clear c14
                    try clear c14b0
                    try clear c14b1
                    try clear p14
                    try clear q14
                    try clear hx14
                    try clear qi14
                    try clear p15
                    try clear q15
                    try clear hx15
                    try clear qi15
                    try clear c16
                    try clear c16b0
                    try clear c17
                    try clear c17b0
                    try clear c17b1
                    try clear c18
                    try clear c18b0
                    try clear c20
                    try clear c27
                    try clear c27b0
                    try clear c27b1
                    try clear c29
                    try clear c29b0
                    try clear c29b1
                    try clear c30
                    try clear c30b0
                    try clear c30b1
                    try clear c31
                    try clear hx138_0
                    try clear hx138_1
                    try clear hx138_2
                    try clear hx138_3
                    try clear hx145_0
                    try clear hx145_1
                    try clear hx145_2
                    try clear hx145_3
                    try clear hx147_0
                    try clear hx148_0
                    try clear hx149_0
                    try clear hx149_1
                    try clear hx149_2
                    try clear hx149_3
                    try clear hx150_0
                    try clear hx150_1
                    try clear hx150_2
                    try clear hx150_3
                    try clear p1
                    try clear p13
                    try clear p138
                    try clear p14
                    try clear p145
                    try clear p147
                    try clear p148
                    try clear p149
                    try clear p15
                    try clear p150
                    try clear p2
                    try clear p6
                    try clear q1
                    try clear q13
                    try clear q138
                    try clear q14
                    try clear q145
                    try clear q147
                    try clear q148
                    try clear q149
                    try clear q15
                    try clear q150
                    obtain ⟨x9_3, x10_3, rfl, rfl, HA, HK3, HB⟩ := hrel
                    cases gk with
                    | zero => exact absurd HA.out (by simp [spec_ParseColor.l1])
                    | succ k3 =>
                      have H := HA.out
                      clear HA
                      simp only [spec_ParseColor.l1] at H
                      by_cases c32 : x10_3 < (((rd_T96 t135 0).f1).size : Int)
                      · rw [if_pos c32] at H
                        have c32b0 : decide (x10_3 < (((rd_T96 t135 0).f1).size : Int)) = true := decide_eq_true c32
                        clear c32
                        by_cases c33 : 0 ≤ x10_3
                        · rw [if_pos c33] at H
                          have c33b0 : decide (0 ≤ x10_3) = true := decide_eq_true c33
                          clear c33
                          replace H := Option.bind_eq_some_iff.mp H
                          obtain ⟨t151, A350, H⟩ := H
                          replace H : (if t151 > 15 then (some (0, false)) else (if (((rd_T96 t135 0).f1).size : Int) = 3 then (spec_ParseColor.l1 k3 ((rd_T96 t135 0).f1) (wrap64 ((wrap64 ((wrap64 ((wrap64 (x9_3 * 16)) + t151)) * 16)) + t151)) (wrap64 (x10_3 + 1))) else (spec_ParseColor.l1 k3 ((rd_T96 t135 0).f1) (wrap64 ((wrap64 (x9_3 * 16)) + t151)) (wrap64 (x10_3 + 1))))) = some (r1, r2) := H
                          have A35 := Aside0.mk A350
                          clear A350
                          by_cases c36 : t151 > 15
                          · rw [if_pos c36] at H
                            have c36b0 : decide (15 < t151) = true := decide_eq_true c36
                            clear c36
                            simp only [Option.some.injEq, Prod.mk.injEq] at H
                            obtain ⟨rfl, rfl⟩ := H
                            have p34 : 0 ≤ (x10_3 : Int) := of_decide_eq_true (by first | (with_reducible assumption) | assumption)
                            have q34 : x10_3 < (((rd_T96 t135 0).f1).size : Int) := of_decide_eq_true (by first | (with_reducible assumption) | assumption)
                            have hx34 := bt_at ((rd_T96 t135 0).f1) x10_3
                            replace p34 := eq_true p34
                            replace q34 := eq_true q34
                            go_wp2_with (first | ((with_reducible refine gate_callee (f := 58) rfl ?_); refine goesL_ (some 72) rfl rfl Try.func58 (by kernel_rfl) rfl #[.int .u8 (bt ((rd_T96 t135 0).f1) x10_3)] rfl (by (try simp only [List.map_toArray, List.map_cons, List.map_nil]); first | done | rfl | (simp only [List.length_drop, List.length_take]; rfl)) ?_; (with_reducible refine (spec_l2Hex.calls k3 (bt ((rd_T96 t135 0).f1) x10_3) t151 _ A35.out).mono ?_); rintro e w' ⟨rfl, ⟨nd, rfl⟩⟩; refine ⟨_, rfl, ?_⟩))
                            go_ret2
                            exact ⟨by first | rfl | (simp [errW_none, errW_some] <;> rfl) | (simp [*, errW_none, errW_some] <;> rfl), by repeat (first | (with_reducible first | exact HB.out | apply below_alloc | apply pw_below_drewN | apply below_drew1) | exact HB.out)⟩
                          · rw [if_neg c36] at H
                            have c36b0 : decide (15 < t151) = false := decide_eq_false c36
                            clear c36
                            by_cases c37 : (((rd_T96 t135 0).f1).size : Int) = 3
                            · rw [if_pos c37] at H
                              have c37b0 : ((((rd_T96 t135 0).f1).size : Int) == 3) = true := beq_iff_eq.mpr c37
                              have c37b1 : ((((rd_T96 t135 0).f1).size : Int) != 3) = false := bne_eq_false_iff_eq.mpr c37
                              clear c37
                              have H' := Aside0.mk H
                              clear H
                              have p34 : 0 ≤ (x10_3 : Int) := of_decide_eq_true (by first | (with_reducible assumption) | assumption)
                              have q34 : x10_3 < (((rd_T96 t135 0).f1).size : Int) := of_decide_eq_true (by first | (with_reducible assumption) | assumption)
                              have hx34 := bt_at ((rd_T96 t135 0).f1) x10_3
                              replace p34 := eq_true p34
                              replace q34 := eq_true q34
                              go_wp2_with (first | ((with_reducible refine gate_callee (f := 58) rfl ?_); refine goesL_ (some 72) rfl rfl Try.func58 (by kernel_rfl) rfl #[.int .u8 (bt ((rd_T96 t135 0).f1) x10_3)] rfl (by (try simp only [List.map_toArray, List.map_cons, List.map_nil]); first | done | rfl | (simp only [List.length_drop, List.length_take]; rfl)) ?_; (with_reducible refine (spec_l2Hex.calls k3 (bt ((rd_T96 t135 0).f1) x10_3) t151 _ A35.out).mono ?_); rintro e w' ⟨rfl, ⟨nd, rfl⟩⟩; refine ⟨_, rfl, ?_⟩))
                              go_roundg k3
                              case measure => have := HJ4.out; have := HJ27.out; have := HK3.out; omega
                              case rel => exact ⟨(wrap64 ((wrap64 ((wrap64 ((wrap64 (x9_3 * 16)) + t151)) * 16)) + t151)), (wrap64 (x10_3 + 1)), (by first | rfl | (simp; done) | (simp [*]; done)), (by first | rfl | (simp; done) | (simp [*]; done)), H', ⟨by have := HJ4.out; have := HJ27.out; have := HK3.out; omega⟩, ⟨by repeat (first | (with_reducible first | exact HB.out | apply below_alloc | apply pw_below_drewN | apply below_drew1) | exact HB.out)⟩⟩
                            · rw [if_neg c37] at H
                              have c37b0 : ((((rd_T96 t135 0).f1).size : Int) == 3) = false := beq_eq_false_iff_ne.mpr c37
                              have c37b1 : ((((rd_T96 t135 0).f1).size : Int) != 3) = true := bne_iff_ne.mpr c37
                              have H' := Aside0.mk H
                              clear H
                              have p34 : 0 ≤ (x10_3 : Int) := of_decide_eq_true (by first | (with_reducible assumption) | assumption)
                              have q34 : x10_3 < (((rd_T96 t135 0).f1).size : Int) := of_decide_eq_true (by first | (with_reducible assumption) | assumption)
                              have hx34 := bt_at ((rd_T96 t135 0).f1) x10_3
                              replace p34 := eq_true p34
                              replace q34 := eq_true q34
                              go_wp2_with (first | ((with_reducible refine gate_callee (f := 58) rfl ?_); refine goesL_ (some 72) rfl rfl Try.func58 (by kernel_rfl) rfl #[.int .u8 (bt ((rd_T96 t135 0).f1) x10_3)] rfl (by (try simp only [List.map_toArray, List.map_cons, List.map_nil]); first | done | rfl | (simp only [List.length_drop, List.length_take]; rfl)) ?_; (with_reducible refine (spec_l2Hex.calls k3 (bt ((rd_T96 t135 0).f1) x10_3) t151 _ A35.out).mono ?_); rintro e w' ⟨rfl, ⟨nd, rfl⟩⟩; refine ⟨_, rfl, ?_⟩))
                              go_roundg k3
                              case measure => have := HJ4.out; have := HJ27.out; have := HK3.out; omega
                              case rel => exact ⟨(wrap64 ((wrap64 (x9_3 * 16)) + t151)), (wrap64 (x10_3 + 1)), (by first | rfl | (simp; done) | (simp [*]; done)), (by first | rfl | (simp; done) | (simp [*]; done)), H', ⟨by have := HJ4.out; have := HJ27.out; have := HK3.out; omega⟩, ⟨by repeat (first | (with_reducible first | exact HB.out | apply below_alloc | apply pw_below_drewN | apply below_drew1) | exact HB.out)⟩⟩
                        · rw [if_neg c33] at H
                          exact absurd H (by simp)
                      · rw [if_neg c32] at H
                        have c32b0 : decide (x10_3 < (((rd_T96 t135 0).f1).size : Int)) = false := decide_eq_false c32
                        clear c32
                        simp only [Option.some.injEq, Prod.mk.injEq] at H
                        obtain ⟨rfl, rfl⟩ := H
                        go_wp2
                        go_ret2
                        exact ⟨by first | rfl | (simp [errW_none, errW_some] <;> rfl) | (simp [*, errW_none, errW_some] <;> rfl), by repeat (first | (with_reducible first | exact HB.out | apply below_alloc | apply pw_below_drewN | apply below_drew1) | exact HB.out)⟩
          · rw [if_neg c27] at H
            exact absurd H (by simp)
    · rw [if_neg c4] at H
      exact absurd H (by simp)
  · rw [if_neg c3] at H
    have c3b0 : ((t135.length : Int) == 1) = false := beq_eq_false_iff_ne.mpr c3
    have c3b1 : ((t135.length : Int) != 1) = true := bne_iff_ne.mpr c3
    simp only [Option.some.injEq, Prod.mk.injEq] at H
    obtain ⟨rfl, rfl⟩ := H
    go_enter Try.func20, Try.ntmps20
    go_wp2_with (first | ((with_reducible refine gate_callee (f := 56) rfl ?_); refine goesL_ (some 13) rfl rfl Try.func56 (by kernel_rfl) rfl #[.slice A0 l0.length c0] rfl (by (try simp only [List.map_toArray, List.map_cons, List.map_nil]); first | done | rfl | (simp only [List.length_drop, List.length_take]; rfl)) ?_; (with_reducible refine (spec_l7Trim.calls k _ _ l0 t135 _ ?side1 ?side2 A2.out).mono ?_); (case side1 => repeat (first | exact HR0.out | (with_reducible refine Kd.C_alloc ?_ _) | (with_reducible refine Kd.C_drewN ?_ _) | (with_reducible refine Kd.C_drew ?_))); (case side2 => exact HC0.out); rintro e w38 ⟨v136, rfl, ho0, hb⟩; refine ⟨_, rfl, ?_⟩; have n0_ := Aside0.mk (Kd.R_lower ho0 (below_size (by repeat (first | (with_reducible first | exact HB.out | apply below_alloc | apply pw_below_drewN | apply below_drew1) | exact HB.out)))); have n1_ := Aside0.mk (below_step (by repeat (first | (with_reducible first | exact HB.out | apply below_alloc | apply pw_below_drewN | apply below_drew1) | exact HB.out)) hb); clear HB; have HO137 := n0_; have HB := n1_; clear n0_ n1_; (try clear hb); (try clear hb2); (try clear hk); (try clear hi); (try clear ho0); obtain ⟨Ao39, co39, eo39⟩ := Kd.R_slice HO137.out; subst eo39))
    go_ret2
    exact ⟨by first | rfl | (simp [errW_none, errW_some] <;> rfl) | (simp [*, errW_none, errW_some] <;> rfl), by repeat (first | (with_reducible first | exact HB.out | apply below_alloc | apply pw_below_drewN | apply below_drew1) | exact HB.out)⟩

end Go.Proofs.Ytjoanlocikagaaa.QFnExactParseColor
