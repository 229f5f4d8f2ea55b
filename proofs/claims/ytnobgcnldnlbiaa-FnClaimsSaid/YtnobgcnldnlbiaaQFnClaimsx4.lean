/- Written by a program (wip/tools/own_print.py) out of the walk that the kit's printer made; turned where it fell. -/
import Derived.Test.YtnobgcnldnlbiaaQFnClaimsx0
import Derived.Test.YtnobgcnldnlbiaaQFnClaimsx1
import Derived.Test.YtnobgcnldnlbiaaQFnClaimsx3
namespace Go.Proofs.Ytnobgcnldnlbiaa.QFnClaims
open Go.RowKit Go.Proofs.YtnobgcnldnlbiaaW.PrintWords Go.Proofs.YtnobgcnldnlbiaaW.PrintLast Go.Proofs.YtnobgcnldnlbiaaW.PrintMore
attribute [local go_sem] max2_int min2_int max_two min_two max_three min_three max_four min_four   -- for this text's walks alone
set_option linter.unusedVariables false
set_option linter.unusedSimpArgs false

/-! ### laws_FnClaims: function 12 -/
mutual
def laws_FnClaims.j0 : Nat → List Int → List Int → Bool → Option (Bool)
  | 0, _, _, _ => none
  | k + 1, x0, x1, x16 => if x16 = true then (some true) else ((spec_DrawStronger.f k x0).bind fun bt182 => ((spec_DrawStronger.f k x1).bind fun bt196 => ((impl_Stronger.f k bt182.1 bt182.2.1 bt182.2.2.1 bt182.2.2.2.1 bt182.2.2.2.2.1 bt182.2.2.2.2.2.1 bt182.2.2.2.2.2.2.1 bt182.2.2.2.2.2.2.2.1 bt182.2.2.2.2.2.2.2.2.1 bt182.2.2.2.2.2.2.2.2.2.1 bt182.2.2.2.2.2.2.2.2.2.2.1 bt182.2.2.2.2.2.2.2.2.2.2.2).bind fun t210 => ((impl_Stronger.f k bt182.2.2.2.2.2.2.1 bt182.2.2.2.2.2.2.2.1 bt182.2.2.2.2.2.2.2.2.1 bt182.2.2.2.2.2.2.2.2.2.1 bt182.2.2.2.2.2.2.2.2.2.2.1 bt182.2.2.2.2.2.2.2.2.2.2.2 bt182.1 bt182.2.1 bt182.2.2.1 bt182.2.2.2.1 bt182.2.2.2.2.1 bt182.2.2.2.2.2.1).bind fun t211 => ((spec_Stronger.f bt182.1 bt182.2.1 bt182.2.2.1 bt182.2.2.2.1 bt182.2.2.2.2.1 bt182.2.2.2.2.2.1 bt182.2.2.2.2.2.2.1 bt182.2.2.2.2.2.2.2.1 bt182.2.2.2.2.2.2.2.2.1 bt182.2.2.2.2.2.2.2.2.2.1 bt182.2.2.2.2.2.2.2.2.2.2.1 bt182.2.2.2.2.2.2.2.2.2.2.2).bind fun t212 => (if (t210 != t212) = true then (laws_FnClaims.j1 k t210 true bt182.1 bt182.2.1 bt182.2.2.1 bt182.2.2.2.1 bt182.2.2.2.2.1 bt182.2.2.2.2.2.1 bt182.2.2.2.2.2.2.1 bt182.2.2.2.2.2.2.2.1 bt182.2.2.2.2.2.2.2.2.1 bt182.2.2.2.2.2.2.2.2.2.1 bt182.2.2.2.2.2.2.2.2.2.2.1 bt182.2.2.2.2.2.2.2.2.2.2.2 bt196.1 bt196.2.1 bt196.2.2.1 bt196.2.2.2.1 bt196.2.2.2.2.1 bt196.2.2.2.2.2.1) else ((impl_Stronger.f k bt182.1 bt182.2.1 bt182.2.2.1 bt182.2.2.2.1 bt182.2.2.2.2.1 bt182.2.2.2.2.2.1 bt182.1 bt182.2.1 bt182.2.2.1 bt182.2.2.2.1 bt182.2.2.2.2.1 bt182.2.2.2.2.2.1).bind fun t213 => (if t213 = true then (laws_FnClaims.j1 k t210 true bt182.1 bt182.2.1 bt182.2.2.1 bt182.2.2.2.1 bt182.2.2.2.2.1 bt182.2.2.2.2.2.1 bt182.2.2.2.2.2.2.1 bt182.2.2.2.2.2.2.2.1 bt182.2.2.2.2.2.2.2.2.1 bt182.2.2.2.2.2.2.2.2.2.1 bt182.2.2.2.2.2.2.2.2.2.2.1 bt182.2.2.2.2.2.2.2.2.2.2.2 bt196.1 bt196.2.1 bt196.2.2.1 bt196.2.2.2.1 bt196.2.2.2.2.1 bt196.2.2.2.2.2.1) else (if t210 = true then (if t211 = true then (laws_FnClaims.j1 k t210 true bt182.1 bt182.2.1 bt182.2.2.1 bt182.2.2.2.1 bt182.2.2.2.2.1 bt182.2.2.2.2.2.1 bt182.2.2.2.2.2.2.1 bt182.2.2.2.2.2.2.2.1 bt182.2.2.2.2.2.2.2.2.1 bt182.2.2.2.2.2.2.2.2.2.1 bt182.2.2.2.2.2.2.2.2.2.2.1 bt182.2.2.2.2.2.2.2.2.2.2.2 bt196.1 bt196.2.1 bt196.2.2.1 bt196.2.2.2.1 bt196.2.2.2.2.1 bt196.2.2.2.2.2.1) else (if bt182.2.2.2.2.2.1 = bt182.2.2.2.2.2.2.2.2.2.2.2 then (laws_FnClaims.j1 k t210 false bt182.1 bt182.2.1 bt182.2.2.1 bt182.2.2.2.1 bt182.2.2.2.2.1 bt182.2.2.2.2.2.1 bt182.2.2.2.2.2.2.1 bt182.2.2.2.2.2.2.2.1 bt182.2.2.2.2.2.2.2.2.1 bt182.2.2.2.2.2.2.2.2.2.1 bt182.2.2.2.2.2.2.2.2.2.2.1 bt182.2.2.2.2.2.2.2.2.2.2.2 bt196.1 bt196.2.1 bt196.2.2.1 bt196.2.2.2.1 bt196.2.2.2.2.1 bt196.2.2.2.2.2.1) else (laws_FnClaims.j1 k t210 false bt182.1 bt182.2.1 bt182.2.2.1 bt182.2.2.2.1 bt182.2.2.2.2.1 bt182.2.2.2.2.2.1 bt182.2.2.2.2.2.2.1 bt182.2.2.2.2.2.2.2.1 bt182.2.2.2.2.2.2.2.2.1 bt182.2.2.2.2.2.2.2.2.2.1 bt182.2.2.2.2.2.2.2.2.2.2.1 bt182.2.2.2.2.2.2.2.2.2.2.2 bt196.1 bt196.2.1 bt196.2.2.1 bt196.2.2.2.1 bt196.2.2.2.2.1 bt196.2.2.2.2.2.1))) else (if bt182.2.2.2.2.2.1 = bt182.2.2.2.2.2.2.2.2.2.2.2 then (laws_FnClaims.j1 k t210 false bt182.1 bt182.2.1 bt182.2.2.1 bt182.2.2.2.1 bt182.2.2.2.2.1 bt182.2.2.2.2.2.1 bt182.2.2.2.2.2.2.1 bt182.2.2.2.2.2.2.2.1 bt182.2.2.2.2.2.2.2.2.1 bt182.2.2.2.2.2.2.2.2.2.1 bt182.2.2.2.2.2.2.2.2.2.2.1 bt182.2.2.2.2.2.2.2.2.2.2.2 bt196.1 bt196.2.1 bt196.2.2.1 bt196.2.2.2.1 bt196.2.2.2.2.1 bt196.2.2.2.2.2.1) else (laws_FnClaims.j1 k t210 (!t211) bt182.1 bt182.2.1 bt182.2.2.1 bt182.2.2.2.1 bt182.2.2.2.2.1 bt182.2.2.2.2.2.1 bt182.2.2.2.2.2.2.1 bt182.2.2.2.2.2.2.2.1 bt182.2.2.2.2.2.2.2.2.1 bt182.2.2.2.2.2.2.2.2.2.1 bt182.2.2.2.2.2.2.2.2.2.2.1 bt182.2.2.2.2.2.2.2.2.2.2.2 bt196.1 bt196.2.1 bt196.2.2.1 bt196.2.2.2.1 bt196.2.2.2.2.1 bt196.2.2.2.2.2.1)))))))))))
def laws_FnClaims.j1 : Nat → Bool → Bool → Int → Bool → Bool → Int → Int → Int → Int → Bool → Bool → Int → Int → Int → Int → Bool → Bool → Int → Int → Int → Option (Bool)
  | 0, _, _, _, _, _, _, _, _, _, _, _, _, _, _, _, _, _, _, _, _ => none
  | k + 1, x9, x63, x195000, x195001, x195002, x195003, x195004, x195005, x196000, x196001, x196002, x196003, x196004, x196005, x209000, x209001, x209002, x209003, x209004, x209005 => if x63 = true then (some false) else (if x9 = true then ((impl_Stronger.f k x196000 x196001 x196002 x196003 x196004 x196005 x209000 x209001 x209002 x209003 x209004 x209005).bind fun t214 => (if t214 = true then ((impl_Stronger.f k x195000 x195001 x195002 x195003 x195004 x195005 x209000 x209001 x209002 x209003 x209004 x209005).bind fun t215 => (some t215)) else (some true))) else (some true))
end
def laws_FnClaims.f (k : Nat) (l0 : List Int) (l1 : List Int) : Option (Bool) := (laws_big.f l0).bind fun t180 => (if t180 = true then (laws_FnClaims.j0 k l0 l1 true) else ((laws_big.f l1).bind fun t181 => (laws_FnClaims.j0 k l0 l1 t181)))
theorem laws_FnClaims.mono_l : ∀ k, (∀ y0 y1 y2, LeO (laws_FnClaims.j0 k y0 y1 y2) (laws_FnClaims.j0 (k + 1) y0 y1 y2)) ∧ (∀ y0 y1 y2 y3 y4 y5 y6 y7 y8 y9 y10 y11 y12 y13 y14 y15 y16 y17 y18 y19, LeO (laws_FnClaims.j1 k y0 y1 y2 y3 y4 y5 y6 y7 y8 y9 y10 y11 y12 y13 y14 y15 y16 y17 y18 y19) (laws_FnClaims.j1 (k + 1) y0 y1 y2 y3 y4 y5 y6 y7 y8 y9 y10 y11 y12 y13 y14 y15 y16 y17 y18 y19))
  | 0 => ⟨fun _ _ _ r h => by simp [laws_FnClaims.j0] at h, fun _ _ _ _ _ _ _ _ _ _ _ _ _ _ _ _ _ _ _ _ r h => by simp [laws_FnClaims.j1] at h⟩
  | k + 1 => by
    obtain ⟨ih0, ih1⟩ := laws_FnClaims.mono_l k
    refine ⟨?_, ?_⟩
    · intro y0 y1 y2
      unfold laws_FnClaims.j0
      repeat' first
      | (with_reducible exact ih0 _ _ _)
      | (with_reducible exact ih1 _ _ _ _ _ _ _ _ _ _ _ _ _ _ _ _ _ _ _ _)
      | (with_reducible exact impl_Stronger.mono _ _ _ _ _ _ _ _ _ _ _ _ _)
      | (with_reducible exact spec_DrawStronger.mono _ _)
      | (with_reducible exact LeO.refl _)
      | (with_reducible exact LeO.none _)
      | (with_reducible refine LeO.ite ?_ ?_)
      | (with_reducible refine LeO.bind ?_ (fun _ => ?_))
      | exact ih0 _ _ _
      | exact ih1 _ _ _ _ _ _ _ _ _ _ _ _ _ _ _ _ _ _ _ _
      | exact impl_Stronger.mono _ _ _ _ _ _ _ _ _ _ _ _ _
      | exact spec_DrawStronger.mono _ _
      | exact LeO.none _
      | refine LeO.ite ?_ ?_
      | refine LeO.bind ?_ (fun _ => ?_)
    · intro y0 y1 y2 y3 y4 y5 y6 y7 y8 y9 y10 y11 y12 y13 y14 y15 y16 y17 y18 y19
      unfold laws_FnClaims.j1
      repeat' first
      | (with_reducible exact ih0 _ _ _)
      | (with_reducible exact ih1 _ _ _ _ _ _ _ _ _ _ _ _ _ _ _ _ _ _ _ _)
      | (with_reducible exact impl_Stronger.mono _ _ _ _ _ _ _ _ _ _ _ _ _)
      | (with_reducible exact spec_DrawStronger.mono _ _)
      | (with_reducible exact LeO.refl _)
      | (with_reducible exact LeO.none _)
      | (with_reducible refine LeO.ite ?_ ?_)
      | (with_reducible refine LeO.bind ?_ (fun _ => ?_))
      | exact ih0 _ _ _
      | exact ih1 _ _ _ _ _ _ _ _ _ _ _ _ _ _ _ _ _ _ _ _
      | exact impl_Stronger.mono _ _ _ _ _ _ _ _ _ _ _ _ _
      | exact spec_DrawStronger.mono _ _
      | exact LeO.none _
      | refine LeO.ite ?_ ?_
      | refine LeO.bind ?_ (fun _ => ?_)
theorem laws_FnClaims.mono : ∀ a0 a1 k, LeO (laws_FnClaims.f k a0 a1) (laws_FnClaims.f (k + 1) a0 a1) := by
  intro a0 a1 k
  obtain ⟨ih0, ih1⟩ := laws_FnClaims.mono_l k
  unfold laws_FnClaims.f
  repeat' first
      | (with_reducible exact ih0 _ _ _)
      | (with_reducible exact ih1 _ _ _ _ _ _ _ _ _ _ _ _ _ _ _ _ _ _ _ _)
      | (with_reducible exact impl_Stronger.mono _ _ _ _ _ _ _ _ _ _ _ _ _)
      | (with_reducible exact spec_DrawStronger.mono _ _)
      | (with_reducible exact LeO.refl _)
      | (with_reducible exact LeO.none _)
      | (with_reducible refine LeO.ite ?_ ?_)
      | (with_reducible refine LeO.bind ?_ (fun _ => ?_))
      | exact ih0 _ _ _
      | exact ih1 _ _ _ _ _ _ _ _ _ _ _ _ _ _ _ _ _ _ _ _
      | exact impl_Stronger.mono _ _ _ _ _ _ _ _ _ _ _ _ _
      | exact spec_DrawStronger.mono _ _
      | exact LeO.none _
      | refine LeO.ite ?_ ?_
      | refine LeO.bind ?_ (fun _ => ?_)
set_option maxHeartbeats 8000000 in
set_option maxRecDepth 100000 in
theorem laws_FnClaims.calls (k : Nat) (A0 : Option Addr) (c0 : Nat) (l0 : List Int) (A1 : Option Addr) (c1 : Nat) (l1 : List Int) (r : Bool) (w : World) (hr0 : Kd.C (Kd.int .u8) w A0 l0.length l0) (hc0 : l0.length ≤ c0) (hr1 : Kd.C (Kd.int .u8) w A1 l1.length l1) (hc1 : l1.length ≤ c1) (h : laws_FnClaims.f k l0 l1 = some r) :
    Calls Try.prog 12 #[.slice A0 l0.length c0, .slice A1 l1.length c1] w fun e w' => e = .returned (.bool r) ∧ Below w.heap.size w w' := by
  have hu43 := Try.underlying43
  have HR0 := Aside0.mk hr0
  have HC0 := Aside0.mk hc0
  clear hr0 hc0
  have HR1 := Aside0.mk hr1
  have HC1 := Aside0.mk hc1
  clear hr1 hc1
  have HB := Aside0.mk (Below.refl w.heap.size w)
  have H : ((laws_big.f l0).bind fun t180 => (if t180 = true then (laws_FnClaims.j0 k l0 l1 true) else ((laws_big.f l1).bind fun t181 => (laws_FnClaims.j0 k l0 l1 t181)))) = some r := h
  clear h
  have HC3 := Aside0.mk H
  clear H
  go_enter Try.func12, Try.ntmps12
  go_upto_region 1 with (fail)
  go_cut [16] (fun v16 wc => ∃ (kq : Nat) (x16_2 : Bool), v16 = .bool x16_2 ∧ Aside0 (laws_FnClaims.j0 kq l0 l1 x16_2 = some r) ∧ Aside0 (kq ≤ k) ∧ Aside0 (Below w.heap.size w wc))
  case first =>
    have H := HC3.out
    clear HC3
    replace H := Option.bind_eq_some_iff.mp H
    obtain ⟨t180, A40, H⟩ := H
    replace H : (if t180 = true then (laws_FnClaims.j0 k l0 l1 true) else ((laws_big.f l1).bind fun t181 => (laws_FnClaims.j0 k l0 l1 t181))) = some r := H
    have A4 := Aside0.mk A40
    clear A40
    by_cases c5 : t180 = true
    · subst c5
      have H1 : (laws_FnClaims.j0 k l0 l1 true) = some r := by rw [if_pos rfl] at H; exact H
      clear H
      have H := H1
      clear H1
      have H' := Aside0.mk H
      clear H
      go_wp2_with (first | ((with_reducible refine gate_callee (f := 38) rfl ?_); refine goesL_ (some 12) rfl rfl Try.func38 (by kernel_rfl) rfl #[.slice A0 l0.length c0] rfl (by (try simp only [List.map_toArray, List.map_cons, List.map_nil]); first | done | rfl | (simp only [List.length_drop, List.length_take]; rfl)) ?_; (with_reducible refine (laws_big.calls _ _ l0 true _ ?side1 ?side2 A4.out).mono ?_); (case side1 => repeat (first | exact (Kd.C_below HR0.out HB.out) | (with_reducible refine Kd.C_alloc ?_ _) | (with_reducible refine Kd.C_drewN ?_ _) | (with_reducible refine Kd.C_drew ?_))); (case side2 => exact HC0.out); rintro e w' ⟨rfl, ⟨nd, rfl⟩⟩; refine ⟨_, rfl, ?_⟩))
      go_meet
      case rel => exact ⟨_, (true), (by first | rfl | (simp; done) | (simp [*]; done)), H', ⟨by first | omega | exact Nat.le_refl _⟩, ⟨by repeat (first | (with_reducible first | exact HB.out | apply below_alloc | apply pw_below_drewN | apply below_drew1) | exact HB.out)⟩⟩
    · replace c5 := Bool.eq_false_iff.mpr c5
      subst c5
      have H1 : ((laws_big.f l1).bind fun t181 => (laws_FnClaims.j0 k l0 l1 t181)) = some r := by rw [if_neg (show ¬ (false = true) by decide)] at H; exact H
      clear H
      have H := H1
      clear H1
      replace H := Option.bind_eq_some_iff.mp H
      obtain ⟨t181, A60, H⟩ := H
      replace H : (laws_FnClaims.j0 k l0 l1 t181) = some r := H
      have A6 := Aside0.mk A60
      clear A60
      have H' := Aside0.mk H
      clear H
      go_wp2_with (first | ((with_reducible refine gate_callee (f := 38) rfl ?_); refine goesL_ (some 12) rfl rfl Try.func38 (by kernel_rfl) rfl #[.slice A0 l0.length c0] rfl (by (try simp only [List.map_toArray, List.map_cons, List.map_nil]); first | done | rfl | (simp only [List.length_drop, List.length_take]; rfl)) ?_; (with_reducible refine (laws_big.calls _ _ l0 false _ ?side1 ?side2 A4.out).mono ?_); (case side1 => repeat (first | exact (Kd.C_below HR0.out HB.out) | (with_reducible refine Kd.C_alloc ?_ _) | (with_reducible refine Kd.C_drewN ?_ _) | (with_reducible refine Kd.C_drew ?_))); (case side2 => exact HC0.out); rintro e w' ⟨rfl, ⟨nd, rfl⟩⟩; refine ⟨_, rfl, ?_⟩) | (go_at_call 38; (with_reducible refine (laws_big.calls _ _ l1 t181 _ ?side1 ?side2 A6.out).mono ?_); (case side1 => repeat (first | exact (Kd.C_below HR1.out (by repeat (first | (with_reducible first | exact HB.out | apply below_alloc | apply pw_below_drewN | apply below_drew1) | exact HB.out))) | (with_reducible refine Kd.C_alloc ?_ _) | (with_reducible refine Kd.C_drewN ?_ _) | (with_reducible refine Kd.C_drew ?_))); (case side2 => exact HC1.out); rintro e w' ⟨rfl, ⟨nd, rfl⟩⟩))
      go_meet
      case rel => exact ⟨_, (t181), (by first | rfl | (simp; done) | (simp [*]; done)), H', ⟨by first | omega | exact Nat.le_refl _⟩, ⟨by repeat (first | (with_reducible first | exact HB.out | apply below_alloc | apply pw_below_drewN | apply below_drew1) | exact HB.out)⟩⟩
  case rest =>
    clear HC3
    try clear c1
    try clear p2
    try clear c3
    try clear c5
    obtain ⟨kq, x16_2, rfl, HA, HJ2, HB⟩ := hcut
    cases kq with
    | zero => exact absurd HA.out (by simp [laws_FnClaims.j0])
    | succ kj2 =>
      have H := HA.out
      clear HA
      simp only [laws_FnClaims.j0] at H
      by_cases c7 : x16_2 = true
      · subst c7
        have H1 : (some true) = some r := by rw [if_pos rfl] at H; exact H
        clear H
        have H := H1
        clear H1
        obtain rfl := Option.some.inj H
        go_wp2
        go_ret
        exact ⟨by first | rfl | (simp [errW_none, errW_some] <;> rfl) | (simp [*, errW_none, errW_some] <;> rfl), by repeat (first | (with_reducible first | exact HB.out | apply below_alloc | apply pw_below_drewN | apply below_drew1) | exact HB.out)⟩
      · replace c7 := Bool.eq_false_iff.mpr c7
        subst c7
        have H1 : ((spec_DrawStronger.f kj2 l0).bind fun bt182 => ((spec_DrawStronger.f kj2 l1).bind fun bt196 => ((impl_Stronger.f kj2 bt182.1 bt182.2.1 bt182.2.2.1 bt182.2.2.2.1 bt182.2.2.2.2.1 bt182.2.2.2.2.2.1 bt182.2.2.2.2.2.2.1 bt182.2.2.2.2.2.2.2.1 bt182.2.2.2.2.2.2.2.2.1 bt182.2.2.2.2.2.2.2.2.2.1 bt182.2.2.2.2.2.2.2.2.2.2.1 bt182.2.2.2.2.2.2.2.2.2.2.2).bind fun t210 => ((impl_Stronger.f kj2 bt182.2.2.2.2.2.2.1 bt182.2.2.2.2.2.2.2.1 bt182.2.2.2.2.2.2.2.2.1 bt182.2.2.2.2.2.2.2.2.2.1 bt182.2.2.2.2.2.2.2.2.2.2.1 bt182.2.2.2.2.2.2.2.2.2.2.2 bt182.1 bt182.2.1 bt182.2.2.1 bt182.2.2.2.1 bt182.2.2.2.2.1 bt182.2.2.2.2.2.1).bind fun t211 => ((spec_Stronger.f bt182.1 bt182.2.1 bt182.2.2.1 bt182.2.2.2.1 bt182.2.2.2.2.1 bt182.2.2.2.2.2.1 bt182.2.2.2.2.2.2.1 bt182.2.2.2.2.2.2.2.1 bt182.2.2.2.2.2.2.2.2.1 bt182.2.2.2.2.2.2.2.2.2.1 bt182.2.2.2.2.2.2.2.2.2.2.1 bt182.2.2.2.2.2.2.2.2.2.2.2).bind fun t212 => (if (t210 != t212) = true then (laws_FnClaims.j1 kj2 t210 true bt182.1 bt182.2.1 bt182.2.2.1 bt182.2.2.2.1 bt182.2.2.2.2.1 bt182.2.2.2.2.2.1 bt182.2.2.2.2.2.2.1 bt182.2.2.2.2.2.2.2.1 bt182.2.2.2.2.2.2.2.2.1 bt182.2.2.2.2.2.2.2.2.2.1 bt182.2.2.2.2.2.2.2.2.2.2.1 bt182.2.2.2.2.2.2.2.2.2.2.2 bt196.1 bt196.2.1 bt196.2.2.1 bt196.2.2.2.1 bt196.2.2.2.2.1 bt196.2.2.2.2.2.1) else ((impl_Stronger.f kj2 bt182.1 bt182.2.1 bt182.2.2.1 bt182.2.2.2.1 bt182.2.2.2.2.1 bt182.2.2.2.2.2.1 bt182.1 bt182.2.1 bt182.2.2.1 bt182.2.2.2.1 bt182.2.2.2.2.1 bt182.2.2.2.2.2.1).bind fun t213 => (if t213 = true then (laws_FnClaims.j1 kj2 t210 true bt182.1 bt182.2.1 bt182.2.2.1 bt182.2.2.2.1 bt182.2.2.2.2.1 bt182.2.2.2.2.2.1 bt182.2.2.2.2.2.2.1 bt182.2.2.2.2.2.2.2.1 bt182.2.2.2.2.2.2.2.2.1 bt182.2.2.2.2.2.2.2.2.2.1 bt182.2.2.2.2.2.2.2.2.2.2.1 bt182.2.2.2.2.2.2.2.2.2.2.2 bt196.1 bt196.2.1 bt196.2.2.1 bt196.2.2.2.1 bt196.2.2.2.2.1 bt196.2.2.2.2.2.1) else (if t210 = true then (if t211 = true then (laws_FnClaims.j1 kj2 t210 true bt182.1 bt182.2.1 bt182.2.2.1 bt182.2.2.2.1 bt182.2.2.2.2.1 bt182.2.2.2.2.2.1 bt182.2.2.2.2.2.2.1 bt182.2.2.2.2.2.2.2.1 bt182.2.2.2.2.2.2.2.2.1 bt182.2.2.2.2.2.2.2.2.2.1 bt182.2.2.2.2.2.2.2.2.2.2.1 bt182.2.2.2.2.2.2.2.2.2.2.2 bt196.1 bt196.2.1 bt196.2.2.1 bt196.2.2.2.1 bt196.2.2.2.2.1 bt196.2.2.2.2.2.1) else (if bt182.2.2.2.2.2.1 = bt182.2.2.2.2.2.2.2.2.2.2.2 then (laws_FnClaims.j1 kj2 t210 false bt182.1 bt182.2.1 bt182.2.2.1 bt182.2.2.2.1 bt182.2.2.2.2.1 bt182.2.2.2.2.2.1 bt182.2.2.2.2.2.2.1 bt182.2.2.2.2.2.2.2.1 bt182.2.2.2.2.2.2.2.2.1 bt182.2.2.2.2.2.2.2.2.2.1 bt182.2.2.2.2.2.2.2.2.2.2.1 bt182.2.2.2.2.2.2.2.2.2.2.2 bt196.1 bt196.2.1 bt196.2.2.1 bt196.2.2.2.1 bt196.2.2.2.2.1 bt196.2.2.2.2.2.1) else (laws_FnClaims.j1 kj2 t210 false bt182.1 bt182.2.1 bt182.2.2.1 bt182.2.2.2.1 bt182.2.2.2.2.1 bt182.2.2.2.2.2.1 bt182.2.2.2.2.2.2.1 bt182.2.2.2.2.2.2.2.1 bt182.2.2.2.2.2.2.2.2.1 bt182.2.2.2.2.2.2.2.2.2.1 bt182.2.2.2.2.2.2.2.2.2.2.1 bt182.2.2.2.2.2.2.2.2.2.2.2 bt196.1 bt196.2.1 bt196.2.2.1 bt196.2.2.2.1 bt196.2.2.2.2.1 bt196.2.2.2.2.2.1))) else (if bt182.2.2.2.2.2.1 = bt182.2.2.2.2.2.2.2.2.2.2.2 then (laws_FnClaims.j1 kj2 t210 false bt182.1 bt182.2.1 bt182.2.2.1 bt182.2.2.2.1 bt182.2.2.2.2.1 bt182.2.2.2.2.2.1 bt182.2.2.2.2.2.2.1 bt182.2.2.2.2.2.2.2.1 bt182.2.2.2.2.2.2.2.2.1 bt182.2.2.2.2.2.2.2.2.2.1 bt182.2.2.2.2.2.2.2.2.2.2.1 bt182.2.2.2.2.2.2.2.2.2.2.2 bt196.1 bt196.2.1 bt196.2.2.1 bt196.2.2.2.1 bt196.2.2.2.2.1 bt196.2.2.2.2.2.1) else (laws_FnClaims.j1 kj2 t210 (!t211) bt182.1 bt182.2.1 bt182.2.2.1 bt182.2.2.2.1 bt182.2.2.2.2.1 bt182.2.2.2.2.2.1 bt182.2.2.2.2.2.2.1 bt182.2.2.2.2.2.2.2.1 bt182.2.2.2.2.2.2.2.2.1 bt182.2.2.2.2.2.2.2.2.2.1 bt182.2.2.2.2.2.2.2.2.2.2.1 bt182.2.2.2.2.2.2.2.2.2.2.2 bt196.1 bt196.2.1 bt196.2.2.1 bt196.2.2.2.1 bt196.2.2.2.2.1 bt196.2.2.2.2.2.1))))))))))) = some r := by rw [if_neg (show ¬ (false = true) by decide)] at H; exact H
        clear H
        have H := H1
        clear H1
        replace H := Option.bind_eq_some_iff.mp H
        obtain ⟨⟨t182, t183, t184, t185, t186, t187, t188, t189, t190, t191, t192, t193⟩, A80, H⟩ := H
        replace H : ((spec_DrawStronger.f kj2 l1).bind fun bt196 => ((impl_Stronger.f kj2 t182 t183 t184 t185 t186 t187 t188 t189 t190 t191 t192 t193).bind fun t210 => ((impl_Stronger.f kj2 t188 t189 t190 t191 t192 t193 t182 t183 t184 t185 t186 t187).bind fun t211 => ((spec_Stronger.f t182 t183 t184 t185 t186 t187 t188 t189 t190 t191 t192 t193).bind fun t212 => (if (t210 != t212) = true then (laws_FnClaims.j1 kj2 t210 true t182 t183 t184 t185 t186 t187 t188 t189 t190 t191 t192 t193 bt196.1 bt196.2.1 bt196.2.2.1 bt196.2.2.2.1 bt196.2.2.2.2.1 bt196.2.2.2.2.2.1) else ((impl_Stronger.f kj2 t182 t183 t184 t185 t186 t187 t182 t183 t184 t185 t186 t187).bind fun t213 => (if t213 = true then (laws_FnClaims.j1 kj2 t210 true t182 t183 t184 t185 t186 t187 t188 t189 t190 t191 t192 t193 bt196.1 bt196.2.1 bt196.2.2.1 bt196.2.2.2.1 bt196.2.2.2.2.1 bt196.2.2.2.2.2.1) else (if t210 = true then (if t211 = true then (laws_FnClaims.j1 kj2 t210 true t182 t183 t184 t185 t186 t187 t188 t189 t190 t191 t192 t193 bt196.1 bt196.2.1 bt196.2.2.1 bt196.2.2.2.1 bt196.2.2.2.2.1 bt196.2.2.2.2.2.1) else (if t187 = t193 then (laws_FnClaims.j1 kj2 t210 false t182 t183 t184 t185 t186 t187 t188 t189 t190 t191 t192 t193 bt196.1 bt196.2.1 bt196.2.2.1 bt196.2.2.2.1 bt196.2.2.2.2.1 bt196.2.2.2.2.2.1) else (laws_FnClaims.j1 kj2 t210 false t182 t183 t184 t185 t186 t187 t188 t189 t190 t191 t192 t193 bt196.1 bt196.2.1 bt196.2.2.1 bt196.2.2.2.1 bt196.2.2.2.2.1 bt196.2.2.2.2.2.1))) else (if t187 = t193 then (laws_FnClaims.j1 kj2 t210 false t182 t183 t184 t185 t186 t187 t188 t189 t190 t191 t192 t193 bt196.1 bt196.2.1 bt196.2.2.1 bt196.2.2.2.1 bt196.2.2.2.2.1 bt196.2.2.2.2.2.1) else (laws_FnClaims.j1 kj2 t210 (!t211) t182 t183 t184 t185 t186 t187 t188 t189 t190 t191 t192 t193 bt196.1 bt196.2.1 bt196.2.2.1 bt196.2.2.2.1 bt196.2.2.2.2.1 bt196.2.2.2.2.2.1)))))))))) = some r := H
        have A8 := Aside0.mk A80
        clear A80
        replace H := Option.bind_eq_some_iff.mp H
        obtain ⟨⟨t196, t197, t198, t199, t200, t201, t202, t203, t204, t205, t206, t207⟩, A90, H⟩ := H
        replace H : ((impl_Stronger.f kj2 t182 t183 t184 t185 t186 t187 t188 t189 t190 t191 t192 t193).bind fun t210 => ((impl_Stronger.f kj2 t188 t189 t190 t191 t192 t193 t182 t183 t184 t185 t186 t187).bind fun t211 => ((spec_Stronger.f t182 t183 t184 t185 t186 t187 t188 t189 t190 t191 t192 t193).bind fun t212 => (if (t210 != t212) = true then (laws_FnClaims.j1 kj2 t210 true t182 t183 t184 t185 t186 t187 t188 t189 t190 t191 t192 t193 t196 t197 t198 t199 t200 t201) else ((impl_Stronger.f kj2 t182 t183 t184 t185 t186 t187 t182 t183 t184 t185 t186 t187).bind fun t213 => (if t213 = true then (laws_FnClaims.j1 kj2 t210 true t182 t183 t184 t185 t186 t187 t188 t189 t190 t191 t192 t193 t196 t197 t198 t199 t200 t201) else (if t210 = true then (if t211 = true then (laws_FnClaims.j1 kj2 t210 true t182 t183 t184 t185 t186 t187 t188 t189 t190 t191 t192 t193 t196 t197 t198 t199 t200 t201) else (if t187 = t193 then (laws_FnClaims.j1 kj2 t210 false t182 t183 t184 t185 t186 t187 t188 t189 t190 t191 t192 t193 t196 t197 t198 t199 t200 t201) else (laws_FnClaims.j1 kj2 t210 false t182 t183 t184 t185 t186 t187 t188 t189 t190 t191 t192 t193 t196 t197 t198 t199 t200 t201))) else (if t187 = t193 then (laws_FnClaims.j1 kj2 t210 false t182 t183 t184 t185 t186 t187 t188 t189 t190 t191 t192 t193 t196 t197 t198 t199 t200 t201) else (laws_FnClaims.j1 kj2 t210 (!t211) t182 t183 t184 t185 t186 t187 t188 t189 t190 t191 t192 t193 t196 t197 t198 t199 t200 t201))))))))) = some r := H
        have A9 := Aside0.mk A90
        clear A90
        replace H := Option.bind_eq_some_iff.mp H
        obtain ⟨t210, A100, H⟩ := H
        replace H : ((impl_Stronger.f kj2 t188 t189 t190 t191 t192 t193 t182 t183 t184 t185 t186 t187).bind fun t211 => ((spec_Stronger.f t182 t183 t184 t185 t186 t187 t188 t189 t190 t191 t192 t193).bind fun t212 => (if (t210 != t212) = true then (laws_FnClaims.j1 kj2 t210 true t182 t183 t184 t185 t186 t187 t188 t189 t190 t191 t192 t193 t196 t197 t198 t199 t200 t201) else ((impl_Stronger.f kj2 t182 t183 t184 t185 t186 t187 t182 t183 t184 t185 t186 t187).bind fun t213 => (if t213 = true then (laws_FnClaims.j1 kj2 t210 true t182 t183 t184 t185 t186 t187 t188 t189 t190 t191 t192 t193 t196 t197 t198 t199 t200 t201) else (if t210 = true then (if t211 = true then (laws_FnClaims.j1 kj2 t210 true t182 t183 t184 t185 t186 t187 t188 t189 t190 t191 t192 t193 t196 t197 t198 t199 t200 t201) else (if t187 = t193 then (laws_FnClaims.j1 kj2 t210 false t182 t183 t184 t185 t186 t187 t188 t189 t190 t191 t192 t193 t196 t197 t198 t199 t200 t201) else (laws_FnClaims.j1 kj2 t210 false t182 t183 t184 t185 t186 t187 t188 t189 t190 t191 t192 t193 t196 t197 t198 t199 t200 t201))) else (if t187 = t193 then (laws_FnClaims.j1 kj2 t210 false t182 t183 t184 t185 t186 t187 t188 t189 t190 t191 t192 t193 t196 t197 t198 t199 t200 t201) else (laws_FnClaims.j1 kj2 t210 (!t211) t182 t183 t184 t185 t186 t187 t188 t189 t190 t191 t192 t193 t196 t197 t198 t199 t200 t201)))))))) = some r := H
        have A10 := Aside0.mk A100
        clear A100
        replace H := Option.bind_eq_some_iff.mp H
        obtain ⟨t211, A110, H⟩ := H
        replace H : ((spec_Stronger.f t182 t183 t184 t185 t186 t187 t188 t189 t190 t191 t192 t193).bind fun t212 => (if (t210 != t212) = true then (laws_FnClaims.j1 kj2 t210 true t182 t183 t184 t185 t186 t187 t188 t189 t190 t191 t192 t193 t196 t197 t198 t199 t200 t201) else ((impl_Stronger.f kj2 t182 t183 t184 t185 t186 t187 t182 t183 t184 t185 t186 t187).bind fun t213 => (if t213 = true then (laws_FnClaims.j1 kj2 t210 true t182 t183 t184 t185 t186 t187 t188 t189 t190 t191 t192 t193 t196 t197 t198 t199 t200 t201) else (if t210 = true then (if t211 = true then (laws_FnClaims.j1 kj2 t210 true t182 t183 t184 t185 t186 t187 t188 t189 t190 t191 t192 t193 t196 t197 t198 t199 t200 t201) else (if t187 = t193 then (laws_FnClaims.j1 kj2 t210 false t182 t183 t184 t185 t186 t187 t188 t189 t190 t191 t192 t193 t196 t197 t198 t199 t200 t201) else (laws_FnClaims.j1 kj2 t210 false t182 t183 t184 t185 t186 t187 t188 t189 t190 t191 t192 t193 t196 t197 t198 t199 t200 t201))) else (if t187 = t193 then (laws_FnClaims.j1 kj2 t210 false t182 t183 t184 t185 t186 t187 t188 t189 t190 t191 t192 t193 t196 t197 t198 t199 t200 t201) else (laws_FnClaims.j1 kj2 t210 (!t211) t182 t183 t184 t185 t186 t187 t188 t189 t190 t191 t192 t193 t196 t197 t198 t199 t200 t201))))))) = some r := H
        have A11 := Aside0.mk A110
        clear A110
        have HC12 := Aside0.mk H
        clear H
        go_upto_region 7 with (first | ((with_reducible refine gate_callee (f := 39) rfl ?_); refine goesL_ (some 19) rfl rfl Try.func39 (by kernel_rfl) rfl #[.slice A0 l0.length c0] rfl (by (try simp only [List.map_toArray, List.map_cons, List.map_nil]); first | done | rfl | (simp only [List.length_drop, List.length_take]; rfl)) ?_; (with_reducible refine (spec_DrawStronger.calls kj2 _ _ l0 t182 t183 t184 t185 t186 t187 t188 t189 t190 t191 t192 t193 _ ?side1 ?side2 A8.out).mono ?_); (case side1 => repeat (first | exact (Kd.C_below HR0.out HB.out) | (with_reducible refine Kd.C_alloc ?_ _) | (with_reducible refine Kd.C_drewN ?_ _) | (with_reducible refine Kd.C_drew ?_))); (case side2 => exact HC0.out); rintro e w13 ⟨rfl, hb⟩; refine ⟨_, rfl, ?_⟩; have n0_ := Aside0.mk (below_step (by repeat (first | (with_reducible first | exact HB.out | apply below_alloc | apply pw_below_drewN | apply below_drew1) | exact HB.out)) hb); clear HB; have HB := n0_; clear n0_; (try clear hb); (try clear hb2); (try clear hk); (try clear hi)) | ((with_reducible refine gate_dst (N := 5) rfl ?_); refine box_event ?hg (N := 5) ?hd (cs := #[.int .i64 0, .bool false, .bool false, .int .i64 0, .int .i64 0, .int .i64 0]) (t := 43) ?hr ?_; (case hd => rfl); (case hg => rfl); (case hr => first | (go_simp; done) | (go_simp; rfl)); intro gb194 hg w14 hbox hb; have n0_ := Aside0.mk (below_step (by repeat (first | (with_reducible first | exact HB.out | apply below_alloc | apply pw_below_drewN | apply below_drew1) | exact HB.out)) hb); have n1_ := Aside0.mk (hbox); have n2_ := Aside0.mk ((by rw [hg]; exact (below_size (by repeat (first | (with_reducible first | exact HB.out | apply below_alloc | apply pw_below_drewN | apply below_drew1) | exact HB.out))) : w.heap.size ≤ gb194)); have n3_ := Aside0.mk ((by rw [hg]; exact (below_size (by repeat (first | (with_reducible first | exact HB.out | apply below_alloc | apply pw_below_drewN | apply below_drew1) | exact HB.out))) : w.heap.size ≤ gb194)); clear HB; have HB := n0_; have BK194 := n1_; have GW194 := n2_; have GE194 := n3_; clear n0_ n1_ n2_ n3_; clear hb hbox hg) | ((with_reducible refine gate_dst (N := 6) rfl ?_); refine box_event ?hg (N := 6) ?hd (cs := #[.int .i64 0, .bool false, .bool false, .int .i64 0, .int .i64 0, .int .i64 0]) (t := 43) ?hr ?_; (case hd => rfl); (case hg => rfl); (case hr => first | (go_simp; done) | (go_simp; rfl)); intro gb195 hg w15 hbox hb; have n0_ := Aside0.mk (blk_below (g := gb194) (o := .cells #[.int .i64 0, .bool false, .bool false, .int .i64 0, .int .i64 0, .int .i64 0] 43 (0, 0)) (by (with_reducible repeat (first | refine blk_drewN ?_ _ | refine blk_drew ?_ | refine blk_alloc ?_ _)); exact BK194.out) hb); have n1_ := Aside0.mk (below_step (by repeat (first | (with_reducible first | exact HB.out | apply below_alloc | apply pw_below_drewN | apply below_drew1 | refine below_set ?_ GE194.out) | exact HB.out)) hb); have n2_ := Aside0.mk (hbox); have n3_ := Aside0.mk ((by rw [hg]; exact (below_size (by repeat (first | (with_reducible first | exact HB.out | apply below_alloc | apply pw_below_drewN | apply below_drew1 | refine below_set ?_ GE194.out) | exact HB.out))) : w.heap.size ≤ gb195)); have n4_ := Aside0.mk ((by rw [hg]; exact (below_size (by repeat (first | (with_reducible first | exact HB.out | apply below_alloc | apply pw_below_drewN | apply below_drew1 | refine below_set ?_ GE194.out) | exact HB.out))) : w.heap.size ≤ gb195)); have n5_ := Aside0.mk ((by rw [hg]; exact Nat.ne_of_lt (blk_lt (g := gb194) (o := .cells #[.int .i64 0, .bool false, .bool false, .int .i64 0, .int .i64 0, .int .i64 0] 43 (0, 0)) (by (with_reducible repeat (first | refine blk_drewN ?_ _ | refine blk_drew ?_ | refine blk_alloc ?_ _)); exact BK194.out)) : gb194 ≠ gb195)); have n6_ := Aside0.mk ((by rw [hg]; exact Nat.ne_of_gt (blk_lt (g := gb194) (o := .cells #[.int .i64 0, .bool false, .bool false, .int .i64 0, .int .i64 0, .int .i64 0] 43 (0, 0)) (by (with_reducible repeat (first | refine blk_drewN ?_ _ | refine blk_drew ?_ | refine blk_alloc ?_ _)); exact BK194.out)) : gb195 ≠ gb194)); clear BK194; clear HB; have BK194 := n0_; have HB := n1_; have BK195 := n2_; have GW195 := n3_; have GE195 := n4_; have NB194_195 := n5_; have NB195_194 := n6_; clear n0_ n1_ n2_ n3_ n4_ n5_ n6_; clear hb hbox hg; have hnb16 := NB194_195.out; have hnc16 := NB195_194.out; have hcz17_0 : w15.cell? ⟨gb194, 0, none⟩ = some (.int .i64 0) := (blk_cell BK194.out 0).trans rfl; have hcz17_1 : w15.cell? ⟨gb194, 1, none⟩ = some (.bool false) := (blk_cell BK194.out 1).trans rfl; have hcz17_2 : w15.cell? ⟨gb194, 2, none⟩ = some (.bool false) := (blk_cell BK194.out 2).trans rfl; have hcz17_3 : w15.cell? ⟨gb194, 3, none⟩ = some (.int .i64 0) := (blk_cell BK194.out 3).trans rfl; have hcz17_4 : w15.cell? ⟨gb194, 4, none⟩ = some (.int .i64 0) := (blk_cell BK194.out 4).trans rfl; have hcz17_5 : w15.cell? ⟨gb194, 5, none⟩ = some (.int .i64 0) := (blk_cell BK194.out 5).trans rfl; have hfz17_0 := blk_frozen BK194.out 0; have hfz17_1 := blk_frozen BK194.out 1; have hfz17_2 := blk_frozen BK194.out 2; have hfz17_3 := blk_frozen BK194.out 3; have hfz17_4 := blk_frozen BK194.out 4; have hfz17_5 := blk_frozen BK194.out 5; have hcz18_0 : w15.cell? ⟨gb195, 0, none⟩ = some (.int .i64 0) := (blk_cell BK195.out 0).trans rfl; have hcz18_1 : w15.cell? ⟨gb195, 1, none⟩ = some (.bool false) := (blk_cell BK195.out 1).trans rfl; have hcz18_2 : w15.cell? ⟨gb195, 2, none⟩ = some (.bool false) := (blk_cell BK195.out 2).trans rfl; have hcz18_3 : w15.cell? ⟨gb195, 3, none⟩ = some (.int .i64 0) := (blk_cell BK195.out 3).trans rfl; have hcz18_4 : w15.cell? ⟨gb195, 4, none⟩ = some (.int .i64 0) := (blk_cell BK195.out 4).trans rfl; have hcz18_5 : w15.cell? ⟨gb195, 5, none⟩ = some (.int .i64 0) := (blk_cell BK195.out 5).trans rfl; have hfz18_0 := blk_frozen BK195.out 0; have hfz18_1 := blk_frozen BK195.out 1; have hfz18_2 := blk_frozen BK195.out 2; have hfz18_3 := blk_frozen BK195.out 3; have hfz18_4 := blk_frozen BK195.out 4; have hfz18_5 := blk_frozen BK195.out 5) | ((with_reducible refine gate_callee (f := 39) rfl ?_); refine goesL_ (some 24) rfl rfl Try.func39 (by kernel_rfl) rfl #[.slice A1 l1.length c1] rfl (by (try simp only [List.map_toArray, List.map_cons, List.map_nil]); first | done | rfl | (simp only [List.length_drop, List.length_take]; rfl)) ?_; (with_reducible refine (spec_DrawStronger.calls kj2 _ _ l1 t196 t197 t198 t199 t200 t201 t202 t203 t204 t205 t206 t207 _ ?side1 ?side2 A9.out).mono ?_); (case side1 => exact Kd.C_below HR1.out (by repeat (first | (with_reducible first | exact HB.out | apply below_alloc | apply pw_below_drewN | apply below_drew1 | refine below_set ?_ GE194.out | refine below_set ?_ GE195.out) | exact HB.out))); (case side2 => exact HC1.out); rintro e w19 ⟨rfl, hb⟩; refine ⟨_, rfl, ?_⟩; have n0_ := Aside0.mk (blk_below (g := gb194) (o := .cells #[.int .i64 t182, .bool t183, .bool t184, .int .i64 t185, .int .i64 t186, .int .i64 t187] 43 (0, 0)) (by (with_reducible repeat (first | refine blk_drewN ?_ _ | refine blk_drew ?_ | refine blk_alloc ?_ _)); refine blk_far ?_ NB194_195.out _; (with_reducible repeat (first | refine blk_drewN ?_ _ | refine blk_drew ?_ | refine blk_alloc ?_ _)); refine blk_far ?_ NB194_195.out _; (with_reducible repeat (first | refine blk_drewN ?_ _ | refine blk_drew ?_ | refine blk_alloc ?_ _)); refine blk_far ?_ NB194_195.out _; (with_reducible repeat (first | refine blk_drewN ?_ _ | refine blk_drew ?_ | refine blk_alloc ?_ _)); refine blk_far ?_ NB194_195.out _; (with_reducible repeat (first | refine blk_drewN ?_ _ | refine blk_drew ?_ | refine blk_alloc ?_ _)); refine blk_far ?_ NB194_195.out _; (with_reducible repeat (first | refine blk_drewN ?_ _ | refine blk_drew ?_ | refine blk_alloc ?_ _)); refine blk_far ?_ NB194_195.out _; (with_reducible repeat (first | refine blk_drewN ?_ _ | refine blk_drew ?_ | refine blk_alloc ?_ _)); refine blk_put (cs := #[.int .i64 t182, .bool t183, .bool t184, .int .i64 t185, .int .i64 t186, .int .i64 0]) ?_ 5 _ rfl; (with_reducible repeat (first | refine blk_drewN ?_ _ | refine blk_drew ?_ | refine blk_alloc ?_ _)); refine blk_put (cs := #[.int .i64 t182, .bool t183, .bool t184, .int .i64 t185, .int .i64 0, .int .i64 0]) ?_ 4 _ rfl; (with_reducible repeat (first | refine blk_drewN ?_ _ | refine blk_drew ?_ | refine blk_alloc ?_ _)); refine blk_put (cs := #[.int .i64 t182, .bool t183, .bool t184, .int .i64 0, .int .i64 0, .int .i64 0]) ?_ 3 _ rfl; (with_reducible repeat (first | refine blk_drewN ?_ _ | refine blk_drew ?_ | refine blk_alloc ?_ _)); refine blk_put (cs := #[.int .i64 t182, .bool t183, .bool false, .int .i64 0, .int .i64 0, .int .i64 0]) ?_ 2 _ rfl; (with_reducible repeat (first | refine blk_drewN ?_ _ | refine blk_drew ?_ | refine blk_alloc ?_ _)); refine blk_put (cs := #[.int .i64 t182, .bool false, .bool false, .int .i64 0, .int .i64 0, .int .i64 0]) ?_ 1 _ rfl; (with_reducible repeat (first | refine blk_drewN ?_ _ | refine blk_drew ?_ | refine blk_alloc ?_ _)); refine blk_put (cs := #[.int .i64 0, .bool false, .bool false, .int .i64 0, .int .i64 0, .int .i64 0]) ?_ 0 _ rfl; (with_reducible repeat (first | refine blk_drewN ?_ _ | refine blk_drew ?_ | refine blk_alloc ?_ _)); exact BK194.out) hb); have n1_ := Aside0.mk (blk_below (g := gb195) (o := .cells #[.int .i64 t188, .bool t189, .bool t190, .int .i64 t191, .int .i64 t192, .int .i64 t193] 43 (0, 0)) (by (with_reducible repeat (first | refine blk_drewN ?_ _ | refine blk_drew ?_ | refine blk_alloc ?_ _)); refine blk_put (cs := #[.int .i64 t188, .bool t189, .bool t190, .int .i64 t191, .int .i64 t192, .int .i64 0]) ?_ 5 _ rfl; (with_reducible repeat (first | refine blk_drewN ?_ _ | refine blk_drew ?_ | refine blk_alloc ?_ _)); refine blk_put (cs := #[.int .i64 t188, .bool t189, .bool t190, .int .i64 t191, .int .i64 0, .int .i64 0]) ?_ 4 _ rfl; (with_reducible repeat (first | refine blk_drewN ?_ _ | refine blk_drew ?_ | refine blk_alloc ?_ _)); refine blk_put (cs := #[.int .i64 t188, .bool t189, .bool t190, .int .i64 0, .int .i64 0, .int .i64 0]) ?_ 3 _ rfl; (with_reducible repeat (first | refine blk_drewN ?_ _ | refine blk_drew ?_ | refine blk_alloc ?_ _)); refine blk_put (cs := #[.int .i64 t188, .bool t189, .bool false, .int .i64 0, .int .i64 0, .int .i64 0]) ?_ 2 _ rfl; (with_reducible repeat (first | refine blk_drewN ?_ _ | refine blk_drew ?_ | refine blk_alloc ?_ _)); refine blk_put (cs := #[.int .i64 t188, .bool false, .bool false, .int .i64 0, .int .i64 0, .int .i64 0]) ?_ 1 _ rfl; (with_reducible repeat (first | refine blk_drewN ?_ _ | refine blk_drew ?_ | refine blk_alloc ?_ _)); refine blk_put (cs := #[.int .i64 0, .bool false, .bool false, .int .i64 0, .int .i64 0, .int .i64 0]) ?_ 0 _ rfl; (with_reducible repeat (first | refine blk_drewN ?_ _ | refine blk_drew ?_ | refine blk_alloc ?_ _)); refine blk_far ?_ NB195_194.out _; (with_reducible repeat (first | refine blk_drewN ?_ _ | refine blk_drew ?_ | refine blk_alloc ?_ _)); refine blk_far ?_ NB195_194.out _; (with_reducible repeat (first | refine blk_drewN ?_ _ | refine blk_drew ?_ | refine blk_alloc ?_ _)); refine blk_far ?_ NB195_194.out _; (with_reducible repeat (first | refine blk_drewN ?_ _ | refine blk_drew ?_ | refine blk_alloc ?_ _)); refine blk_far ?_ NB195_194.out _; (with_reducible repeat (first | refine blk_drewN ?_ _ | refine blk_drew ?_ | refine blk_alloc ?_ _)); refine blk_far ?_ NB195_194.out _; (with_reducible repeat (first | refine blk_drewN ?_ _ | refine blk_drew ?_ | refine blk_alloc ?_ _)); refine blk_far ?_ NB195_194.out _; (with_reducible repeat (first | refine blk_drewN ?_ _ | refine blk_drew ?_ | refine blk_alloc ?_ _)); exact BK195.out) hb); have n2_ := Aside0.mk (below_step (by repeat (first | (with_reducible first | exact HB.out | apply below_alloc | apply pw_below_drewN | apply below_drew1 | refine below_set ?_ GE194.out | refine below_set ?_ GE195.out) | exact HB.out)) hb); clear BK194; clear BK195; clear HB; have BK194 := n0_; have BK195 := n1_; have HB := n2_; clear n0_ n1_ n2_; (try clear hb); (try clear hb2); (try clear hk); (try clear hi)) | ((with_reducible refine gate_dst (N := 7) rfl ?_); refine box_event ?hg (N := 7) ?hd (cs := #[.int .i64 0, .bool false, .bool false, .int .i64 0, .int .i64 0, .int .i64 0]) (t := 43) ?hr ?_; (case hd => rfl); (case hg => rfl); (case hr => first | (go_simp; done) | (go_simp; rfl)); intro gb208 hg w20 hbox hb; have n0_ := Aside0.mk (blk_below (g := gb194) (o := .cells #[.int .i64 t182, .bool t183, .bool t184, .int .i64 t185, .int .i64 t186, .int .i64 t187] 43 (0, 0)) (by (with_reducible repeat (first | refine blk_drewN ?_ _ | refine blk_drew ?_ | refine blk_alloc ?_ _)); exact BK194.out) hb); have n1_ := Aside0.mk (blk_below (g := gb195) (o := .cells #[.int .i64 t188, .bool t189, .bool t190, .int .i64 t191, .int .i64 t192, .int .i64 t193] 43 (0, 0)) (by (with_reducible repeat (first | refine blk_drewN ?_ _ | refine blk_drew ?_ | refine blk_alloc ?_ _)); exact BK195.out) hb); have n2_ := Aside0.mk (below_step (by repeat (first | (with_reducible first | exact HB.out | apply below_alloc | apply pw_below_drewN | apply below_drew1 | refine below_set ?_ GE194.out | refine below_set ?_ GE195.out) | exact HB.out)) hb); have n3_ := Aside0.mk (hbox); have n4_ := Aside0.mk ((by rw [hg]; exact (below_size (by repeat (first | (with_reducible first | exact HB.out | apply below_alloc | apply pw_below_drewN | apply below_drew1 | refine below_set ?_ GE194.out | refine below_set ?_ GE195.out) | exact HB.out))) : w.heap.size ≤ gb208)); have n5_ := Aside0.mk ((by rw [hg]; exact (below_size (by repeat (first | (with_reducible first | exact HB.out | apply below_alloc | apply pw_below_drewN | apply below_drew1 | refine below_set ?_ GE194.out | refine below_set ?_ GE195.out) | exact HB.out))) : w.heap.size ≤ gb208)); have n6_ := Aside0.mk ((by rw [hg]; exact Nat.ne_of_lt (blk_lt (g := gb194) (o := .cells #[.int .i64 t182, .bool t183, .bool t184, .int .i64 t185, .int .i64 t186, .int .i64 t187] 43 (0, 0)) (by (with_reducible repeat (first | refine blk_drewN ?_ _ | refine blk_drew ?_ | refine blk_alloc ?_ _)); exact BK194.out)) : gb194 ≠ gb208)); have n7_ := Aside0.mk ((by rw [hg]; exact Nat.ne_of_gt (blk_lt (g := gb194) (o := .cells #[.int .i64 t182, .bool t183, .bool t184, .int .i64 t185, .int .i64 t186, .int .i64 t187] 43 (0, 0)) (by (with_reducible repeat (first | refine blk_drewN ?_ _ | refine blk_drew ?_ | refine blk_alloc ?_ _)); exact BK194.out)) : gb208 ≠ gb194)); have n8_ := Aside0.mk ((by rw [hg]; exact Nat.ne_of_lt (blk_lt (g := gb195) (o := .cells #[.int .i64 t188, .bool t189, .bool t190, .int .i64 t191, .int .i64 t192, .int .i64 t193] 43 (0, 0)) (by (with_reducible repeat (first | refine blk_drewN ?_ _ | refine blk_drew ?_ | refine blk_alloc ?_ _)); exact BK195.out)) : gb195 ≠ gb208)); have n9_ := Aside0.mk ((by rw [hg]; exact Nat.ne_of_gt (blk_lt (g := gb195) (o := .cells #[.int .i64 t188, .bool t189, .bool t190, .int .i64 t191, .int .i64 t192, .int .i64 t193] 43 (0, 0)) (by (with_reducible repeat (first | refine blk_drewN ?_ _ | refine blk_drew ?_ | refine blk_alloc ?_ _)); exact BK195.out)) : gb208 ≠ gb195)); clear BK194; clear BK195; clear HB; have BK194 := n0_; have BK195 := n1_; have HB := n2_; have BK208 := n3_; have GW208 := n4_; have GE208 := n5_; have NB194_208 := n6_; have NB208_194 := n7_; have NB195_208 := n8_; have NB208_195 := n9_; clear n0_ n1_ n2_ n3_ n4_ n5_ n6_ n7_ n8_ n9_; clear hb hbox hg) | ((with_reducible refine gate_dst (N := 8) rfl ?_); refine box_event ?hg (N := 8) ?hd (cs := #[.int .i64 0, .bool false, .bool false, .int .i64 0, .int .i64 0, .int .i64 0]) (t := 43) ?hr ?_; (case hd => rfl); (case hg => rfl); (case hr => first | (go_simp; done) | (go_simp; rfl)); intro gb209 hg w21 hbox hb; have n0_ := Aside0.mk (blk_below (g := gb194) (o := .cells #[.int .i64 t182, .bool t183, .bool t184, .int .i64 t185, .int .i64 t186, .int .i64 t187] 43 (0, 0)) (by (with_reducible repeat (first | refine blk_drewN ?_ _ | refine blk_drew ?_ | refine blk_alloc ?_ _)); exact BK194.out) hb); have n1_ := Aside0.mk (blk_below (g := gb195) (o := .cells #[.int .i64 t188, .bool t189, .bool t190, .int .i64 t191, .int .i64 t192, .int .i64 t193] 43 (0, 0)) (by (with_reducible repeat (first | refine blk_drewN ?_ _ | refine blk_drew ?_ | refine blk_alloc ?_ _)); exact BK195.out) hb); have n2_ := Aside0.mk (blk_below (g := gb208) (o := .cells #[.int .i64 0, .bool false, .bool false, .int .i64 0, .int .i64 0, .int .i64 0] 43 (0, 0)) (by (with_reducible repeat (first | refine blk_drewN ?_ _ | refine blk_drew ?_ | refine blk_alloc ?_ _)); exact BK208.out) hb); have n3_ := Aside0.mk (below_step (by repeat (first | (with_reducible first | exact HB.out | apply below_alloc | apply pw_below_drewN | apply below_drew1 | refine below_set ?_ GE194.out | refine below_set ?_ GE195.out | refine below_set ?_ GE208.out) | exact HB.out)) hb); have n4_ := Aside0.mk (hbox); have n5_ := Aside0.mk ((by rw [hg]; exact (below_size (by repeat (first | (with_reducible first | exact HB.out | apply below_alloc | apply pw_below_drewN | apply below_drew1 | refine below_set ?_ GE194.out | refine below_set ?_ GE195.out | refine below_set ?_ GE208.out) | exact HB.out))) : w.heap.size ≤ gb209)); have n6_ := Aside0.mk ((by rw [hg]; exact (below_size (by repeat (first | (with_reducible first | exact HB.out | apply below_alloc | apply pw_below_drewN | apply below_drew1 | refine below_set ?_ GE194.out | refine below_set ?_ GE195.out | refine below_set ?_ GE208.out) | exact HB.out))) : w.heap.size ≤ gb209)); have n7_ := Aside0.mk ((by rw [hg]; exact Nat.ne_of_lt (blk_lt (g := gb194) (o := .cells #[.int .i64 t182, .bool t183, .bool t184, .int .i64 t185, .int .i64 t186, .int .i64 t187] 43 (0, 0)) (by (with_reducible repeat (first | refine blk_drewN ?_ _ | refine blk_drew ?_ | refine blk_alloc ?_ _)); exact BK194.out)) : gb194 ≠ gb209)); have n8_ := Aside0.mk ((by rw [hg]; exact Nat.ne_of_gt (blk_lt (g := gb194) (o := .cells #[.int .i64 t182, .bool t183, .bool t184, .int .i64 t185, .int .i64 t186, .int .i64 t187] 43 (0, 0)) (by (with_reducible repeat (first | refine blk_drewN ?_ _ | refine blk_drew ?_ | refine blk_alloc ?_ _)); exact BK194.out)) : gb209 ≠ gb194)); have n9_ := Aside0.mk ((by rw [hg]; exact Nat.ne_of_lt (blk_lt (g := gb195) (o := .cells #[.int .i64 t188, .bool t189, .bool t190, .int .i64 t191, .int .i64 t192, .int .i64 t193] 43 (0, 0)) (by (with_reducible repeat (first | refine blk_drewN ?_ _ | refine blk_drew ?_ | refine blk_alloc ?_ _)); exact BK195.out)) : gb195 ≠ gb209)); have n10_ := Aside0.mk ((by rw [hg]; exact Nat.ne_of_gt (blk_lt (g := gb195) (o := .cells #[.int .i64 t188, .bool t189, .bool t190, .int .i64 t191, .int .i64 t192, .int .i64 t193] 43 (0, 0)) (by (with_reducible repeat (first | refine blk_drewN ?_ _ | refine blk_drew ?_ | refine blk_alloc ?_ _)); exact BK195.out)) : gb209 ≠ gb195)); have n11_ := Aside0.mk ((by rw [hg]; exact Nat.ne_of_lt (blk_lt (g := gb208) (o := .cells #[.int .i64 0, .bool false, .bool false, .int .i64 0, .int .i64 0, .int .i64 0] 43 (0, 0)) (by (with_reducible repeat (first | refine blk_drewN ?_ _ | refine blk_drew ?_ | refine blk_alloc ?_ _)); exact BK208.out)) : gb208 ≠ gb209)); have n12_ := Aside0.mk ((by rw [hg]; exact Nat.ne_of_gt (blk_lt (g := gb208) (o := .cells #[.int .i64 0, .bool false, .bool false, .int .i64 0, .int .i64 0, .int .i64 0] 43 (0, 0)) (by (with_reducible repeat (first | refine blk_drewN ?_ _ | refine blk_drew ?_ | refine blk_alloc ?_ _)); exact BK208.out)) : gb209 ≠ gb208)); clear BK194; clear BK195; clear BK208; clear HB; have BK194 := n0_; have BK195 := n1_; have BK208 := n2_; have HB := n3_; have BK209 := n4_; have GW209 := n5_; have GE209 := n6_; have NB194_209 := n7_; have NB209_194 := n8_; have NB195_209 := n9_; have NB209_195 := n10_; have NB208_209 := n11_; have NB209_208 := n12_; clear n0_ n1_ n2_ n3_ n4_ n5_ n6_ n7_ n8_ n9_ n10_ n11_ n12_; clear hb hbox hg; have hnb22 := NB208_194.out; have hnc22 := NB194_208.out; have hnb23 := NB208_195.out; have hnc23 := NB195_208.out; have hnb24 := NB208_209.out; have hnc24 := NB209_208.out; have hcz25_0 : w21.cell? ⟨gb208, 0, none⟩ = some (.int .i64 0) := (blk_cell BK208.out 0).trans rfl; have hcz25_1 : w21.cell? ⟨gb208, 1, none⟩ = some (.bool false) := (blk_cell BK208.out 1).trans rfl; have hcz25_2 : w21.cell? ⟨gb208, 2, none⟩ = some (.bool false) := (blk_cell BK208.out 2).trans rfl; have hcz25_3 : w21.cell? ⟨gb208, 3, none⟩ = some (.int .i64 0) := (blk_cell BK208.out 3).trans rfl; have hcz25_4 : w21.cell? ⟨gb208, 4, none⟩ = some (.int .i64 0) := (blk_cell BK208.out 4).trans rfl; have hcz25_5 : w21.cell? ⟨gb208, 5, none⟩ = some (.int .i64 0) := (blk_cell BK208.out 5).trans rfl; have hfz25_0 := blk_frozen BK208.out 0; have hfz25_1 := blk_frozen BK208.out 1; have hfz25_2 := blk_frozen BK208.out 2; have hfz25_3 := blk_frozen BK208.out 3; have hfz25_4 := blk_frozen BK208.out 4; have hfz25_5 := blk_frozen BK208.out 5; have hnb26 := NB209_194.out; have hnc26 := NB194_209.out; have hnb27 := NB209_195.out; have hnc27 := NB195_209.out; have hcz28_0 : w21.cell? ⟨gb209, 0, none⟩ = some (.int .i64 0) := (blk_cell BK209.out 0).trans rfl; have hcz28_1 : w21.cell? ⟨gb209, 1, none⟩ = some (.bool false) := (blk_cell BK209.out 1).trans rfl; have hcz28_2 : w21.cell? ⟨gb209, 2, none⟩ = some (.bool false) := (blk_cell BK209.out 2).trans rfl; have hcz28_3 : w21.cell? ⟨gb209, 3, none⟩ = some (.int .i64 0) := (blk_cell BK209.out 3).trans rfl; have hcz28_4 : w21.cell? ⟨gb209, 4, none⟩ = some (.int .i64 0) := (blk_cell BK209.out 4).trans rfl; have hcz28_5 : w21.cell? ⟨gb209, 5, none⟩ = some (.int .i64 0) := (blk_cell BK209.out 5).trans rfl; have hfz28_0 := blk_frozen BK209.out 0; have hfz28_1 := blk_frozen BK209.out 1; have hfz28_2 := blk_frozen BK209.out 2; have hfz28_3 := blk_frozen BK209.out 3; have hfz28_4 := blk_frozen BK209.out 4; have hfz28_5 := blk_frozen BK209.out 5; have hcz29_0 : w21.cell? ⟨gb194, 0, none⟩ = some (.int .i64 t182) := (blk_cell BK194.out 0).trans rfl; have hcz29_1 : w21.cell? ⟨gb194, 1, none⟩ = some (.bool t183) := (blk_cell BK194.out 1).trans rfl; have hcz29_2 : w21.cell? ⟨gb194, 2, none⟩ = some (.bool t184) := (blk_cell BK194.out 2).trans rfl; have hcz29_3 : w21.cell? ⟨gb194, 3, none⟩ = some (.int .i64 t185) := (blk_cell BK194.out 3).trans rfl; have hcz29_4 : w21.cell? ⟨gb194, 4, none⟩ = some (.int .i64 t186) := (blk_cell BK194.out 4).trans rfl; have hcz29_5 : w21.cell? ⟨gb194, 5, none⟩ = some (.int .i64 t187) := (blk_cell BK194.out 5).trans rfl; have hfz29_0 := blk_frozen BK194.out 0; have hfz29_1 := blk_frozen BK194.out 1; have hfz29_2 := blk_frozen BK194.out 2; have hfz29_3 := blk_frozen BK194.out 3; have hfz29_4 := blk_frozen BK194.out 4; have hfz29_5 := blk_frozen BK194.out 5; have hcz30_0 : w21.cell? ⟨gb195, 0, none⟩ = some (.int .i64 t188) := (blk_cell BK195.out 0).trans rfl; have hcz30_1 : w21.cell? ⟨gb195, 1, none⟩ = some (.bool t189) := (blk_cell BK195.out 1).trans rfl; have hcz30_2 : w21.cell? ⟨gb195, 2, none⟩ = some (.bool t190) := (blk_cell BK195.out 2).trans rfl; have hcz30_3 : w21.cell? ⟨gb195, 3, none⟩ = some (.int .i64 t191) := (blk_cell BK195.out 3).trans rfl; have hcz30_4 : w21.cell? ⟨gb195, 4, none⟩ = some (.int .i64 t192) := (blk_cell BK195.out 4).trans rfl; have hcz30_5 : w21.cell? ⟨gb195, 5, none⟩ = some (.int .i64 t193) := (blk_cell BK195.out 5).trans rfl; have hfz30_0 := blk_frozen BK195.out 0; have hfz30_1 := blk_frozen BK195.out 1; have hfz30_2 := blk_frozen BK195.out 2; have hfz30_3 := blk_frozen BK195.out 3; have hfz30_4 := blk_frozen BK195.out 4; have hfz30_5 := blk_frozen BK195.out 5) | ((with_reducible refine gate_callee (f := 32) rfl ?_); refine goesL_ (some 29) rfl rfl Try.func32 (by kernel_rfl) rfl #[.agg #[.int .i64 t182, .bool t183, .bool t184, .int .i64 t185, .int .i64 t186, .int .i64 t187], .agg #[.int .i64 t188, .bool t189, .bool t190, .int .i64 t191, .int .i64 t192, .int .i64 t193]] rfl (by (try simp only [List.map_toArray, List.map_cons, List.map_nil]); first | done | rfl | (simp only [List.length_drop, List.length_take]; rfl)) ?_; (with_reducible refine (impl_Stronger.calls kj2 t182 t183 t184 t185 t186 t187 t188 t189 t190 t191 t192 t193 t210 _ A10.out).mono ?_); rintro e w31 ⟨rfl, hb⟩; refine ⟨_, rfl, ?_⟩; have n0_ := Aside0.mk (blk_below (g := gb194) (o := .cells #[.int .i64 t182, .bool t183, .bool t184, .int .i64 t185, .int .i64 t186, .int .i64 t187] 43 (0, 0)) (by (with_reducible repeat (first | refine blk_drewN ?_ _ | refine blk_drew ?_ | refine blk_alloc ?_ _)); refine blk_far ?_ NB194_209.out _; (with_reducible repeat (first | refine blk_drewN ?_ _ | refine blk_drew ?_ | refine blk_alloc ?_ _)); refine blk_far ?_ NB194_209.out _; (with_reducible repeat (first | refine blk_drewN ?_ _ | refine blk_drew ?_ | refine blk_alloc ?_ _)); refine blk_far ?_ NB194_209.out _; (with_reducible repeat (first | refine blk_drewN ?_ _ | refine blk_drew ?_ | refine blk_alloc ?_ _)); refine blk_far ?_ NB194_209.out _; (with_reducible repeat (first | refine blk_drewN ?_ _ | refine blk_drew ?_ | refine blk_alloc ?_ _)); refine blk_far ?_ NB194_209.out _; (with_reducible repeat (first | refine blk_drewN ?_ _ | refine blk_drew ?_ | refine blk_alloc ?_ _)); refine blk_far ?_ NB194_209.out _; (with_reducible repeat (first | refine blk_drewN ?_ _ | refine blk_drew ?_ | refine blk_alloc ?_ _)); refine blk_far ?_ NB194_208.out _; (with_reducible repeat (first | refine blk_drewN ?_ _ | refine blk_drew ?_ | refine blk_alloc ?_ _)); refine blk_far ?_ NB194_208.out _; (with_reducible repeat (first | refine blk_drewN ?_ _ | refine blk_drew ?_ | refine blk_alloc ?_ _)); refine blk_far ?_ NB194_208.out _; (with_reducible repeat (first | refine blk_drewN ?_ _ | refine blk_drew ?_ | refine blk_alloc ?_ _)); refine blk_far ?_ NB194_208.out _; (with_reducible repeat (first | refine blk_drewN ?_ _ | refine blk_drew ?_ | refine blk_alloc ?_ _)); refine blk_far ?_ NB194_208.out _; (with_reducible repeat (first | refine blk_drewN ?_ _ | refine blk_drew ?_ | refine blk_alloc ?_ _)); refine blk_far ?_ NB194_208.out _; (with_reducible repeat (first | refine blk_drewN ?_ _ | refine blk_drew ?_ | refine blk_alloc ?_ _)); exact BK194.out) hb); have n1_ := Aside0.mk (blk_below (g := gb195) (o := .cells #[.int .i64 t188, .bool t189, .bool t190, .int .i64 t191, .int .i64 t192, .int .i64 t193] 43 (0, 0)) (by (with_reducible repeat (first | refine blk_drewN ?_ _ | refine blk_drew ?_ | refine blk_alloc ?_ _)); refine blk_far ?_ NB195_209.out _; (with_reducible repeat (first | refine blk_drewN ?_ _ | refine blk_drew ?_ | refine blk_alloc ?_ _)); refine blk_far ?_ NB195_209.out _; (with_reducible repeat (first | refine blk_drewN ?_ _ | refine blk_drew ?_ | refine blk_alloc ?_ _)); refine blk_far ?_ NB195_209.out _; (with_reducible repeat (first | refine blk_drewN ?_ _ | refine blk_drew ?_ | refine blk_alloc ?_ _)); refine blk_far ?_ NB195_209.out _; (with_reducible repeat (first | refine blk_drewN ?_ _ | refine blk_drew ?_ | refine blk_alloc ?_ _)); refine blk_far ?_ NB195_209.out _; (with_reducible repeat (first | refine blk_drewN ?_ _ | refine blk_drew ?_ | refine blk_alloc ?_ _)); refine blk_far ?_ NB195_209.out _; (with_reducible repeat (first | refine blk_drewN ?_ _ | refine blk_drew ?_ | refine blk_alloc ?_ _)); refine blk_far ?_ NB195_208.out _; (with_reducible repeat (first | refine blk_drewN ?_ _ | refine blk_drew ?_ | refine blk_alloc ?_ _)); refine blk_far ?_ NB195_208.out _; (with_reducible repeat (first | refine blk_drewN ?_ _ | refine blk_drew ?_ | refine blk_alloc ?_ _)); refine blk_far ?_ NB195_208.out _; (with_reducible repeat (first | refine blk_drewN ?_ _ | refine blk_drew ?_ | refine blk_alloc ?_ _)); refine blk_far ?_ NB195_208.out _; (with_reducible repeat (first | refine blk_drewN ?_ _ | refine blk_drew ?_ | refine blk_alloc ?_ _)); refine blk_far ?_ NB195_208.out _; (with_reducible repeat (first | refine blk_drewN ?_ _ | refine blk_drew ?_ | refine blk_alloc ?_ _)); refine blk_far ?_ NB195_208.out _; (with_reducible repeat (first | refine blk_drewN ?_ _ | refine blk_drew ?_ | refine blk_alloc ?_ _)); exact BK195.out) hb); have n2_ := Aside0.mk (blk_below (g := gb208) (o := .cells #[.int .i64 t196, .bool t197, .bool t198, .int .i64 t199, .int .i64 t200, .int .i64 t201] 43 (0, 0)) (by (with_reducible repeat (first | refine blk_drewN ?_ _ | refine blk_drew ?_ | refine blk_alloc ?_ _)); refine blk_far ?_ NB208_209.out _; (with_reducible repeat (first | refine blk_drewN ?_ _ | refine blk_drew ?_ | refine blk_alloc ?_ _)); refine blk_far ?_ NB208_209.out _; (with_reducible repeat (first | refine blk_drewN ?_ _ | refine blk_drew ?_ | refine blk_alloc ?_ _)); refine blk_far ?_ NB208_209.out _; (with_reducible repeat (first | refine blk_drewN ?_ _ | refine blk_drew ?_ | refine blk_alloc ?_ _)); refine blk_far ?_ NB208_209.out _; (with_reducible repeat (first | refine blk_drewN ?_ _ | refine blk_drew ?_ | refine blk_alloc ?_ _)); refine blk_far ?_ NB208_209.out _; (with_reducible repeat (first | refine blk_drewN ?_ _ | refine blk_drew ?_ | refine blk_alloc ?_ _)); refine blk_far ?_ NB208_209.out _; (with_reducible repeat (first | refine blk_drewN ?_ _ | refine blk_drew ?_ | refine blk_alloc ?_ _)); refine blk_put (cs := #[.int .i64 t196, .bool t197, .bool t198, .int .i64 t199, .int .i64 t200, .int .i64 0]) ?_ 5 _ rfl; (with_reducible repeat (first | refine blk_drewN ?_ _ | refine blk_drew ?_ | refine blk_alloc ?_ _)); refine blk_put (cs := #[.int .i64 t196, .bool t197, .bool t198, .int .i64 t199, .int .i64 0, .int .i64 0]) ?_ 4 _ rfl; (with_reducible repeat (first | refine blk_drewN ?_ _ | refine blk_drew ?_ | refine blk_alloc ?_ _)); refine blk_put (cs := #[.int .i64 t196, .bool t197, .bool t198, .int .i64 0, .int .i64 0, .int .i64 0]) ?_ 3 _ rfl; (with_reducible repeat (first | refine blk_drewN ?_ _ | refine blk_drew ?_ | refine blk_alloc ?_ _)); refine blk_put (cs := #[.int .i64 t196, .bool t197, .bool false, .int .i64 0, .int .i64 0, .int .i64 0]) ?_ 2 _ rfl; (with_reducible repeat (first | refine blk_drewN ?_ _ | refine blk_drew ?_ | refine blk_alloc ?_ _)); refine blk_put (cs := #[.int .i64 t196, .bool false, .bool false, .int .i64 0, .int .i64 0, .int .i64 0]) ?_ 1 _ rfl; (with_reducible repeat (first | refine blk_drewN ?_ _ | refine blk_drew ?_ | refine blk_alloc ?_ _)); refine blk_put (cs := #[.int .i64 0, .bool false, .bool false, .int .i64 0, .int .i64 0, .int .i64 0]) ?_ 0 _ rfl; (with_reducible repeat (first | refine blk_drewN ?_ _ | refine blk_drew ?_ | refine blk_alloc ?_ _)); exact BK208.out) hb); have n3_ := Aside0.mk (blk_below (g := gb209) (o := .cells #[.int .i64 t202, .bool t203, .bool t204, .int .i64 t205, .int .i64 t206, .int .i64 t207] 43 (0, 0)) (by (with_reducible repeat (first | refine blk_drewN ?_ _ | refine blk_drew ?_ | refine blk_alloc ?_ _)); refine blk_put (cs := #[.int .i64 t202, .bool t203, .bool t204, .int .i64 t205, .int .i64 t206, .int .i64 0]) ?_ 5 _ rfl; (with_reducible repeat (first | refine blk_drewN ?_ _ | refine blk_drew ?_ | refine blk_alloc ?_ _)); refine blk_put (cs := #[.int .i64 t202, .bool t203, .bool t204, .int .i64 t205, .int .i64 0, .int .i64 0]) ?_ 4 _ rfl; (with_reducible repeat (first | refine blk_drewN ?_ _ | refine blk_drew ?_ | refine blk_alloc ?_ _)); refine blk_put (cs := #[.int .i64 t202, .bool t203, .bool t204, .int .i64 0, .int .i64 0, .int .i64 0]) ?_ 3 _ rfl; (with_reducible repeat (first | refine blk_drewN ?_ _ | refine blk_drew ?_ | refine blk_alloc ?_ _)); refine blk_put (cs := #[.int .i64 t202, .bool t203, .bool false, .int .i64 0, .int .i64 0, .int .i64 0]) ?_ 2 _ rfl; (with_reducible repeat (first | refine blk_drewN ?_ _ | refine blk_drew ?_ | refine blk_alloc ?_ _)); refine blk_put (cs := #[.int .i64 t202, .bool false, .bool false, .int .i64 0, .int .i64 0, .int .i64 0]) ?_ 1 _ rfl; (with_reducible repeat (first | refine blk_drewN ?_ _ | refine blk_drew ?_ | refine blk_alloc ?_ _)); refine blk_put (cs := #[.int .i64 0, .bool false, .bool false, .int .i64 0, .int .i64 0, .int .i64 0]) ?_ 0 _ rfl; (with_reducible repeat (first | refine blk_drewN ?_ _ | refine blk_drew ?_ | refine blk_alloc ?_ _)); refine blk_far ?_ NB209_208.out _; (with_reducible repeat (first | refine blk_drewN ?_ _ | refine blk_drew ?_ | refine blk_alloc ?_ _)); refine blk_far ?_ NB209_208.out _; (with_reducible repeat (first | refine blk_drewN ?_ _ | refine blk_drew ?_ | refine blk_alloc ?_ _)); refine blk_far ?_ NB209_208.out _; (with_reducible repeat (first | refine blk_drewN ?_ _ | refine blk_drew ?_ | refine blk_alloc ?_ _)); refine blk_far ?_ NB209_208.out _; (with_reducible repeat (first | refine blk_drewN ?_ _ | refine blk_drew ?_ | refine blk_alloc ?_ _)); refine blk_far ?_ NB209_208.out _; (with_reducible repeat (first | refine blk_drewN ?_ _ | refine blk_drew ?_ | refine blk_alloc ?_ _)); refine blk_far ?_ NB209_208.out _; (with_reducible repeat (first | refine blk_drewN ?_ _ | refine blk_drew ?_ | refine blk_alloc ?_ _)); exact BK209.out) hb); have n4_ := Aside0.mk (below_step (by repeat (first | (with_reducible first | exact HB.out | apply below_alloc | apply pw_below_drewN | apply below_drew1 | refine below_set ?_ GE194.out | refine below_set ?_ GE195.out | refine below_set ?_ GE208.out | refine below_set ?_ GE209.out) | exact HB.out)) hb); clear BK194; clear BK195; clear BK208; clear BK209; clear HB; have BK194 := n0_; have BK195 := n1_; have BK208 := n2_; have BK209 := n3_; have HB := n4_; clear n0_ n1_ n2_ n3_ n4_; (try clear hb); (try clear hb2); (try clear hk); (try clear hi); have hcz32_0 : w31.cell? ⟨gb195, 0, none⟩ = some (.int .i64 t188) := (blk_cell BK195.out 0).trans rfl; have hcz32_1 : w31.cell? ⟨gb195, 1, none⟩ = some (.bool t189) := (blk_cell BK195.out 1).trans rfl; have hcz32_2 : w31.cell? ⟨gb195, 2, none⟩ = some (.bool t190) := (blk_cell BK195.out 2).trans rfl; have hcz32_3 : w31.cell? ⟨gb195, 3, none⟩ = some (.int .i64 t191) := (blk_cell BK195.out 3).trans rfl; have hcz32_4 : w31.cell? ⟨gb195, 4, none⟩ = some (.int .i64 t192) := (blk_cell BK195.out 4).trans rfl; have hcz32_5 : w31.cell? ⟨gb195, 5, none⟩ = some (.int .i64 t193) := (blk_cell BK195.out 5).trans rfl; have hfz32_0 := blk_frozen BK195.out 0; have hfz32_1 := blk_frozen BK195.out 1; have hfz32_2 := blk_frozen BK195.out 2; have hfz32_3 := blk_frozen BK195.out 3; have hfz32_4 := blk_frozen BK195.out 4; have hfz32_5 := blk_frozen BK195.out 5; have hcz33_0 : w31.cell? ⟨gb194, 0, none⟩ = some (.int .i64 t182) := (blk_cell BK194.out 0).trans rfl; have hcz33_1 : w31.cell? ⟨gb194, 1, none⟩ = some (.bool t183) := (blk_cell BK194.out 1).trans rfl; have hcz33_2 : w31.cell? ⟨gb194, 2, none⟩ = some (.bool t184) := (blk_cell BK194.out 2).trans rfl; have hcz33_3 : w31.cell? ⟨gb194, 3, none⟩ = some (.int .i64 t185) := (blk_cell BK194.out 3).trans rfl; have hcz33_4 : w31.cell? ⟨gb194, 4, none⟩ = some (.int .i64 t186) := (blk_cell BK194.out 4).trans rfl; have hcz33_5 : w31.cell? ⟨gb194, 5, none⟩ = some (.int .i64 t187) := (blk_cell BK194.out 5).trans rfl; have hfz33_0 := blk_frozen BK194.out 0; have hfz33_1 := blk_frozen BK194.out 1; have hfz33_2 := blk_frozen BK194.out 2; have hfz33_3 := blk_frozen BK194.out 3; have hfz33_4 := blk_frozen BK194.out 4; have hfz33_5 := blk_frozen BK194.out 5) | ((with_reducible refine gate_callee (f := 32) rfl ?_); refine goesL_ (some 32) rfl rfl Try.func32 (by kernel_rfl) rfl #[.agg #[.int .i64 t188, .bool t189, .bool t190, .int .i64 t191, .int .i64 t192, .int .i64 t193], .agg #[.int .i64 t182, .bool t183, .bool t184, .int .i64 t185, .int .i64 t186, .int .i64 t187]] rfl (by (try simp only [List.map_toArray, List.map_cons, List.map_nil]); first | done | rfl | (simp only [List.length_drop, List.length_take]; rfl)) ?_; (with_reducible refine (impl_Stronger.calls kj2 t188 t189 t190 t191 t192 t193 t182 t183 t184 t185 t186 t187 t211 _ A11.out).mono ?_); rintro e w34 ⟨rfl, hb⟩; refine ⟨_, rfl, ?_⟩; have n0_ := Aside0.mk (blk_below (g := gb194) (o := .cells #[.int .i64 t182, .bool t183, .bool t184, .int .i64 t185, .int .i64 t186, .int .i64 t187] 43 (0, 0)) (by (with_reducible repeat (first | refine blk_drewN ?_ _ | refine blk_drew ?_ | refine blk_alloc ?_ _)); exact BK194.out) hb); have n1_ := Aside0.mk (blk_below (g := gb195) (o := .cells #[.int .i64 t188, .bool t189, .bool t190, .int .i64 t191, .int .i64 t192, .int .i64 t193] 43 (0, 0)) (by (with_reducible repeat (first | refine blk_drewN ?_ _ | refine blk_drew ?_ | refine blk_alloc ?_ _)); exact BK195.out) hb); have n2_ := Aside0.mk (blk_below (g := gb208) (o := .cells #[.int .i64 t196, .bool t197, .bool t198, .int .i64 t199, .int .i64 t200, .int .i64 t201] 43 (0, 0)) (by (with_reducible repeat (first | refine blk_drewN ?_ _ | refine blk_drew ?_ | refine blk_alloc ?_ _)); exact BK208.out) hb); have n3_ := Aside0.mk (blk_below (g := gb209) (o := .cells #[.int .i64 t202, .bool t203, .bool t204, .int .i64 t205, .int .i64 t206, .int .i64 t207] 43 (0, 0)) (by (with_reducible repeat (first | refine blk_drewN ?_ _ | refine blk_drew ?_ | refine blk_alloc ?_ _)); exact BK209.out) hb); have n4_ := Aside0.mk (below_step (by repeat (first | (with_reducible first | exact HB.out | apply below_alloc | apply pw_below_drewN | apply below_drew1 | refine below_set ?_ GE194.out | refine below_set ?_ GE195.out | refine below_set ?_ GE208.out | refine below_set ?_ GE209.out) | exact HB.out)) hb); clear BK194; clear BK195; clear BK208; clear BK209; clear HB; have BK194 := n0_; have BK195 := n1_; have BK208 := n2_; have BK209 := n3_; have HB := n4_; clear n0_ n1_ n2_ n3_ n4_; (try clear hb); (try clear hb2); (try clear hk); (try clear hi)))
        (try simp only [Act.put, List.setIfInBounds_toArray, List.set_cons_zero, List.set_cons_succ])
        go_cut [63] (fun v63 wc => ∃ (kq : Nat) (x63_11 : Bool), v63 = .bool x63_11 ∧ Aside0 (laws_FnClaims.j1 kq t210 x63_11 t182 t183 t184 t185 t186 t187 t188 t189 t190 t191 t192 t193 t196 t197 t198 t199 t200 t201 = some r) ∧ Aside0 (kq ≤ kj2) ∧ Aside0 (wc.heap[gb194]? = some (.cells #[.int .i64 t182, .bool t183, .bool t184, .int .i64 t185, .int .i64 t186, .int .i64 t187] 43 (0, 0))) ∧ Aside0 (wc.heap[gb195]? = some (.cells #[.int .i64 t188, .bool t189, .bool t190, .int .i64 t191, .int .i64 t192, .int .i64 t193] 43 (0, 0))) ∧ Aside0 (wc.heap[gb208]? = some (.cells #[.int .i64 t196, .bool t197, .bool t198, .int .i64 t199, .int .i64 t200, .int .i64 t201] 43 (0, 0))) ∧ Aside0 (wc.heap[gb209]? = some (.cells #[.int .i64 t202, .bool t203, .bool t204, .int .i64 t205, .int .i64 t206, .int .i64 t207] 43 (0, 0))) ∧ Aside0 (Below w.heap.size w wc))
        case first =>
          have H := HC12.out
          clear HC12
          replace H := Option.bind_eq_some_iff.mp H
          obtain ⟨t212, A350, H⟩ := H
          replace H : (if (t210 != t212) = true then (laws_FnClaims.j1 kj2 t210 true t182 t183 t184 t185 t186 t187 t188 t189 t190 t191 t192 t193 t196 t197 t198 t199 t200 t201) else ((impl_Stronger.f kj2 t182 t183 t184 t185 t186 t187 t182 t183 t184 t185 t186 t187).bind fun t213 => (if t213 = true then (laws_FnClaims.j1 kj2 t210 true t182 t183 t184 t185 t186 t187 t188 t189 t190 t191 t192 t193 t196 t197 t198 t199 t200 t201) else (if t210 = true then (if t211 = true then (laws_FnClaims.j1 kj2 t210 true t182 t183 t184 t185 t186 t187 t188 t189 t190 t191 t192 t193 t196 t197 t198 t199 t200 t201) else (if t187 = t193 then (laws_FnClaims.j1 kj2 t210 false t182 t183 t184 t185 t186 t187 t188 t189 t190 t191 t192 t193 t196 t197 t198 t199 t200 t201) else (laws_FnClaims.j1 kj2 t210 false t182 t183 t184 t185 t186 t187 t188 t189 t190 t191 t192 t193 t196 t197 t198 t199 t200 t201))) else (if t187 = t193 then (laws_FnClaims.j1 kj2 t210 false t182 t183 t184 t185 t186 t187 t188 t189 t190 t191 t192 t193 t196 t197 t198 t199 t200 t201) else (laws_FnClaims.j1 kj2 t210 (!t211) t182 t183 t184 t185 t186 t187 t188 t189 t190 t191 t192 t193 t196 t197 t198 t199 t200 t201)))))) = some r := H
          have A35 := Aside0.mk A350
          clear A350
          by_cases c36 : (t210 != t212) = true
          · rw [if_pos c36] at H
            have c36b0 : (t210 != t212) = true := c36
            (try (have c36b1 : decide (t210 = t212) = false := by simpa using c36))
            (try (have c36b2 : (t210 == t212) = false := by simpa using c36))
            (try (have c36b3 : ¬ (t210 = t212) := by simpa using c36))
            clear c36
            (first | rw [c36b0] | (simp only [i64_w, i32_w]; rw [c36b0]) | skip)
            have H' := Aside0.mk H
            clear H
            have hnb37 := NB194_195.out
            have hnc37 := NB195_194.out
            have hnb38 := NB194_208.out
            have hnc38 := NB208_194.out
            have hnb39 := NB194_209.out
            have hnc39 := NB209_194.out
            have hcz40_0 : w34.cell? ⟨gb194, 0, none⟩ = some (.int .i64 t182) := (blk_cell BK194.out 0).trans rfl
            have hcz40_1 : w34.cell? ⟨gb194, 1, none⟩ = some (.bool t183) := (blk_cell BK194.out 1).trans rfl
            have hcz40_2 : w34.cell? ⟨gb194, 2, none⟩ = some (.bool t184) := (blk_cell BK194.out 2).trans rfl
            have hcz40_3 : w34.cell? ⟨gb194, 3, none⟩ = some (.int .i64 t185) := (blk_cell BK194.out 3).trans rfl
            have hcz40_4 : w34.cell? ⟨gb194, 4, none⟩ = some (.int .i64 t186) := (blk_cell BK194.out 4).trans rfl
            have hcz40_5 : w34.cell? ⟨gb194, 5, none⟩ = some (.int .i64 t187) := (blk_cell BK194.out 5).trans rfl
            have hfz40_0 := blk_frozen BK194.out 0
            have hfz40_1 := blk_frozen BK194.out 1
            have hfz40_2 := blk_frozen BK194.out 2
            have hfz40_3 := blk_frozen BK194.out 3
            have hfz40_4 := blk_frozen BK194.out 4
            have hfz40_5 := blk_frozen BK194.out 5
            have hnb41 := NB195_208.out
            have hnc41 := NB208_195.out
            have hnb42 := NB195_209.out
            have hnc42 := NB209_195.out
            have hcz43_0 : w34.cell? ⟨gb195, 0, none⟩ = some (.int .i64 t188) := (blk_cell BK195.out 0).trans rfl
            have hcz43_1 : w34.cell? ⟨gb195, 1, none⟩ = some (.bool t189) := (blk_cell BK195.out 1).trans rfl
            have hcz43_2 : w34.cell? ⟨gb195, 2, none⟩ = some (.bool t190) := (blk_cell BK195.out 2).trans rfl
            have hcz43_3 : w34.cell? ⟨gb195, 3, none⟩ = some (.int .i64 t191) := (blk_cell BK195.out 3).trans rfl
            have hcz43_4 : w34.cell? ⟨gb195, 4, none⟩ = some (.int .i64 t192) := (blk_cell BK195.out 4).trans rfl
            have hcz43_5 : w34.cell? ⟨gb195, 5, none⟩ = some (.int .i64 t193) := (blk_cell BK195.out 5).trans rfl
            have hfz43_0 := blk_frozen BK195.out 0
            have hfz43_1 := blk_frozen BK195.out 1
            have hfz43_2 := blk_frozen BK195.out 2
            have hfz43_3 := blk_frozen BK195.out 3
            have hfz43_4 := blk_frozen BK195.out 4
            have hfz43_5 := blk_frozen BK195.out 5
            go_wp2_with (first | ((with_reducible refine gate_callee (f := 30) rfl ?_); refine goesL_ (some 36) rfl rfl Try.func30 (by kernel_rfl) rfl #[.agg #[.int .i64 t182, .bool t183, .bool t184, .int .i64 t185, .int .i64 t186, .int .i64 t187], .agg #[.int .i64 t188, .bool t189, .bool t190, .int .i64 t191, .int .i64 t192, .int .i64 t193]] rfl (by (try simp only [List.map_toArray, List.map_cons, List.map_nil]); first | done | rfl | (simp only [List.length_drop, List.length_take]; rfl)) ?_; (with_reducible refine (spec_Stronger.calls t182 t183 t184 t185 t186 t187 t188 t189 t190 t191 t192 t193 t212 _ A35.out).mono ?_); rintro e w44 ⟨rfl, hb⟩; refine ⟨_, rfl, ?_⟩; have n0_ := Aside0.mk (blk_below (g := gb194) (o := .cells #[.int .i64 t182, .bool t183, .bool t184, .int .i64 t185, .int .i64 t186, .int .i64 t187] 43 (0, 0)) (by (with_reducible repeat (first | refine blk_drewN ?_ _ | refine blk_drew ?_ | refine blk_alloc ?_ _)); exact BK194.out) hb); have n1_ := Aside0.mk (blk_below (g := gb195) (o := .cells #[.int .i64 t188, .bool t189, .bool t190, .int .i64 t191, .int .i64 t192, .int .i64 t193] 43 (0, 0)) (by (with_reducible repeat (first | refine blk_drewN ?_ _ | refine blk_drew ?_ | refine blk_alloc ?_ _)); exact BK195.out) hb); have n2_ := Aside0.mk (blk_below (g := gb208) (o := .cells #[.int .i64 t196, .bool t197, .bool t198, .int .i64 t199, .int .i64 t200, .int .i64 t201] 43 (0, 0)) (by (with_reducible repeat (first | refine blk_drewN ?_ _ | refine blk_drew ?_ | refine blk_alloc ?_ _)); exact BK208.out) hb); have n3_ := Aside0.mk (blk_below (g := gb209) (o := .cells #[.int .i64 t202, .bool t203, .bool t204, .int .i64 t205, .int .i64 t206, .int .i64 t207] 43 (0, 0)) (by (with_reducible repeat (first | refine blk_drewN ?_ _ | refine blk_drew ?_ | refine blk_alloc ?_ _)); exact BK209.out) hb); have n4_ := Aside0.mk (below_step (by repeat (first | (with_reducible first | exact HB.out | apply below_alloc | apply pw_below_drewN | apply below_drew1 | refine below_set ?_ GE194.out | refine below_set ?_ GE195.out | refine below_set ?_ GE208.out | refine below_set ?_ GE209.out) | exact HB.out)) hb); clear BK194; clear BK195; clear BK208; clear BK209; clear HB; have BK194 := n0_; have BK195 := n1_; have BK208 := n2_; have BK209 := n3_; have HB := n4_; clear n0_ n1_ n2_ n3_ n4_; (try clear hb); (try clear hb2); (try clear hk); (try clear hi)))
            go_meet
            case rel => exact ⟨_, (true), (by first | rfl | (simp; done) | (simp [*]; done)), H', ⟨by have := HJ2.out; first | omega | exact Nat.le_refl _⟩, ⟨by (with_reducible repeat (first | refine blk_drewN ?_ _ | refine blk_drew ?_ | refine blk_alloc ?_ _)); exact BK194.out⟩, ⟨by (with_reducible repeat (first | refine blk_drewN ?_ _ | refine blk_drew ?_ | refine blk_alloc ?_ _)); exact BK195.out⟩, ⟨by (with_reducible repeat (first | refine blk_drewN ?_ _ | refine blk_drew ?_ | refine blk_alloc ?_ _)); exact BK208.out⟩, ⟨by (with_reducible repeat (first | refine blk_drewN ?_ _ | refine blk_drew ?_ | refine blk_alloc ?_ _)); exact BK209.out⟩, ⟨by repeat (first | (with_reducible first | exact HB.out | apply below_alloc | apply pw_below_drewN | apply below_drew1 | refine below_set ?_ GE194.out | refine below_set ?_ GE195.out | refine below_set ?_ GE208.out | refine below_set ?_ GE209.out) | exact HB.out)⟩⟩
          · rw [if_neg c36] at H
            have c36b0 : (t210 != t212) = false := by simpa using c36
            (try (have c36b1 : decide (t210 = t212) = true := by simpa using c36))
            (try (have c36b2 : (t210 == t212) = true := by simpa using c36))
            clear c36
            (first | rw [c36b0] | (simp only [i64_w, i32_w]; rw [c36b0]) | skip)
            replace H := Option.bind_eq_some_iff.mp H
            obtain ⟨t213, A450, H⟩ := H
            replace H : (if t213 = true then (laws_FnClaims.j1 kj2 t210 true t182 t183 t184 t185 t186 t187 t188 t189 t190 t191 t192 t193 t196 t197 t198 t199 t200 t201) else (if t210 = true then (if t211 = true then (laws_FnClaims.j1 kj2 t210 true t182 t183 t184 t185 t186 t187 t188 t189 t190 t191 t192 t193 t196 t197 t198 t199 t200 t201) else (if t187 = t193 then (laws_FnClaims.j1 kj2 t210 false t182 t183 t184 t185 t186 t187 t188 t189 t190 t191 t192 t193 t196 t197 t198 t199 t200 t201) else (laws_FnClaims.j1 kj2 t210 false t182 t183 t184 t185 t186 t187 t188 t189 t190 t191 t192 t193 t196 t197 t198 t199 t200 t201))) else (if t187 = t193 then (laws_FnClaims.j1 kj2 t210 false t182 t183 t184 t185 t186 t187 t188 t189 t190 t191 t192 t193 t196 t197 t198 t199 t200 t201) else (laws_FnClaims.j1 kj2 t210 (!t211) t182 t183 t184 t185 t186 t187 t188 t189 t190 t191 t192 t193 t196 t197 t198 t199 t200 t201)))) = some r := H
            have A45 := Aside0.mk A450
            clear A450
            by_cases c46 : t213 = true
            · subst c46
              have H1 : (laws_FnClaims.j1 kj2 t210 true t182 t183 t184 t185 t186 t187 t188 t189 t190 t191 t192 t193 t196 t197 t198 t199 t200 t201) = some r := by rw [if_pos rfl] at H; exact H
              clear H
              have H := H1
              clear H1
              have H' := Aside0.mk H
              clear H
              have hnb47 := NB194_195.out
              have hnc47 := NB195_194.out
              have hnb48 := NB194_208.out
              have hnc48 := NB208_194.out
              have hnb49 := NB194_209.out
              have hnc49 := NB209_194.out
              have hcz50_0 : w34.cell? ⟨gb194, 0, none⟩ = some (.int .i64 t182) := (blk_cell BK194.out 0).trans rfl
              have hcz50_1 : w34.cell? ⟨gb194, 1, none⟩ = some (.bool t183) := (blk_cell BK194.out 1).trans rfl
              have hcz50_2 : w34.cell? ⟨gb194, 2, none⟩ = some (.bool t184) := (blk_cell BK194.out 2).trans rfl
              have hcz50_3 : w34.cell? ⟨gb194, 3, none⟩ = some (.int .i64 t185) := (blk_cell BK194.out 3).trans rfl
              have hcz50_4 : w34.cell? ⟨gb194, 4, none⟩ = some (.int .i64 t186) := (blk_cell BK194.out 4).trans rfl
              have hcz50_5 : w34.cell? ⟨gb194, 5, none⟩ = some (.int .i64 t187) := (blk_cell BK194.out 5).trans rfl
              have hfz50_0 := blk_frozen BK194.out 0
              have hfz50_1 := blk_frozen BK194.out 1
              have hfz50_2 := blk_frozen BK194.out 2
              have hfz50_3 := blk_frozen BK194.out 3
              have hfz50_4 := blk_frozen BK194.out 4
              have hfz50_5 := blk_frozen BK194.out 5
              have hnb51 := NB195_208.out
              have hnc51 := NB208_195.out
              have hnb52 := NB195_209.out
              have hnc52 := NB209_195.out
              have hcz53_0 : w34.cell? ⟨gb195, 0, none⟩ = some (.int .i64 t188) := (blk_cell BK195.out 0).trans rfl
              have hcz53_1 : w34.cell? ⟨gb195, 1, none⟩ = some (.bool t189) := (blk_cell BK195.out 1).trans rfl
              have hcz53_2 : w34.cell? ⟨gb195, 2, none⟩ = some (.bool t190) := (blk_cell BK195.out 2).trans rfl
              have hcz53_3 : w34.cell? ⟨gb195, 3, none⟩ = some (.int .i64 t191) := (blk_cell BK195.out 3).trans rfl
              have hcz53_4 : w34.cell? ⟨gb195, 4, none⟩ = some (.int .i64 t192) := (blk_cell BK195.out 4).trans rfl
              have hcz53_5 : w34.cell? ⟨gb195, 5, none⟩ = some (.int .i64 t193) := (blk_cell BK195.out 5).trans rfl
              have hfz53_0 := blk_frozen BK195.out 0
              have hfz53_1 := blk_frozen BK195.out 1
              have hfz53_2 := blk_frozen BK195.out 2
              have hfz53_3 := blk_frozen BK195.out 3
              have hfz53_4 := blk_frozen BK195.out 4
              have hfz53_5 := blk_frozen BK195.out 5
              go_wp2_with (first | ((with_reducible refine gate_callee (f := 30) rfl ?_); refine goesL_ (some 36) rfl rfl Try.func30 (by kernel_rfl) rfl #[.agg #[.int .i64 t182, .bool t183, .bool t184, .int .i64 t185, .int .i64 t186, .int .i64 t187], .agg #[.int .i64 t188, .bool t189, .bool t190, .int .i64 t191, .int .i64 t192, .int .i64 t193]] rfl (by (try simp only [List.map_toArray, List.map_cons, List.map_nil]); first | done | rfl | (simp only [List.length_drop, List.length_take]; rfl)) ?_; (with_reducible refine (spec_Stronger.calls t182 t183 t184 t185 t186 t187 t188 t189 t190 t191 t192 t193 t212 _ A35.out).mono ?_); rintro e w54 ⟨rfl, hb⟩; refine ⟨_, rfl, ?_⟩; have n0_ := Aside0.mk (blk_below (g := gb194) (o := .cells #[.int .i64 t182, .bool t183, .bool t184, .int .i64 t185, .int .i64 t186, .int .i64 t187] 43 (0, 0)) (by (with_reducible repeat (first | refine blk_drewN ?_ _ | refine blk_drew ?_ | refine blk_alloc ?_ _)); exact BK194.out) hb); have n1_ := Aside0.mk (blk_below (g := gb195) (o := .cells #[.int .i64 t188, .bool t189, .bool t190, .int .i64 t191, .int .i64 t192, .int .i64 t193] 43 (0, 0)) (by (with_reducible repeat (first | refine blk_drewN ?_ _ | refine blk_drew ?_ | refine blk_alloc ?_ _)); exact BK195.out) hb); have n2_ := Aside0.mk (blk_below (g := gb208) (o := .cells #[.int .i64 t196, .bool t197, .bool t198, .int .i64 t199, .int .i64 t200, .int .i64 t201] 43 (0, 0)) (by (with_reducible repeat (first | refine blk_drewN ?_ _ | refine blk_drew ?_ | refine blk_alloc ?_ _)); exact BK208.out) hb); have n3_ := Aside0.mk (blk_below (g := gb209) (o := .cells #[.int .i64 t202, .bool t203, .bool t204, .int .i64 t205, .int .i64 t206, .int .i64 t207] 43 (0, 0)) (by (with_reducible repeat (first | refine blk_drewN ?_ _ | refine blk_drew ?_ | refine blk_alloc ?_ _)); exact BK209.out) hb); have n4_ := Aside0.mk (below_step (by repeat (first | (with_reducible first | exact HB.out | apply below_alloc | apply pw_below_drewN | apply below_drew1 | refine below_set ?_ GE194.out | refine below_set ?_ GE195.out | refine below_set ?_ GE208.out | refine below_set ?_ GE209.out) | exact HB.out)) hb); clear BK194; clear BK195; clear BK208; clear BK209; clear HB; have BK194 := n0_; have BK195 := n1_; have BK208 := n2_; have BK209 := n3_; have HB := n4_; clear n0_ n1_ n2_ n3_ n4_; (try clear hb); (try clear hb2); (try clear hk); (try clear hi); have hcz55_0 : w54.cell? ⟨gb194, 0, none⟩ = some (.int .i64 t182) := (blk_cell BK194.out 0).trans rfl; have hcz55_1 : w54.cell? ⟨gb194, 1, none⟩ = some (.bool t183) := (blk_cell BK194.out 1).trans rfl; have hcz55_2 : w54.cell? ⟨gb194, 2, none⟩ = some (.bool t184) := (blk_cell BK194.out 2).trans rfl; have hcz55_3 : w54.cell? ⟨gb194, 3, none⟩ = some (.int .i64 t185) := (blk_cell BK194.out 3).trans rfl; have hcz55_4 : w54.cell? ⟨gb194, 4, none⟩ = some (.int .i64 t186) := (blk_cell BK194.out 4).trans rfl; have hcz55_5 : w54.cell? ⟨gb194, 5, none⟩ = some (.int .i64 t187) := (blk_cell BK194.out 5).trans rfl; have hfz55_0 := blk_frozen BK194.out 0; have hfz55_1 := blk_frozen BK194.out 1; have hfz55_2 := blk_frozen BK194.out 2; have hfz55_3 := blk_frozen BK194.out 3; have hfz55_4 := blk_frozen BK194.out 4; have hfz55_5 := blk_frozen BK194.out 5) | (go_at_call 32; (with_reducible refine (impl_Stronger.calls kj2 t182 t183 t184 t185 t186 t187 t182 t183 t184 t185 t186 t187 true _ A45.out).mono ?_); rintro e w56 ⟨rfl, hb⟩; have n0_ := Aside0.mk (blk_below (g := gb194) (o := .cells #[.int .i64 t182, .bool t183, .bool t184, .int .i64 t185, .int .i64 t186, .int .i64 t187] 43 (0, 0)) (by (with_reducible repeat (first | refine blk_drewN ?_ _ | refine blk_drew ?_ | refine blk_alloc ?_ _)); exact BK194.out) hb); have n1_ := Aside0.mk (blk_below (g := gb195) (o := .cells #[.int .i64 t188, .bool t189, .bool t190, .int .i64 t191, .int .i64 t192, .int .i64 t193] 43 (0, 0)) (by (with_reducible repeat (first | refine blk_drewN ?_ _ | refine blk_drew ?_ | refine blk_alloc ?_ _)); exact BK195.out) hb); have n2_ := Aside0.mk (blk_below (g := gb208) (o := .cells #[.int .i64 t196, .bool t197, .bool t198, .int .i64 t199, .int .i64 t200, .int .i64 t201] 43 (0, 0)) (by (with_reducible repeat (first | refine blk_drewN ?_ _ | refine blk_drew ?_ | refine blk_alloc ?_ _)); exact BK208.out) hb); have n3_ := Aside0.mk (blk_below (g := gb209) (o := .cells #[.int .i64 t202, .bool t203, .bool t204, .int .i64 t205, .int .i64 t206, .int .i64 t207] 43 (0, 0)) (by (with_reducible repeat (first | refine blk_drewN ?_ _ | refine blk_drew ?_ | refine blk_alloc ?_ _)); exact BK209.out) hb); have n4_ := Aside0.mk (below_step (by repeat (first | (with_reducible first | exact HB.out | apply below_alloc | apply pw_below_drewN | apply below_drew1 | refine below_set ?_ GE194.out | refine below_set ?_ GE195.out | refine below_set ?_ GE208.out | refine below_set ?_ GE209.out) | exact HB.out)) hb); clear BK194; clear BK195; clear BK208; clear BK209; clear HB; have BK194 := n0_; have BK195 := n1_; have BK208 := n2_; have BK209 := n3_; have HB := n4_; clear n0_ n1_ n2_ n3_ n4_; (try clear hb); (try clear hb2); (try clear hk); (try clear hi)))
              go_meet
              case rel => exact ⟨_, (true), (by first | rfl | (simp; done) | (simp [*]; done)), H', ⟨by have := HJ2.out; first | omega | exact Nat.le_refl _⟩, ⟨by (with_reducible repeat (first | refine blk_drewN ?_ _ | refine blk_drew ?_ | refine blk_alloc ?_ _)); exact BK194.out⟩, ⟨by (with_reducible repeat (first | refine blk_drewN ?_ _ | refine blk_drew ?_ | refine blk_alloc ?_ _)); exact BK195.out⟩, ⟨by (with_reducible repeat (first | refine blk_drewN ?_ _ | refine blk_drew ?_ | refine blk_alloc ?_ _)); exact BK208.out⟩, ⟨by (with_reducible repeat (first | refine blk_drewN ?_ _ | refine blk_drew ?_ | refine blk_alloc ?_ _)); exact BK209.out⟩, ⟨by repeat (first | (with_reducible first | exact HB.out | apply below_alloc | apply pw_below_drewN | apply below_drew1 | refine below_set ?_ GE194.out | refine below_set ?_ GE195.out | refine below_set ?_ GE208.out | refine below_set ?_ GE209.out) | exact HB.out)⟩⟩
            · replace c46 := Bool.eq_false_iff.mpr c46
              subst c46
              have H1 : (if t210 = true then (if t211 = true then (laws_FnClaims.j1 kj2 t210 true t182 t183 t184 t185 t186 t187 t188 t189 t190 t191 t192 t193 t196 t197 t198 t199 t200 t201) else (if t187 = t193 then (laws_FnClaims.j1 kj2 t210 false t182 t183 t184 t185 t186 t187 t188 t189 t190 t191 t192 t193 t196 t197 t198 t199 t200 t201) else (laws_FnClaims.j1 kj2 t210 false t182 t183 t184 t185 t186 t187 t188 t189 t190 t191 t192 t193 t196 t197 t198 t199 t200 t201))) else (if t187 = t193 then (laws_FnClaims.j1 kj2 t210 false t182 t183 t184 t185 t186 t187 t188 t189 t190 t191 t192 t193 t196 t197 t198 t199 t200 t201) else (laws_FnClaims.j1 kj2 t210 (!t211) t182 t183 t184 t185 t186 t187 t188 t189 t190 t191 t192 t193 t196 t197 t198 t199 t200 t201))) = some r := by rw [if_neg (show ¬ (false = true) by decide)] at H; exact H
              clear H
              have H := H1
              clear H1
              by_cases c57 : t210 = true
              · subst c57
                have H1 : (if t211 = true then (laws_FnClaims.j1 kj2 true true t182 t183 t184 t185 t186 t187 t188 t189 t190 t191 t192 t193 t196 t197 t198 t199 t200 t201) else (if t187 = t193 then (laws_FnClaims.j1 kj2 true false t182 t183 t184 t185 t186 t187 t188 t189 t190 t191 t192 t193 t196 t197 t198 t199 t200 t201) else (laws_FnClaims.j1 kj2 true false t182 t183 t184 t185 t186 t187 t188 t189 t190 t191 t192 t193 t196 t197 t198 t199 t200 t201))) = some r := by rw [if_pos rfl] at H; exact H
                clear H
                have H := H1
                clear H1
                by_cases c58 : t211 = true
                · subst c58
                  have H1 : (laws_FnClaims.j1 kj2 true true t182 t183 t184 t185 t186 t187 t188 t189 t190 t191 t192 t193 t196 t197 t198 t199 t200 t201) = some r := by rw [if_pos rfl] at H; exact H
                  clear H
                  have H := H1
                  clear H1
                  have H' := Aside0.mk H
                  clear H
                  have hnb59 := NB194_195.out
                  have hnc59 := NB195_194.out
                  have hnb60 := NB194_208.out
                  have hnc60 := NB208_194.out
                  have hnb61 := NB194_209.out
                  have hnc61 := NB209_194.out
                  have hcz62_0 : w34.cell? ⟨gb194, 0, none⟩ = some (.int .i64 t182) := (blk_cell BK194.out 0).trans rfl
                  have hcz62_1 : w34.cell? ⟨gb194, 1, none⟩ = some (.bool t183) := (blk_cell BK194.out 1).trans rfl
                  have hcz62_2 : w34.cell? ⟨gb194, 2, none⟩ = some (.bool t184) := (blk_cell BK194.out 2).trans rfl
                  have hcz62_3 : w34.cell? ⟨gb194, 3, none⟩ = some (.int .i64 t185) := (blk_cell BK194.out 3).trans rfl
                  have hcz62_4 : w34.cell? ⟨gb194, 4, none⟩ = some (.int .i64 t186) := (blk_cell BK194.out 4).trans rfl
                  have hcz62_5 : w34.cell? ⟨gb194, 5, none⟩ = some (.int .i64 t187) := (blk_cell BK194.out 5).trans rfl
                  have hfz62_0 := blk_frozen BK194.out 0
                  have hfz62_1 := blk_frozen BK194.out 1
                  have hfz62_2 := blk_frozen BK194.out 2
                  have hfz62_3 := blk_frozen BK194.out 3
                  have hfz62_4 := blk_frozen BK194.out 4
                  have hfz62_5 := blk_frozen BK194.out 5
                  have hnb63 := NB195_208.out
                  have hnc63 := NB208_195.out
                  have hnb64 := NB195_209.out
                  have hnc64 := NB209_195.out
                  have hcz65_0 : w34.cell? ⟨gb195, 0, none⟩ = some (.int .i64 t188) := (blk_cell BK195.out 0).trans rfl
                  have hcz65_1 : w34.cell? ⟨gb195, 1, none⟩ = some (.bool t189) := (blk_cell BK195.out 1).trans rfl
                  have hcz65_2 : w34.cell? ⟨gb195, 2, none⟩ = some (.bool t190) := (blk_cell BK195.out 2).trans rfl
                  have hcz65_3 : w34.cell? ⟨gb195, 3, none⟩ = some (.int .i64 t191) := (blk_cell BK195.out 3).trans rfl
                  have hcz65_4 : w34.cell? ⟨gb195, 4, none⟩ = some (.int .i64 t192) := (blk_cell BK195.out 4).trans rfl
                  have hcz65_5 : w34.cell? ⟨gb195, 5, none⟩ = some (.int .i64 t193) := (blk_cell BK195.out 5).trans rfl
                  have hfz65_0 := blk_frozen BK195.out 0
                  have hfz65_1 := blk_frozen BK195.out 1
                  have hfz65_2 := blk_frozen BK195.out 2
                  have hfz65_3 := blk_frozen BK195.out 3
                  have hfz65_4 := blk_frozen BK195.out 4
                  have hfz65_5 := blk_frozen BK195.out 5
                  go_wp2_with (first | ((with_reducible refine gate_callee (f := 30) rfl ?_); refine goesL_ (some 36) rfl rfl Try.func30 (by kernel_rfl) rfl #[.agg #[.int .i64 t182, .bool t183, .bool t184, .int .i64 t185, .int .i64 t186, .int .i64 t187], .agg #[.int .i64 t188, .bool t189, .bool t190, .int .i64 t191, .int .i64 t192, .int .i64 t193]] rfl (by (try simp only [List.map_toArray, List.map_cons, List.map_nil]); first | done | rfl | (simp only [List.length_drop, List.length_take]; rfl)) ?_; (with_reducible refine (spec_Stronger.calls t182 t183 t184 t185 t186 t187 t188 t189 t190 t191 t192 t193 t212 _ A35.out).mono ?_); rintro e w66 ⟨rfl, hb⟩; refine ⟨_, rfl, ?_⟩; have n0_ := Aside0.mk (blk_below (g := gb194) (o := .cells #[.int .i64 t182, .bool t183, .bool t184, .int .i64 t185, .int .i64 t186, .int .i64 t187] 43 (0, 0)) (by (with_reducible repeat (first | refine blk_drewN ?_ _ | refine blk_drew ?_ | refine blk_alloc ?_ _)); exact BK194.out) hb); have n1_ := Aside0.mk (blk_below (g := gb195) (o := .cells #[.int .i64 t188, .bool t189, .bool t190, .int .i64 t191, .int .i64 t192, .int .i64 t193] 43 (0, 0)) (by (with_reducible repeat (first | refine blk_drewN ?_ _ | refine blk_drew ?_ | refine blk_alloc ?_ _)); exact BK195.out) hb); have n2_ := Aside0.mk (blk_below (g := gb208) (o := .cells #[.int .i64 t196, .bool t197, .bool t198, .int .i64 t199, .int .i64 t200, .int .i64 t201] 43 (0, 0)) (by (with_reducible repeat (first | refine blk_drewN ?_ _ | refine blk_drew ?_ | refine blk_alloc ?_ _)); exact BK208.out) hb); have n3_ := Aside0.mk (blk_below (g := gb209) (o := .cells #[.int .i64 t202, .bool t203, .bool t204, .int .i64 t205, .int .i64 t206, .int .i64 t207] 43 (0, 0)) (by (with_reducible repeat (first | refine blk_drewN ?_ _ | refine blk_drew ?_ | refine blk_alloc ?_ _)); exact BK209.out) hb); have n4_ := Aside0.mk (below_step (by repeat (first | (with_reducible first | exact HB.out | apply below_alloc | apply pw_below_drewN | apply below_drew1 | refine below_set ?_ GE194.out | refine below_set ?_ GE195.out | refine below_set ?_ GE208.out | refine below_set ?_ GE209.out) | exact HB.out)) hb); clear BK194; clear BK195; clear BK208; clear BK209; clear HB; have BK194 := n0_; have BK195 := n1_; have BK208 := n2_; have BK209 := n3_; have HB := n4_; clear n0_ n1_ n2_ n3_ n4_; (try clear hb); (try clear hb2); (try clear hk); (try clear hi); have hcz67_0 : w66.cell? ⟨gb194, 0, none⟩ = some (.int .i64 t182) := (blk_cell BK194.out 0).trans rfl; have hcz67_1 : w66.cell? ⟨gb194, 1, none⟩ = some (.bool t183) := (blk_cell BK194.out 1).trans rfl; have hcz67_2 : w66.cell? ⟨gb194, 2, none⟩ = some (.bool t184) := (blk_cell BK194.out 2).trans rfl; have hcz67_3 : w66.cell? ⟨gb194, 3, none⟩ = some (.int .i64 t185) := (blk_cell BK194.out 3).trans rfl; have hcz67_4 : w66.cell? ⟨gb194, 4, none⟩ = some (.int .i64 t186) := (blk_cell BK194.out 4).trans rfl; have hcz67_5 : w66.cell? ⟨gb194, 5, none⟩ = some (.int .i64 t187) := (blk_cell BK194.out 5).trans rfl; have hfz67_0 := blk_frozen BK194.out 0; have hfz67_1 := blk_frozen BK194.out 1; have hfz67_2 := blk_frozen BK194.out 2; have hfz67_3 := blk_frozen BK194.out 3; have hfz67_4 := blk_frozen BK194.out 4; have hfz67_5 := blk_frozen BK194.out 5) | (go_at_call 32; (with_reducible refine (impl_Stronger.calls kj2 t182 t183 t184 t185 t186 t187 t182 t183 t184 t185 t186 t187 false _ A45.out).mono ?_); rintro e w68 ⟨rfl, hb⟩; have n0_ := Aside0.mk (blk_below (g := gb194) (o := .cells #[.int .i64 t182, .bool t183, .bool t184, .int .i64 t185, .int .i64 t186, .int .i64 t187] 43 (0, 0)) (by (with_reducible repeat (first | refine blk_drewN ?_ _ | refine blk_drew ?_ | refine blk_alloc ?_ _)); exact BK194.out) hb); have n1_ := Aside0.mk (blk_below (g := gb195) (o := .cells #[.int .i64 t188, .bool t189, .bool t190, .int .i64 t191, .int .i64 t192, .int .i64 t193] 43 (0, 0)) (by (with_reducible repeat (first | refine blk_drewN ?_ _ | refine blk_drew ?_ | refine blk_alloc ?_ _)); exact BK195.out) hb); have n2_ := Aside0.mk (blk_below (g := gb208) (o := .cells #[.int .i64 t196, .bool t197, .bool t198, .int .i64 t199, .int .i64 t200, .int .i64 t201] 43 (0, 0)) (by (with_reducible repeat (first | refine blk_drewN ?_ _ | refine blk_drew ?_ | refine blk_alloc ?_ _)); exact BK208.out) hb); have n3_ := Aside0.mk (blk_below (g := gb209) (o := .cells #[.int .i64 t202, .bool t203, .bool t204, .int .i64 t205, .int .i64 t206, .int .i64 t207] 43 (0, 0)) (by (with_reducible repeat (first | refine blk_drewN ?_ _ | refine blk_drew ?_ | refine blk_alloc ?_ _)); exact BK209.out) hb); have n4_ := Aside0.mk (below_step (by repeat (first | (with_reducible first | exact HB.out | apply below_alloc | apply pw_below_drewN | apply below_drew1 | refine below_set ?_ GE194.out | refine below_set ?_ GE195.out | refine below_set ?_ GE208.out | refine below_set ?_ GE209.out) | exact HB.out)) hb); clear BK194; clear BK195; clear BK208; clear BK209; clear HB; have BK194 := n0_; have BK195 := n1_; have BK208 := n2_; have BK209 := n3_; have HB := n4_; clear n0_ n1_ n2_ n3_ n4_; (try clear hb); (try clear hb2); (try clear hk); (try clear hi)))
                  go_meet
                  case rel => exact ⟨_, (true), (by first | rfl | (simp; done) | (simp [*]; done)), H', ⟨by have := HJ2.out; first | omega | exact Nat.le_refl _⟩, ⟨by (with_reducible repeat (first | refine blk_drewN ?_ _ | refine blk_drew ?_ | refine blk_alloc ?_ _)); exact BK194.out⟩, ⟨by (with_reducible repeat (first | refine blk_drewN ?_ _ | refine blk_drew ?_ | refine blk_alloc ?_ _)); exact BK195.out⟩, ⟨by (with_reducible repeat (first | refine blk_drewN ?_ _ | refine blk_drew ?_ | refine blk_alloc ?_ _)); exact BK208.out⟩, ⟨by (with_reducible repeat (first | refine blk_drewN ?_ _ | refine blk_drew ?_ | refine blk_alloc ?_ _)); exact BK209.out⟩, ⟨by repeat (first | (with_reducible first | exact HB.out | apply below_alloc | apply pw_below_drewN | apply below_drew1 | refine below_set ?_ GE194.out | refine below_set ?_ GE195.out | refine below_set ?_ GE208.out | refine below_set ?_ GE209.out) | exact HB.out)⟩⟩
                · replace c58 := Bool.eq_false_iff.mpr c58
                  subst c58
                  have H1 : (if t187 = t193 then (laws_FnClaims.j1 kj2 true false t182 t183 t184 t185 t186 t187 t188 t189 t190 t191 t192 t193 t196 t197 t198 t199 t200 t201) else (laws_FnClaims.j1 kj2 true false t182 t183 t184 t185 t186 t187 t188 t189 t190 t191 t192 t193 t196 t197 t198 t199 t200 t201)) = some r := by rw [if_neg (show ¬ (false = true) by decide)] at H; exact H
                  clear H
                  have H := H1
                  clear H1
                  by_cases c69 : t187 = t193
                  · rw [if_pos c69] at H
                    have c69b0 : (t187 == t193) = true := beq_iff_eq.mpr c69
                    have c69b1 : (t187 != t193) = false := bne_eq_false_iff_eq.mpr c69
                    clear c69
                    have H' := Aside0.mk H
                    clear H
                    have hnb70 := NB194_195.out
                    have hnc70 := NB195_194.out
                    have hnb71 := NB194_208.out
                    have hnc71 := NB208_194.out
                    have hnb72 := NB194_209.out
                    have hnc72 := NB209_194.out
                    have hcz73_0 : w34.cell? ⟨gb194, 0, none⟩ = some (.int .i64 t182) := (blk_cell BK194.out 0).trans rfl
                    have hcz73_1 : w34.cell? ⟨gb194, 1, none⟩ = some (.bool t183) := (blk_cell BK194.out 1).trans rfl
                    have hcz73_2 : w34.cell? ⟨gb194, 2, none⟩ = some (.bool t184) := (blk_cell BK194.out 2).trans rfl
                    have hcz73_3 : w34.cell? ⟨gb194, 3, none⟩ = some (.int .i64 t185) := (blk_cell BK194.out 3).trans rfl
                    have hcz73_4 : w34.cell? ⟨gb194, 4, none⟩ = some (.int .i64 t186) := (blk_cell BK194.out 4).trans rfl
                    have hcz73_5 : w34.cell? ⟨gb194, 5, none⟩ = some (.int .i64 t187) := (blk_cell BK194.out 5).trans rfl
                    have hfz73_0 := blk_frozen BK194.out 0
                    have hfz73_1 := blk_frozen BK194.out 1
                    have hfz73_2 := blk_frozen BK194.out 2
                    have hfz73_3 := blk_frozen BK194.out 3
                    have hfz73_4 := blk_frozen BK194.out 4
                    have hfz73_5 := blk_frozen BK194.out 5
                    have hnb74 := NB195_208.out
                    have hnc74 := NB208_195.out
                    have hnb75 := NB195_209.out
                    have hnc75 := NB209_195.out
                    have hcz76_0 : w34.cell? ⟨gb195, 0, none⟩ = some (.int .i64 t188) := (blk_cell BK195.out 0).trans rfl
                    have hcz76_1 : w34.cell? ⟨gb195, 1, none⟩ = some (.bool t189) := (blk_cell BK195.out 1).trans rfl
                    have hcz76_2 : w34.cell? ⟨gb195, 2, none⟩ = some (.bool t190) := (blk_cell BK195.out 2).trans rfl
                    have hcz76_3 : w34.cell? ⟨gb195, 3, none⟩ = some (.int .i64 t191) := (blk_cell BK195.out 3).trans rfl
                    have hcz76_4 : w34.cell? ⟨gb195, 4, none⟩ = some (.int .i64 t192) := (blk_cell BK195.out 4).trans rfl
                    have hcz76_5 : w34.cell? ⟨gb195, 5, none⟩ = some (.int .i64 t193) := (blk_cell BK195.out 5).trans rfl
                    have hfz76_0 := blk_frozen BK195.out 0
                    have hfz76_1 := blk_frozen BK195.out 1
                    have hfz76_2 := blk_frozen BK195.out 2
                    have hfz76_3 := blk_frozen BK195.out 3
                    have hfz76_4 := blk_frozen BK195.out 4
                    have hfz76_5 := blk_frozen BK195.out 5
                    go_wp2_with (first | ((with_reducible refine gate_callee (f := 30) rfl ?_); refine goesL_ (some 36) rfl rfl Try.func30 (by kernel_rfl) rfl #[.agg #[.int .i64 t182, .bool t183, .bool t184, .int .i64 t185, .int .i64 t186, .int .i64 t187], .agg #[.int .i64 t188, .bool t189, .bool t190, .int .i64 t191, .int .i64 t192, .int .i64 t193]] rfl (by (try simp only [List.map_toArray, List.map_cons, List.map_nil]); first | done | rfl | (simp only [List.length_drop, List.length_take]; rfl)) ?_; (with_reducible refine (spec_Stronger.calls t182 t183 t184 t185 t186 t187 t188 t189 t190 t191 t192 t193 t212 _ A35.out).mono ?_); rintro e w77 ⟨rfl, hb⟩; refine ⟨_, rfl, ?_⟩; have n0_ := Aside0.mk (blk_below (g := gb194) (o := .cells #[.int .i64 t182, .bool t183, .bool t184, .int .i64 t185, .int .i64 t186, .int .i64 t187] 43 (0, 0)) (by (with_reducible repeat (first | refine blk_drewN ?_ _ | refine blk_drew ?_ | refine blk_alloc ?_ _)); exact BK194.out) hb); have n1_ := Aside0.mk (blk_below (g := gb195) (o := .cells #[.int .i64 t188, .bool t189, .bool t190, .int .i64 t191, .int .i64 t192, .int .i64 t193] 43 (0, 0)) (by (with_reducible repeat (first | refine blk_drewN ?_ _ | refine blk_drew ?_ | refine blk_alloc ?_ _)); exact BK195.out) hb); have n2_ := Aside0.mk (blk_below (g := gb208) (o := .cells #[.int .i64 t196, .bool t197, .bool t198, .int .i64 t199, .int .i64 t200, .int .i64 t201] 43 (0, 0)) (by (with_reducible repeat (first | refine blk_drewN ?_ _ | refine blk_drew ?_ | refine blk_alloc ?_ _)); exact BK208.out) hb); have n3_ := Aside0.mk (blk_below (g := gb209) (o := .cells #[.int .i64 t202, .bool t203, .bool t204, .int .i64 t205, .int .i64 t206, .int .i64 t207] 43 (0, 0)) (by (with_reducible repeat (first | refine blk_drewN ?_ _ | refine blk_drew ?_ | refine blk_alloc ?_ _)); exact BK209.out) hb); have n4_ := Aside0.mk (below_step (by repeat (first | (with_reducible first | exact HB.out | apply below_alloc | apply pw_below_drewN | apply below_drew1 | refine below_set ?_ GE194.out | refine below_set ?_ GE195.out | refine below_set ?_ GE208.out | refine below_set ?_ GE209.out) | exact HB.out)) hb); clear BK194; clear BK195; clear BK208; clear BK209; clear HB; have BK194 := n0_; have BK195 := n1_; have BK208 := n2_; have BK209 := n3_; have HB := n4_; clear n0_ n1_ n2_ n3_ n4_; (try clear hb); (try clear hb2); (try clear hk); (try clear hi); have hcz78_0 : w77.cell? ⟨gb194, 0, none⟩ = some (.int .i64 t182) := (blk_cell BK194.out 0).trans rfl; have hcz78_1 : w77.cell? ⟨gb194, 1, none⟩ = some (.bool t183) := (blk_cell BK194.out 1).trans rfl; have hcz78_2 : w77.cell? ⟨gb194, 2, none⟩ = some (.bool t184) := (blk_cell BK194.out 2).trans rfl; have hcz78_3 : w77.cell? ⟨gb194, 3, none⟩ = some (.int .i64 t185) := (blk_cell BK194.out 3).trans rfl; have hcz78_4 : w77.cell? ⟨gb194, 4, none⟩ = some (.int .i64 t186) := (blk_cell BK194.out 4).trans rfl; have hcz78_5 : w77.cell? ⟨gb194, 5, none⟩ = some (.int .i64 t187) := (blk_cell BK194.out 5).trans rfl; have hfz78_0 := blk_frozen BK194.out 0; have hfz78_1 := blk_frozen BK194.out 1; have hfz78_2 := blk_frozen BK194.out 2; have hfz78_3 := blk_frozen BK194.out 3; have hfz78_4 := blk_frozen BK194.out 4; have hfz78_5 := blk_frozen BK194.out 5) | (go_at_call 32; (with_reducible refine (impl_Stronger.calls kj2 t182 t183 t184 t185 t186 t187 t182 t183 t184 t185 t186 t187 false _ A45.out).mono ?_); rintro e w79 ⟨rfl, hb⟩; have n0_ := Aside0.mk (blk_below (g := gb194) (o := .cells #[.int .i64 t182, .bool t183, .bool t184, .int .i64 t185, .int .i64 t186, .int .i64 t187] 43 (0, 0)) (by (with_reducible repeat (first | refine blk_drewN ?_ _ | refine blk_drew ?_ | refine blk_alloc ?_ _)); exact BK194.out) hb); have n1_ := Aside0.mk (blk_below (g := gb195) (o := .cells #[.int .i64 t188, .bool t189, .bool t190, .int .i64 t191, .int .i64 t192, .int .i64 t193] 43 (0, 0)) (by (with_reducible repeat (first | refine blk_drewN ?_ _ | refine blk_drew ?_ | refine blk_alloc ?_ _)); exact BK195.out) hb); have n2_ := Aside0.mk (blk_below (g := gb208) (o := .cells #[.int .i64 t196, .bool t197, .bool t198, .int .i64 t199, .int .i64 t200, .int .i64 t201] 43 (0, 0)) (by (with_reducible repeat (first | refine blk_drewN ?_ _ | refine blk_drew ?_ | refine blk_alloc ?_ _)); exact BK208.out) hb); have n3_ := Aside0.mk (blk_below (g := gb209) (o := .cells #[.int .i64 t202, .bool t203, .bool t204, .int .i64 t205, .int .i64 t206, .int .i64 t207] 43 (0, 0)) (by (with_reducible repeat (first | refine blk_drewN ?_ _ | refine blk_drew ?_ | refine blk_alloc ?_ _)); exact BK209.out) hb); have n4_ := Aside0.mk (below_step (by repeat (first | (with_reducible first | exact HB.out | apply below_alloc | apply pw_below_drewN | apply below_drew1 | refine below_set ?_ GE194.out | refine below_set ?_ GE195.out | refine below_set ?_ GE208.out | refine below_set ?_ GE209.out) | exact HB.out)) hb); clear BK194; clear BK195; clear BK208; clear BK209; clear HB; have BK194 := n0_; have BK195 := n1_; have BK208 := n2_; have BK209 := n3_; have HB := n4_; clear n0_ n1_ n2_ n3_ n4_; (try clear hb); (try clear hb2); (try clear hk); (try clear hi); have hcz80_0 : w79.cell? ⟨gb194, 0, none⟩ = some (.int .i64 t182) := (blk_cell BK194.out 0).trans rfl; have hcz80_1 : w79.cell? ⟨gb194, 1, none⟩ = some (.bool t183) := (blk_cell BK194.out 1).trans rfl; have hcz80_2 : w79.cell? ⟨gb194, 2, none⟩ = some (.bool t184) := (blk_cell BK194.out 2).trans rfl; have hcz80_3 : w79.cell? ⟨gb194, 3, none⟩ = some (.int .i64 t185) := (blk_cell BK194.out 3).trans rfl; have hcz80_4 : w79.cell? ⟨gb194, 4, none⟩ = some (.int .i64 t186) := (blk_cell BK194.out 4).trans rfl; have hcz80_5 : w79.cell? ⟨gb194, 5, none⟩ = some (.int .i64 t187) := (blk_cell BK194.out 5).trans rfl; have hfz80_0 := blk_frozen BK194.out 0; have hfz80_1 := blk_frozen BK194.out 1; have hfz80_2 := blk_frozen BK194.out 2; have hfz80_3 := blk_frozen BK194.out 3; have hfz80_4 := blk_frozen BK194.out 4; have hfz80_5 := blk_frozen BK194.out 5; have hcz81_0 : w79.cell? ⟨gb195, 0, none⟩ = some (.int .i64 t188) := (blk_cell BK195.out 0).trans rfl; have hcz81_1 : w79.cell? ⟨gb195, 1, none⟩ = some (.bool t189) := (blk_cell BK195.out 1).trans rfl; have hcz81_2 : w79.cell? ⟨gb195, 2, none⟩ = some (.bool t190) := (blk_cell BK195.out 2).trans rfl; have hcz81_3 : w79.cell? ⟨gb195, 3, none⟩ = some (.int .i64 t191) := (blk_cell BK195.out 3).trans rfl; have hcz81_4 : w79.cell? ⟨gb195, 4, none⟩ = some (.int .i64 t192) := (blk_cell BK195.out 4).trans rfl; have hcz81_5 : w79.cell? ⟨gb195, 5, none⟩ = some (.int .i64 t193) := (blk_cell BK195.out 5).trans rfl; have hfz81_0 := blk_frozen BK195.out 0; have hfz81_1 := blk_frozen BK195.out 1; have hfz81_2 := blk_frozen BK195.out 2; have hfz81_3 := blk_frozen BK195.out 3; have hfz81_4 := blk_frozen BK195.out 4; have hfz81_5 := blk_frozen BK195.out 5))
                    go_meet
                    case rel => exact ⟨_, (false), (by first | rfl | (simp; done) | (simp [*]; done)), H', ⟨by have := HJ2.out; first | omega | exact Nat.le_refl _⟩, ⟨by (with_reducible repeat (first | refine blk_drewN ?_ _ | refine blk_drew ?_ | refine blk_alloc ?_ _)); exact BK194.out⟩, ⟨by (with_reducible repeat (first | refine blk_drewN ?_ _ | refine blk_drew ?_ | refine blk_alloc ?_ _)); exact BK195.out⟩, ⟨by (with_reducible repeat (first | refine blk_drewN ?_ _ | refine blk_drew ?_ | refine blk_alloc ?_ _)); exact BK208.out⟩, ⟨by (with_reducible repeat (first | refine blk_drewN ?_ _ | refine blk_drew ?_ | refine blk_alloc ?_ _)); exact BK209.out⟩, ⟨by repeat (first | (with_reducible first | exact HB.out | apply below_alloc | apply pw_below_drewN | apply below_drew1 | refine below_set ?_ GE194.out | refine below_set ?_ GE195.out | refine below_set ?_ GE208.out | refine below_set ?_ GE209.out) | exact HB.out)⟩⟩
                  · rw [if_neg c69] at H
                    have c69b0 : (t187 == t193) = false := beq_eq_false_iff_ne.mpr c69
                    have c69b1 : (t187 != t193) = true := bne_iff_ne.mpr c69
                    have H' := Aside0.mk H
                    clear H
                    have hnb82 := NB194_195.out
                    have hnc82 := NB195_194.out
                    have hnb83 := NB194_208.out
                    have hnc83 := NB208_194.out
                    have hnb84 := NB194_209.out
                    have hnc84 := NB209_194.out
                    have hcz85_0 : w34.cell? ⟨gb194, 0, none⟩ = some (.int .i64 t182) := (blk_cell BK194.out 0).trans rfl
                    have hcz85_1 : w34.cell? ⟨gb194, 1, none⟩ = some (.bool t183) := (blk_cell BK194.out 1).trans rfl
                    have hcz85_2 : w34.cell? ⟨gb194, 2, none⟩ = some (.bool t184) := (blk_cell BK194.out 2).trans rfl
                    have hcz85_3 : w34.cell? ⟨gb194, 3, none⟩ = some (.int .i64 t185) := (blk_cell BK194.out 3).trans rfl
                    have hcz85_4 : w34.cell? ⟨gb194, 4, none⟩ = some (.int .i64 t186) := (blk_cell BK194.out 4).trans rfl
                    have hcz85_5 : w34.cell? ⟨gb194, 5, none⟩ = some (.int .i64 t187) := (blk_cell BK194.out 5).trans rfl
                    have hfz85_0 := blk_frozen BK194.out 0
                    have hfz85_1 := blk_frozen BK194.out 1
                    have hfz85_2 := blk_frozen BK194.out 2
                    have hfz85_3 := blk_frozen BK194.out 3
                    have hfz85_4 := blk_frozen BK194.out 4
                    have hfz85_5 := blk_frozen BK194.out 5
                    have hnb86 := NB195_208.out
                    have hnc86 := NB208_195.out
                    have hnb87 := NB195_209.out
                    have hnc87 := NB209_195.out
                    have hcz88_0 : w34.cell? ⟨gb195, 0, none⟩ = some (.int .i64 t188) := (blk_cell BK195.out 0).trans rfl
                    have hcz88_1 : w34.cell? ⟨gb195, 1, none⟩ = some (.bool t189) := (blk_cell BK195.out 1).trans rfl
                    have hcz88_2 : w34.cell? ⟨gb195, 2, none⟩ = some (.bool t190) := (blk_cell BK195.out 2).trans rfl
                    have hcz88_3 : w34.cell? ⟨gb195, 3, none⟩ = some (.int .i64 t191) := (blk_cell BK195.out 3).trans rfl
                    have hcz88_4 : w34.cell? ⟨gb195, 4, none⟩ = some (.int .i64 t192) := (blk_cell BK195.out 4).trans rfl
                    have hcz88_5 : w34.cell? ⟨gb195, 5, none⟩ = some (.int .i64 t193) := (blk_cell BK195.out 5).trans rfl
                    have hfz88_0 := blk_frozen BK195.out 0
                    have hfz88_1 := blk_frozen BK195.out 1
                    have hfz88_2 := blk_frozen BK195.out 2
                    have hfz88_3 := blk_frozen BK195.out 3
                    have hfz88_4 := blk_frozen BK195.out 4
                    have hfz88_5 := blk_frozen BK195.out 5
                    go_wp2_with (first | ((with_reducible refine gate_callee (f := 30) rfl ?_); refine goesL_ (some 36) rfl rfl Try.func30 (by kernel_rfl) rfl #[.agg #[.int .i64 t182, .bool t183, .bool t184, .int .i64 t185, .int .i64 t186, .int .i64 t187], .agg #[.int .i64 t188, .bool t189, .bool t190, .int .i64 t191, .int .i64 t192, .int .i64 t193]] rfl (by (try simp only [List.map_toArray, List.map_cons, List.map_nil]); first | done | rfl | (simp only [List.length_drop, List.length_take]; rfl)) ?_; (with_reducible refine (spec_Stronger.calls t182 t183 t184 t185 t186 t187 t188 t189 t190 t191 t192 t193 t212 _ A35.out).mono ?_); rintro e w89 ⟨rfl, hb⟩; refine ⟨_, rfl, ?_⟩; have n0_ := Aside0.mk (blk_below (g := gb194) (o := .cells #[.int .i64 t182, .bool t183, .bool t184, .int .i64 t185, .int .i64 t186, .int .i64 t187] 43 (0, 0)) (by (with_reducible repeat (first | refine blk_drewN ?_ _ | refine blk_drew ?_ | refine blk_alloc ?_ _)); exact BK194.out) hb); have n1_ := Aside0.mk (blk_below (g := gb195) (o := .cells #[.int .i64 t188, .bool t189, .bool t190, .int .i64 t191, .int .i64 t192, .int .i64 t193] 43 (0, 0)) (by (with_reducible repeat (first | refine blk_drewN ?_ _ | refine blk_drew ?_ | refine blk_alloc ?_ _)); exact BK195.out) hb); have n2_ := Aside0.mk (blk_below (g := gb208) (o := .cells #[.int .i64 t196, .bool t197, .bool t198, .int .i64 t199, .int .i64 t200, .int .i64 t201] 43 (0, 0)) (by (with_reducible repeat (first | refine blk_drewN ?_ _ | refine blk_drew ?_ | refine blk_alloc ?_ _)); exact BK208.out) hb); have n3_ := Aside0.mk (blk_below (g := gb209) (o := .cells #[.int .i64 t202, .bool t203, .bool t204, .int .i64 t205, .int .i64 t206, .int .i64 t207] 43 (0, 0)) (by (with_reducible repeat (first | refine blk_drewN ?_ _ | refine blk_drew ?_ | refine blk_alloc ?_ _)); exact BK209.out) hb); have n4_ := Aside0.mk (below_step (by repeat (first | (with_reducible first | exact HB.out | apply below_alloc | apply pw_below_drewN | apply below_drew1 | refine below_set ?_ GE194.out | refine below_set ?_ GE195.out | refine below_set ?_ GE208.out | refine below_set ?_ GE209.out) | exact HB.out)) hb); clear BK194; clear BK195; clear BK208; clear BK209; clear HB; have BK194 := n0_; have BK195 := n1_; have BK208 := n2_; have BK209 := n3_; have HB := n4_; clear n0_ n1_ n2_ n3_ n4_; (try clear hb); (try clear hb2); (try clear hk); (try clear hi); have hcz90_0 : w89.cell? ⟨gb194, 0, none⟩ = some (.int .i64 t182) := (blk_cell BK194.out 0).trans rfl; have hcz90_1 : w89.cell? ⟨gb194, 1, none⟩ = some (.bool t183) := (blk_cell BK194.out 1).trans rfl; have hcz90_2 : w89.cell? ⟨gb194, 2, none⟩ = some (.bool t184) := (blk_cell BK194.out 2).trans rfl; have hcz90_3 : w89.cell? ⟨gb194, 3, none⟩ = some (.int .i64 t185) := (blk_cell BK194.out 3).trans rfl; have hcz90_4 : w89.cell? ⟨gb194, 4, none⟩ = some (.int .i64 t186) := (blk_cell BK194.out 4).trans rfl; have hcz90_5 : w89.cell? ⟨gb194, 5, none⟩ = some (.int .i64 t187) := (blk_cell BK194.out 5).trans rfl; have hfz90_0 := blk_frozen BK194.out 0; have hfz90_1 := blk_frozen BK194.out 1; have hfz90_2 := blk_frozen BK194.out 2; have hfz90_3 := blk_frozen BK194.out 3; have hfz90_4 := blk_frozen BK194.out 4; have hfz90_5 := blk_frozen BK194.out 5) | (go_at_call 32; (with_reducible refine (impl_Stronger.calls kj2 t182 t183 t184 t185 t186 t187 t182 t183 t184 t185 t186 t187 false _ A45.out).mono ?_); rintro e w91 ⟨rfl, hb⟩; have n0_ := Aside0.mk (blk_below (g := gb194) (o := .cells #[.int .i64 t182, .bool t183, .bool t184, .int .i64 t185, .int .i64 t186, .int .i64 t187] 43 (0, 0)) (by (with_reducible repeat (first | refine blk_drewN ?_ _ | refine blk_drew ?_ | refine blk_alloc ?_ _)); exact BK194.out) hb); have n1_ := Aside0.mk (blk_below (g := gb195) (o := .cells #[.int .i64 t188, .bool t189, .bool t190, .int .i64 t191, .int .i64 t192, .int .i64 t193] 43 (0, 0)) (by (with_reducible repeat (first | refine blk_drewN ?_ _ | refine blk_drew ?_ | refine blk_alloc ?_ _)); exact BK195.out) hb); have n2_ := Aside0.mk (blk_below (g := gb208) (o := .cells #[.int .i64 t196, .bool t197, .bool t198, .int .i64 t199, .int .i64 t200, .int .i64 t201] 43 (0, 0)) (by (with_reducible repeat (first | refine blk_drewN ?_ _ | refine blk_drew ?_ | refine blk_alloc ?_ _)); exact BK208.out) hb); have n3_ := Aside0.mk (blk_below (g := gb209) (o := .cells #[.int .i64 t202, .bool t203, .bool t204, .int .i64 t205, .int .i64 t206, .int .i64 t207] 43 (0, 0)) (by (with_reducible repeat (first | refine blk_drewN ?_ _ | refine blk_drew ?_ | refine blk_alloc ?_ _)); exact BK209.out) hb); have n4_ := Aside0.mk (below_step (by repeat (first | (with_reducible first | exact HB.out | apply below_alloc | apply pw_below_drewN | apply below_drew1 | refine below_set ?_ GE194.out | refine below_set ?_ GE195.out | refine below_set ?_ GE208.out | refine below_set ?_ GE209.out) | exact HB.out)) hb); clear BK194; clear BK195; clear BK208; clear BK209; clear HB; have BK194 := n0_; have BK195 := n1_; have BK208 := n2_; have BK209 := n3_; have HB := n4_; clear n0_ n1_ n2_ n3_ n4_; (try clear hb); (try clear hb2); (try clear hk); (try clear hi); have hcz92_0 : w91.cell? ⟨gb194, 0, none⟩ = some (.int .i64 t182) := (blk_cell BK194.out 0).trans rfl; have hcz92_1 : w91.cell? ⟨gb194, 1, none⟩ = some (.bool t183) := (blk_cell BK194.out 1).trans rfl; have hcz92_2 : w91.cell? ⟨gb194, 2, none⟩ = some (.bool t184) := (blk_cell BK194.out 2).trans rfl; have hcz92_3 : w91.cell? ⟨gb194, 3, none⟩ = some (.int .i64 t185) := (blk_cell BK194.out 3).trans rfl; have hcz92_4 : w91.cell? ⟨gb194, 4, none⟩ = some (.int .i64 t186) := (blk_cell BK194.out 4).trans rfl; have hcz92_5 : w91.cell? ⟨gb194, 5, none⟩ = some (.int .i64 t187) := (blk_cell BK194.out 5).trans rfl; have hfz92_0 := blk_frozen BK194.out 0; have hfz92_1 := blk_frozen BK194.out 1; have hfz92_2 := blk_frozen BK194.out 2; have hfz92_3 := blk_frozen BK194.out 3; have hfz92_4 := blk_frozen BK194.out 4; have hfz92_5 := blk_frozen BK194.out 5; have hcz93_0 : w91.cell? ⟨gb195, 0, none⟩ = some (.int .i64 t188) := (blk_cell BK195.out 0).trans rfl; have hcz93_1 : w91.cell? ⟨gb195, 1, none⟩ = some (.bool t189) := (blk_cell BK195.out 1).trans rfl; have hcz93_2 : w91.cell? ⟨gb195, 2, none⟩ = some (.bool t190) := (blk_cell BK195.out 2).trans rfl; have hcz93_3 : w91.cell? ⟨gb195, 3, none⟩ = some (.int .i64 t191) := (blk_cell BK195.out 3).trans rfl; have hcz93_4 : w91.cell? ⟨gb195, 4, none⟩ = some (.int .i64 t192) := (blk_cell BK195.out 4).trans rfl; have hcz93_5 : w91.cell? ⟨gb195, 5, none⟩ = some (.int .i64 t193) := (blk_cell BK195.out 5).trans rfl; have hfz93_0 := blk_frozen BK195.out 0; have hfz93_1 := blk_frozen BK195.out 1; have hfz93_2 := blk_frozen BK195.out 2; have hfz93_3 := blk_frozen BK195.out 3; have hfz93_4 := blk_frozen BK195.out 4; have hfz93_5 := blk_frozen BK195.out 5))
                    go_meet
                    case rel => exact ⟨_, (false), (by first | rfl | (simp; done) | (simp [*]; done)), H', ⟨by have := HJ2.out; first | omega | exact Nat.le_refl _⟩, ⟨by (with_reducible repeat (first | refine blk_drewN ?_ _ | refine blk_drew ?_ | refine blk_alloc ?_ _)); exact BK194.out⟩, ⟨by (with_reducible repeat (first | refine blk_drewN ?_ _ | refine blk_drew ?_ | refine blk_alloc ?_ _)); exact BK195.out⟩, ⟨by (with_reducible repeat (first | refine blk_drewN ?_ _ | refine blk_drew ?_ | refine blk_alloc ?_ _)); exact BK208.out⟩, ⟨by (with_reducible repeat (first | refine blk_drewN ?_ _ | refine blk_drew ?_ | refine blk_alloc ?_ _)); exact BK209.out⟩, ⟨by repeat (first | (with_reducible first | exact HB.out | apply below_alloc | apply pw_below_drewN | apply below_drew1 | refine below_set ?_ GE194.out | refine below_set ?_ GE195.out | refine below_set ?_ GE208.out | refine below_set ?_ GE209.out) | exact HB.out)⟩⟩
              · replace c57 := Bool.eq_false_iff.mpr c57
                subst c57
                have H1 : (if t187 = t193 then (laws_FnClaims.j1 kj2 false false t182 t183 t184 t185 t186 t187 t188 t189 t190 t191 t192 t193 t196 t197 t198 t199 t200 t201) else (laws_FnClaims.j1 kj2 false (!t211) t182 t183 t184 t185 t186 t187 t188 t189 t190 t191 t192 t193 t196 t197 t198 t199 t200 t201)) = some r := by rw [if_neg (show ¬ (false = true) by decide)] at H; exact H
                clear H
                have H := H1
                clear H1
                by_cases c94 : t187 = t193
                · rw [if_pos c94] at H
                  have c94b0 : (t187 == t193) = true := beq_iff_eq.mpr c94
                  have c94b1 : (t187 != t193) = false := bne_eq_false_iff_eq.mpr c94
                  clear c94
                  have H' := Aside0.mk H
                  clear H
                  have hnb95 := NB194_195.out
                  have hnc95 := NB195_194.out
                  have hnb96 := NB194_208.out
                  have hnc96 := NB208_194.out
                  have hnb97 := NB194_209.out
                  have hnc97 := NB209_194.out
                  have hcz98_0 : w34.cell? ⟨gb194, 0, none⟩ = some (.int .i64 t182) := (blk_cell BK194.out 0).trans rfl
                  have hcz98_1 : w34.cell? ⟨gb194, 1, none⟩ = some (.bool t183) := (blk_cell BK194.out 1).trans rfl
                  have hcz98_2 : w34.cell? ⟨gb194, 2, none⟩ = some (.bool t184) := (blk_cell BK194.out 2).trans rfl
                  have hcz98_3 : w34.cell? ⟨gb194, 3, none⟩ = some (.int .i64 t185) := (blk_cell BK194.out 3).trans rfl
                  have hcz98_4 : w34.cell? ⟨gb194, 4, none⟩ = some (.int .i64 t186) := (blk_cell BK194.out 4).trans rfl
                  have hcz98_5 : w34.cell? ⟨gb194, 5, none⟩ = some (.int .i64 t187) := (blk_cell BK194.out 5).trans rfl
                  have hfz98_0 := blk_frozen BK194.out 0
                  have hfz98_1 := blk_frozen BK194.out 1
                  have hfz98_2 := blk_frozen BK194.out 2
                  have hfz98_3 := blk_frozen BK194.out 3
                  have hfz98_4 := blk_frozen BK194.out 4
                  have hfz98_5 := blk_frozen BK194.out 5
                  have hnb99 := NB195_208.out
                  have hnc99 := NB208_195.out
                  have hnb100 := NB195_209.out
                  have hnc100 := NB209_195.out
                  have hcz101_0 : w34.cell? ⟨gb195, 0, none⟩ = some (.int .i64 t188) := (blk_cell BK195.out 0).trans rfl
                  have hcz101_1 : w34.cell? ⟨gb195, 1, none⟩ = some (.bool t189) := (blk_cell BK195.out 1).trans rfl
                  have hcz101_2 : w34.cell? ⟨gb195, 2, none⟩ = some (.bool t190) := (blk_cell BK195.out 2).trans rfl
                  have hcz101_3 : w34.cell? ⟨gb195, 3, none⟩ = some (.int .i64 t191) := (blk_cell BK195.out 3).trans rfl
                  have hcz101_4 : w34.cell? ⟨gb195, 4, none⟩ = some (.int .i64 t192) := (blk_cell BK195.out 4).trans rfl
                  have hcz101_5 : w34.cell? ⟨gb195, 5, none⟩ = some (.int .i64 t193) := (blk_cell BK195.out 5).trans rfl
                  have hfz101_0 := blk_frozen BK195.out 0
                  have hfz101_1 := blk_frozen BK195.out 1
                  have hfz101_2 := blk_frozen BK195.out 2
                  have hfz101_3 := blk_frozen BK195.out 3
                  have hfz101_4 := blk_frozen BK195.out 4
                  have hfz101_5 := blk_frozen BK195.out 5
                  go_wp2_with (first | ((with_reducible refine gate_callee (f := 30) rfl ?_); refine goesL_ (some 36) rfl rfl Try.func30 (by kernel_rfl) rfl #[.agg #[.int .i64 t182, .bool t183, .bool t184, .int .i64 t185, .int .i64 t186, .int .i64 t187], .agg #[.int .i64 t188, .bool t189, .bool t190, .int .i64 t191, .int .i64 t192, .int .i64 t193]] rfl (by (try simp only [List.map_toArray, List.map_cons, List.map_nil]); first | done | rfl | (simp only [List.length_drop, List.length_take]; rfl)) ?_; (with_reducible refine (spec_Stronger.calls t182 t183 t184 t185 t186 t187 t188 t189 t190 t191 t192 t193 t212 _ A35.out).mono ?_); rintro e w102 ⟨rfl, hb⟩; refine ⟨_, rfl, ?_⟩; have n0_ := Aside0.mk (blk_below (g := gb194) (o := .cells #[.int .i64 t182, .bool t183, .bool t184, .int .i64 t185, .int .i64 t186, .int .i64 t187] 43 (0, 0)) (by (with_reducible repeat (first | refine blk_drewN ?_ _ | refine blk_drew ?_ | refine blk_alloc ?_ _)); exact BK194.out) hb); have n1_ := Aside0.mk (blk_below (g := gb195) (o := .cells #[.int .i64 t188, .bool t189, .bool t190, .int .i64 t191, .int .i64 t192, .int .i64 t193] 43 (0, 0)) (by (with_reducible repeat (first | refine blk_drewN ?_ _ | refine blk_drew ?_ | refine blk_alloc ?_ _)); exact BK195.out) hb); have n2_ := Aside0.mk (blk_below (g := gb208) (o := .cells #[.int .i64 t196, .bool t197, .bool t198, .int .i64 t199, .int .i64 t200, .int .i64 t201] 43 (0, 0)) (by (with_reducible repeat (first | refine blk_drewN ?_ _ | refine blk_drew ?_ | refine blk_alloc ?_ _)); exact BK208.out) hb); have n3_ := Aside0.mk (blk_below (g := gb209) (o := .cells #[.int .i64 t202, .bool t203, .bool t204, .int .i64 t205, .int .i64 t206, .int .i64 t207] 43 (0, 0)) (by (with_reducible repeat (first | refine blk_drewN ?_ _ | refine blk_drew ?_ | refine blk_alloc ?_ _)); exact BK209.out) hb); have n4_ := Aside0.mk (below_step (by repeat (first | (with_reducible first | exact HB.out | apply below_alloc | apply pw_below_drewN | apply below_drew1 | refine below_set ?_ GE194.out | refine below_set ?_ GE195.out | refine below_set ?_ GE208.out | refine below_set ?_ GE209.out) | exact HB.out)) hb); clear BK194; clear BK195; clear BK208; clear BK209; clear HB; have BK194 := n0_; have BK195 := n1_; have BK208 := n2_; have BK209 := n3_; have HB := n4_; clear n0_ n1_ n2_ n3_ n4_; (try clear hb); (try clear hb2); (try clear hk); (try clear hi); have hcz103_0 : w102.cell? ⟨gb194, 0, none⟩ = some (.int .i64 t182) := (blk_cell BK194.out 0).trans rfl; have hcz103_1 : w102.cell? ⟨gb194, 1, none⟩ = some (.bool t183) := (blk_cell BK194.out 1).trans rfl; have hcz103_2 : w102.cell? ⟨gb194, 2, none⟩ = some (.bool t184) := (blk_cell BK194.out 2).trans rfl; have hcz103_3 : w102.cell? ⟨gb194, 3, none⟩ = some (.int .i64 t185) := (blk_cell BK194.out 3).trans rfl; have hcz103_4 : w102.cell? ⟨gb194, 4, none⟩ = some (.int .i64 t186) := (blk_cell BK194.out 4).trans rfl; have hcz103_5 : w102.cell? ⟨gb194, 5, none⟩ = some (.int .i64 t187) := (blk_cell BK194.out 5).trans rfl; have hfz103_0 := blk_frozen BK194.out 0; have hfz103_1 := blk_frozen BK194.out 1; have hfz103_2 := blk_frozen BK194.out 2; have hfz103_3 := blk_frozen BK194.out 3; have hfz103_4 := blk_frozen BK194.out 4; have hfz103_5 := blk_frozen BK194.out 5) | (go_at_call 32; (with_reducible refine (impl_Stronger.calls kj2 t182 t183 t184 t185 t186 t187 t182 t183 t184 t185 t186 t187 false _ A45.out).mono ?_); rintro e w104 ⟨rfl, hb⟩; have n0_ := Aside0.mk (blk_below (g := gb194) (o := .cells #[.int .i64 t182, .bool t183, .bool t184, .int .i64 t185, .int .i64 t186, .int .i64 t187] 43 (0, 0)) (by (with_reducible repeat (first | refine blk_drewN ?_ _ | refine blk_drew ?_ | refine blk_alloc ?_ _)); exact BK194.out) hb); have n1_ := Aside0.mk (blk_below (g := gb195) (o := .cells #[.int .i64 t188, .bool t189, .bool t190, .int .i64 t191, .int .i64 t192, .int .i64 t193] 43 (0, 0)) (by (with_reducible repeat (first | refine blk_drewN ?_ _ | refine blk_drew ?_ | refine blk_alloc ?_ _)); exact BK195.out) hb); have n2_ := Aside0.mk (blk_below (g := gb208) (o := .cells #[.int .i64 t196, .bool t197, .bool t198, .int .i64 t199, .int .i64 t200, .int .i64 t201] 43 (0, 0)) (by (with_reducible repeat (first | refine blk_drewN ?_ _ | refine blk_drew ?_ | refine blk_alloc ?_ _)); exact BK208.out) hb); have n3_ := Aside0.mk (blk_below (g := gb209) (o := .cells #[.int .i64 t202, .bool t203, .bool t204, .int .i64 t205, .int .i64 t206, .int .i64 t207] 43 (0, 0)) (by (with_reducible repeat (first | refine blk_drewN ?_ _ | refine blk_drew ?_ | refine blk_alloc ?_ _)); exact BK209.out) hb); have n4_ := Aside0.mk (below_step (by repeat (first | (with_reducible first | exact HB.out | apply below_alloc | apply pw_below_drewN | apply below_drew1 | refine below_set ?_ GE194.out | refine below_set ?_ GE195.out | refine below_set ?_ GE208.out | refine below_set ?_ GE209.out) | exact HB.out)) hb); clear BK194; clear BK195; clear BK208; clear BK209; clear HB; have BK194 := n0_; have BK195 := n1_; have BK208 := n2_; have BK209 := n3_; have HB := n4_; clear n0_ n1_ n2_ n3_ n4_; (try clear hb); (try clear hb2); (try clear hk); (try clear hi); have hcz105_0 : w104.cell? ⟨gb194, 0, none⟩ = some (.int .i64 t182) := (blk_cell BK194.out 0).trans rfl; have hcz105_1 : w104.cell? ⟨gb194, 1, none⟩ = some (.bool t183) := (blk_cell BK194.out 1).trans rfl; have hcz105_2 : w104.cell? ⟨gb194, 2, none⟩ = some (.bool t184) := (blk_cell BK194.out 2).trans rfl; have hcz105_3 : w104.cell? ⟨gb194, 3, none⟩ = some (.int .i64 t185) := (blk_cell BK194.out 3).trans rfl; have hcz105_4 : w104.cell? ⟨gb194, 4, none⟩ = some (.int .i64 t186) := (blk_cell BK194.out 4).trans rfl; have hcz105_5 : w104.cell? ⟨gb194, 5, none⟩ = some (.int .i64 t187) := (blk_cell BK194.out 5).trans rfl; have hfz105_0 := blk_frozen BK194.out 0; have hfz105_1 := blk_frozen BK194.out 1; have hfz105_2 := blk_frozen BK194.out 2; have hfz105_3 := blk_frozen BK194.out 3; have hfz105_4 := blk_frozen BK194.out 4; have hfz105_5 := blk_frozen BK194.out 5; have hcz106_0 : w104.cell? ⟨gb195, 0, none⟩ = some (.int .i64 t188) := (blk_cell BK195.out 0).trans rfl; have hcz106_1 : w104.cell? ⟨gb195, 1, none⟩ = some (.bool t189) := (blk_cell BK195.out 1).trans rfl; have hcz106_2 : w104.cell? ⟨gb195, 2, none⟩ = some (.bool t190) := (blk_cell BK195.out 2).trans rfl; have hcz106_3 : w104.cell? ⟨gb195, 3, none⟩ = some (.int .i64 t191) := (blk_cell BK195.out 3).trans rfl; have hcz106_4 : w104.cell? ⟨gb195, 4, none⟩ = some (.int .i64 t192) := (blk_cell BK195.out 4).trans rfl; have hcz106_5 : w104.cell? ⟨gb195, 5, none⟩ = some (.int .i64 t193) := (blk_cell BK195.out 5).trans rfl; have hfz106_0 := blk_frozen BK195.out 0; have hfz106_1 := blk_frozen BK195.out 1; have hfz106_2 := blk_frozen BK195.out 2; have hfz106_3 := blk_frozen BK195.out 3; have hfz106_4 := blk_frozen BK195.out 4; have hfz106_5 := blk_frozen BK195.out 5))
                  go_meet
                  case rel => exact ⟨_, (false), (by first | rfl | (simp; done) | (simp [*]; done)), H', ⟨by have := HJ2.out; first | omega | exact Nat.le_refl _⟩, ⟨by (with_reducible repeat (first | refine blk_drewN ?_ _ | refine blk_drew ?_ | refine blk_alloc ?_ _)); exact BK194.out⟩, ⟨by (with_reducible repeat (first | refine blk_drewN ?_ _ | refine blk_drew ?_ | refine blk_alloc ?_ _)); exact BK195.out⟩, ⟨by (with_reducible repeat (first | refine blk_drewN ?_ _ | refine blk_drew ?_ | refine blk_alloc ?_ _)); exact BK208.out⟩, ⟨by (with_reducible repeat (first | refine blk_drewN ?_ _ | refine blk_drew ?_ | refine blk_alloc ?_ _)); exact BK209.out⟩, ⟨by repeat (first | (with_reducible first | exact HB.out | apply below_alloc | apply pw_below_drewN | apply below_drew1 | refine below_set ?_ GE194.out | refine below_set ?_ GE195.out | refine below_set ?_ GE208.out | refine below_set ?_ GE209.out) | exact HB.out)⟩⟩
                · rw [if_neg c94] at H
                  have c94b0 : (t187 == t193) = false := beq_eq_false_iff_ne.mpr c94
                  have c94b1 : (t187 != t193) = true := bne_iff_ne.mpr c94
                  have H' := Aside0.mk H
                  clear H
                  have hnb107 := NB194_195.out
                  have hnc107 := NB195_194.out
                  have hnb108 := NB194_208.out
                  have hnc108 := NB208_194.out
                  have hnb109 := NB194_209.out
                  have hnc109 := NB209_194.out
                  have hcz110_0 : w34.cell? ⟨gb194, 0, none⟩ = some (.int .i64 t182) := (blk_cell BK194.out 0).trans rfl
                  have hcz110_1 : w34.cell? ⟨gb194, 1, none⟩ = some (.bool t183) := (blk_cell BK194.out 1).trans rfl
                  have hcz110_2 : w34.cell? ⟨gb194, 2, none⟩ = some (.bool t184) := (blk_cell BK194.out 2).trans rfl
                  have hcz110_3 : w34.cell? ⟨gb194, 3, none⟩ = some (.int .i64 t185) := (blk_cell BK194.out 3).trans rfl
                  have hcz110_4 : w34.cell? ⟨gb194, 4, none⟩ = some (.int .i64 t186) := (blk_cell BK194.out 4).trans rfl
                  have hcz110_5 : w34.cell? ⟨gb194, 5, none⟩ = some (.int .i64 t187) := (blk_cell BK194.out 5).trans rfl
                  have hfz110_0 := blk_frozen BK194.out 0
                  have hfz110_1 := blk_frozen BK194.out 1
                  have hfz110_2 := blk_frozen BK194.out 2
                  have hfz110_3 := blk_frozen BK194.out 3
                  have hfz110_4 := blk_frozen BK194.out 4
                  have hfz110_5 := blk_frozen BK194.out 5
                  have hnb111 := NB195_208.out
                  have hnc111 := NB208_195.out
                  have hnb112 := NB195_209.out
                  have hnc112 := NB209_195.out
                  have hcz113_0 : w34.cell? ⟨gb195, 0, none⟩ = some (.int .i64 t188) := (blk_cell BK195.out 0).trans rfl
                  have hcz113_1 : w34.cell? ⟨gb195, 1, none⟩ = some (.bool t189) := (blk_cell BK195.out 1).trans rfl
                  have hcz113_2 : w34.cell? ⟨gb195, 2, none⟩ = some (.bool t190) := (blk_cell BK195.out 2).trans rfl
                  have hcz113_3 : w34.cell? ⟨gb195, 3, none⟩ = some (.int .i64 t191) := (blk_cell BK195.out 3).trans rfl
                  have hcz113_4 : w34.cell? ⟨gb195, 4, none⟩ = some (.int .i64 t192) := (blk_cell BK195.out 4).trans rfl
                  have hcz113_5 : w34.cell? ⟨gb195, 5, none⟩ = some (.int .i64 t193) := (blk_cell BK195.out 5).trans rfl
                  have hfz113_0 := blk_frozen BK195.out 0
                  have hfz113_1 := blk_frozen BK195.out 1
                  have hfz113_2 := blk_frozen BK195.out 2
                  have hfz113_3 := blk_frozen BK195.out 3
                  have hfz113_4 := blk_frozen BK195.out 4
                  have hfz113_5 := blk_frozen BK195.out 5
                  go_wp2_with (first | ((with_reducible refine gate_callee (f := 30) rfl ?_); refine goesL_ (some 36) rfl rfl Try.func30 (by kernel_rfl) rfl #[.agg #[.int .i64 t182, .bool t183, .bool t184, .int .i64 t185, .int .i64 t186, .int .i64 t187], .agg #[.int .i64 t188, .bool t189, .bool t190, .int .i64 t191, .int .i64 t192, .int .i64 t193]] rfl (by (try simp only [List.map_toArray, List.map_cons, List.map_nil]); first | done | rfl | (simp only [List.length_drop, List.length_take]; rfl)) ?_; (with_reducible refine (spec_Stronger.calls t182 t183 t184 t185 t186 t187 t188 t189 t190 t191 t192 t193 t212 _ A35.out).mono ?_); rintro e w114 ⟨rfl, hb⟩; refine ⟨_, rfl, ?_⟩; have n0_ := Aside0.mk (blk_below (g := gb194) (o := .cells #[.int .i64 t182, .bool t183, .bool t184, .int .i64 t185, .int .i64 t186, .int .i64 t187] 43 (0, 0)) (by (with_reducible repeat (first | refine blk_drewN ?_ _ | refine blk_drew ?_ | refine blk_alloc ?_ _)); exact BK194.out) hb); have n1_ := Aside0.mk (blk_below (g := gb195) (o := .cells #[.int .i64 t188, .bool t189, .bool t190, .int .i64 t191, .int .i64 t192, .int .i64 t193] 43 (0, 0)) (by (with_reducible repeat (first | refine blk_drewN ?_ _ | refine blk_drew ?_ | refine blk_alloc ?_ _)); exact BK195.out) hb); have n2_ := Aside0.mk (blk_below (g := gb208) (o := .cells #[.int .i64 t196, .bool t197, .bool t198, .int .i64 t199, .int .i64 t200, .int .i64 t201] 43 (0, 0)) (by (with_reducible repeat (first | refine blk_drewN ?_ _ | refine blk_drew ?_ | refine blk_alloc ?_ _)); exact BK208.out) hb); have n3_ := Aside0.mk (blk_below (g := gb209) (o := .cells #[.int .i64 t202, .bool t203, .bool t204, .int .i64 t205, .int .i64 t206, .int .i64 t207] 43 (0, 0)) (by (with_reducible repeat (first | refine blk_drewN ?_ _ | refine blk_drew ?_ | refine blk_alloc ?_ _)); exact BK209.out) hb); have n4_ := Aside0.mk (below_step (by repeat (first | (with_reducible first | exact HB.out | apply below_alloc | apply pw_below_drewN | apply below_drew1 | refine below_set ?_ GE194.out | refine below_set ?_ GE195.out | refine below_set ?_ GE208.out | refine below_set ?_ GE209.out) | exact HB.out)) hb); clear BK194; clear BK195; clear BK208; clear BK209; clear HB; have BK194 := n0_; have BK195 := n1_; have BK208 := n2_; have BK209 := n3_; have HB := n4_; clear n0_ n1_ n2_ n3_ n4_; (try clear hb); (try clear hb2); (try clear hk); (try clear hi); have hcz115_0 : w114.cell? ⟨gb194, 0, none⟩ = some (.int .i64 t182) := (blk_cell BK194.out 0).trans rfl; have hcz115_1 : w114.cell? ⟨gb194, 1, none⟩ = some (.bool t183) := (blk_cell BK194.out 1).trans rfl; have hcz115_2 : w114.cell? ⟨gb194, 2, none⟩ = some (.bool t184) := (blk_cell BK194.out 2).trans rfl; have hcz115_3 : w114.cell? ⟨gb194, 3, none⟩ = some (.int .i64 t185) := (blk_cell BK194.out 3).trans rfl; have hcz115_4 : w114.cell? ⟨gb194, 4, none⟩ = some (.int .i64 t186) := (blk_cell BK194.out 4).trans rfl; have hcz115_5 : w114.cell? ⟨gb194, 5, none⟩ = some (.int .i64 t187) := (blk_cell BK194.out 5).trans rfl; have hfz115_0 := blk_frozen BK194.out 0; have hfz115_1 := blk_frozen BK194.out 1; have hfz115_2 := blk_frozen BK194.out 2; have hfz115_3 := blk_frozen BK194.out 3; have hfz115_4 := blk_frozen BK194.out 4; have hfz115_5 := blk_frozen BK194.out 5) | (go_at_call 32; (with_reducible refine (impl_Stronger.calls kj2 t182 t183 t184 t185 t186 t187 t182 t183 t184 t185 t186 t187 false _ A45.out).mono ?_); rintro e w116 ⟨rfl, hb⟩; have n0_ := Aside0.mk (blk_below (g := gb194) (o := .cells #[.int .i64 t182, .bool t183, .bool t184, .int .i64 t185, .int .i64 t186, .int .i64 t187] 43 (0, 0)) (by (with_reducible repeat (first | refine blk_drewN ?_ _ | refine blk_drew ?_ | refine blk_alloc ?_ _)); exact BK194.out) hb); have n1_ := Aside0.mk (blk_below (g := gb195) (o := .cells #[.int .i64 t188, .bool t189, .bool t190, .int .i64 t191, .int .i64 t192, .int .i64 t193] 43 (0, 0)) (by (with_reducible repeat (first | refine blk_drewN ?_ _ | refine blk_drew ?_ | refine blk_alloc ?_ _)); exact BK195.out) hb); have n2_ := Aside0.mk (blk_below (g := gb208) (o := .cells #[.int .i64 t196, .bool t197, .bool t198, .int .i64 t199, .int .i64 t200, .int .i64 t201] 43 (0, 0)) (by (with_reducible repeat (first | refine blk_drewN ?_ _ | refine blk_drew ?_ | refine blk_alloc ?_ _)); exact BK208.out) hb); have n3_ := Aside0.mk (blk_below (g := gb209) (o := .cells #[.int .i64 t202, .bool t203, .bool t204, .int .i64 t205, .int .i64 t206, .int .i64 t207] 43 (0, 0)) (by (with_reducible repeat (first | refine blk_drewN ?_ _ | refine blk_drew ?_ | refine blk_alloc ?_ _)); exact BK209.out) hb); have n4_ := Aside0.mk (below_step (by repeat (first | (with_reducible first | exact HB.out | apply below_alloc | apply pw_below_drewN | apply below_drew1 | refine below_set ?_ GE194.out | refine below_set ?_ GE195.out | refine below_set ?_ GE208.out | refine below_set ?_ GE209.out) | exact HB.out)) hb); clear BK194; clear BK195; clear BK208; clear BK209; clear HB; have BK194 := n0_; have BK195 := n1_; have BK208 := n2_; have BK209 := n3_; have HB := n4_; clear n0_ n1_ n2_ n3_ n4_; (try clear hb); (try clear hb2); (try clear hk); (try clear hi); have hcz117_0 : w116.cell? ⟨gb194, 0, none⟩ = some (.int .i64 t182) := (blk_cell BK194.out 0).trans rfl; have hcz117_1 : w116.cell? ⟨gb194, 1, none⟩ = some (.bool t183) := (blk_cell BK194.out 1).trans rfl; have hcz117_2 : w116.cell? ⟨gb194, 2, none⟩ = some (.bool t184) := (blk_cell BK194.out 2).trans rfl; have hcz117_3 : w116.cell? ⟨gb194, 3, none⟩ = some (.int .i64 t185) := (blk_cell BK194.out 3).trans rfl; have hcz117_4 : w116.cell? ⟨gb194, 4, none⟩ = some (.int .i64 t186) := (blk_cell BK194.out 4).trans rfl; have hcz117_5 : w116.cell? ⟨gb194, 5, none⟩ = some (.int .i64 t187) := (blk_cell BK194.out 5).trans rfl; have hfz117_0 := blk_frozen BK194.out 0; have hfz117_1 := blk_frozen BK194.out 1; have hfz117_2 := blk_frozen BK194.out 2; have hfz117_3 := blk_frozen BK194.out 3; have hfz117_4 := blk_frozen BK194.out 4; have hfz117_5 := blk_frozen BK194.out 5; have hcz118_0 : w116.cell? ⟨gb195, 0, none⟩ = some (.int .i64 t188) := (blk_cell BK195.out 0).trans rfl; have hcz118_1 : w116.cell? ⟨gb195, 1, none⟩ = some (.bool t189) := (blk_cell BK195.out 1).trans rfl; have hcz118_2 : w116.cell? ⟨gb195, 2, none⟩ = some (.bool t190) := (blk_cell BK195.out 2).trans rfl; have hcz118_3 : w116.cell? ⟨gb195, 3, none⟩ = some (.int .i64 t191) := (blk_cell BK195.out 3).trans rfl; have hcz118_4 : w116.cell? ⟨gb195, 4, none⟩ = some (.int .i64 t192) := (blk_cell BK195.out 4).trans rfl; have hcz118_5 : w116.cell? ⟨gb195, 5, none⟩ = some (.int .i64 t193) := (blk_cell BK195.out 5).trans rfl; have hfz118_0 := blk_frozen BK195.out 0; have hfz118_1 := blk_frozen BK195.out 1; have hfz118_2 := blk_frozen BK195.out 2; have hfz118_3 := blk_frozen BK195.out 3; have hfz118_4 := blk_frozen BK195.out 4; have hfz118_5 := blk_frozen BK195.out 5))
                  go_meet
                  case rel => exact ⟨_, (!t211), (by first | rfl | (simp; done) | (simp [*]; done)), H', ⟨by have := HJ2.out; first | omega | exact Nat.le_refl _⟩, ⟨by (with_reducible repeat (first | refine blk_drewN ?_ _ | refine blk_drew ?_ | refine blk_alloc ?_ _)); exact BK194.out⟩, ⟨by (with_reducible repeat (first | refine blk_drewN ?_ _ | refine blk_drew ?_ | refine blk_alloc ?_ _)); exact BK195.out⟩, ⟨by (with_reducible repeat (first | refine blk_drewN ?_ _ | refine blk_drew ?_ | refine blk_alloc ?_ _)); exact BK208.out⟩, ⟨by (with_reducible repeat (first | refine blk_drewN ?_ _ | refine blk_drew ?_ | refine blk_alloc ?_ _)); exact BK209.out⟩, ⟨by repeat (first | (with_reducible first | exact HB.out | apply below_alloc | apply pw_below_drewN | apply below_drew1 | refine below_set ?_ GE194.out | refine below_set ?_ GE195.out | refine below_set ?_ GE208.out | refine below_set ?_ GE209.out) | exact HB.out)⟩⟩
        case rest =>
          clear HC12
          try clear c1
          try clear c2
          try clear p2
          try clear c3
          try clear c4
          try clear c5
          try clear c6
          try clear c7
          try clear c8
          try clear c9
          try clear c10
          try clear c11
          try clear c12
          try clear c16
          try clear c22
          try clear c23
          try clear c24
          try clear c26
          try clear c27
          try clear c30
          try clear c32
          try clear c36
          try clear c36b0
          try clear c36b1
          try clear c36b2
          try clear c37
          try clear c38
          try clear c39
          try clear c41
          try clear c42
          try clear c46
          try clear c47
          try clear c48
          try clear c49
          try clear c51
          try clear c52
          try clear c57
          try clear c58
          try clear c59
          try clear c60
          try clear c61
          try clear c63
          try clear c64
          try clear c69
          try clear c69b0
          try clear c69b1
          try clear c70
          try clear c71
          try clear c72
          try clear c74
          try clear c75
          try clear c82
          try clear c83
          try clear c84
          try clear c86
          try clear c87
          try clear c94
          try clear c94b0
          try clear c94b1
          try clear c95
          try clear c96
          try clear c97
          try clear c99
          try clear c100
          try clear c107
          try clear c108
          try clear c109
          try clear c111
          try clear c112
          try clear hcz101_0
          try clear hcz101_1
          try clear hcz101_2
          try clear hcz101_3
          try clear hcz101_4
          try clear hcz101_5
          try clear hcz103_0
          try clear hcz103_1
          try clear hcz103_2
          try clear hcz103_3
          try clear hcz103_4
          try clear hcz103_5
          try clear hcz105_0
          try clear hcz105_1
          try clear hcz105_2
          try clear hcz105_3
          try clear hcz105_4
          try clear hcz105_5
          try clear hcz106_0
          try clear hcz106_1
          try clear hcz106_2
          try clear hcz106_3
          try clear hcz106_4
          try clear hcz106_5
          try clear hcz110_0
          try clear hcz110_1
          try clear hcz110_2
          try clear hcz110_3
          try clear hcz110_4
          try clear hcz110_5
          try clear hcz113_0
          try clear hcz113_1
          try clear hcz113_2
          try clear hcz113_3
          try clear hcz113_4
          try clear hcz113_5
          try clear hcz115_0
          try clear hcz115_1
          try clear hcz115_2
          try clear hcz115_3
          try clear hcz115_4
          try clear hcz115_5
          try clear hcz117_0
          try clear hcz117_1
          try clear hcz117_2
          try clear hcz117_3
          try clear hcz117_4
          try clear hcz117_5
          try clear hcz118_0
          try clear hcz118_1
          try clear hcz118_2
          try clear hcz118_3
          try clear hcz118_4
          try clear hcz118_5
          try clear hcz17_0
          try clear hcz17_1
          try clear hcz17_2
          try clear hcz17_3
          try clear hcz17_4
          try clear hcz17_5
          try clear hcz18_0
          try clear hcz18_1
          try clear hcz18_2
          try clear hcz18_3
          try clear hcz18_4
          try clear hcz18_5
          try clear hcz25_0
          try clear hcz25_1
          try clear hcz25_2
          try clear hcz25_3
          try clear hcz25_4
          try clear hcz25_5
          try clear hcz28_0
          try clear hcz28_1
          try clear hcz28_2
          try clear hcz28_3
          try clear hcz28_4
          try clear hcz28_5
          try clear hcz29_0
          try clear hcz29_1
          try clear hcz29_2
          try clear hcz29_3
          try clear hcz29_4
          try clear hcz29_5
          try clear hcz30_0
          try clear hcz30_1
          try clear hcz30_2
          try clear hcz30_3
          try clear hcz30_4
          try clear hcz30_5
          try clear hcz32_0
          try clear hcz32_1
          try clear hcz32_2
          try clear hcz32_3
          try clear hcz32_4
          try clear hcz32_5
          try clear hcz33_0
          try clear hcz33_1
          try clear hcz33_2
          try clear hcz33_3
          try clear hcz33_4
          try clear hcz33_5
          try clear hcz40_0
          try clear hcz40_1
          try clear hcz40_2
          try clear hcz40_3
          try clear hcz40_4
          try clear hcz40_5
          try clear hcz43_0
          try clear hcz43_1
          try clear hcz43_2
          try clear hcz43_3
          try clear hcz43_4
          try clear hcz43_5
          try clear hcz50_0
          try clear hcz50_1
          try clear hcz50_2
          try clear hcz50_3
          try clear hcz50_4
          try clear hcz50_5
          try clear hcz53_0
          try clear hcz53_1
          try clear hcz53_2
          try clear hcz53_3
          try clear hcz53_4
          try clear hcz53_5
          try clear hcz55_0
          try clear hcz55_1
          try clear hcz55_2
          try clear hcz55_3
          try clear hcz55_4
          try clear hcz55_5
          try clear hcz62_0
          try clear hcz62_1
          try clear hcz62_2
          try clear hcz62_3
          try clear hcz62_4
          try clear hcz62_5
          try clear hcz65_0
          try clear hcz65_1
          try clear hcz65_2
          try clear hcz65_3
          try clear hcz65_4
          try clear hcz65_5
          try clear hcz67_0
          try clear hcz67_1
          try clear hcz67_2
          try clear hcz67_3
          try clear hcz67_4
          try clear hcz67_5
          try clear hcz73_0
          try clear hcz73_1
          try clear hcz73_2
          try clear hcz73_3
          try clear hcz73_4
          try clear hcz73_5
          try clear hcz76_0
          try clear hcz76_1
          try clear hcz76_2
          try clear hcz76_3
          try clear hcz76_4
          try clear hcz76_5
          try clear hcz78_0
          try clear hcz78_1
          try clear hcz78_2
          try clear hcz78_3
          try clear hcz78_4
          try clear hcz78_5
          try clear hcz80_0
          try clear hcz80_1
          try clear hcz80_2
          try clear hcz80_3
          try clear hcz80_4
          try clear hcz80_5
          try clear hcz81_0
          try clear hcz81_1
          try clear hcz81_2
          try clear hcz81_3
          try clear hcz81_4
          try clear hcz81_5
          try clear hcz85_0
          try clear hcz85_1
          try clear hcz85_2
          try clear hcz85_3
          try clear hcz85_4
          try clear hcz85_5
          try clear hcz88_0
          try clear hcz88_1
          try clear hcz88_2
          try clear hcz88_3
          try clear hcz88_4
          try clear hcz88_5
          try clear hcz90_0
          try clear hcz90_1
          try clear hcz90_2
          try clear hcz90_3
          try clear hcz90_4
          try clear hcz90_5
          try clear hcz92_0
          try clear hcz92_1
          try clear hcz92_2
          try clear hcz92_3
          try clear hcz92_4
          try clear hcz92_5
          try clear hcz93_0
          try clear hcz93_1
          try clear hcz93_2
          try clear hcz93_3
          try clear hcz93_4
          try clear hcz93_5
          try clear hcz98_0
          try clear hcz98_1
          try clear hcz98_2
          try clear hcz98_3
          try clear hcz98_4
          try clear hcz98_5
          try clear hfz101_0
          try clear hfz101_1
          try clear hfz101_2
          try clear hfz101_3
          try clear hfz101_4
          try clear hfz101_5
          try clear hfz103_0
          try clear hfz103_1
          try clear hfz103_2
          try clear hfz103_3
          try clear hfz103_4
          try clear hfz103_5
          try clear hfz105_0
          try clear hfz105_1
          try clear hfz105_2
          try clear hfz105_3
          try clear hfz105_4
          try clear hfz105_5
          try clear hfz106_0
          try clear hfz106_1
          try clear hfz106_2
          try clear hfz106_3
          try clear hfz106_4
          try clear hfz106_5
          try clear hfz110_0
          try clear hfz110_1
          try clear hfz110_2
          try clear hfz110_3
          try clear hfz110_4
          try clear hfz110_5
          try clear hfz113_0
          try clear hfz113_1
          try clear hfz113_2
          try clear hfz113_3
          try clear hfz113_4
          try clear hfz113_5
          try clear hfz115_0
          try clear hfz115_1
          try clear hfz115_2
          try clear hfz115_3
          try clear hfz115_4
          try clear hfz115_5
          try clear hfz117_0
          try clear hfz117_1
          try clear hfz117_2
          try clear hfz117_3
          try clear hfz117_4
          try clear hfz117_5
          try clear hfz118_0
          try clear hfz118_1
          try clear hfz118_2
          try clear hfz118_3
          try clear hfz118_4
          try clear hfz118_5
          try clear hfz17_0
          try clear hfz17_1
          try clear hfz17_2
          try clear hfz17_3
          try clear hfz17_4
          try clear hfz17_5
          try clear hfz18_0
          try clear hfz18_1
          try clear hfz18_2
          try clear hfz18_3
          try clear hfz18_4
          try clear hfz18_5
          try clear hfz25_0
          try clear hfz25_1
          try clear hfz25_2
          try clear hfz25_3
          try clear hfz25_4
          try clear hfz25_5
          try clear hfz28_0
          try clear hfz28_1
          try clear hfz28_2
          try clear hfz28_3
          try clear hfz28_4
          try clear hfz28_5
          try clear hfz29_0
          try clear hfz29_1
          try clear hfz29_2
          try clear hfz29_3
          try clear hfz29_4
          try clear hfz29_5
          try clear hfz30_0
          try clear hfz30_1
          try clear hfz30_2
          try clear hfz30_3
          try clear hfz30_4
          try clear hfz30_5
          try clear hfz32_0
          try clear hfz32_1
          try clear hfz32_2
          try clear hfz32_3
          try clear hfz32_4
          try clear hfz32_5
          try clear hfz33_0
          try clear hfz33_1
          try clear hfz33_2
          try clear hfz33_3
          try clear hfz33_4
          try clear hfz33_5
          try clear hfz40_0
          try clear hfz40_1
          try clear hfz40_2
          try clear hfz40_3
          try clear hfz40_4
          try clear hfz40_5
          try clear hfz43_0
          try clear hfz43_1
          try clear hfz43_2
          try clear hfz43_3
          try clear hfz43_4
          try clear hfz43_5
          try clear hfz50_0
          try clear hfz50_1
          try clear hfz50_2
          try clear hfz50_3
          try clear hfz50_4
          try clear hfz50_5
          try clear hfz53_0
          try clear hfz53_1
          try clear hfz53_2
          try clear hfz53_3
          try clear hfz53_4
          try clear hfz53_5
          try clear hfz55_0
          try clear hfz55_1
          try clear hfz55_2
          try clear hfz55_3
          try clear hfz55_4
          try clear hfz55_5
          try clear hfz62_0
          try clear hfz62_1
          try clear hfz62_2
          try clear hfz62_3
          try clear hfz62_4
          try clear hfz62_5
          try clear hfz65_0
          try clear hfz65_1
          try clear hfz65_2
          try clear hfz65_3
          try clear hfz65_4
          try clear hfz65_5
          try clear hfz67_0
          try clear hfz67_1
          try clear hfz67_2
          try clear hfz67_3
          try clear hfz67_4
          try clear hfz67_5
          try clear hfz73_0
          try clear hfz73_1
          try clear hfz73_2
          try clear hfz73_3
          try clear hfz73_4
          try clear hfz73_5
          try clear hfz76_0
          try clear hfz76_1
          try clear hfz76_2
          try clear hfz76_3
          try clear hfz76_4
          try clear hfz76_5
          try clear hfz78_0
          try clear hfz78_1
          try clear hfz78_2
          try clear hfz78_3
          try clear hfz78_4
          try clear hfz78_5
          try clear hfz80_0
          try clear hfz80_1
          try clear hfz80_2
          try clear hfz80_3
          try clear hfz80_4
          try clear hfz80_5
          try clear hfz81_0
          try clear hfz81_1
          try clear hfz81_2
          try clear hfz81_3
          try clear hfz81_4
          try clear hfz81_5
          try clear hfz85_0
          try clear hfz85_1
          try clear hfz85_2
          try clear hfz85_3
          try clear hfz85_4
          try clear hfz85_5
          try clear hfz88_0
          try clear hfz88_1
          try clear hfz88_2
          try clear hfz88_3
          try clear hfz88_4
          try clear hfz88_5
          try clear hfz90_0
          try clear hfz90_1
          try clear hfz90_2
          try clear hfz90_3
          try clear hfz90_4
          try clear hfz90_5
          try clear hfz92_0
          try clear hfz92_1
          try clear hfz92_2
          try clear hfz92_3
          try clear hfz92_4
          try clear hfz92_5
          try clear hfz93_0
          try clear hfz93_1
          try clear hfz93_2
          try clear hfz93_3
          try clear hfz93_4
          try clear hfz93_5
          try clear hfz98_0
          try clear hfz98_1
          try clear hfz98_2
          try clear hfz98_3
          try clear hfz98_4
          try clear hfz98_5
          try clear p2
          obtain ⟨kq, x63_11, rfl, HA, HJ11, BK194, BK195, BK208, BK209, HB⟩ := hcut
          cases kq with
          | zero => exact absurd HA.out (by simp [laws_FnClaims.j1])
          | succ kj11 =>
            have H := HA.out
            clear HA
            simp only [laws_FnClaims.j1] at H
            by_cases c119 : x63_11 = true
            · subst c119
              have H1 : (some false) = some r := by rw [if_pos rfl] at H; exact H
              clear H
              have H := H1
              clear H1
              obtain rfl := Option.some.inj H
              go_wp2
              go_ret
              exact ⟨by first | rfl | (simp [errW_none, errW_some] <;> rfl) | (simp [*, errW_none, errW_some] <;> rfl), by repeat (first | (with_reducible first | exact HB.out | apply below_alloc | apply pw_below_drewN | apply below_drew1 | refine below_set ?_ GE194.out | refine below_set ?_ GE195.out | refine below_set ?_ GE208.out | refine below_set ?_ GE209.out) | exact HB.out)⟩
            · replace c119 := Bool.eq_false_iff.mpr c119
              subst c119
              have H1 : (if t210 = true then ((impl_Stronger.f kj11 t188 t189 t190 t191 t192 t193 t196 t197 t198 t199 t200 t201).bind fun t214 => (if t214 = true then ((impl_Stronger.f kj11 t182 t183 t184 t185 t186 t187 t196 t197 t198 t199 t200 t201).bind fun t215 => (some t215)) else (some true))) else (some true)) = some r := by rw [if_neg (show ¬ (false = true) by decide)] at H; exact H
              clear H
              have H := H1
              clear H1
              by_cases c120 : t210 = true
              · subst c120
                have H1 : ((impl_Stronger.f kj11 t188 t189 t190 t191 t192 t193 t196 t197 t198 t199 t200 t201).bind fun t214 => (if t214 = true then ((impl_Stronger.f kj11 t182 t183 t184 t185 t186 t187 t196 t197 t198 t199 t200 t201).bind fun t215 => (some t215)) else (some true))) = some r := by rw [if_pos rfl] at H; exact H
                clear H
                have H := H1
                clear H1
                replace H := Option.bind_eq_some_iff.mp H
                obtain ⟨t214, A1210, H⟩ := H
                replace H : (if t214 = true then ((impl_Stronger.f kj11 t182 t183 t184 t185 t186 t187 t196 t197 t198 t199 t200 t201).bind fun t215 => (some t215)) else (some true)) = some r := H
                have A121 := Aside0.mk A1210
                clear A1210
                by_cases c122 : t214 = true
                · subst c122
                  have H1 : ((impl_Stronger.f kj11 t182 t183 t184 t185 t186 t187 t196 t197 t198 t199 t200 t201).bind fun t215 => (some t215)) = some r := by rw [if_pos rfl] at H; exact H
                  clear H
                  have H := H1
                  clear H1
                  replace H := Option.bind_eq_some_iff.mp H
                  obtain ⟨t215, A1230, H⟩ := H
                  replace H : (some t215) = some r := H
                  have A123 := Aside0.mk A1230
                  clear A1230
                  obtain rfl := Option.some.inj H
                  have hnb124 := NB195_194.out
                  have hnc124 := NB194_195.out
                  have hnb125 := NB195_208.out
                  have hnc125 := NB208_195.out
                  have hnb126 := NB195_209.out
                  have hnc126 := NB209_195.out
                  have hcz127_0 : wc.cell? ⟨gb195, 0, none⟩ = some (.int .i64 t188) := (blk_cell BK195.out 0).trans rfl
                  have hcz127_1 : wc.cell? ⟨gb195, 1, none⟩ = some (.bool t189) := (blk_cell BK195.out 1).trans rfl
                  have hcz127_2 : wc.cell? ⟨gb195, 2, none⟩ = some (.bool t190) := (blk_cell BK195.out 2).trans rfl
                  have hcz127_3 : wc.cell? ⟨gb195, 3, none⟩ = some (.int .i64 t191) := (blk_cell BK195.out 3).trans rfl
                  have hcz127_4 : wc.cell? ⟨gb195, 4, none⟩ = some (.int .i64 t192) := (blk_cell BK195.out 4).trans rfl
                  have hcz127_5 : wc.cell? ⟨gb195, 5, none⟩ = some (.int .i64 t193) := (blk_cell BK195.out 5).trans rfl
                  have hfz127_0 := blk_frozen BK195.out 0
                  have hfz127_1 := blk_frozen BK195.out 1
                  have hfz127_2 := blk_frozen BK195.out 2
                  have hfz127_3 := blk_frozen BK195.out 3
                  have hfz127_4 := blk_frozen BK195.out 4
                  have hfz127_5 := blk_frozen BK195.out 5
                  have hnb128 := NB208_194.out
                  have hnc128 := NB194_208.out
                  have hnb129 := NB208_209.out
                  have hnc129 := NB209_208.out
                  have hcz130_0 : wc.cell? ⟨gb208, 0, none⟩ = some (.int .i64 t196) := (blk_cell BK208.out 0).trans rfl
                  have hcz130_1 : wc.cell? ⟨gb208, 1, none⟩ = some (.bool t197) := (blk_cell BK208.out 1).trans rfl
                  have hcz130_2 : wc.cell? ⟨gb208, 2, none⟩ = some (.bool t198) := (blk_cell BK208.out 2).trans rfl
                  have hcz130_3 : wc.cell? ⟨gb208, 3, none⟩ = some (.int .i64 t199) := (blk_cell BK208.out 3).trans rfl
                  have hcz130_4 : wc.cell? ⟨gb208, 4, none⟩ = some (.int .i64 t200) := (blk_cell BK208.out 4).trans rfl
                  have hcz130_5 : wc.cell? ⟨gb208, 5, none⟩ = some (.int .i64 t201) := (blk_cell BK208.out 5).trans rfl
                  have hfz130_0 := blk_frozen BK208.out 0
                  have hfz130_1 := blk_frozen BK208.out 1
                  have hfz130_2 := blk_frozen BK208.out 2
                  have hfz130_3 := blk_frozen BK208.out 3
                  have hfz130_4 := blk_frozen BK208.out 4
                  have hfz130_5 := blk_frozen BK208.out 5
                  go_wp2_with (first | (go_at_call 32; (with_reducible refine (impl_Stronger.calls kj11 t188 t189 t190 t191 t192 t193 t196 t197 t198 t199 t200 t201 true _ A121.out).mono ?_); rintro e w131 ⟨rfl, hb⟩; have n0_ := Aside0.mk (blk_below (g := gb194) (o := .cells #[.int .i64 t182, .bool t183, .bool t184, .int .i64 t185, .int .i64 t186, .int .i64 t187] 43 (0, 0)) (by (with_reducible repeat (first | refine blk_drewN ?_ _ | refine blk_drew ?_ | refine blk_alloc ?_ _)); exact BK194.out) hb); have n1_ := Aside0.mk (blk_below (g := gb195) (o := .cells #[.int .i64 t188, .bool t189, .bool t190, .int .i64 t191, .int .i64 t192, .int .i64 t193] 43 (0, 0)) (by (with_reducible repeat (first | refine blk_drewN ?_ _ | refine blk_drew ?_ | refine blk_alloc ?_ _)); exact BK195.out) hb); have n2_ := Aside0.mk (blk_below (g := gb208) (o := .cells #[.int .i64 t196, .bool t197, .bool t198, .int .i64 t199, .int .i64 t200, .int .i64 t201] 43 (0, 0)) (by (with_reducible repeat (first | refine blk_drewN ?_ _ | refine blk_drew ?_ | refine blk_alloc ?_ _)); exact BK208.out) hb); have n3_ := Aside0.mk (blk_below (g := gb209) (o := .cells #[.int .i64 t202, .bool t203, .bool t204, .int .i64 t205, .int .i64 t206, .int .i64 t207] 43 (0, 0)) (by (with_reducible repeat (first | refine blk_drewN ?_ _ | refine blk_drew ?_ | refine blk_alloc ?_ _)); exact BK209.out) hb); have n4_ := Aside0.mk (below_step (by repeat (first | (with_reducible first | exact HB.out | apply below_alloc | apply pw_below_drewN | apply below_drew1 | refine below_set ?_ GE194.out | refine below_set ?_ GE195.out | refine below_set ?_ GE208.out | refine below_set ?_ GE209.out) | exact HB.out)) hb); clear BK194; clear BK195; clear BK208; clear BK209; clear HB; have BK194 := n0_; have BK195 := n1_; have BK208 := n2_; have BK209 := n3_; have HB := n4_; clear n0_ n1_ n2_ n3_ n4_; (try clear hb); (try clear hb2); (try clear hk); (try clear hi); have hnb132 := NB194_209.out; have hnc132 := NB209_194.out; have hcz133_0 : w131.cell? ⟨gb194, 0, none⟩ = some (.int .i64 t182) := (blk_cell BK194.out 0).trans rfl; have hcz133_1 : w131.cell? ⟨gb194, 1, none⟩ = some (.bool t183) := (blk_cell BK194.out 1).trans rfl; have hcz133_2 : w131.cell? ⟨gb194, 2, none⟩ = some (.bool t184) := (blk_cell BK194.out 2).trans rfl; have hcz133_3 : w131.cell? ⟨gb194, 3, none⟩ = some (.int .i64 t185) := (blk_cell BK194.out 3).trans rfl; have hcz133_4 : w131.cell? ⟨gb194, 4, none⟩ = some (.int .i64 t186) := (blk_cell BK194.out 4).trans rfl; have hcz133_5 : w131.cell? ⟨gb194, 5, none⟩ = some (.int .i64 t187) := (blk_cell BK194.out 5).trans rfl; have hfz133_0 := blk_frozen BK194.out 0; have hfz133_1 := blk_frozen BK194.out 1; have hfz133_2 := blk_frozen BK194.out 2; have hfz133_3 := blk_frozen BK194.out 3; have hfz133_4 := blk_frozen BK194.out 4; have hfz133_5 := blk_frozen BK194.out 5; have hcz134_0 : w131.cell? ⟨gb208, 0, none⟩ = some (.int .i64 t196) := (blk_cell BK208.out 0).trans rfl; have hcz134_1 : w131.cell? ⟨gb208, 1, none⟩ = some (.bool t197) := (blk_cell BK208.out 1).trans rfl; have hcz134_2 : w131.cell? ⟨gb208, 2, none⟩ = some (.bool t198) := (blk_cell BK208.out 2).trans rfl; have hcz134_3 : w131.cell? ⟨gb208, 3, none⟩ = some (.int .i64 t199) := (blk_cell BK208.out 3).trans rfl; have hcz134_4 : w131.cell? ⟨gb208, 4, none⟩ = some (.int .i64 t200) := (blk_cell BK208.out 4).trans rfl; have hcz134_5 : w131.cell? ⟨gb208, 5, none⟩ = some (.int .i64 t201) := (blk_cell BK208.out 5).trans rfl; have hfz134_0 := blk_frozen BK208.out 0; have hfz134_1 := blk_frozen BK208.out 1; have hfz134_2 := blk_frozen BK208.out 2; have hfz134_3 := blk_frozen BK208.out 3; have hfz134_4 := blk_frozen BK208.out 4; have hfz134_5 := blk_frozen BK208.out 5) | (go_at_call 32; (with_reducible refine (impl_Stronger.calls kj11 t182 t183 t184 t185 t186 t187 t196 t197 t198 t199 t200 t201 t215 _ A123.out).mono ?_); rintro e w135 ⟨rfl, hb⟩; have n0_ := Aside0.mk (blk_below (g := gb194) (o := .cells #[.int .i64 t182, .bool t183, .bool t184, .int .i64 t185, .int .i64 t186, .int .i64 t187] 43 (0, 0)) (by (with_reducible repeat (first | refine blk_drewN ?_ _ | refine blk_drew ?_ | refine blk_alloc ?_ _)); exact BK194.out) hb); have n1_ := Aside0.mk (blk_below (g := gb195) (o := .cells #[.int .i64 t188, .bool t189, .bool t190, .int .i64 t191, .int .i64 t192, .int .i64 t193] 43 (0, 0)) (by (with_reducible repeat (first | refine blk_drewN ?_ _ | refine blk_drew ?_ | refine blk_alloc ?_ _)); exact BK195.out) hb); have n2_ := Aside0.mk (blk_below (g := gb208) (o := .cells #[.int .i64 t196, .bool t197, .bool t198, .int .i64 t199, .int .i64 t200, .int .i64 t201] 43 (0, 0)) (by (with_reducible repeat (first | refine blk_drewN ?_ _ | refine blk_drew ?_ | refine blk_alloc ?_ _)); exact BK208.out) hb); have n3_ := Aside0.mk (blk_below (g := gb209) (o := .cells #[.int .i64 t202, .bool t203, .bool t204, .int .i64 t205, .int .i64 t206, .int .i64 t207] 43 (0, 0)) (by (with_reducible repeat (first | refine blk_drewN ?_ _ | refine blk_drew ?_ | refine blk_alloc ?_ _)); exact BK209.out) hb); have n4_ := Aside0.mk (below_step (by repeat (first | (with_reducible first | exact HB.out | apply below_alloc | apply pw_below_drewN | apply below_drew1 | refine below_set ?_ GE194.out | refine below_set ?_ GE195.out | refine below_set ?_ GE208.out | refine below_set ?_ GE209.out) | exact HB.out)) hb); clear BK194; clear BK195; clear BK208; clear BK209; clear HB; have BK194 := n0_; have BK195 := n1_; have BK208 := n2_; have BK209 := n3_; have HB := n4_; clear n0_ n1_ n2_ n3_ n4_; (try clear hb); (try clear hb2); (try clear hk); (try clear hi)))
                  go_ret
                  exact ⟨by first | rfl | (simp [errW_none, errW_some] <;> rfl) | (simp [*, errW_none, errW_some] <;> rfl), by repeat (first | (with_reducible first | exact HB.out | apply below_alloc | apply pw_below_drewN | apply below_drew1 | refine below_set ?_ GE194.out | refine below_set ?_ GE195.out | refine below_set ?_ GE208.out | refine below_set ?_ GE209.out) | exact HB.out)⟩
                · replace c122 := Bool.eq_false_iff.mpr c122
                  subst c122
                  have H1 : (some true) = some r := by rw [if_neg (show ¬ (false = true) by decide)] at H; exact H
                  clear H
                  have H := H1
                  clear H1
                  obtain rfl := Option.some.inj H
                  have hnb136 := NB195_194.out
                  have hnc136 := NB194_195.out
                  have hnb137 := NB195_208.out
                  have hnc137 := NB208_195.out
                  have hnb138 := NB195_209.out
                  have hnc138 := NB209_195.out
                  have hcz139_0 : wc.cell? ⟨gb195, 0, none⟩ = some (.int .i64 t188) := (blk_cell BK195.out 0).trans rfl
                  have hcz139_1 : wc.cell? ⟨gb195, 1, none⟩ = some (.bool t189) := (blk_cell BK195.out 1).trans rfl
                  have hcz139_2 : wc.cell? ⟨gb195, 2, none⟩ = some (.bool t190) := (blk_cell BK195.out 2).trans rfl
                  have hcz139_3 : wc.cell? ⟨gb195, 3, none⟩ = some (.int .i64 t191) := (blk_cell BK195.out 3).trans rfl
                  have hcz139_4 : wc.cell? ⟨gb195, 4, none⟩ = some (.int .i64 t192) := (blk_cell BK195.out 4).trans rfl
                  have hcz139_5 : wc.cell? ⟨gb195, 5, none⟩ = some (.int .i64 t193) := (blk_cell BK195.out 5).trans rfl
                  have hfz139_0 := blk_frozen BK195.out 0
                  have hfz139_1 := blk_frozen BK195.out 1
                  have hfz139_2 := blk_frozen BK195.out 2
                  have hfz139_3 := blk_frozen BK195.out 3
                  have hfz139_4 := blk_frozen BK195.out 4
                  have hfz139_5 := blk_frozen BK195.out 5
                  have hnb140 := NB208_194.out
                  have hnc140 := NB194_208.out
                  have hnb141 := NB208_209.out
                  have hnc141 := NB209_208.out
                  have hcz142_0 : wc.cell? ⟨gb208, 0, none⟩ = some (.int .i64 t196) := (blk_cell BK208.out 0).trans rfl
                  have hcz142_1 : wc.cell? ⟨gb208, 1, none⟩ = some (.bool t197) := (blk_cell BK208.out 1).trans rfl
                  have hcz142_2 : wc.cell? ⟨gb208, 2, none⟩ = some (.bool t198) := (blk_cell BK208.out 2).trans rfl
                  have hcz142_3 : wc.cell? ⟨gb208, 3, none⟩ = some (.int .i64 t199) := (blk_cell BK208.out 3).trans rfl
                  have hcz142_4 : wc.cell? ⟨gb208, 4, none⟩ = some (.int .i64 t200) := (blk_cell BK208.out 4).trans rfl
                  have hcz142_5 : wc.cell? ⟨gb208, 5, none⟩ = some (.int .i64 t201) := (blk_cell BK208.out 5).trans rfl
                  have hfz142_0 := blk_frozen BK208.out 0
                  have hfz142_1 := blk_frozen BK208.out 1
                  have hfz142_2 := blk_frozen BK208.out 2
                  have hfz142_3 := blk_frozen BK208.out 3
                  have hfz142_4 := blk_frozen BK208.out 4
                  have hfz142_5 := blk_frozen BK208.out 5
                  go_wp2_with (first | (go_at_call 32; (with_reducible refine (impl_Stronger.calls kj11 t188 t189 t190 t191 t192 t193 t196 t197 t198 t199 t200 t201 false _ A121.out).mono ?_); rintro e w143 ⟨rfl, hb⟩; have n0_ := Aside0.mk (blk_below (g := gb194) (o := .cells #[.int .i64 t182, .bool t183, .bool t184, .int .i64 t185, .int .i64 t186, .int .i64 t187] 43 (0, 0)) (by (with_reducible repeat (first | refine blk_drewN ?_ _ | refine blk_drew ?_ | refine blk_alloc ?_ _)); exact BK194.out) hb); have n1_ := Aside0.mk (blk_below (g := gb195) (o := .cells #[.int .i64 t188, .bool t189, .bool t190, .int .i64 t191, .int .i64 t192, .int .i64 t193] 43 (0, 0)) (by (with_reducible repeat (first | refine blk_drewN ?_ _ | refine blk_drew ?_ | refine blk_alloc ?_ _)); exact BK195.out) hb); have n2_ := Aside0.mk (blk_below (g := gb208) (o := .cells #[.int .i64 t196, .bool t197, .bool t198, .int .i64 t199, .int .i64 t200, .int .i64 t201] 43 (0, 0)) (by (with_reducible repeat (first | refine blk_drewN ?_ _ | refine blk_drew ?_ | refine blk_alloc ?_ _)); exact BK208.out) hb); have n3_ := Aside0.mk (blk_below (g := gb209) (o := .cells #[.int .i64 t202, .bool t203, .bool t204, .int .i64 t205, .int .i64 t206, .int .i64 t207] 43 (0, 0)) (by (with_reducible repeat (first | refine blk_drewN ?_ _ | refine blk_drew ?_ | refine blk_alloc ?_ _)); exact BK209.out) hb); have n4_ := Aside0.mk (below_step (by repeat (first | (with_reducible first | exact HB.out | apply below_alloc | apply pw_below_drewN | apply below_drew1 | refine below_set ?_ GE194.out | refine below_set ?_ GE195.out | refine below_set ?_ GE208.out | refine below_set ?_ GE209.out) | exact HB.out)) hb); clear BK194; clear BK195; clear BK208; clear BK209; clear HB; have BK194 := n0_; have BK195 := n1_; have BK208 := n2_; have BK209 := n3_; have HB := n4_; clear n0_ n1_ n2_ n3_ n4_; (try clear hb); (try clear hb2); (try clear hk); (try clear hi)))
                  go_ret
                  exact ⟨by first | rfl | (simp [errW_none, errW_some] <;> rfl) | (simp [*, errW_none, errW_some] <;> rfl), by repeat (first | (with_reducible first | exact HB.out | apply below_alloc | apply pw_below_drewN | apply below_drew1 | refine below_set ?_ GE194.out | refine below_set ?_ GE195.out | refine below_set ?_ GE208.out | refine below_set ?_ GE209.out) | exact HB.out)⟩
              · replace c120 := Bool.eq_false_iff.mpr c120
                subst c120
                have H1 : (some true) = some r := by rw [if_neg (show ¬ (false = true) by decide)] at H; exact H
                clear H
                have H := H1
                clear H1
                obtain rfl := Option.some.inj H
                go_wp2
                go_ret
                exact ⟨by first | rfl | (simp [errW_none, errW_some] <;> rfl) | (simp [*, errW_none, errW_some] <;> rfl), by repeat (first | (with_reducible first | exact HB.out | apply below_alloc | apply pw_below_drewN | apply below_drew1 | refine below_set ?_ GE194.out | refine below_set ?_ GE195.out | refine below_set ?_ GE208.out | refine below_set ?_ GE209.out) | exact HB.out)⟩

/-- THE ONE PURE STATEMENT of laws_FnClaims: yours. -/
def laws_FnClaims.Pure : Prop := ∀ (l0 : List Int) (l1 : List Int), l0.length ≤ maxLen → l0.length * 1 ≤ 140737488351232 → (∀ x ∈ l0, (Lit.int .u8 x).wf = true) → l1.length ≤ maxLen → l1.length * 1 ≤ 140737488351232 → (∀ x ∈ l1, (Lit.int .u8 x).wf = true) → ∃ k, laws_FnClaims.f k l0 l1 = some true
theorem laws_FnClaims.walk (P : laws_FnClaims.Pure) (a0 : Option Addr) (len0 cap0 : Nat) (z0 : List Int) (a1 : Option Addr) (len1 cap1 : Nat) (z1 : List Int) (w : World) (w0 : (a0 = none ∧ len0 = 0 ∧ cap0 = 0 ∧ z0 = []) ∨ ∃ x, a0 = some x ∧ len0 ≤ cap0 ∧ cap0 ≤ maxLen ∧ z0.length = cap0 ∧ (∀ i, i < z0.length → w.cell? (x.add i) = some (.int .u8 (z0.getD i 0))) ∧ ∀ n ∈ z0, (Lit.int .u8 n).wf = true) (y0 : len0 * 1 ≤ 140737488351232) (w1 : (a1 = none ∧ len1 = 0 ∧ cap1 = 0 ∧ z1 = []) ∨ ∃ x, a1 = some x ∧ len1 ≤ cap1 ∧ cap1 ≤ maxLen ∧ z1.length = cap1 ∧ (∀ i, i < z1.length → w.cell? (x.add i) = some (.int .u8 (z1.getD i 0))) ∧ ∀ n ∈ z1, (Lit.int .u8 n).wf = true) (y1 : len1 * 1 ≤ 140737488351232) :
    Calls Try.prog 12 #[.slice a0 len0 cap0, .slice a1 len1 cap1] w fun e w' => e = .returned (.bool true) ∧ Below w.heap.size w w' := by
  obtain ⟨l0, rfl, hr0, hm0, hw0, hc0⟩ := ReadsInt.ofRowC w0
  obtain ⟨l1, rfl, hr1, hm1, hw1, hc1⟩ := ReadsInt.ofRowC w1
  obtain ⟨k, h⟩ := P l0 l1 hm0 y0 hw0 hm1 y1 hw1
  refine (laws_FnClaims.calls k _ _ l0 _ _ l1 true w (Kd.C_of_reads (d := (0 : Int)) (h1 := fun _ => rfl) hr0) hc0 (Kd.C_of_reads (d := (0 : Int)) (h1 := fun _ => rfl) hr1) hc1 h).mono ?_
  rintro e w' ⟨rfl, hd⟩
  exact ⟨rfl, hd⟩

end Go.Proofs.Ytnobgcnldnlbiaa.QFnClaims
