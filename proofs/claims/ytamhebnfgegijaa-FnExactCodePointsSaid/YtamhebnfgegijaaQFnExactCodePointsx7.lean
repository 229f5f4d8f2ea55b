/- Written by a program (wip/tools/own_print.py) out of the walk that the kit's printer made; turned where it fell. -/
-- PRINTED by print.py (a twelfth state) out of the translation. Not trusted: Lean checks it.
import Derived.Test.YtamhebnfgegijaaQFnExactCodePointsx6
import Derived.Test.YtamhebnfgegijaaQFnExactCodePointsx0
import Derived.Test.YtamhebnfgegijaaQFnExactCodePointsx2
import Derived.Test.YtamhebnfgegijaaQFnExactCodePointsx3
namespace Go.Proofs.Ytamhebnfgegijaa.QFnExactCodePoints
open Go.RowKit Go.Proofs.YtamhebnfgegijaaV.PrintWords Go.Proofs.YtamhebnfgegijaaV.PrintLast Go.Proofs.YtamhebnfgegijaaV.PrintMore
attribute [local go_sem] max2_int min2_int max_two min_two max_three min_three max_four min_four   -- for this text's walks alone
set_option linter.unusedVariables false
set_option linter.unusedSimpArgs false

/-! ### laws_FnExactCodePoints: function 3 -/
def laws_FnExactCodePoints.f (k : Nat) (a0 : ByteArray) : Option (Bool) := if (a0.size : Int) > 1048576 then (some true) else ((spec_CodePoints.f k a0).bind fun t168 => ((impl_CodePoints.f k a0).bind fun t171 => ((laws_eqIntS.f k t171 t168).bind fun t174 => (if t174 = true then ((laws_markIntS.f k t171 1).bind fun bt175 => ((laws_heldIntS.f k bt175.2 1).bind fun t177 => (if t177 < 0 then (none) else (if t177 = bt175.1 then ((impl_CodePoints.f k a0).bind fun t178 => ((laws_eqIntS.f k t178 t168).bind fun t181 => (if t181 = true then ((laws_heldIntS.f k bt175.2 1).bind fun t182 => (if t182 < 0 then (none) else (if t182 = bt175.1 then (some true) else (none)))) else (none)))) else (none))))) else (none)))))
theorem laws_FnExactCodePoints.mono : ∀ a0 k, LeO (laws_FnExactCodePoints.f k a0) (laws_FnExactCodePoints.f (k + 1) a0) := by
  intro a0 k
  unfold laws_FnExactCodePoints.f
  repeat' first
      | (with_reducible exact impl_CodePoints.mono _ _)
      | (with_reducible exact laws_eqIntS.mono _ _ _)
      | (with_reducible exact laws_heldIntS.mono _ _ _)
      | (with_reducible exact laws_markIntS.mono _ _ _)
      | (with_reducible exact spec_CodePoints.mono _ _)
      | (with_reducible exact LeO.refl _)
      | (with_reducible exact LeO.none _)
      | (with_reducible refine LeO.ite ?_ ?_)
      | (with_reducible refine LeO.bind ?_ (fun _ => ?_))
      | exact impl_CodePoints.mono _ _
      | exact laws_eqIntS.mono _ _ _
      | exact laws_heldIntS.mono _ _ _
      | exact laws_markIntS.mono _ _ _
      | exact spec_CodePoints.mono _ _
      | exact LeO.none _
      | refine LeO.ite ?_ ?_
      | refine LeO.bind ?_ (fun _ => ?_)
set_option maxHeartbeats 8000000 in
set_option maxRecDepth 100000 in
theorem laws_FnExactCodePoints.calls (k : Nat) (a0 : ByteArray) (r : Bool) (w : World) (h : laws_FnExactCodePoints.f k a0 = some r) :
    Calls Try.prog 3 #[.string a0] w fun e w' => e = .returned (.bool r) ∧ Below w.heap.size w w' := by
  have HB := Aside0.mk (Below.refl w.heap.size w)
  have H : (if (a0.size : Int) > 1048576 then (some true) else ((spec_CodePoints.f k a0).bind fun t168 => ((impl_CodePoints.f k a0).bind fun t171 => ((laws_eqIntS.f k t171 t168).bind fun t174 => (if t174 = true then ((laws_markIntS.f k t171 1).bind fun bt175 => ((laws_heldIntS.f k bt175.2 1).bind fun t177 => (if t177 < 0 then (none) else (if t177 = bt175.1 then ((impl_CodePoints.f k a0).bind fun t178 => ((laws_eqIntS.f k t178 t168).bind fun t181 => (if t181 = true then ((laws_heldIntS.f k bt175.2 1).bind fun t182 => (if t182 < 0 then (none) else (if t182 = bt175.1 then (some true) else (none)))) else (none)))) else (none))))) else (none)))))) = some r := h
  clear h
  by_cases c2 : (a0.size : Int) > 1048576
  · rw [if_pos c2] at H
    have c2b0 : decide (1048576 < (a0.size : Int)) = true := decide_eq_true c2
    have c2b1 : decide (1048576 < a0.size) = true := decide_eq_true (by omega)
    clear c2
    obtain rfl := Option.some.inj H
    go_enter Try.func3, Try.ntmps3
    go_wp2
    go_ret
    exact ⟨by first | rfl | (simp [errW_none, errW_some] <;> rfl) | (simp [*, errW_none, errW_some] <;> rfl), by repeat (first | (with_reducible first | exact HB.out | apply below_alloc | apply pw_below_drewN | apply below_drew1) | exact HB.out)⟩
  · rw [if_neg c2] at H
    have c2b0 : decide (1048576 < (a0.size : Int)) = false := decide_eq_false c2
    have c2b1 : decide (1048576 < a0.size) = false := decide_eq_false (by omega)
    clear c2
    replace H := Option.bind_eq_some_iff.mp H
    obtain ⟨t168, A30, H⟩ := H
    replace H : ((impl_CodePoints.f k a0).bind fun t171 => ((laws_eqIntS.f k t171 t168).bind fun t174 => (if t174 = true then ((laws_markIntS.f k t171 1).bind fun bt175 => ((laws_heldIntS.f k bt175.2 1).bind fun t177 => (if t177 < 0 then (none) else (if t177 = bt175.1 then ((impl_CodePoints.f k a0).bind fun t178 => ((laws_eqIntS.f k t178 t168).bind fun t181 => (if t181 = true then ((laws_heldIntS.f k bt175.2 1).bind fun t182 => (if t182 < 0 then (none) else (if t182 = bt175.1 then (some true) else (none)))) else (none)))) else (none))))) else (none)))) = some r := H
    have A3 := Aside0.mk A30
    clear A30
    replace H := Option.bind_eq_some_iff.mp H
    obtain ⟨t171, A40, H⟩ := H
    replace H : ((laws_eqIntS.f k t171 t168).bind fun t174 => (if t174 = true then ((laws_markIntS.f k t171 1).bind fun bt175 => ((laws_heldIntS.f k bt175.2 1).bind fun t177 => (if t177 < 0 then (none) else (if t177 = bt175.1 then ((impl_CodePoints.f k a0).bind fun t178 => ((laws_eqIntS.f k t178 t168).bind fun t181 => (if t181 = true then ((laws_heldIntS.f k bt175.2 1).bind fun t182 => (if t182 < 0 then (none) else (if t182 = bt175.1 then (some true) else (none)))) else (none)))) else (none))))) else (none))) = some r := H
    have A4 := Aside0.mk A40
    clear A40
    replace H := Option.bind_eq_some_iff.mp H
    obtain ⟨t174, A50, H⟩ := H
    replace H : (if t174 = true then ((laws_markIntS.f k t171 1).bind fun bt175 => ((laws_heldIntS.f k bt175.2 1).bind fun t177 => (if t177 < 0 then (none) else (if t177 = bt175.1 then ((impl_CodePoints.f k a0).bind fun t178 => ((laws_eqIntS.f k t178 t168).bind fun t181 => (if t181 = true then ((laws_heldIntS.f k bt175.2 1).bind fun t182 => (if t182 < 0 then (none) else (if t182 = bt175.1 then (some true) else (none)))) else (none)))) else (none))))) else (none)) = some r := H
    have A5 := Aside0.mk A50
    clear A50
    by_cases c6 : t174 = true
    · subst c6
      have H1 : ((laws_markIntS.f k t171 1).bind fun bt175 => ((laws_heldIntS.f k bt175.2 1).bind fun t177 => (if t177 < 0 then (none) else (if t177 = bt175.1 then ((impl_CodePoints.f k a0).bind fun t178 => ((laws_eqIntS.f k t178 t168).bind fun t181 => (if t181 = true then ((laws_heldIntS.f k bt175.2 1).bind fun t182 => (if t182 < 0 then (none) else (if t182 = bt175.1 then (some true) else (none)))) else (none)))) else (none))))) = some r := by rw [if_pos rfl] at H; exact H
      clear H
      have H := H1
      clear H1
      replace H := Option.bind_eq_some_iff.mp H
      obtain ⟨⟨t175, t176⟩, A70, H⟩ := H
      replace H : ((laws_heldIntS.f k t176 1).bind fun t177 => (if t177 < 0 then (none) else (if t177 = t175 then ((impl_CodePoints.f k a0).bind fun t178 => ((laws_eqIntS.f k t178 t168).bind fun t181 => (if t181 = true then ((laws_heldIntS.f k t176 1).bind fun t182 => (if t182 < 0 then (none) else (if t182 = t175 then (some true) else (none)))) else (none)))) else (none)))) = some r := H
      have A7 := Aside0.mk A70
      clear A70
      replace H := Option.bind_eq_some_iff.mp H
      obtain ⟨t177, A80, H⟩ := H
      replace H : (if t177 < 0 then (none) else (if t177 = t175 then ((impl_CodePoints.f k a0).bind fun t178 => ((laws_eqIntS.f k t178 t168).bind fun t181 => (if t181 = true then ((laws_heldIntS.f k t176 1).bind fun t182 => (if t182 < 0 then (none) else (if t182 = t175 then (some true) else (none)))) else (none)))) else (none))) = some r := H
      have A8 := Aside0.mk A80
      clear A80
      by_cases c9 : t177 < 0
      · rw [if_pos c9] at H
        exact absurd H (by simp)
      · rw [if_neg c9] at H
        have c9b0 : decide (t177 < 0) = false := decide_eq_false c9
        clear c9
        by_cases c15 : t177 = t175
        · rw [if_pos c15] at H
          have c15b0 : (t177 == t175) = true := beq_iff_eq.mpr c15
          have c15b1 : (t177 != t175) = false := bne_eq_false_iff_eq.mpr c15
          clear c15
          replace H := Option.bind_eq_some_iff.mp H
          obtain ⟨t178, A160, H⟩ := H
          replace H : ((laws_eqIntS.f k t178 t168).bind fun t181 => (if t181 = true then ((laws_heldIntS.f k t176 1).bind fun t182 => (if t182 < 0 then (none) else (if t182 = t175 then (some true) else (none)))) else (none))) = some r := H
          have A16 := Aside0.mk A160
          clear A160
          replace H := Option.bind_eq_some_iff.mp H
          obtain ⟨t181, A170, H⟩ := H
          replace H : (if t181 = true then ((laws_heldIntS.f k t176 1).bind fun t182 => (if t182 < 0 then (none) else (if t182 = t175 then (some true) else (none)))) else (none)) = some r := H
          have A17 := Aside0.mk A170
          clear A170
          by_cases c18 : t181 = true
          · subst c18
            have H1 : ((laws_heldIntS.f k t176 1).bind fun t182 => (if t182 < 0 then (none) else (if t182 = t175 then (some true) else (none)))) = some r := by rw [if_pos rfl] at H; exact H
            clear H
            have H := H1
            clear H1
            replace H := Option.bind_eq_some_iff.mp H
            obtain ⟨t182, A190, H⟩ := H
            replace H : (if t182 < 0 then (none) else (if t182 = t175 then (some true) else (none))) = some r := H
            have A19 := Aside0.mk A190
            clear A190
            by_cases c20 : t182 < 0
            · rw [if_pos c20] at H
              exact absurd H (by simp)
            · rw [if_neg c20] at H
              have c20b0 : decide (t182 < 0) = false := decide_eq_false c20
              clear c20
              by_cases c28 : t182 = t175
              · rw [if_pos c28] at H
                have c28b0 : (t182 == t175) = true := beq_iff_eq.mpr c28
                have c28b1 : (t182 != t175) = false := bne_eq_false_iff_eq.mpr c28
                clear c28
                obtain rfl := Option.some.inj H
                go_enter Try.func3, Try.ntmps3
                go_wp2_with (first | ((with_reducible refine gate_callee (f := 4) rfl ?_); refine goesL_ (some 12) rfl rfl Try.func4 (by kernel_rfl) rfl #[.string a0] rfl (by (try simp only [List.map_toArray, List.map_cons, List.map_nil]); first | done | rfl | (simp only [List.length_drop, List.length_take]; rfl)) ?_; (with_reducible refine (spec_CodePoints.calls k a0 t168 _ A3.out).mono ?_); rintro e w29 ⟨v169, rfl, ho0, hb⟩; refine ⟨_, rfl, ?_⟩; have n0_ := Aside0.mk (Kd.R_lower ho0 (below_size (by repeat (first | (with_reducible first | exact HB.out | apply below_alloc | apply pw_below_drewN | apply below_drew1) | exact HB.out)))); have n1_ := Aside0.mk (below_step (by repeat (first | (with_reducible first | exact HB.out | apply below_alloc | apply pw_below_drewN | apply below_drew1) | exact HB.out)) hb); clear HB; have HO170 := n0_; have HB := n1_; clear n0_ n1_; (try clear hb); (try clear hb2); (try clear hk); (try clear hi); (try clear ho0)) | ((with_reducible refine gate_callee (f := 5) rfl ?_); refine goesL_ (some 14) rfl rfl Try.func5 (by kernel_rfl) rfl #[.string a0] rfl (by (try simp only [List.map_toArray, List.map_cons, List.map_nil]); first | done | rfl | (simp only [List.length_drop, List.length_take]; rfl)) ?_; (with_reducible refine (impl_CodePoints.calls k a0 t171 _ A4.out).mono ?_); rintro e w30 ⟨v172, rfl, ho0, hb⟩; refine ⟨_, rfl, ?_⟩; have n0_ := Aside0.mk (Kd.R_elder' (by (with_reducible repeat (first | apply Kd.R_alloc | apply Kd.R_drewN | apply Kd.R_drew)); exact HO170.out) (Kd.R_base ho0) hb); have n1_ := Aside0.mk (Kd.R_lower (Kd.R_new' ho0 (Kd.R_lt (by (with_reducible repeat (first | apply Kd.R_alloc | apply Kd.R_drewN | apply Kd.R_drew)); exact HO170.out))) (below_size (by repeat (first | (with_reducible first | exact HB.out | apply below_alloc | apply pw_below_drewN | apply below_drew1) | exact HB.out)))); have n2_ := Aside0.mk (below_step (by repeat (first | (with_reducible first | exact HB.out | apply below_alloc | apply pw_below_drewN | apply below_drew1) | exact HB.out)) hb); clear HO170; clear HB; have HO170 := n0_; have HO173 := n1_; have HB := n2_; clear n0_ n1_ n2_; (try clear hb); (try clear hb2); (try clear hk); (try clear hi); (try clear ho0); obtain ⟨Ao31, co31, eo31⟩ := Kd.R_slice HO173.out; subst eo31; obtain ⟨Ao32, co32, eo32⟩ := Kd.R_slice HO170.out; subst eo32) | ((with_reducible refine gate_callee (f := 6) rfl ?_); refine goesL_ (some 17) rfl rfl Try.func6 (by kernel_rfl) rfl #[.slice Ao31 t171.length co31, .slice Ao32 t168.length co32] rfl (by (try simp only [List.map_toArray, List.map_cons, List.map_nil]); first | done | rfl | (simp only [List.length_drop, List.length_take]; rfl)) ?_; (with_reducible refine (laws_eqIntS.calls k _ _ t171 _ _ t168 true _ ?side1 ?side2 ?side3 ?side4 A5.out).mono ?_); (case side1 => repeat (first | exact (Kd.R_reads' HO173.out).2.2 | (with_reducible refine Kd.C_alloc ?_ _) | (with_reducible refine Kd.C_drewN ?_ _) | (with_reducible refine Kd.C_drew ?_))); (case side2 => exact (Kd.R_reads' HO173.out).2.1); (case side3 => repeat (first | exact (Kd.R_reads' HO170.out).2.2 | (with_reducible refine Kd.C_alloc ?_ _) | (with_reducible refine Kd.C_drewN ?_ _) | (with_reducible refine Kd.C_drew ?_))); (case side4 => exact (Kd.R_reads' HO170.out).2.1); rintro e w' ⟨rfl, ⟨nd, rfl⟩⟩; refine ⟨_, rfl, ?_⟩) | ((with_reducible refine gate_callee (f := 7) rfl ?_); refine goesL_ (some 21) rfl rfl Try.func7 (by kernel_rfl) rfl #[.slice Ao31 t171.length co31, .int .i64 1] rfl (by (try simp only [List.map_toArray, List.map_cons, List.map_nil]); first | done | rfl | (simp only [List.length_drop, List.length_take]; rfl)) ?_; (with_reducible refine (laws_markIntS.calls k (fun k_ => some k_ = (.slice Ao31 t171.length co31 : Value).ownBlock) (.slice Ao31 t171.length co31) t171 1 t175 t176 w _ ?side1 ?side2 A7.out).mono ?_); (case side1 => repeat (first | (with_reducible first | exact HB.out | apply below_alloc | apply pw_below_drewN | apply below_drew1) | exact HB.out)); (case side2 => exact Kd.R_tight rfl HO173.out); rintro e w33 ⟨rfl, hy0, hb, hkp⟩; refine ⟨_, rfl, ?_⟩; have n0_ := Aside0.mk (Kd.R_mono (ok' := fun k_ => some k_ ≠ (.slice Ao31 t171.length co31 : Value).ownBlock) (Kd.R_keptB (HO170.out) hkp (fun k_ hk_ hs_ => (hk_.2) hs_)) (fun k_ hk_ => hk_.1.2)); have n1_ := Aside0.mk (Kd.R_reok rfl hy0 (fun k_ e_ => HO173.out.1 k_ e_)); have n2_ := Aside0.mk (hb); clear HO170; clear HO173; clear HB; have HO170 := n0_; have HO173 := n1_; have HB := n2_; clear n0_ n1_ n2_; (try clear hb); (try clear hkp); (try clear hy0)) | ((with_reducible refine gate_callee (f := 8) rfl ?_); refine goesL_ (some 24) rfl rfl Try.func8 (by kernel_rfl) rfl #[.slice Ao31 t176.length co31, .int .i64 1] rfl (by (try simp only [List.map_toArray, List.map_cons, List.map_nil]); first | done | (rw [show t176.length = t171.length from (Kd.R_reads' HO173.out).1.symm] <;> rfl) | rfl | (simp only [List.length_drop, List.length_take]; rfl)) ?_; (with_reducible refine (laws_heldIntS.calls k _ _ t176 1 t177 _ ?side1 ?side2 A8.out).mono ?_); (case side1 => repeat (first | exact (Kd.R_reads' HO173.out).2.2 | (with_reducible refine Kd.C_alloc ?_ _) | (with_reducible refine Kd.C_drewN ?_ _) | (with_reducible refine Kd.C_drew ?_))); (case side2 => rw [show t176.length = t171.length from (Kd.R_reads' HO173.out).1.symm]; exact (Kd.R_reads' HO173.out).2.1); rintro e w' ⟨rfl, ⟨nd, rfl⟩⟩; refine ⟨_, rfl, ?_⟩) | ((with_reducible refine gate_callee (f := 5) rfl ?_); refine goesL_ (some 31) rfl rfl Try.func5 (by kernel_rfl) rfl #[.string a0] rfl (by (try simp only [List.map_toArray, List.map_cons, List.map_nil]); first | done | rfl | (simp only [List.length_drop, List.length_take]; rfl)) ?_; (with_reducible refine (impl_CodePoints.calls k a0 t178 _ A16.out).mono ?_); rintro e w34 ⟨v179, rfl, ho0, hb⟩; refine ⟨_, rfl, ?_⟩; have n0_ := Aside0.mk (Kd.R_elder' (by (with_reducible repeat (first | apply Kd.R_alloc | apply Kd.R_drewN | apply Kd.R_drew)); exact HO170.out) (Kd.R_base ho0) hb); have n1_ := Aside0.mk (Kd.R_elder' (by (with_reducible repeat (first | apply Kd.R_alloc | apply Kd.R_drewN | apply Kd.R_drew)); exact HO173.out) (Kd.R_base ho0) hb); have n2_ := Aside0.mk (Kd.R_lower (Kd.R_new' (Kd.R_new' ho0 (Kd.R_lt (by (with_reducible repeat (first | apply Kd.R_alloc | apply Kd.R_drewN | apply Kd.R_drew)); exact HO170.out))) (Kd.R_lt (by (with_reducible repeat (first | apply Kd.R_alloc | apply Kd.R_drewN | apply Kd.R_drew)); exact HO173.out))) (below_size (by repeat (first | (with_reducible first | exact HB.out | apply below_alloc | apply pw_below_drewN | apply below_drew1) | exact HB.out)))); have n3_ := Aside0.mk (below_step (by repeat (first | (with_reducible first | exact HB.out | apply below_alloc | apply pw_below_drewN | apply below_drew1) | exact HB.out)) hb); clear HO170; clear HO173; clear HB; have HO170 := n0_; have HO173 := n1_; have HO180 := n2_; have HB := n3_; clear n0_ n1_ n2_ n3_; (try clear hb); (try clear hb2); (try clear hk); (try clear hi); (try clear ho0); obtain ⟨Ao35, co35, eo35⟩ := Kd.R_slice HO180.out; subst eo35) | ((with_reducible refine gate_callee (f := 6) rfl ?_); refine goesL_ (some 34) rfl rfl Try.func6 (by kernel_rfl) rfl #[.slice Ao35 t178.length co35, .slice Ao32 t168.length co32] rfl (by (try simp only [List.map_toArray, List.map_cons, List.map_nil]); first | done | rfl | (simp only [List.length_drop, List.length_take]; rfl)) ?_; (with_reducible refine (laws_eqIntS.calls k _ _ t178 _ _ t168 true _ ?side1 ?side2 ?side3 ?side4 A17.out).mono ?_); (case side1 => repeat (first | exact (Kd.R_reads' HO180.out).2.2 | (with_reducible refine Kd.C_alloc ?_ _) | (with_reducible refine Kd.C_drewN ?_ _) | (with_reducible refine Kd.C_drew ?_))); (case side2 => exact (Kd.R_reads' HO180.out).2.1); (case side3 => repeat (first | exact (Kd.R_reads' HO170.out).2.2 | (with_reducible refine Kd.C_alloc ?_ _) | (with_reducible refine Kd.C_drewN ?_ _) | (with_reducible refine Kd.C_drew ?_))); (case side4 => exact (Kd.R_reads' HO170.out).2.1); rintro e w' ⟨rfl, ⟨nd, rfl⟩⟩; refine ⟨_, rfl, ?_⟩) | ((with_reducible refine gate_callee (f := 8) rfl ?_); refine goesL_ (some 38) rfl rfl Try.func8 (by kernel_rfl) rfl #[.slice Ao31 t176.length co31, .int .i64 1] rfl (by (try simp only [List.map_toArray, List.map_cons, List.map_nil]); first | done | (rw [show t176.length = t171.length from (Kd.R_reads' HO173.out).1.symm] <;> rfl) | rfl | (simp only [List.length_drop, List.length_take]; rfl)) ?_; (with_reducible refine (laws_heldIntS.calls k _ _ t176 1 t182 _ ?side1 ?side2 A19.out).mono ?_); (case side1 => repeat (first | exact (Kd.R_reads' HO173.out).2.2 | (with_reducible refine Kd.C_alloc ?_ _) | (with_reducible refine Kd.C_drewN ?_ _) | (with_reducible refine Kd.C_drew ?_))); (case side2 => rw [show t176.length = t171.length from (Kd.R_reads' HO173.out).1.symm]; exact (Kd.R_reads' HO173.out).2.1); rintro e w' ⟨rfl, ⟨nd, rfl⟩⟩; refine ⟨_, rfl, ?_⟩))
                go_ret
                exact ⟨by first | rfl | (simp [errW_none, errW_some] <;> rfl) | (simp [*, errW_none, errW_some] <;> rfl), by repeat (first | (with_reducible first | exact HB.out | apply below_alloc | apply pw_below_drewN | apply below_drew1) | exact HB.out)⟩
              · rw [if_neg c28] at H
                exact absurd H (by simp)
          · replace c18 := Bool.eq_false_iff.mpr c18
            subst c18
            exact absurd H (by simp)
        · rw [if_neg c15] at H
          exact absurd H (by simp)
    · replace c6 := Bool.eq_false_iff.mpr c6
      subst c6
      exact absurd H (by simp)

/-- THE ONE PURE STATEMENT of laws_FnExactCodePoints: yours. -/
def laws_FnExactCodePoints.Pure : Prop := ∀ (a0 : ByteArray), a0.size ≤ 140737488351232 → ∃ k, laws_FnExactCodePoints.f k a0 = some true
theorem laws_FnExactCodePoints.walk (P : laws_FnExactCodePoints.Pure) (a0 : ByteArray) (w : World) (w0 : a0.size ≤ 140737488351232) :
    Calls Try.prog 3 #[.string a0] w fun e w' => e = .returned (.bool true) ∧ Below w.heap.size w w' := by
  obtain ⟨k, h⟩ := P a0 w0
  refine (laws_FnExactCodePoints.calls k a0 true w h).mono ?_
  rintro e w' ⟨rfl, hd⟩
  exact ⟨rfl, hd⟩

end Go.Proofs.Ytamhebnfgegijaa.QFnExactCodePoints
