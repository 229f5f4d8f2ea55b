/- Written by a program (wip/tools/own_print.py) out of the walk that the kit's printer made; turned where it fell. -/
-- PRINTED by print.py (a twelfth state) out of the translation. Not trusted: Lean checks it.
import Derived.Test.YtonmeoaponeadaaGreatDoorQFnExactSpellx0
import Derived.Test.YtonmeoaponeadaaGreatDoorQFnExactSpellx1
import Derived.Test.YtonmeoaponeadaaGreatDoorQFnExactSpellx6
namespace Go.Proofs.YtonmeoaponeadaaGreatDoor.QFnExactSpell
open Go.RowKit Go.Proofs.YtonmeoaponeadaaGreatDoorV.PrintWords Go.Proofs.YtonmeoaponeadaaGreatDoorV.PrintLast Go.Proofs.YtonmeoaponeadaaGreatDoorV.PrintMore
attribute [local go_sem] max2_int min2_int max_two min_two max_three min_three max_four min_four   -- for this text's walks alone
set_option linter.unusedVariables false
set_option linter.unusedSimpArgs false

/-! ### impl_nameAt: function 36 -/
def impl_nameAt.f (k : Nat) (a0 : ByteArray) : Option (Int) := if a0.toList = ([] : List UInt8) then (some 0) else (if 0 < (a0.size : Int) then ((impl_beginsName.f (bt a0 0)).bind fun t213 => (if t213 = true then ((impl_hashAt.f k a0).bind fun t214 => (some t214)) else (if (bt a0 0) = 45 then (if (a0.size : Int) > 1 then (if 1 < (a0.size : Int) then ((impl_beginsName.f (bt a0 1)).bind fun t215 => (if t215 = true then ((impl_hashAt.f k a0).bind fun t216 => (some t216)) else (if ((bt a0 1) = 45) then ((impl_hashAt.f k a0).bind fun t217 => (some t217)) else (some 0)))) else (none)) else (some 0)) else (some 0)))) else (none))
theorem impl_nameAt.mono : ∀ a0 k, LeO (impl_nameAt.f k a0) (impl_nameAt.f (k + 1) a0) := by
  intro a0 k
  unfold impl_nameAt.f
  repeat' first
      | (with_reducible exact impl_hashAt.mono _ _)
      | (with_reducible exact LeO.refl _)
      | (with_reducible exact LeO.none _)
      | (with_reducible refine LeO.ite ?_ ?_)
      | (with_reducible refine LeO.bind ?_ (fun _ => ?_))
      | exact impl_hashAt.mono _ _
      | exact LeO.none _
      | refine LeO.ite ?_ ?_
      | refine LeO.bind ?_ (fun _ => ?_)
set_option maxHeartbeats 8000000 in
set_option maxRecDepth 100000 in
theorem impl_nameAt.calls (k : Nat) (a0 : ByteArray) (r : Int) (w : World) (h : impl_nameAt.f k a0 = some r) :
    Calls Tryz.prog 36 #[.string a0] w fun e w' => e = .returned (.int .i64 r) ∧ Drawn0 w w' := by
  have H : (if a0.toList = ([] : List UInt8) then (some 0) else (if 0 < (a0.size : Int) then ((impl_beginsName.f (bt a0 0)).bind fun t213 => (if t213 = true then ((impl_hashAt.f k a0).bind fun t214 => (some t214)) else (if (bt a0 0) = 45 then (if (a0.size : Int) > 1 then (if 1 < (a0.size : Int) then ((impl_beginsName.f (bt a0 1)).bind fun t215 => (if t215 = true then ((impl_hashAt.f k a0).bind fun t216 => (some t216)) else (if ((bt a0 1) = 45) then ((impl_hashAt.f k a0).bind fun t217 => (some t217)) else (some 0)))) else (none)) else (some 0)) else (some 0)))) else (none))) = some r := h
  clear h
  by_cases c2 : a0.toList = ([] : List UInt8)
  · rw [if_pos c2] at H
    have c2b0 : (a0.toList == ([] : List UInt8)) = true := beq_iff_eq.mpr c2
    have c2b1 : (a0.toList != ([] : List UInt8)) = false := bne_eq_false_iff_eq.mpr c2
    clear c2
    obtain rfl := Option.some.inj H
    go_enter Tryz.func36, Tryz.ntmps36
    go_wp2
    go_ret
    exact ⟨by first | rfl | (simp; done) | (simp [*]; done), by repeat (first | exact Drawn0.refl _ | apply Drawn0.step)⟩
  · rw [if_neg c2] at H
    have c2b0 : (a0.toList == ([] : List UInt8)) = false := beq_eq_false_iff_ne.mpr c2
    have c2b1 : (a0.toList != ([] : List UInt8)) = true := bne_iff_ne.mpr c2
    by_cases c3 : 0 < (a0.size : Int)
    · rw [if_pos c3] at H
      have c3b0 : decide (0 < (a0.size : Int)) = true := decide_eq_true c3
      have c3b1 : decide (0 < a0.size) = true := decide_eq_true (by omega)
      clear c3
      replace H := Option.bind_eq_some_iff.mp H
      obtain ⟨t213, A50, H⟩ := H
      replace H : (if t213 = true then ((impl_hashAt.f k a0).bind fun t214 => (some t214)) else (if (bt a0 0) = 45 then (if (a0.size : Int) > 1 then (if 1 < (a0.size : Int) then ((impl_beginsName.f (bt a0 1)).bind fun t215 => (if t215 = true then ((impl_hashAt.f k a0).bind fun t216 => (some t216)) else (if ((bt a0 1) = 45) then ((impl_hashAt.f k a0).bind fun t217 => (some t217)) else (some 0)))) else (none)) else (some 0)) else (some 0))) = some r := H
      have A5 := Aside0.mk A50
      clear A50
      by_cases c6 : t213 = true
      · subst c6
        have H1 : ((impl_hashAt.f k a0).bind fun t214 => (some t214)) = some r := by rw [if_pos rfl] at H; exact H
        clear H
        have H := H1
        clear H1
        replace H := Option.bind_eq_some_iff.mp H
        obtain ⟨t214, A70, H⟩ := H
        replace H : (some t214) = some r := H
        have A7 := Aside0.mk A70
        clear A70
        obtain rfl := Option.some.inj H
        have p4 : 0 ≤ (0 : Int) := (by omega)
        have q4 : 0 < a0.size := (by have : (0 : Int) < (a0.size : Int) := of_decide_eq_true (by first | (with_reducible assumption) | assumption); omega)
        have hx4 : ∀ h : 0 < a0.size, ((a0[0]'h).toNat : Int) = bt a0 0 := bt_at a0 0
        clear p4
        have qi4 : (0 < (a0.size : Int)) = True := eq_true (of_decide_eq_true (by first | (with_reducible assumption) | assumption))
        replace q4 := eq_true q4
        go_enter Tryz.func36, Tryz.ntmps36
        go_wp2_with (first | (go_at_call 40; (with_reducible refine (impl_beginsName.calls (bt a0 0) true _ A5.out).mono ?_); rintro e w' ⟨rfl, ⟨nd, rfl⟩⟩) | ((with_reducible refine gate_callee (f := 27) rfl ?_); refine goesL_ (some 32) rfl rfl Tryz.func27 (by kernel_rfl) rfl #[.string a0] rfl (by (try simp only [List.map_toArray, List.map_cons, List.map_nil]); first | done | rfl | (simp only [List.length_drop, List.length_take]; rfl)) ?_; (with_reducible refine (impl_hashAt.calls k a0 t214 _ A7.out).mono ?_); rintro e w' ⟨rfl, ⟨nd, rfl⟩⟩; refine ⟨_, rfl, ?_⟩))
        go_ret
        exact ⟨by first | rfl | (simp; done) | (simp [*]; done), by repeat (first | exact Drawn0.refl _ | apply Drawn0.step)⟩
      · replace c6 := Bool.eq_false_iff.mpr c6
        subst c6
        have H1 : (if (bt a0 0) = 45 then (if (a0.size : Int) > 1 then (if 1 < (a0.size : Int) then ((impl_beginsName.f (bt a0 1)).bind fun t215 => (if t215 = true then ((impl_hashAt.f k a0).bind fun t216 => (some t216)) else (if ((bt a0 1) = 45) then ((impl_hashAt.f k a0).bind fun t217 => (some t217)) else (some 0)))) else (none)) else (some 0)) else (some 0)) = some r := by rw [if_neg (show ¬ (false = true) by decide)] at H; exact H
        clear H
        have H := H1
        clear H1
        by_cases c9 : (bt a0 0) = 45
        · rw [if_pos c9] at H
          have c9b0 : ((bt a0 0) == 45) = true := beq_iff_eq.mpr c9
          have c9b1 : ((bt a0 0) != 45) = false := bne_eq_false_iff_eq.mpr c9
          clear c9
          by_cases c10 : (a0.size : Int) > 1
          · rw [if_pos c10] at H
            have c10b0 : decide (1 < (a0.size : Int)) = true := decide_eq_true c10
            have c10b1 : decide (1 < a0.size) = true := decide_eq_true (by omega)
            clear c10
            by_cases c11 : 1 < (a0.size : Int)
            · rw [if_pos c11] at H
              have c11b0 : decide (1 < (a0.size : Int)) = true := decide_eq_true c11
              have c11b1 : decide (1 < a0.size) = true := decide_eq_true (by omega)
              clear c11
              replace H := Option.bind_eq_some_iff.mp H
              obtain ⟨t215, A130, H⟩ := H
              replace H : (if t215 = true then ((impl_hashAt.f k a0).bind fun t216 => (some t216)) else (if ((bt a0 1) = 45) then ((impl_hashAt.f k a0).bind fun t217 => (some t217)) else (some 0))) = some r := H
              have A13 := Aside0.mk A130
              clear A130
              by_cases c14 : t215 = true
              · subst c14
                have H1 : ((impl_hashAt.f k a0).bind fun t216 => (some t216)) = some r := by rw [if_pos rfl] at H; exact H
                clear H
                have H := H1
                clear H1
                replace H := Option.bind_eq_some_iff.mp H
                obtain ⟨t216, A150, H⟩ := H
                replace H : (some t216) = some r := H
                have A15 := Aside0.mk A150
                clear A150
                obtain rfl := Option.some.inj H
                have p4 : 0 ≤ (0 : Int) := (by omega)
                have q4 : 0 < a0.size := (by have : (0 : Int) < (a0.size : Int) := of_decide_eq_true (by first | (with_reducible assumption) | assumption); omega)
                have hx4 : ∀ h : 0 < a0.size, ((a0[0]'h).toNat : Int) = bt a0 0 := bt_at a0 0
                clear p4
                have qi4 : (0 < (a0.size : Int)) = True := eq_true (of_decide_eq_true (by first | (with_reducible assumption) | assumption))
                replace q4 := eq_true q4
                go_enter Tryz.func36, Tryz.ntmps36
                go_wp2_with (first | (go_at_call 40; (with_reducible refine (impl_beginsName.calls (bt a0 0) false _ A5.out).mono ?_); rintro e w' ⟨rfl, ⟨nd, rfl⟩⟩; have p8 : 0 ≤ (0 : Int) := (by omega); have q8 : 0 < a0.size := (by have : (0 : Int) < (a0.size : Int) := of_decide_eq_true (by first | (with_reducible assumption) | assumption); omega); have hx8 : ∀ h : 0 < a0.size, ((a0[0]'h).toNat : Int) = bt a0 0 := bt_at a0 0; clear p8; have qi8 : (0 < (a0.size : Int)) = True := eq_true (of_decide_eq_true (by first | (with_reducible assumption) | assumption)); replace q8 := eq_true q8; have p12 : 0 ≤ (1 : Int) := (by omega); have q12 : 1 < a0.size := (by have : (1 : Int) < (a0.size : Int) := of_decide_eq_true (by first | (with_reducible assumption) | assumption); omega); have hx12 : ∀ h : 1 < a0.size, ((a0[1]'h).toNat : Int) = bt a0 1 := bt_at a0 1; clear p12; have qi12 : (1 < (a0.size : Int)) = True := eq_true (of_decide_eq_true (by first | (with_reducible assumption) | assumption)); replace q12 := eq_true q12) | (go_at_call 40; (with_reducible refine (impl_beginsName.calls (bt a0 1) true _ A13.out).mono ?_); rintro e w' ⟨rfl, ⟨nd, rfl⟩⟩) | ((with_reducible refine gate_callee (f := 27) rfl ?_); refine goesL_ (some 32) rfl rfl Tryz.func27 (by kernel_rfl) rfl #[.string a0] rfl (by (try simp only [List.map_toArray, List.map_cons, List.map_nil]); first | done | rfl | (simp only [List.length_drop, List.length_take]; rfl)) ?_; (with_reducible refine (impl_hashAt.calls k a0 t216 _ A15.out).mono ?_); rintro e w' ⟨rfl, ⟨nd, rfl⟩⟩; refine ⟨_, rfl, ?_⟩))
                go_ret
                exact ⟨by first | rfl | (simp; done) | (simp [*]; done), by repeat (first | exact Drawn0.refl _ | apply Drawn0.step)⟩
              · replace c14 := Bool.eq_false_iff.mpr c14
                subst c14
                have H1 : (if ((bt a0 1) = 45) then ((impl_hashAt.f k a0).bind fun t217 => (some t217)) else (some 0)) = some r := by rw [if_neg (show ¬ (false = true) by decide)] at H; exact H
                clear H
                have H := H1
                clear H1
                by_cases c17 : ((bt a0 1) = 45)
                · rw [if_pos c17] at H
                  have c17b0 : ((bt a0 1) == 45) = true := beq_iff_eq.mpr c17
                  have c17b1 : ((bt a0 1) != 45) = false := bne_eq_false_iff_eq.mpr c17
                  clear c17
                  replace H := Option.bind_eq_some_iff.mp H
                  obtain ⟨t217, A180, H⟩ := H
                  replace H : (some t217) = some r := H
                  have A18 := Aside0.mk A180
                  clear A180
                  obtain rfl := Option.some.inj H
                  have p4 : 0 ≤ (0 : Int) := (by omega)
                  have q4 : 0 < a0.size := (by have : (0 : Int) < (a0.size : Int) := of_decide_eq_true (by first | (with_reducible assumption) | assumption); omega)
                  have hx4 : ∀ h : 0 < a0.size, ((a0[0]'h).toNat : Int) = bt a0 0 := bt_at a0 0
                  clear p4
                  have qi4 : (0 < (a0.size : Int)) = True := eq_true (of_decide_eq_true (by first | (with_reducible assumption) | assumption))
                  replace q4 := eq_true q4
                  go_enter Tryz.func36, Tryz.ntmps36
                  go_wp2_with (first | (go_at_call 40; (with_reducible refine (impl_beginsName.calls (bt a0 0) false _ A5.out).mono ?_); rintro e w' ⟨rfl, ⟨nd, rfl⟩⟩; have p8 : 0 ≤ (0 : Int) := (by omega); have q8 : 0 < a0.size := (by have : (0 : Int) < (a0.size : Int) := of_decide_eq_true (by first | (with_reducible assumption) | assumption); omega); have hx8 : ∀ h : 0 < a0.size, ((a0[0]'h).toNat : Int) = bt a0 0 := bt_at a0 0; clear p8; have qi8 : (0 < (a0.size : Int)) = True := eq_true (of_decide_eq_true (by first | (with_reducible assumption) | assumption)); replace q8 := eq_true q8; have p12 : 0 ≤ (1 : Int) := (by omega); have q12 : 1 < a0.size := (by have : (1 : Int) < (a0.size : Int) := of_decide_eq_true (by first | (with_reducible assumption) | assumption); omega); have hx12 : ∀ h : 1 < a0.size, ((a0[1]'h).toNat : Int) = bt a0 1 := bt_at a0 1; clear p12; have qi12 : (1 < (a0.size : Int)) = True := eq_true (of_decide_eq_true (by first | (with_reducible assumption) | assumption)); replace q12 := eq_true q12) | (go_at_call 40; (with_reducible refine (impl_beginsName.calls (bt a0 1) false _ A13.out).mono ?_); rintro e w' ⟨rfl, ⟨nd, rfl⟩⟩; have p16 : 0 ≤ (1 : Int) := (by omega); have q16 : 1 < a0.size := (by have : (1 : Int) < (a0.size : Int) := of_decide_eq_true (by first | (with_reducible assumption) | assumption); omega); have hx16 : ∀ h : 1 < a0.size, ((a0[1]'h).toNat : Int) = bt a0 1 := bt_at a0 1; clear p16; have qi16 : (1 < (a0.size : Int)) = True := eq_true (of_decide_eq_true (by first | (with_reducible assumption) | assumption)); replace q16 := eq_true q16) | ((with_reducible refine gate_callee (f := 27) rfl ?_); refine goesL_ (some 32) rfl rfl Tryz.func27 (by kernel_rfl) rfl #[.string a0] rfl (by (try simp only [List.map_toArray, List.map_cons, List.map_nil]); first | done | rfl | (simp only [List.length_drop, List.length_take]; rfl)) ?_; (with_reducible refine (impl_hashAt.calls k a0 t217 _ A18.out).mono ?_); rintro e w' ⟨rfl, ⟨nd, rfl⟩⟩; refine ⟨_, rfl, ?_⟩))
                  go_ret
                  exact ⟨by first | rfl | (simp; done) | (simp [*]; done), by repeat (first | exact Drawn0.refl _ | apply Drawn0.step)⟩
                · rw [if_neg c17] at H
                  have c17b0 : ((bt a0 1) == 45) = false := beq_eq_false_iff_ne.mpr c17
                  have c17b1 : ((bt a0 1) != 45) = true := bne_iff_ne.mpr c17
                  obtain rfl := Option.some.inj H
                  have p4 : 0 ≤ (0 : Int) := (by omega)
                  have q4 : 0 < a0.size := (by have : (0 : Int) < (a0.size : Int) := of_decide_eq_true (by first | (with_reducible assumption) | assumption); omega)
                  have hx4 : ∀ h : 0 < a0.size, ((a0[0]'h).toNat : Int) = bt a0 0 := bt_at a0 0
                  clear p4
                  have qi4 : (0 < (a0.size : Int)) = True := eq_true (of_decide_eq_true (by first | (with_reducible assumption) | assumption))
                  replace q4 := eq_true q4
                  go_enter Tryz.func36, Tryz.ntmps36
                  go_wp2_with (first | (go_at_call 40; (with_reducible refine (impl_beginsName.calls (bt a0 0) false _ A5.out).mono ?_); rintro e w' ⟨rfl, ⟨nd, rfl⟩⟩; have p8 : 0 ≤ (0 : Int) := (by omega); have q8 : 0 < a0.size := (by have : (0 : Int) < (a0.size : Int) := of_decide_eq_true (by first | (with_reducible assumption) | assumption); omega); have hx8 : ∀ h : 0 < a0.size, ((a0[0]'h).toNat : Int) = bt a0 0 := bt_at a0 0; clear p8; have qi8 : (0 < (a0.size : Int)) = True := eq_true (of_decide_eq_true (by first | (with_reducible assumption) | assumption)); replace q8 := eq_true q8; have p12 : 0 ≤ (1 : Int) := (by omega); have q12 : 1 < a0.size := (by have : (1 : Int) < (a0.size : Int) := of_decide_eq_true (by first | (with_reducible assumption) | assumption); omega); have hx12 : ∀ h : 1 < a0.size, ((a0[1]'h).toNat : Int) = bt a0 1 := bt_at a0 1; clear p12; have qi12 : (1 < (a0.size : Int)) = True := eq_true (of_decide_eq_true (by first | (with_reducible assumption) | assumption)); replace q12 := eq_true q12) | (go_at_call 40; (with_reducible refine (impl_beginsName.calls (bt a0 1) false _ A13.out).mono ?_); rintro e w' ⟨rfl, ⟨nd, rfl⟩⟩; have p16 : 0 ≤ (1 : Int) := (by omega); have q16 : 1 < a0.size := (by have : (1 : Int) < (a0.size : Int) := of_decide_eq_true (by first | (with_reducible assumption) | assumption); omega); have hx16 : ∀ h : 1 < a0.size, ((a0[1]'h).toNat : Int) = bt a0 1 := bt_at a0 1; clear p16; have qi16 : (1 < (a0.size : Int)) = True := eq_true (of_decide_eq_true (by first | (with_reducible assumption) | assumption)); replace q16 := eq_true q16))
                  go_ret
                  exact ⟨by first | rfl | (simp; done) | (simp [*]; done), by repeat (first | exact Drawn0.refl _ | apply Drawn0.step)⟩
            · rw [if_neg c11] at H
              exact absurd H (by simp)
          · rw [if_neg c10] at H
            have c10b0 : decide (1 < (a0.size : Int)) = false := decide_eq_false c10
            have c10b1 : decide (1 < a0.size) = false := decide_eq_false (by omega)
            clear c10
            obtain rfl := Option.some.inj H
            have p4 : 0 ≤ (0 : Int) := (by omega)
            have q4 : 0 < a0.size := (by have : (0 : Int) < (a0.size : Int) := of_decide_eq_true (by first | (with_reducible assumption) | assumption); omega)
            have hx4 : ∀ h : 0 < a0.size, ((a0[0]'h).toNat : Int) = bt a0 0 := bt_at a0 0
            clear p4
            have qi4 : (0 < (a0.size : Int)) = True := eq_true (of_decide_eq_true (by first | (with_reducible assumption) | assumption))
            replace q4 := eq_true q4
            go_enter Tryz.func36, Tryz.ntmps36
            go_wp2_with (first | (go_at_call 40; (with_reducible refine (impl_beginsName.calls (bt a0 0) false _ A5.out).mono ?_); rintro e w' ⟨rfl, ⟨nd, rfl⟩⟩; have p8 : 0 ≤ (0 : Int) := (by omega); have q8 : 0 < a0.size := (by have : (0 : Int) < (a0.size : Int) := of_decide_eq_true (by first | (with_reducible assumption) | assumption); omega); have hx8 : ∀ h : 0 < a0.size, ((a0[0]'h).toNat : Int) = bt a0 0 := bt_at a0 0; clear p8; have qi8 : (0 < (a0.size : Int)) = True := eq_true (of_decide_eq_true (by first | (with_reducible assumption) | assumption)); replace q8 := eq_true q8))
            go_ret
            exact ⟨by first | rfl | (simp; done) | (simp [*]; done), by repeat (first | exact Drawn0.refl _ | apply Drawn0.step)⟩
        · rw [if_neg c9] at H
          have c9b0 : ((bt a0 0) == 45) = false := beq_eq_false_iff_ne.mpr c9
          have c9b1 : ((bt a0 0) != 45) = true := bne_iff_ne.mpr c9
          obtain rfl := Option.some.inj H
          have p4 : 0 ≤ (0 : Int) := (by omega)
          have q4 : 0 < a0.size := (by have : (0 : Int) < (a0.size : Int) := of_decide_eq_true (by first | (with_reducible assumption) | assumption); omega)
          have hx4 : ∀ h : 0 < a0.size, ((a0[0]'h).toNat : Int) = bt a0 0 := bt_at a0 0
          clear p4
          have qi4 : (0 < (a0.size : Int)) = True := eq_true (of_decide_eq_true (by first | (with_reducible assumption) | assumption))
          replace q4 := eq_true q4
          go_enter Tryz.func36, Tryz.ntmps36
          go_wp2_with (first | (go_at_call 40; (with_reducible refine (impl_beginsName.calls (bt a0 0) false _ A5.out).mono ?_); rintro e w' ⟨rfl, ⟨nd, rfl⟩⟩; have p8 : 0 ≤ (0 : Int) := (by omega); have q8 : 0 < a0.size := (by have : (0 : Int) < (a0.size : Int) := of_decide_eq_true (by first | (with_reducible assumption) | assumption); omega); have hx8 : ∀ h : 0 < a0.size, ((a0[0]'h).toNat : Int) = bt a0 0 := bt_at a0 0; clear p8; have qi8 : (0 < (a0.size : Int)) = True := eq_true (of_decide_eq_true (by first | (with_reducible assumption) | assumption)); replace q8 := eq_true q8))
          go_ret
          exact ⟨by first | rfl | (simp; done) | (simp [*]; done), by repeat (first | exact Drawn0.refl _ | apply Drawn0.step)⟩
    · rw [if_neg c3] at H
      exact absurd H (by simp)

/-! ### impl_isName: function 25 -/
def impl_isName.f (k : Nat) (a0 : ByteArray) : Option (Bool) := if a0.toList = ([] : List UInt8) then (some false) else ((impl_nameAt.f k a0).bind fun t218 => (some (t218 == (a0.size : Int))))
theorem impl_isName.mono : ∀ a0 k, LeO (impl_isName.f k a0) (impl_isName.f (k + 1) a0) := by
  intro a0 k
  unfold impl_isName.f
  repeat' first
      | (with_reducible exact impl_nameAt.mono _ _)
      | (with_reducible exact LeO.refl _)
      | (with_reducible exact LeO.none _)
      | (with_reducible refine LeO.ite ?_ ?_)
      | (with_reducible refine LeO.bind ?_ (fun _ => ?_))
      | exact impl_nameAt.mono _ _
      | exact LeO.none _
      | refine LeO.ite ?_ ?_
      | refine LeO.bind ?_ (fun _ => ?_)
set_option maxHeartbeats 8000000 in
set_option maxRecDepth 100000 in
theorem impl_isName.calls (k : Nat) (a0 : ByteArray) (r : Bool) (w : World) (h : impl_isName.f k a0 = some r) :
    Calls Tryz.prog 25 #[.string a0] w fun e w' => e = .returned (.bool r) ∧ Drawn0 w w' := by
  have H : (if a0.toList = ([] : List UInt8) then (some false) else ((impl_nameAt.f k a0).bind fun t218 => (some (t218 == (a0.size : Int))))) = some r := h
  clear h
  by_cases c2 : a0.toList = ([] : List UInt8)
  · rw [if_pos c2] at H
    have c2b0 : (a0.toList == ([] : List UInt8)) = true := beq_iff_eq.mpr c2
    have c2b1 : (a0.toList != ([] : List UInt8)) = false := bne_eq_false_iff_eq.mpr c2
    clear c2
    obtain rfl := Option.some.inj H
    go_enter Tryz.func25, Tryz.ntmps25
    go_wp2
    go_ret
    exact ⟨by first | rfl | (simp; done) | (simp [*]; done), by repeat (first | exact Drawn0.refl _ | apply Drawn0.step)⟩
  · rw [if_neg c2] at H
    have c2b0 : (a0.toList == ([] : List UInt8)) = false := beq_eq_false_iff_ne.mpr c2
    have c2b1 : (a0.toList != ([] : List UInt8)) = true := bne_iff_ne.mpr c2
    replace H := Option.bind_eq_some_iff.mp H
    obtain ⟨t218, A30, H⟩ := H
    replace H : (some (t218 == (a0.size : Int))) = some r := H
    have A3 := Aside0.mk A30
    clear A30
    obtain rfl := Option.some.inj H
    go_enter Tryz.func25, Tryz.ntmps25
    go_wp2_with (first | (go_at_call 36; (with_reducible refine (impl_nameAt.calls k a0 t218 _ A3.out).mono ?_); rintro e w' ⟨rfl, ⟨nd, rfl⟩⟩))
    go_ret
    exact ⟨by first | rfl | (simp; done) | (simp [*]; done), by repeat (first | exact Drawn0.refl _ | apply Drawn0.step)⟩

/-! ### impl_lower: function 26 : written by hand -/
def lowI (c : Int) : Int := if 65 ≤ c ∧ c ≤ 90 then c + 32 else c
def lowB (s : ByteArray) : ByteArray := strOfNums ((bytesOf s).map lowI)
def impl_lower.f (k : Nat) (a0 : ByteArray) : Option (ByteArray) := if a0.size ≤ 9223372036854775807 then some (lowB a0) else none
theorem impl_lower.mono : ∀ a0 k, LeO (impl_lower.f k a0) (impl_lower.f (k + 1) a0) := fun _ _ => LeO.refl _
def lowAt (s : ByteArray) (k j : Nat) : Int := if j < k then lowI (bt s j) else bt s j
theorem lowAt_same (s : ByteArray) (k : Nat) : lowAt s (k + 1) k = lowI (bt s k) := by unfold lowAt; rw [if_pos (by omega)]
theorem lowAt_here (s : ByteArray) (k : Nat) : lowAt s k k = bt s k := by unfold lowAt; rw [if_neg (by omega)]
theorem lowAt_other (s : ByteArray) (k j : Nat) (h : j ≠ k) : lowAt s (k + 1) j = lowAt s k j := by
  unfold lowAt
  by_cases c : j < k
  · rw [if_pos c, if_pos (by omega)]
  · rw [if_neg c, if_neg (by omega)]
theorem lowAt_done (s : ByteArray) (j : Nat) (h : j < s.size) : lowAt s s.size j = ((bytesOf s).map lowI).getD j 0 := by
  unfold lowAt
  rw [if_pos h]
  have hl : j < (bytesOf s).length := by rw [bytesOf_length]; exact h
  rw [List.getD_eq_getElem?_getD, List.getElem?_map, List.getElem?_eq_getElem hl]
  have e := rd_bytesOf s (j : Int)
  unfold rd at e
  rw [Int.toNat_natCast, List.getD_eq_getElem?_getD, List.getElem?_eq_getElem hl] at e
  rw [← e]
  rfl
/-- The row in memory behind k rounds. -/
structure LowRow (s : ByteArray) (B k : Nat) (w : World) : Prop where
  cell : ∀ j, j < s.size → w.cell? ⟨B, j, none⟩ = some (.int .u8 (lowAt s k j))
  free : ∀ j, j < s.size → w.frozen? ⟨B, j, none⟩ = false
theorem LowRow.skip {s : ByteArray} {B k : Nat} {w : World} (h : LowRow s B k w) (hk : k < s.size) (hc : lowI (bt s k) = bt s k) : LowRow s B (k + 1) w := by
  refine ⟨fun j hj => ?_, h.free⟩
  rw [h.cell j hj]
  by_cases e : j = k
  · subst e
    rw [lowAt_same, lowAt_here, hc]
  · rw [lowAt_other s k j e]
theorem LowRow.put {s : ByteArray} {B k : Nat} {w : World} (h : LowRow s B k w) (hk : k < s.size) (v : Int) (hc : lowI (bt s k) = v) : LowRow s B (k + 1) (w.setCell ⟨B, k, none⟩ (.int .u8 v)) := by
  refine ⟨fun j hj => ?_, fun j hj => ?_⟩
  · by_cases e : j = k
    · subst e
      rw [lowAt_same, hc]
      exact World.cell?_setCell_same w ⟨B, j, none⟩ _ (h.cell j hj)
    · rw [lowAt_other s k j e, ← h.cell j hj]
      exact World.cell?_setCell_other w _ _ _ (fun q => e (by injection q with _ q; exact q.symm))
  · rw [World.frozen?_setCell]
    exact h.free j hj
theorem low_start (s : ByteArray) (hs : s.size ≤ 9223372036854775807) (w : World) : LowRow s w.heap.size 0 (Lib.bytesWorld w 5 s) := by
  refine ⟨fun j hj => ?_, fun j hj => ?_⟩
  · obtain ⟨_, _, hc⟩ := bytes_reads w 5 s hs
    obtain ⟨ad, e, hc⟩ := hc (by omega)
    have ea : ad = ⟨w.heap.size, 0, none⟩ := (Option.some.inj e).symm
    subst ea
    have h1 := hc j hj
    rw [Addr.add_lit, Nat.zero_add] at h1
    rw [h1]
    have e2 := rd_bytesOf s (j : Int)
    unfold rd at e2
    rw [Int.toNat_natCast] at e2
    unfold lowAt
    rw [if_neg (by omega), ← e2]
  · unfold World.frozen?
    rw [Lib.bytesWorld_at_new]
    have hb : s.size ≤ (Lib.bytesCells w 5 s).size := by
      unfold Lib.bytesCells
      rw [Array.size_append, Array.size_map]
      show s.data.size ≤ _
      omega
    simp
    omega
set_option maxHeartbeats 4000000 in
set_option maxRecDepth 100000 in
theorem impl_lower.calls (k : Nat) (a0 : ByteArray) (r : ByteArray) (w : World) (h : impl_lower.f k a0 = some r) :
    Calls Tryz.prog 26 #[.string a0] w fun e w' => e = .returned (.string r) ∧ Below w.heap.size w w' := by
  unfold impl_lower.f at h
  by_cases hs : a0.size ≤ 9223372036854775807
  · rw [if_pos hs] at h
    obtain rfl := Option.some.inj h
    have hconv := fun w : World => print_bytes (P := Tryz.prog) 9 32 5 Tryz.underlying9 Tryz.underlying32 Tryz.underlying5 a0 w
    have HR := Aside0.mk (low_start a0 hs w)
    have HB := Aside0.mk (bytes_below (Below.refl w.heap.size w) (Nat.le_refl _) 5 a0)
    clear h
    go_enter Tryz.func26, Tryz.ntmps26
    go_wp2
    clear hconv
    go_loopw [10] (fun v wr => ∃ q : Nat, q ≤ a0.size ∧ v = .int .i64 q ∧ Aside0 (LowRow a0 w.heap.size q wr) ∧ Aside0 (Below w.heap.size w wr)) (fun v _ => a0.size - (intOf v).toNat)
    case atStart => exact ⟨0, Nat.zero_le _, rfl, HR, HB⟩
    case round =>
      clear HR HB
      obtain ⟨q, hq, rfl, HR, HB⟩ := hrel
      by_cases hlt : q < a0.size
      · have hcell := HR.out.cell q hlt
        have hfree := HR.out.free q hlt
        rw [lowAt_here] at hcell
        have hr := @LowRow.put a0 w.heap.size q _ HR.out hlt
        have hsk := @LowRow.skip a0 w.heap.size q _ HR.out hlt
        have HP := Aside0.mk hr
        have HK := Aside0.mk hsk
        clear hr hsk
        obtain ⟨c, hc⟩ : ∃ c : Int, c = bt a0 q := ⟨_, rfl⟩
        have hb0 : 0 ≤ c ∧ c ≤ 255 := by
          rw [hc]
          unfold bt
          split
          · rename_i h_
            have := (a0[(q : Int).toNat]'h_).toNat_lt
            omega
          · omega
        obtain ⟨hb0, hb1⟩ := hb0
        rw [← hc] at hcell
        have HC := Aside0.mk hc
        clear hc
        by_cases h1 : 65 ≤ c
        · by_cases h2 : c ≤ 90
          · have d1 : decide ((65 : Int) ≤ c) = true := decide_eq_true h1
            have d2 : decide (c ≤ (90 : Int)) = true := decide_eq_true h2
            go_wp2
            go_roundw
            case rel => exact ⟨q + 1, by omega, by go_num, ⟨HP.out _ (by rw [← HC.out]; unfold lowI; rw [if_pos ⟨h1, h2⟩])⟩, ⟨HB.out.setCell (Nat.le_refl _) _⟩⟩
            case measure => simp [intOf]; omega
          · have d1 : decide ((65 : Int) ≤ c) = true := decide_eq_true h1
            have d2 : decide (c ≤ (90 : Int)) = false := decide_eq_false h2
            go_wp2
            go_roundw
            case rel => exact ⟨q + 1, by omega, by go_num, ⟨HK.out (by rw [← HC.out]; unfold lowI; rw [if_neg (by omega)])⟩, HB⟩
            case measure => simp [intOf]; omega
        · have d1 : decide ((65 : Int) ≤ c) = false := decide_eq_false h1
          go_wp2
          go_roundw
          case rel => exact ⟨q + 1, by omega, by go_num, ⟨HK.out (by rw [← HC.out]; unfold lowI; rw [if_neg (by omega)])⟩, HB⟩
          case measure => simp [intOf]; omega
      · have hqe : q = a0.size := by omega
        subst hqe
        have hback := fun cap : Nat => run_convert_bytes_arg (P := Tryz.prog) _ 32 5 Tryz.underlying32 Tryz.underlying5 w.heap.size 0 a0.size cap ((bytesOf a0).map lowI) (by rw [List.length_map, bytesOf_length]) (fun i hi => by rw [Nat.zero_add, HR.out.cell i hi, lowAt_done a0 i hi]) 9 Tryz.underlying9
        go_wp2
        go_ret
        exact ⟨rfl, HB.out⟩
  · rw [if_neg hs] at h
    cases h

/-! ### impl_isWhite: function 38 -/
def impl_isWhite.f (a0 : Int) : Option (Bool) := if a0 = 32 then (some true) else (if a0 = 9 then (some true) else (if a0 = 10 then (some true) else (if a0 = 12 then (some true) else (some (a0 == 13)))))
set_option maxHeartbeats 8000000 in
set_option maxRecDepth 100000 in
theorem impl_isWhite.calls (a0 : Int) (r : Bool) (w : World) (h : impl_isWhite.f a0 = some r) :
    Calls Tryz.prog 38 #[.int .u8 a0] w fun e w' => e = .returned (.bool r) ∧ Drawn0 w w' := by
  have H : (if a0 = 32 then (some true) else (if a0 = 9 then (some true) else (if a0 = 10 then (some true) else (if a0 = 12 then (some true) else (some (a0 == 13)))))) = some r := h
  clear h
  by_cases c2 : a0 = 32
  · rw [if_pos c2] at H
    have c2b0 : (a0 == 32) = true := beq_iff_eq.mpr c2
    have c2b1 : (a0 != 32) = false := bne_eq_false_iff_eq.mpr c2
    clear c2
    obtain rfl := Option.some.inj H
    go_enter Tryz.func38, Tryz.ntmps38
    go_wp2
    go_ret
    exact ⟨by first | rfl | (simp; done) | (simp [*]; done), by repeat (first | exact Drawn0.refl _ | apply Drawn0.step)⟩
  · rw [if_neg c2] at H
    have c2b0 : (a0 == 32) = false := beq_eq_false_iff_ne.mpr c2
    have c2b1 : (a0 != 32) = true := bne_iff_ne.mpr c2
    by_cases c3 : a0 = 9
    · rw [if_pos c3] at H
      have c3b0 : (a0 == 9) = true := beq_iff_eq.mpr c3
      have c3b1 : (a0 != 9) = false := bne_eq_false_iff_eq.mpr c3
      clear c3
      obtain rfl := Option.some.inj H
      go_enter Tryz.func38, Tryz.ntmps38
      go_wp2
      go_ret
      exact ⟨by first | rfl | (simp; done) | (simp [*]; done), by repeat (first | exact Drawn0.refl _ | apply Drawn0.step)⟩
    · rw [if_neg c3] at H
      have c3b0 : (a0 == 9) = false := beq_eq_false_iff_ne.mpr c3
      have c3b1 : (a0 != 9) = true := bne_iff_ne.mpr c3
      by_cases c4 : a0 = 10
      · rw [if_pos c4] at H
        have c4b0 : (a0 == 10) = true := beq_iff_eq.mpr c4
        have c4b1 : (a0 != 10) = false := bne_eq_false_iff_eq.mpr c4
        clear c4
        obtain rfl := Option.some.inj H
        go_enter Tryz.func38, Tryz.ntmps38
        go_wp2
        go_ret
        exact ⟨by first | rfl | (simp; done) | (simp [*]; done), by repeat (first | exact Drawn0.refl _ | apply Drawn0.step)⟩
      · rw [if_neg c4] at H
        have c4b0 : (a0 == 10) = false := beq_eq_false_iff_ne.mpr c4
        have c4b1 : (a0 != 10) = true := bne_iff_ne.mpr c4
        by_cases c5 : a0 = 12
        · rw [if_pos c5] at H
          have c5b0 : (a0 == 12) = true := beq_iff_eq.mpr c5
          have c5b1 : (a0 != 12) = false := bne_eq_false_iff_eq.mpr c5
          clear c5
          obtain rfl := Option.some.inj H
          go_enter Tryz.func38, Tryz.ntmps38
          go_wp2
          go_ret
          exact ⟨by first | rfl | (simp; done) | (simp [*]; done), by repeat (first | exact Drawn0.refl _ | apply Drawn0.step)⟩
        · rw [if_neg c5] at H
          have c5b0 : (a0 == 12) = false := beq_eq_false_iff_ne.mpr c5
          have c5b1 : (a0 != 12) = true := bne_iff_ne.mpr c5
          obtain rfl := Option.some.inj H
          go_enter Tryz.func38, Tryz.ntmps38
          go_wp2
          go_ret
          exact ⟨by first | rfl | (simp; done) | (simp [*]; done), by repeat (first | exact Drawn0.refl _ | apply Drawn0.step)⟩

/-! ### impl_signOk: function 28 -/
def impl_signOk.f (a0 : ByteArray) : Option (Bool) := if (a0.size : Int) = 1 then (if 0 < (a0.size : Int) then ((impl_isWhite.f (bt a0 0)).bind fun t226 => (if t226 = true then (some false) else (if (bt a0 0) = 34 then (some false) else (if (bt a0 0) = 39 then (some false) else ((impl_isDigit.f (bt a0 0)).bind fun t227 => (if t227 = true then (some false) else ((impl_beginsName.f (bt a0 0)).bind fun t228 => (some (!t228))))))))) else (none)) else (some false)
set_option maxHeartbeats 8000000 in
set_option maxRecDepth 100000 in
theorem impl_signOk.calls (a0 : ByteArray) (r : Bool) (w : World) (h : impl_signOk.f a0 = some r) :
    Calls Tryz.prog 28 #[.string a0] w fun e w' => e = .returned (.bool r) ∧ Drawn0 w w' := by
  have H : (if (a0.size : Int) = 1 then (if 0 < (a0.size : Int) then ((impl_isWhite.f (bt a0 0)).bind fun t226 => (if t226 = true then (some false) else (if (bt a0 0) = 34 then (some false) else (if (bt a0 0) = 39 then (some false) else ((impl_isDigit.f (bt a0 0)).bind fun t227 => (if t227 = true then (some false) else ((impl_beginsName.f (bt a0 0)).bind fun t228 => (some (!t228))))))))) else (none)) else (some false)) = some r := h
  clear h
  by_cases c2 : (a0.size : Int) = 1
  · rw [if_pos c2] at H
    have c2b0 : ((a0.size : Int) == 1) = true := beq_iff_eq.mpr c2
    have c2b1 : ((a0.size : Int) != 1) = false := bne_eq_false_iff_eq.mpr c2
    clear c2
    by_cases c3 : 0 < (a0.size : Int)
    · rw [if_pos c3] at H
      have c3b0 : decide (0 < (a0.size : Int)) = true := decide_eq_true c3
      have c3b1 : decide (0 < a0.size) = true := decide_eq_true (by omega)
      clear c3
      replace H := Option.bind_eq_some_iff.mp H
      obtain ⟨t226, A50, H⟩ := H
      replace H : (if t226 = true then (some false) else (if (bt a0 0) = 34 then (some false) else (if (bt a0 0) = 39 then (some false) else ((impl_isDigit.f (bt a0 0)).bind fun t227 => (if t227 = true then (some false) else ((impl_beginsName.f (bt a0 0)).bind fun t228 => (some (!t228)))))))) = some r := H
      have A5 := Aside0.mk A50
      clear A50
      by_cases c6 : t226 = true
      · subst c6
        have H1 : (some false) = some r := by rw [if_pos rfl] at H; exact H
        clear H
        have H := H1
        clear H1
        obtain rfl := Option.some.inj H
        have p4 : 0 ≤ (0 : Int) := (by omega)
        have q4 : 0 < a0.size := (by have : (0 : Int) < (a0.size : Int) := of_decide_eq_true (by first | (with_reducible assumption) | assumption); omega)
        have hx4 : ∀ h : 0 < a0.size, ((a0[0]'h).toNat : Int) = bt a0 0 := bt_at a0 0
        clear p4
        have qi4 : (0 < (a0.size : Int)) = True := eq_true (of_decide_eq_true (by first | (with_reducible assumption) | assumption))
        replace q4 := eq_true q4
        go_enter Tryz.func28, Tryz.ntmps28
        go_wp2_with (first | (go_at_call 38; (with_reducible refine (impl_isWhite.calls (bt a0 0) true _ A5.out).mono ?_); rintro e w' ⟨rfl, ⟨nd, rfl⟩⟩))
        go_ret
        exact ⟨by first | rfl | (simp; done) | (simp [*]; done), by repeat (first | exact Drawn0.refl _ | apply Drawn0.step)⟩
      · replace c6 := Bool.eq_false_iff.mpr c6
        subst c6
        have H1 : (if (bt a0 0) = 34 then (some false) else (if (bt a0 0) = 39 then (some false) else ((impl_isDigit.f (bt a0 0)).bind fun t227 => (if t227 = true then (some false) else ((impl_beginsName.f (bt a0 0)).bind fun t228 => (some (!t228))))))) = some r := by rw [if_neg (show ¬ (false = true) by decide)] at H; exact H
        clear H
        have H := H1
        clear H1
        by_cases c8 : (bt a0 0) = 34
        · rw [if_pos c8] at H
          have c8b0 : ((bt a0 0) == 34) = true := beq_iff_eq.mpr c8
          have c8b1 : ((bt a0 0) != 34) = false := bne_eq_false_iff_eq.mpr c8
          clear c8
          obtain rfl := Option.some.inj H
          have p4 : 0 ≤ (0 : Int) := (by omega)
          have q4 : 0 < a0.size := (by have : (0 : Int) < (a0.size : Int) := of_decide_eq_true (by first | (with_reducible assumption) | assumption); omega)
          have hx4 : ∀ h : 0 < a0.size, ((a0[0]'h).toNat : Int) = bt a0 0 := bt_at a0 0
          clear p4
          have qi4 : (0 < (a0.size : Int)) = True := eq_true (of_decide_eq_true (by first | (with_reducible assumption) | assumption))
          replace q4 := eq_true q4
          go_enter Tryz.func28, Tryz.ntmps28
          go_wp2_with (first | (go_at_call 38; (with_reducible refine (impl_isWhite.calls (bt a0 0) false _ A5.out).mono ?_); rintro e w' ⟨rfl, ⟨nd, rfl⟩⟩; have p7 : 0 ≤ (0 : Int) := (by omega); have q7 : 0 < a0.size := (by have : (0 : Int) < (a0.size : Int) := of_decide_eq_true (by first | (with_reducible assumption) | assumption); omega); have hx7 : ∀ h : 0 < a0.size, ((a0[0]'h).toNat : Int) = bt a0 0 := bt_at a0 0; clear p7; have qi7 : (0 < (a0.size : Int)) = True := eq_true (of_decide_eq_true (by first | (with_reducible assumption) | assumption)); replace q7 := eq_true q7))
          go_ret
          exact ⟨by first | rfl | (simp; done) | (simp [*]; done), by repeat (first | exact Drawn0.refl _ | apply Drawn0.step)⟩
        · rw [if_neg c8] at H
          have c8b0 : ((bt a0 0) == 34) = false := beq_eq_false_iff_ne.mpr c8
          have c8b1 : ((bt a0 0) != 34) = true := bne_iff_ne.mpr c8
          by_cases c10 : (bt a0 0) = 39
          · rw [if_pos c10] at H
            have c10b0 : ((bt a0 0) == 39) = true := beq_iff_eq.mpr c10
            have c10b1 : ((bt a0 0) != 39) = false := bne_eq_false_iff_eq.mpr c10
            clear c10
            obtain rfl := Option.some.inj H
            have p4 : 0 ≤ (0 : Int) := (by omega)
            have q4 : 0 < a0.size := (by have : (0 : Int) < (a0.size : Int) := of_decide_eq_true (by first | (with_reducible assumption) | assumption); omega)
            have hx4 : ∀ h : 0 < a0.size, ((a0[0]'h).toNat : Int) = bt a0 0 := bt_at a0 0
            clear p4
            have qi4 : (0 < (a0.size : Int)) = True := eq_true (of_decide_eq_true (by first | (with_reducible assumption) | assumption))
            replace q4 := eq_true q4
            go_enter Tryz.func28, Tryz.ntmps28
            go_wp2_with (first | (go_at_call 38; (with_reducible refine (impl_isWhite.calls (bt a0 0) false _ A5.out).mono ?_); rintro e w' ⟨rfl, ⟨nd, rfl⟩⟩; have p7 : 0 ≤ (0 : Int) := (by omega); have q7 : 0 < a0.size := (by have : (0 : Int) < (a0.size : Int) := of_decide_eq_true (by first | (with_reducible assumption) | assumption); omega); have hx7 : ∀ h : 0 < a0.size, ((a0[0]'h).toNat : Int) = bt a0 0 := bt_at a0 0; clear p7; have qi7 : (0 < (a0.size : Int)) = True := eq_true (of_decide_eq_true (by first | (with_reducible assumption) | assumption)); replace q7 := eq_true q7; have p9 : 0 ≤ (0 : Int) := (by omega); have q9 : 0 < a0.size := (by have : (0 : Int) < (a0.size : Int) := of_decide_eq_true (by first | (with_reducible assumption) | assumption); omega); have hx9 : ∀ h : 0 < a0.size, ((a0[0]'h).toNat : Int) = bt a0 0 := bt_at a0 0; clear p9; have qi9 : (0 < (a0.size : Int)) = True := eq_true (of_decide_eq_true (by first | (with_reducible assumption) | assumption)); replace q9 := eq_true q9))
            go_ret
            exact ⟨by first | rfl | (simp; done) | (simp [*]; done), by repeat (first | exact Drawn0.refl _ | apply Drawn0.step)⟩
          · rw [if_neg c10] at H
            have c10b0 : ((bt a0 0) == 39) = false := beq_eq_false_iff_ne.mpr c10
            have c10b1 : ((bt a0 0) != 39) = true := bne_iff_ne.mpr c10
            replace H := Option.bind_eq_some_iff.mp H
            obtain ⟨t227, A120, H⟩ := H
            replace H : (if t227 = true then (some false) else ((impl_beginsName.f (bt a0 0)).bind fun t228 => (some (!t228)))) = some r := H
            have A12 := Aside0.mk A120
            clear A120
            by_cases c13 : t227 = true
            · subst c13
              have H1 : (some false) = some r := by rw [if_pos rfl] at H; exact H
              clear H
              have H := H1
              clear H1
              obtain rfl := Option.some.inj H
              have p4 : 0 ≤ (0 : Int) := (by omega)
              have q4 : 0 < a0.size := (by have : (0 : Int) < (a0.size : Int) := of_decide_eq_true (by first | (with_reducible assumption) | assumption); omega)
              have hx4 : ∀ h : 0 < a0.size, ((a0[0]'h).toNat : Int) = bt a0 0 := bt_at a0 0
              clear p4
              have qi4 : (0 < (a0.size : Int)) = True := eq_true (of_decide_eq_true (by first | (with_reducible assumption) | assumption))
              replace q4 := eq_true q4
              go_enter Tryz.func28, Tryz.ntmps28
              go_wp2_with (first | (go_at_call 38; (with_reducible refine (impl_isWhite.calls (bt a0 0) false _ A5.out).mono ?_); rintro e w' ⟨rfl, ⟨nd, rfl⟩⟩; have p7 : 0 ≤ (0 : Int) := (by omega); have q7 : 0 < a0.size := (by have : (0 : Int) < (a0.size : Int) := of_decide_eq_true (by first | (with_reducible assumption) | assumption); omega); have hx7 : ∀ h : 0 < a0.size, ((a0[0]'h).toNat : Int) = bt a0 0 := bt_at a0 0; clear p7; have qi7 : (0 < (a0.size : Int)) = True := eq_true (of_decide_eq_true (by first | (with_reducible assumption) | assumption)); replace q7 := eq_true q7; have p9 : 0 ≤ (0 : Int) := (by omega); have q9 : 0 < a0.size := (by have : (0 : Int) < (a0.size : Int) := of_decide_eq_true (by first | (with_reducible assumption) | assumption); omega); have hx9 : ∀ h : 0 < a0.size, ((a0[0]'h).toNat : Int) = bt a0 0 := bt_at a0 0; clear p9; have qi9 : (0 < (a0.size : Int)) = True := eq_true (of_decide_eq_true (by first | (with_reducible assumption) | assumption)); replace q9 := eq_true q9; have p11 : 0 ≤ (0 : Int) := (by omega); have q11 : 0 < a0.size := (by have : (0 : Int) < (a0.size : Int) := of_decide_eq_true (by first | (with_reducible assumption) | assumption); omega); have hx11 : ∀ h : 0 < a0.size, ((a0[0]'h).toNat : Int) = bt a0 0 := bt_at a0 0; clear p11; have qi11 : (0 < (a0.size : Int)) = True := eq_true (of_decide_eq_true (by first | (with_reducible assumption) | assumption)); replace q11 := eq_true q11) | (go_at_call 39; (with_reducible refine (impl_isDigit.calls (bt a0 0) true _ A12.out).mono ?_); rintro e w' ⟨rfl, ⟨nd, rfl⟩⟩))
              go_ret
              exact ⟨by first | rfl | (simp; done) | (simp [*]; done), by repeat (first | exact Drawn0.refl _ | apply Drawn0.step)⟩
            · replace c13 := Bool.eq_false_iff.mpr c13
              subst c13
              have H1 : ((impl_beginsName.f (bt a0 0)).bind fun t228 => (some (!t228))) = some r := by rw [if_neg (show ¬ (false = true) by decide)] at H; exact H
              clear H
              have H := H1
              clear H1
              replace H := Option.bind_eq_some_iff.mp H
              obtain ⟨t228, A150, H⟩ := H
              replace H : (some (!t228)) = some r := H
              have A15 := Aside0.mk A150
              clear A150
              obtain rfl := Option.some.inj H
              have p4 : 0 ≤ (0 : Int) := (by omega)
              have q4 : 0 < a0.size := (by have : (0 : Int) < (a0.size : Int) := of_decide_eq_true (by first | (with_reducible assumption) | assumption); omega)
              have hx4 : ∀ h : 0 < a0.size, ((a0[0]'h).toNat : Int) = bt a0 0 := bt_at a0 0
              clear p4
              have qi4 : (0 < (a0.size : Int)) = True := eq_true (of_decide_eq_true (by first | (with_reducible assumption) | assumption))
              replace q4 := eq_true q4
              go_enter Tryz.func28, Tryz.ntmps28
              go_wp2_with (first | (go_at_call 38; (with_reducible refine (impl_isWhite.calls (bt a0 0) false _ A5.out).mono ?_); rintro e w' ⟨rfl, ⟨nd, rfl⟩⟩; have p7 : 0 ≤ (0 : Int) := (by omega); have q7 : 0 < a0.size := (by have : (0 : Int) < (a0.size : Int) := of_decide_eq_true (by first | (with_reducible assumption) | assumption); omega); have hx7 : ∀ h : 0 < a0.size, ((a0[0]'h).toNat : Int) = bt a0 0 := bt_at a0 0; clear p7; have qi7 : (0 < (a0.size : Int)) = True := eq_true (of_decide_eq_true (by first | (with_reducible assumption) | assumption)); replace q7 := eq_true q7; have p9 : 0 ≤ (0 : Int) := (by omega); have q9 : 0 < a0.size := (by have : (0 : Int) < (a0.size : Int) := of_decide_eq_true (by first | (with_reducible assumption) | assumption); omega); have hx9 : ∀ h : 0 < a0.size, ((a0[0]'h).toNat : Int) = bt a0 0 := bt_at a0 0; clear p9; have qi9 : (0 < (a0.size : Int)) = True := eq_true (of_decide_eq_true (by first | (with_reducible assumption) | assumption)); replace q9 := eq_true q9; have p11 : 0 ≤ (0 : Int) := (by omega); have q11 : 0 < a0.size := (by have : (0 : Int) < (a0.size : Int) := of_decide_eq_true (by first | (with_reducible assumption) | assumption); omega); have hx11 : ∀ h : 0 < a0.size, ((a0[0]'h).toNat : Int) = bt a0 0 := bt_at a0 0; clear p11; have qi11 : (0 < (a0.size : Int)) = True := eq_true (of_decide_eq_true (by first | (with_reducible assumption) | assumption)); replace q11 := eq_true q11) | (go_at_call 39; (with_reducible refine (impl_isDigit.calls (bt a0 0) false _ A12.out).mono ?_); rintro e w' ⟨rfl, ⟨nd, rfl⟩⟩; have p14 : 0 ≤ (0 : Int) := (by omega); have q14 : 0 < a0.size := (by have : (0 : Int) < (a0.size : Int) := of_decide_eq_true (by first | (with_reducible assumption) | assumption); omega); have hx14 : ∀ h : 0 < a0.size, ((a0[0]'h).toNat : Int) = bt a0 0 := bt_at a0 0; clear p14; have qi14 : (0 < (a0.size : Int)) = True := eq_true (of_decide_eq_true (by first | (with_reducible assumption) | assumption)); replace q14 := eq_true q14) | (go_at_call 40; (with_reducible refine (impl_beginsName.calls (bt a0 0) t228 _ A15.out).mono ?_); rintro e w' ⟨rfl, ⟨nd, rfl⟩⟩))
              go_ret
              exact ⟨by first | rfl | (simp; done) | (simp [*]; done), by repeat (first | exact Drawn0.refl _ | apply Drawn0.step)⟩
    · rw [if_neg c3] at H
      exact absurd H (by simp)
  · rw [if_neg c2] at H
    have c2b0 : ((a0.size : Int) == 1) = false := beq_eq_false_iff_ne.mpr c2
    have c2b1 : ((a0.size : Int) != 1) = true := bne_iff_ne.mpr c2
    obtain rfl := Option.some.inj H
    go_enter Tryz.func28, Tryz.ntmps28
    go_wp2
    go_ret
    exact ⟨by first | rfl | (simp; done) | (simp [*]; done), by repeat (first | exact Drawn0.refl _ | apply Drawn0.step)⟩

end Go.Proofs.YtonmeoaponeadaaGreatDoor.QFnExactSpell
