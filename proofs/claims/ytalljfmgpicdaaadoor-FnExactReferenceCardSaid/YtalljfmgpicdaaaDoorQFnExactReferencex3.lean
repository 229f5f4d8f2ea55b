/- Written by a program (wip/tools/own_print.py) out of the walk that the kit's printer made; turned where it fell. -/
-- PRINTED by print.py (a twelfth state) out of the translation. Not trusted: Lean checks it.
import Derived.Test.YtalljfmgpicdaaaDoorQFnExactReferencex0
import Derived.Test.YtalljfmgpicdaaaDoorQFnExactReferencex1
import Derived.Test.YtalljfmgpicdaaaDoorQFnExactReferencex2
namespace Go.Proofs.YtalljfmgpicdaaaDoor.QFnExactReference
open Go.RowKit Go.Proofs.YtalljfmgpicdaaaDoorW.PrintWords Go.Proofs.YtalljfmgpicdaaaDoorW.PrintLast Go.Proofs.YtalljfmgpicdaaaDoorW.PrintMore
attribute [local go_sem] max2_int min2_int max_two min_two max_three min_three max_four min_four   -- for this text's walks alone
set_option linter.unusedVariables false
set_option linter.unusedSimpArgs false

/-! ### spec_Reference: function 4 -/
mutual
def spec_Reference.l0 : Nat → ByteArray → Int → Bool → Int → Int → List ByteArray → Int → Option (ByteArray × Int)
  | 0, _, _, _, _, _, _, _ => none
  | k + 1, x0, x1, x2, x8, x9, x10, x11 => if x11 < (x10.length : Int) then (if 0 ≤ x11 then ((spec_l2Stands.f x0 (wrap64 (x1 + 1)) (rdOf ByteArray.empty x10 x11)).bind fun t163 => (if t163 = true then ((spec_l2Stands.f x0 (wrap64 (x1 + (wrap64 (1 + ((rdOf ByteArray.empty x10 x11).size : Int))))) (⟨#[59]⟩ : ByteArray)).bind fun t165 => (if t165 = true then (if x8 < 0 then (spec_Reference.l0 k x0 x1 x2 x11 (wrap64 ((wrap64 (1 + ((rdOf ByteArray.empty x10 x11).size : Int))) + 1)) x10 (wrap64 (x11 + 1))) else (if 0 ≤ x8 then (if x8 < (x10.length : Int) then (if ((rdOf ByteArray.empty x10 x11).size : Int) > ((rdOf ByteArray.empty x10 x8).size : Int) then (spec_Reference.l0 k x0 x1 x2 x11 (wrap64 ((wrap64 (1 + ((rdOf ByteArray.empty x10 x11).size : Int))) + 1)) x10 (wrap64 (x11 + 1))) else (spec_Reference.l0 k x0 x1 x2 x8 x9 x10 (wrap64 (x11 + 1)))) else (none)) else (none))) else (if x11 ≥ 6 then (spec_Reference.j1 k x0 x1 x2 x8 x9 x10 x11 (wrap64 (1 + ((rdOf ByteArray.empty x10 x11).size : Int))) true) else (if x2 = true then (if (wrap64 (x1 + (wrap64 (1 + ((rdOf ByteArray.empty x10 x11).size : Int))))) < (x0.size : Int) then (if 0 ≤ (wrap64 (x1 + (wrap64 (1 + ((rdOf ByteArray.empty x10 x11).size : Int))))) then ((spec_l1Letter.f (bt x0 (wrap64 (x1 + (wrap64 (1 + ((rdOf ByteArray.empty x10 x11).size : Int))))))).bind fun t168 => (if t168 = true then (spec_Reference.j1 k x0 x1 x2 x8 x9 x10 x11 (wrap64 (1 + ((rdOf ByteArray.empty x10 x11).size : Int))) true) else ((spec_l1Digit.f (bt x0 (wrap64 (x1 + (wrap64 (1 + ((rdOf ByteArray.empty x10 x11).size : Int))))))).bind fun t169 => (if t169 = true then (spec_Reference.j1 k x0 x1 x2 x8 x9 x10 x11 (wrap64 (1 + ((rdOf ByteArray.empty x10 x11).size : Int))) true) else (spec_Reference.j1 k x0 x1 x2 x8 x9 x10 x11 (wrap64 (1 + ((rdOf ByteArray.empty x10 x11).size : Int))) ((bt x0 (wrap64 (x1 + (wrap64 (1 + ((rdOf ByteArray.empty x10 x11).size : Int)))))) == 61)))))) else (none)) else (spec_Reference.j1 k x0 x1 x2 x8 x9 x10 x11 (wrap64 (1 + ((rdOf ByteArray.empty x10 x11).size : Int))) false)) else (spec_Reference.j1 k x0 x1 x2 x8 x9 x10 x11 (wrap64 (1 + ((rdOf ByteArray.empty x10 x11).size : Int))) false))))) else (spec_Reference.l0 k x0 x1 x2 x8 x9 x10 (wrap64 (x11 + 1))))) else (none)) else (if x8 < 0 then (some ((⟨#[]⟩ : ByteArray), 0)) else ((spec_l2Points.f).bind fun t175 => (if 0 ≤ x8 then (if x8 < (t175.length : Int) then ((spec_l1Put.f k (([] : List Int)) (rd t175 x8)).bind fun t179 => (some (strOfNums t179, x9))) else (none)) else (none))))
def spec_Reference.j1 : Nat → ByteArray → Int → Bool → Int → Int → List ByteArray → Int → Int → Bool → Option (ByteArray × Int)
  | 0, _, _, _, _, _, _, _, _, _ => none
  | k + 1, x0, x1, x2, x8, x9, x10, x11, x12, x84 => if x84 = true then (spec_Reference.l0 k x0 x1 x2 x8 x9 x10 (wrap64 (x11 + 1))) else (if x8 < 0 then (spec_Reference.l0 k x0 x1 x2 x11 x12 x10 (wrap64 (x11 + 1))) else (if 0 ≤ x11 then (if x11 < (x10.length : Int) then (if 0 ≤ x8 then (if x8 < (x10.length : Int) then (if ((rdOf ByteArray.empty x10 x11).size : Int) > ((rdOf ByteArray.empty x10 x8).size : Int) then (spec_Reference.l0 k x0 x1 x2 x11 x12 x10 (wrap64 (x11 + 1))) else (spec_Reference.l0 k x0 x1 x2 x8 x9 x10 (wrap64 (x11 + 1)))) else (none)) else (none)) else (none)) else (none)))
end
def spec_Reference.f (k : Nat) (a0 : ByteArray) (a1 : Int) (a2 : Bool) : Option (ByteArray × Int) := (spec_l2Stands.f a0 a1 (⟨#[38]⟩ : ByteArray)).bind fun t155 => (if t155 = true then ((spec_l2Stands.f a0 a1 (⟨#[38, 35]⟩ : ByteArray)).bind fun t156 => (if t156 = true then ((spec_l2Number.f k a0 a1).bind fun bt157 => (some (bt157.1, bt157.2))) else ((spec_l2Names.f).bind fun t159 => (spec_Reference.l0 k a0 a1 a2 (-1) 0 t159 0)))) else (some ((⟨#[]⟩ : ByteArray), 0)))
theorem spec_Reference.mono_l : ∀ k, (∀ y0 y1 y2 y3 y4 y5 y6, LeO (spec_Reference.l0 k y0 y1 y2 y3 y4 y5 y6) (spec_Reference.l0 (k + 1) y0 y1 y2 y3 y4 y5 y6)) ∧ (∀ y0 y1 y2 y3 y4 y5 y6 y7 y8, LeO (spec_Reference.j1 k y0 y1 y2 y3 y4 y5 y6 y7 y8) (spec_Reference.j1 (k + 1) y0 y1 y2 y3 y4 y5 y6 y7 y8))
  | 0 => ⟨fun _ _ _ _ _ _ _ r h => by simp [spec_Reference.l0] at h, fun _ _ _ _ _ _ _ _ _ r h => by simp [spec_Reference.j1] at h⟩
  | k + 1 => by
    obtain ⟨ih0, ih1⟩ := spec_Reference.mono_l k
    refine ⟨?_, ?_⟩
    · intro y0 y1 y2 y3 y4 y5 y6
      unfold spec_Reference.l0
      repeat' first
      | (with_reducible exact ih0 _ _ _ _ _ _ _)
      | (with_reducible exact ih1 _ _ _ _ _ _ _ _ _)
      | (with_reducible exact spec_l1Put.mono _ _ _)
      | (with_reducible exact spec_l2Number.mono _ _ _)
      | (with_reducible exact LeO.refl _)
      | (with_reducible exact LeO.none _)
      | (with_reducible refine LeO.ite ?_ ?_)
      | (with_reducible refine LeO.bind ?_ (fun _ => ?_))
      | exact ih0 _ _ _ _ _ _ _
      | exact ih1 _ _ _ _ _ _ _ _ _
      | exact spec_l1Put.mono _ _ _
      | exact spec_l2Number.mono _ _ _
      | exact LeO.none _
      | refine LeO.ite ?_ ?_
      | refine LeO.bind ?_ (fun _ => ?_)
    · intro y0 y1 y2 y3 y4 y5 y6 y7 y8
      unfold spec_Reference.j1
      repeat' first
      | (with_reducible exact ih0 _ _ _ _ _ _ _)
      | (with_reducible exact ih1 _ _ _ _ _ _ _ _ _)
      | (with_reducible exact spec_l1Put.mono _ _ _)
      | (with_reducible exact spec_l2Number.mono _ _ _)
      | (with_reducible exact LeO.refl _)
      | (with_reducible exact LeO.none _)
      | (with_reducible refine LeO.ite ?_ ?_)
      | (with_reducible refine LeO.bind ?_ (fun _ => ?_))
      | exact ih0 _ _ _ _ _ _ _
      | exact ih1 _ _ _ _ _ _ _ _ _
      | exact spec_l1Put.mono _ _ _
      | exact spec_l2Number.mono _ _ _
      | exact LeO.none _
      | refine LeO.ite ?_ ?_
      | refine LeO.bind ?_ (fun _ => ?_)
theorem spec_Reference.mono : ∀ a0 a1 a2 k, LeO (spec_Reference.f k a0 a1 a2) (spec_Reference.f (k + 1) a0 a1 a2) := by
  intro a0 a1 a2 k
  obtain ⟨ih0, ih1⟩ := spec_Reference.mono_l k
  unfold spec_Reference.f
  repeat' first
      | (with_reducible exact ih0 _ _ _ _ _ _ _)
      | (with_reducible exact ih1 _ _ _ _ _ _ _ _ _)
      | (with_reducible exact spec_l1Put.mono _ _ _)
      | (with_reducible exact spec_l2Number.mono _ _ _)
      | (with_reducible exact LeO.refl _)
      | (with_reducible exact LeO.none _)
      | (with_reducible refine LeO.ite ?_ ?_)
      | (with_reducible refine LeO.bind ?_ (fun _ => ?_))
      | exact ih0 _ _ _ _ _ _ _
      | exact ih1 _ _ _ _ _ _ _ _ _
      | exact spec_l1Put.mono _ _ _
      | exact spec_l2Number.mono _ _ _
      | exact LeO.none _
      | refine LeO.ite ?_ ?_
      | refine LeO.bind ?_ (fun _ => ?_)
set_option maxHeartbeats 8000000 in
set_option maxRecDepth 100000 in
theorem spec_Reference.calls (k : Nat) (a0 : ByteArray) (a1 : Int) (a2 : Bool) (r1 : ByteArray) (r2 : Int) (w : World) (h : spec_Reference.f k a0 a1 a2 = some (r1, r2)) :
    Calls Tryd.prog 4 #[.string a0, .int .i64 a1, .bool a2] w fun e w' => e = .returned (.tuple #[.string r1, .int .i64 r2]) ∧ Below w.heap.size w w' := by
  have HB := Aside0.mk (Below.refl w.heap.size w)
  have H : ((spec_l2Stands.f a0 a1 (⟨#[38]⟩ : ByteArray)).bind fun t155 => (if t155 = true then ((spec_l2Stands.f a0 a1 (⟨#[38, 35]⟩ : ByteArray)).bind fun t156 => (if t156 = true then ((spec_l2Number.f k a0 a1).bind fun bt157 => (some (bt157.1, bt157.2))) else ((spec_l2Names.f).bind fun t159 => (spec_Reference.l0 k a0 a1 a2 (-1) 0 t159 0)))) else (some ((⟨#[]⟩ : ByteArray), 0)))) = some (r1, r2) := h
  clear h
  replace H := Option.bind_eq_some_iff.mp H
  obtain ⟨t155, A40, H⟩ := H
  replace H : (if t155 = true then ((spec_l2Stands.f a0 a1 (⟨#[38, 35]⟩ : ByteArray)).bind fun t156 => (if t156 = true then ((spec_l2Number.f k a0 a1).bind fun bt157 => (some (bt157.1, bt157.2))) else ((spec_l2Names.f).bind fun t159 => (spec_Reference.l0 k a0 a1 a2 (-1) 0 t159 0)))) else (some ((⟨#[]⟩ : ByteArray), 0))) = some (r1, r2) := H
  have A4 := Aside0.mk A40
  clear A40
  by_cases c5 : t155 = true
  · subst c5
    have H1 : ((spec_l2Stands.f a0 a1 (⟨#[38, 35]⟩ : ByteArray)).bind fun t156 => (if t156 = true then ((spec_l2Number.f k a0 a1).bind fun bt157 => (some (bt157.1, bt157.2))) else ((spec_l2Names.f).bind fun t159 => (spec_Reference.l0 k a0 a1 a2 (-1) 0 t159 0)))) = some (r1, r2) := by rw [if_pos rfl] at H; exact H
    clear H
    have H := H1
    clear H1
    replace H := Option.bind_eq_some_iff.mp H
    obtain ⟨t156, A60, H⟩ := H
    replace H : (if t156 = true then ((spec_l2Number.f k a0 a1).bind fun bt157 => (some (bt157.1, bt157.2))) else ((spec_l2Names.f).bind fun t159 => (spec_Reference.l0 k a0 a1 a2 (-1) 0 t159 0))) = some (r1, r2) := H
    have A6 := Aside0.mk A60
    clear A60
    by_cases c7 : t156 = true
    · subst c7
      have H1 : ((spec_l2Number.f k a0 a1).bind fun bt157 => (some (bt157.1, bt157.2))) = some (r1, r2) := by rw [if_pos rfl] at H; exact H
      clear H
      have H := H1
      clear H1
      replace H := Option.bind_eq_some_iff.mp H
      obtain ⟨⟨t157, t158⟩, A80, H⟩ := H
      replace H : (some (t157, t158)) = some (r1, r2) := H
      have A8 := Aside0.mk A80
      clear A80
      simp only [Option.some.injEq, Prod.mk.injEq] at H
      obtain ⟨rfl, rfl⟩ := H
      go_enter Tryd.func4, Tryd.ntmps4
      go_wp2_with (first | (go_at_call 6; (with_reducible refine (spec_l2Stands.calls a0 a1 (⟨#[38]⟩ : ByteArray) true _ A4.out).mono ?_); rintro e w' ⟨rfl, ⟨nd, rfl⟩⟩; (try first | exact ⟨rfl, _, World.drewN_drewN _ _ _⟩ | exact ⟨rfl, _, Eq.trans (World.drewN_drewN _ _ _) (congrArg (World.drewN _) (Nat.add_assoc _ _ _))⟩)) | (go_at_call 6; (with_reducible refine (spec_l2Stands.calls a0 a1 (⟨#[38, 35]⟩ : ByteArray) true _ A6.out).mono ?_); rintro e w' ⟨rfl, ⟨nd, rfl⟩⟩; (try first | exact ⟨rfl, _, World.drewN_drewN _ _ _⟩ | exact ⟨rfl, _, Eq.trans (World.drewN_drewN _ _ _) (congrArg (World.drewN _) (Nat.add_assoc _ _ _))⟩)) | (go_at_call 7; (with_reducible refine (spec_l2Number.calls k a0 a1 t157 t158 _ A8.out).mono ?_); rintro e w9 ⟨rfl, hb⟩; have n0_ := Aside0.mk (below_step (by repeat (first | (with_reducible first | exact HB.out | apply below_alloc | apply pw_below_drewN | apply below_drew1) | exact HB.out)) hb); clear HB; have HB := n0_; clear n0_; (try clear hb); (try clear hb2); (try clear hk); (try clear hi)))
      repeat (go_quiet (first | (go_at_call 6; (with_reducible refine (spec_l2Stands.calls a0 a1 (⟨#[38]⟩ : ByteArray) true _ A4.out).mono ?_); rintro e w' ⟨rfl, ⟨nd, rfl⟩⟩; (try first | exact ⟨rfl, _, World.drewN_drewN _ _ _⟩ | exact ⟨rfl, _, Eq.trans (World.drewN_drewN _ _ _) (congrArg (World.drewN _) (Nat.add_assoc _ _ _))⟩)) | (go_at_call 6; (with_reducible refine (spec_l2Stands.calls a0 a1 (⟨#[38, 35]⟩ : ByteArray) true _ A6.out).mono ?_); rintro e w' ⟨rfl, ⟨nd, rfl⟩⟩; (try first | exact ⟨rfl, _, World.drewN_drewN _ _ _⟩ | exact ⟨rfl, _, Eq.trans (World.drewN_drewN _ _ _) (congrArg (World.drewN _) (Nat.add_assoc _ _ _))⟩)) | (go_at_call 7; (with_reducible refine (spec_l2Number.calls k a0 a1 t157 t158 _ A8.out).mono ?_); rintro e w9 ⟨rfl, hb⟩; have n0_ := Aside0.mk (below_step (by repeat (first | (with_reducible first | exact HB.out | apply below_alloc | apply pw_below_drewN | apply below_drew1) | exact HB.out)) hb); clear HB; have HB := n0_; clear n0_; (try clear hb); (try clear hb2); (try clear hk); (try clear hi))); try go_wp2_with (first | (go_at_call 6; (with_reducible refine (spec_l2Stands.calls a0 a1 (⟨#[38]⟩ : ByteArray) true _ A4.out).mono ?_); rintro e w' ⟨rfl, ⟨nd, rfl⟩⟩; (try first | exact ⟨rfl, _, World.drewN_drewN _ _ _⟩ | exact ⟨rfl, _, Eq.trans (World.drewN_drewN _ _ _) (congrArg (World.drewN _) (Nat.add_assoc _ _ _))⟩)) | (go_at_call 6; (with_reducible refine (spec_l2Stands.calls a0 a1 (⟨#[38, 35]⟩ : ByteArray) true _ A6.out).mono ?_); rintro e w' ⟨rfl, ⟨nd, rfl⟩⟩; (try first | exact ⟨rfl, _, World.drewN_drewN _ _ _⟩ | exact ⟨rfl, _, Eq.trans (World.drewN_drewN _ _ _) (congrArg (World.drewN _) (Nat.add_assoc _ _ _))⟩)) | (go_at_call 7; (with_reducible refine (spec_l2Number.calls k a0 a1 t157 t158 _ A8.out).mono ?_); rintro e w9 ⟨rfl, hb⟩; have n0_ := Aside0.mk (below_step (by repeat (first | (with_reducible first | exact HB.out | apply below_alloc | apply pw_below_drewN | apply below_drew1) | exact HB.out)) hb); clear HB; have HB := n0_; clear n0_; (try clear hb); (try clear hb2); (try clear hk); (try clear hi))))
      go_ret2
      exact ⟨by first | rfl | (simp [errW_none, errW_some] <;> rfl) | (simp [*, errW_none, errW_some] <;> rfl), by repeat (first | (with_reducible first | exact HB.out | apply below_alloc | apply pw_below_drewN | apply below_drew1) | exact HB.out)⟩
    · replace c7 := Bool.eq_false_iff.mpr c7
      subst c7
      have H1 : ((spec_l2Names.f).bind fun t159 => (spec_Reference.l0 k a0 a1 a2 (-1) 0 t159 0)) = some (r1, r2) := by rw [if_neg (show ¬ (false = true) by decide)] at H; exact H
      clear H
      have H := H1
      clear H1
      replace H := Option.bind_eq_some_iff.mp H
      obtain ⟨t159, A100, H⟩ := H
      replace H : (spec_Reference.l0 k a0 a1 a2 (-1) 0 t159 0) = some (r1, r2) := H
      have A10 := Aside0.mk A100
      clear A100
      have H' := Aside0.mk H
      clear H
      go_enter Tryd.func4, Tryd.ntmps4
      go_wp2_with (first | (go_at_call 6; (with_reducible refine (spec_l2Stands.calls a0 a1 (⟨#[38]⟩ : ByteArray) true _ A4.out).mono ?_); rintro e w' ⟨rfl, ⟨nd, rfl⟩⟩; (try first | exact ⟨rfl, _, World.drewN_drewN _ _ _⟩ | exact ⟨rfl, _, Eq.trans (World.drewN_drewN _ _ _) (congrArg (World.drewN _) (Nat.add_assoc _ _ _))⟩)) | (go_at_call 6; (with_reducible refine (spec_l2Stands.calls a0 a1 (⟨#[38, 35]⟩ : ByteArray) false _ A6.out).mono ?_); rintro e w' ⟨rfl, ⟨nd, rfl⟩⟩; (try first | exact ⟨rfl, _, World.drewN_drewN _ _ _⟩ | exact ⟨rfl, _, Eq.trans (World.drewN_drewN _ _ _) (congrArg (World.drewN _) (Nat.add_assoc _ _ _))⟩)) | (go_at_call 8; (with_reducible refine (spec_l2Names.calls  t159 _ A10.out).mono ?_); rintro e w11 ⟨v160, rfl, ho0, hb⟩; have n0_ := Aside0.mk (Kd.R_lower ho0 (below_size (by repeat (first | (with_reducible first | exact HB.out | apply below_alloc | apply pw_below_drewN | apply below_drew1) | exact HB.out)))); have n1_ := Aside0.mk (below_step (by repeat (first | (with_reducible first | exact HB.out | apply below_alloc | apply pw_below_drewN | apply below_drew1) | exact HB.out)) hb); clear HB; have HO161 := n0_; have HB := n1_; clear n0_ n1_; (try clear hb); (try clear hb2); (try clear hk); (try clear hi); (try clear ho0)))
      repeat (go_quiet (first | (go_at_call 6; (with_reducible refine (spec_l2Stands.calls a0 a1 (⟨#[38]⟩ : ByteArray) true _ A4.out).mono ?_); rintro e w' ⟨rfl, ⟨nd, rfl⟩⟩; (try first | exact ⟨rfl, _, World.drewN_drewN _ _ _⟩ | exact ⟨rfl, _, Eq.trans (World.drewN_drewN _ _ _) (congrArg (World.drewN _) (Nat.add_assoc _ _ _))⟩)) | (go_at_call 6; (with_reducible refine (spec_l2Stands.calls a0 a1 (⟨#[38, 35]⟩ : ByteArray) false _ A6.out).mono ?_); rintro e w' ⟨rfl, ⟨nd, rfl⟩⟩; (try first | exact ⟨rfl, _, World.drewN_drewN _ _ _⟩ | exact ⟨rfl, _, Eq.trans (World.drewN_drewN _ _ _) (congrArg (World.drewN _) (Nat.add_assoc _ _ _))⟩)) | (go_at_call 8; (with_reducible refine (spec_l2Names.calls  t159 _ A10.out).mono ?_); rintro e w11 ⟨v160, rfl, ho0, hb⟩; have n0_ := Aside0.mk (Kd.R_lower ho0 (below_size (by repeat (first | (with_reducible first | exact HB.out | apply below_alloc | apply pw_below_drewN | apply below_drew1) | exact HB.out)))); have n1_ := Aside0.mk (below_step (by repeat (first | (with_reducible first | exact HB.out | apply below_alloc | apply pw_below_drewN | apply below_drew1) | exact HB.out)) hb); clear HB; have HO161 := n0_; have HB := n1_; clear n0_ n1_; (try clear hb); (try clear hb2); (try clear hk); (try clear hi); (try clear ho0))); try go_wp2_with (first | (go_at_call 6; (with_reducible refine (spec_l2Stands.calls a0 a1 (⟨#[38]⟩ : ByteArray) true _ A4.out).mono ?_); rintro e w' ⟨rfl, ⟨nd, rfl⟩⟩; (try first | exact ⟨rfl, _, World.drewN_drewN _ _ _⟩ | exact ⟨rfl, _, Eq.trans (World.drewN_drewN _ _ _) (congrArg (World.drewN _) (Nat.add_assoc _ _ _))⟩)) | (go_at_call 6; (with_reducible refine (spec_l2Stands.calls a0 a1 (⟨#[38, 35]⟩ : ByteArray) false _ A6.out).mono ?_); rintro e w' ⟨rfl, ⟨nd, rfl⟩⟩; (try first | exact ⟨rfl, _, World.drewN_drewN _ _ _⟩ | exact ⟨rfl, _, Eq.trans (World.drewN_drewN _ _ _) (congrArg (World.drewN _) (Nat.add_assoc _ _ _))⟩)) | (go_at_call 8; (with_reducible refine (spec_l2Names.calls  t159 _ A10.out).mono ?_); rintro e w11 ⟨v160, rfl, ho0, hb⟩; have n0_ := Aside0.mk (Kd.R_lower ho0 (below_size (by repeat (first | (with_reducible first | exact HB.out | apply below_alloc | apply pw_below_drewN | apply below_drew1) | exact HB.out)))); have n1_ := Aside0.mk (below_step (by repeat (first | (with_reducible first | exact HB.out | apply below_alloc | apply pw_below_drewN | apply below_drew1) | exact HB.out)) hb); clear HB; have HO161 := n0_; have HB := n1_; clear n0_ n1_; (try clear hb); (try clear hb2); (try clear hk); (try clear hi); (try clear ho0))))
      go_loopg [8, 9, 11] k (fun kq v8 v9 v11 w' => ∃ (x8_1 : Int) (x9_1 : Int) (x11_1 : Int), v8 = .int .i64 x8_1 ∧ v9 = .int .i64 x9_1 ∧ v11 = .int .i64 x11_1 ∧ Aside0 (spec_Reference.l0 kq a0 a1 a2 x8_1 x9_1 t159 x11_1 = some (r1, r2)) ∧ Aside0 (kq ≤ k) ∧ Aside0 (Kd.R Kd.string 9 w' w.heap.size (fun _ => True) v160 t159) ∧ Aside0 (Below w.heap.size w w'))
      case atStart => exact ⟨((-1)), (0), (0), (by first | rfl | (simp; done) | (simp [*]; done)), (by first | rfl | (simp; done) | (simp [*]; done)), (by first | rfl | (simp; done) | (simp [*]; done)), H', ⟨Nat.le_refl _⟩, ⟨by (with_reducible repeat (first | apply Kd.R_alloc | apply Kd.R_drewN | apply Kd.R_drew)); exact HO161.out⟩, ⟨by repeat (first | (with_reducible first | exact HB.out | apply below_alloc | apply pw_below_drewN | apply below_drew1) | exact HB.out)⟩⟩
      case round =>
        clear H'
        try clear p2
        try clear c4
        try clear c5
        try clear c7
        obtain ⟨x8_1, x9_1, x11_1, rfl, rfl, rfl, HA, HK1, HO_10, HB⟩ := hrel
        cases gk with
        | zero => exact absurd HA.out (by simp [spec_Reference.l0])
        | succ k1 =>
          have H := HA.out
          clear HA
          simp only [spec_Reference.l0] at H
          by_cases c12 : x11_1 < (t159.length : Int)
          · rw [if_pos c12] at H
            have c12b0 : decide (x11_1 < (t159.length : Int)) = true := decide_eq_true c12
            clear c12
            by_cases c13 : 0 ≤ x11_1
            · rw [if_pos c13] at H
              have c13b0 : decide (0 ≤ x11_1) = true := decide_eq_true c13
              clear c13
              replace H := Option.bind_eq_some_iff.mp H
              obtain ⟨t163, A140, H⟩ := H
              replace H : (if t163 = true then ((spec_l2Stands.f a0 (wrap64 (a1 + (wrap64 (1 + ((rdOf ByteArray.empty t159 x11_1).size : Int))))) (⟨#[59]⟩ : ByteArray)).bind fun t165 => (if t165 = true then (if x8_1 < 0 then (spec_Reference.l0 k1 a0 a1 a2 x11_1 (wrap64 ((wrap64 (1 + ((rdOf ByteArray.empty t159 x11_1).size : Int))) + 1)) t159 (wrap64 (x11_1 + 1))) else (if 0 ≤ x8_1 then (if x8_1 < (t159.length : Int) then (if ((rdOf ByteArray.empty t159 x11_1).size : Int) > ((rdOf ByteArray.empty t159 x8_1).size : Int) then (spec_Reference.l0 k1 a0 a1 a2 x11_1 (wrap64 ((wrap64 (1 + ((rdOf ByteArray.empty t159 x11_1).size : Int))) + 1)) t159 (wrap64 (x11_1 + 1))) else (spec_Reference.l0 k1 a0 a1 a2 x8_1 x9_1 t159 (wrap64 (x11_1 + 1)))) else (none)) else (none))) else (if x11_1 ≥ 6 then (spec_Reference.j1 k1 a0 a1 a2 x8_1 x9_1 t159 x11_1 (wrap64 (1 + ((rdOf ByteArray.empty t159 x11_1).size : Int))) true) else (if a2 = true then (if (wrap64 (a1 + (wrap64 (1 + ((rdOf ByteArray.empty t159 x11_1).size : Int))))) < (a0.size : Int) then (if 0 ≤ (wrap64 (a1 + (wrap64 (1 + ((rdOf ByteArray.empty t159 x11_1).size : Int))))) then ((spec_l1Letter.f (bt a0 (wrap64 (a1 + (wrap64 (1 + ((rdOf ByteArray.empty t159 x11_1).size : Int))))))).bind fun t168 => (if t168 = true then (spec_Reference.j1 k1 a0 a1 a2 x8_1 x9_1 t159 x11_1 (wrap64 (1 + ((rdOf ByteArray.empty t159 x11_1).size : Int))) true) else ((spec_l1Digit.f (bt a0 (wrap64 (a1 + (wrap64 (1 + ((rdOf ByteArray.empty t159 x11_1).size : Int))))))).bind fun t169 => (if t169 = true then (spec_Reference.j1 k1 a0 a1 a2 x8_1 x9_1 t159 x11_1 (wrap64 (1 + ((rdOf ByteArray.empty t159 x11_1).size : Int))) true) else (spec_Reference.j1 k1 a0 a1 a2 x8_1 x9_1 t159 x11_1 (wrap64 (1 + ((rdOf ByteArray.empty t159 x11_1).size : Int))) ((bt a0 (wrap64 (a1 + (wrap64 (1 + ((rdOf ByteArray.empty t159 x11_1).size : Int)))))) == 61)))))) else (none)) else (spec_Reference.j1 k1 a0 a1 a2 x8_1 x9_1 t159 x11_1 (wrap64 (1 + ((rdOf ByteArray.empty t159 x11_1).size : Int))) false)) else (spec_Reference.j1 k1 a0 a1 a2 x8_1 x9_1 t159 x11_1 (wrap64 (1 + ((rdOf ByteArray.empty t159 x11_1).size : Int))) false))))) else (spec_Reference.l0 k1 a0 a1 a2 x8_1 x9_1 t159 (wrap64 (x11_1 + 1)))) = some (r1, r2) := H
              have A14 := Aside0.mk A140
              clear A140
              by_cases c15 : t163 = true
              · subst c15
                have H1 : ((spec_l2Stands.f a0 (wrap64 (a1 + (wrap64 (1 + ((rdOf ByteArray.empty t159 x11_1).size : Int))))) (⟨#[59]⟩ : ByteArray)).bind fun t165 => (if t165 = true then (if x8_1 < 0 then (spec_Reference.l0 k1 a0 a1 a2 x11_1 (wrap64 ((wrap64 (1 + ((rdOf ByteArray.empty t159 x11_1).size : Int))) + 1)) t159 (wrap64 (x11_1 + 1))) else (if 0 ≤ x8_1 then (if x8_1 < (t159.length : Int) then (if ((rdOf ByteArray.empty t159 x11_1).size : Int) > ((rdOf ByteArray.empty t159 x8_1).size : Int) then (spec_Reference.l0 k1 a0 a1 a2 x11_1 (wrap64 ((wrap64 (1 + ((rdOf ByteArray.empty t159 x11_1).size : Int))) + 1)) t159 (wrap64 (x11_1 + 1))) else (spec_Reference.l0 k1 a0 a1 a2 x8_1 x9_1 t159 (wrap64 (x11_1 + 1)))) else (none)) else (none))) else (if x11_1 ≥ 6 then (spec_Reference.j1 k1 a0 a1 a2 x8_1 x9_1 t159 x11_1 (wrap64 (1 + ((rdOf ByteArray.empty t159 x11_1).size : Int))) true) else (if a2 = true then (if (wrap64 (a1 + (wrap64 (1 + ((rdOf ByteArray.empty t159 x11_1).size : Int))))) < (a0.size : Int) then (if 0 ≤ (wrap64 (a1 + (wrap64 (1 + ((rdOf ByteArray.empty t159 x11_1).size : Int))))) then ((spec_l1Letter.f (bt a0 (wrap64 (a1 + (wrap64 (1 + ((rdOf ByteArray.empty t159 x11_1).size : Int))))))).bind fun t168 => (if t168 = true then (spec_Reference.j1 k1 a0 a1 a2 x8_1 x9_1 t159 x11_1 (wrap64 (1 + ((rdOf ByteArray.empty t159 x11_1).size : Int))) true) else ((spec_l1Digit.f (bt a0 (wrap64 (a1 + (wrap64 (1 + ((rdOf ByteArray.empty t159 x11_1).size : Int))))))).bind fun t169 => (if t169 = true then (spec_Reference.j1 k1 a0 a1 a2 x8_1 x9_1 t159 x11_1 (wrap64 (1 + ((rdOf ByteArray.empty t159 x11_1).size : Int))) true) else (spec_Reference.j1 k1 a0 a1 a2 x8_1 x9_1 t159 x11_1 (wrap64 (1 + ((rdOf ByteArray.empty t159 x11_1).size : Int))) ((bt a0 (wrap64 (a1 + (wrap64 (1 + ((rdOf ByteArray.empty t159 x11_1).size : Int)))))) == 61)))))) else (none)) else (spec_Reference.j1 k1 a0 a1 a2 x8_1 x9_1 t159 x11_1 (wrap64 (1 + ((rdOf ByteArray.empty t159 x11_1).size : Int))) false)) else (spec_Reference.j1 k1 a0 a1 a2 x8_1 x9_1 t159 x11_1 (wrap64 (1 + ((rdOf ByteArray.empty t159 x11_1).size : Int))) false))))) = some (r1, r2) := by rw [if_pos rfl] at H; exact H
                clear H
                have H := H1
                clear H1
                replace H := Option.bind_eq_some_iff.mp H
                obtain ⟨t165, A160, H⟩ := H
                replace H : (if t165 = true then (if x8_1 < 0 then (spec_Reference.l0 k1 a0 a1 a2 x11_1 (wrap64 ((wrap64 (1 + ((rdOf ByteArray.empty t159 x11_1).size : Int))) + 1)) t159 (wrap64 (x11_1 + 1))) else (if 0 ≤ x8_1 then (if x8_1 < (t159.length : Int) then (if ((rdOf ByteArray.empty t159 x11_1).size : Int) > ((rdOf ByteArray.empty t159 x8_1).size : Int) then (spec_Reference.l0 k1 a0 a1 a2 x11_1 (wrap64 ((wrap64 (1 + ((rdOf ByteArray.empty t159 x11_1).size : Int))) + 1)) t159 (wrap64 (x11_1 + 1))) else (spec_Reference.l0 k1 a0 a1 a2 x8_1 x9_1 t159 (wrap64 (x11_1 + 1)))) else (none)) else (none))) else (if x11_1 ≥ 6 then (spec_Reference.j1 k1 a0 a1 a2 x8_1 x9_1 t159 x11_1 (wrap64 (1 + ((rdOf ByteArray.empty t159 x11_1).size : Int))) true) else (if a2 = true then (if (wrap64 (a1 + (wrap64 (1 + ((rdOf ByteArray.empty t159 x11_1).size : Int))))) < (a0.size : Int) then (if 0 ≤ (wrap64 (a1 + (wrap64 (1 + ((rdOf ByteArray.empty t159 x11_1).size : Int))))) then ((spec_l1Letter.f (bt a0 (wrap64 (a1 + (wrap64 (1 + ((rdOf ByteArray.empty t159 x11_1).size : Int))))))).bind fun t168 => (if t168 = true then (spec_Reference.j1 k1 a0 a1 a2 x8_1 x9_1 t159 x11_1 (wrap64 (1 + ((rdOf ByteArray.empty t159 x11_1).size : Int))) true) else ((spec_l1Digit.f (bt a0 (wrap64 (a1 + (wrap64 (1 + ((rdOf ByteArray.empty t159 x11_1).size : Int))))))).bind fun t169 => (if t169 = true then (spec_Reference.j1 k1 a0 a1 a2 x8_1 x9_1 t159 x11_1 (wrap64 (1 + ((rdOf ByteArray.empty t159 x11_1).size : Int))) true) else (spec_Reference.j1 k1 a0 a1 a2 x8_1 x9_1 t159 x11_1 (wrap64 (1 + ((rdOf ByteArray.empty t159 x11_1).size : Int))) ((bt a0 (wrap64 (a1 + (wrap64 (1 + ((rdOf ByteArray.empty t159 x11_1).size : Int)))))) == 61)))))) else (none)) else (spec_Reference.j1 k1 a0 a1 a2 x8_1 x9_1 t159 x11_1 (wrap64 (1 + ((rdOf ByteArray.empty t159 x11_1).size : Int))) false)) else (spec_Reference.j1 k1 a0 a1 a2 x8_1 x9_1 t159 x11_1 (wrap64 (1 + ((rdOf ByteArray.empty t159 x11_1).size : Int))) false)))) = some (r1, r2) := H
                have A16 := Aside0.mk A160
                clear A160
                by_cases c17 : t165 = true
                · subst c17
                  have H1 : (if x8_1 < 0 then (spec_Reference.l0 k1 a0 a1 a2 x11_1 (wrap64 ((wrap64 (1 + ((rdOf ByteArray.empty t159 x11_1).size : Int))) + 1)) t159 (wrap64 (x11_1 + 1))) else (if 0 ≤ x8_1 then (if x8_1 < (t159.length : Int) then (if ((rdOf ByteArray.empty t159 x11_1).size : Int) > ((rdOf ByteArray.empty t159 x8_1).size : Int) then (spec_Reference.l0 k1 a0 a1 a2 x11_1 (wrap64 ((wrap64 (1 + ((rdOf ByteArray.empty t159 x11_1).size : Int))) + 1)) t159 (wrap64 (x11_1 + 1))) else (spec_Reference.l0 k1 a0 a1 a2 x8_1 x9_1 t159 (wrap64 (x11_1 + 1)))) else (none)) else (none))) = some (r1, r2) := by rw [if_pos rfl] at H; exact H
                  clear H
                  have H := H1
                  clear H1
                  by_cases c18 : x8_1 < 0
                  · rw [if_pos c18] at H
                    have c18b0 : decide (x8_1 < 0) = true := decide_eq_true c18
                    clear c18
                    have H' := Aside0.mk H
                    clear H
                    obtain ⟨Ao19, co19, eo19⟩ := Kd.R_slice HO_10.out
                    subst eo19
                    have p162 : 0 ≤ (x11_1 : Int) := of_decide_eq_true (by first | (with_reducible assumption) | assumption)
                    have q162 : x11_1 < (t159.length : Int) := of_decide_eq_true (by first | (with_reducible assumption) | assumption)
                    obtain ⟨ad162, e162, hx162_0⟩ := Kd.at_string (Kd.R_reads' HO_10.out).2.2 x11_1 p162 q162
                    cases e162
                    replace p162 := eq_true p162
                    replace q162 := eq_true q162
                    go_wp2_with (first | (go_at_call 6; (with_reducible refine (spec_l2Stands.calls a0 (wrap64 (a1 + 1)) (rdOf ByteArray.empty t159 x11_1) true _ A14.out).mono ?_); rintro e w' ⟨rfl, ⟨nd, rfl⟩⟩; (try first | exact ⟨rfl, _, World.drewN_drewN _ _ _⟩ | exact ⟨rfl, _, Eq.trans (World.drewN_drewN _ _ _) (congrArg (World.drewN _) (Nat.add_assoc _ _ _))⟩); have p164 : 0 ≤ (x11_1 : Int) := of_decide_eq_true (by first | (with_reducible assumption) | assumption); have q164 : x11_1 < (t159.length : Int) := of_decide_eq_true (by first | (with_reducible assumption) | assumption); obtain ⟨ad164, e164, hx164_0⟩ := Kd.at_string (Kd.R_reads' HO_10.out).2.2 x11_1 p164 q164; obtain rfl : ad162 = ad164 := (by injection e164); replace p164 := eq_true p164; replace q164 := eq_true q164) | (go_at_call 6; (with_reducible refine (spec_l2Stands.calls a0 (wrap64 (a1 + (wrap64 (1 + ((rdOf ByteArray.empty t159 x11_1).size : Int))))) (⟨#[59]⟩ : ByteArray) true _ A16.out).mono ?_); rintro e w' ⟨rfl, ⟨nd, rfl⟩⟩; (try first | exact ⟨rfl, _, World.drewN_drewN _ _ _⟩ | exact ⟨rfl, _, Eq.trans (World.drewN_drewN _ _ _) (congrArg (World.drewN _) (Nat.add_assoc _ _ _))⟩)))
                    repeat (go_quiet (first | (go_at_call 6; (with_reducible refine (spec_l2Stands.calls a0 (wrap64 (a1 + 1)) (rdOf ByteArray.empty t159 x11_1) true _ A14.out).mono ?_); rintro e w' ⟨rfl, ⟨nd, rfl⟩⟩; (try first | exact ⟨rfl, _, World.drewN_drewN _ _ _⟩ | exact ⟨rfl, _, Eq.trans (World.drewN_drewN _ _ _) (congrArg (World.drewN _) (Nat.add_assoc _ _ _))⟩); have p164 : 0 ≤ (x11_1 : Int) := of_decide_eq_true (by first | (with_reducible assumption) | assumption); have q164 : x11_1 < (t159.length : Int) := of_decide_eq_true (by first | (with_reducible assumption) | assumption); obtain ⟨ad164, e164, hx164_0⟩ := Kd.at_string (Kd.R_reads' HO_10.out).2.2 x11_1 p164 q164; obtain rfl : ad162 = ad164 := (by injection e164); replace p164 := eq_true p164; replace q164 := eq_true q164) | (go_at_call 6; (with_reducible refine (spec_l2Stands.calls a0 (wrap64 (a1 + (wrap64 (1 + ((rdOf ByteArray.empty t159 x11_1).size : Int))))) (⟨#[59]⟩ : ByteArray) true _ A16.out).mono ?_); rintro e w' ⟨rfl, ⟨nd, rfl⟩⟩; (try first | exact ⟨rfl, _, World.drewN_drewN _ _ _⟩ | exact ⟨rfl, _, Eq.trans (World.drewN_drewN _ _ _) (congrArg (World.drewN _) (Nat.add_assoc _ _ _))⟩))); try go_wp2_with (first | (go_at_call 6; (with_reducible refine (spec_l2Stands.calls a0 (wrap64 (a1 + 1)) (rdOf ByteArray.empty t159 x11_1) true _ A14.out).mono ?_); rintro e w' ⟨rfl, ⟨nd, rfl⟩⟩; (try first | exact ⟨rfl, _, World.drewN_drewN _ _ _⟩ | exact ⟨rfl, _, Eq.trans (World.drewN_drewN _ _ _) (congrArg (World.drewN _) (Nat.add_assoc _ _ _))⟩); have p164 : 0 ≤ (x11_1 : Int) := of_decide_eq_true (by first | (with_reducible assumption) | assumption); have q164 : x11_1 < (t159.length : Int) := of_decide_eq_true (by first | (with_reducible assumption) | assumption); obtain ⟨ad164, e164, hx164_0⟩ := Kd.at_string (Kd.R_reads' HO_10.out).2.2 x11_1 p164 q164; obtain rfl : ad162 = ad164 := (by injection e164); replace p164 := eq_true p164; replace q164 := eq_true q164) | (go_at_call 6; (with_reducible refine (spec_l2Stands.calls a0 (wrap64 (a1 + (wrap64 (1 + ((rdOf ByteArray.empty t159 x11_1).size : Int))))) (⟨#[59]⟩ : ByteArray) true _ A16.out).mono ?_); rintro e w' ⟨rfl, ⟨nd, rfl⟩⟩; (try first | exact ⟨rfl, _, World.drewN_drewN _ _ _⟩ | exact ⟨rfl, _, Eq.trans (World.drewN_drewN _ _ _) (congrArg (World.drewN _) (Nat.add_assoc _ _ _))⟩))))
                    go_roundg k1
                    case measure => have := HK1.out; omega
                    case rel => exact ⟨(x11_1), (wrap64 ((wrap64 (1 + ((rdOf ByteArray.empty t159 x11_1).size : Int))) + 1)), (wrap64 (x11_1 + 1)), (by first | rfl | (simp; done) | (simp [*]; done)), (by first | rfl | (simp; done) | (simp [*]; done)), (by first | rfl | (simp; done) | (simp [*]; done)), H', ⟨by have := HK1.out; omega⟩, ⟨by (with_reducible repeat (first | apply Kd.R_alloc | apply Kd.R_drewN | apply Kd.R_drew)); exact HO_10.out⟩, ⟨by repeat (first | (with_reducible first | exact HB.out | apply below_alloc | apply pw_below_drewN | apply below_drew1) | exact HB.out)⟩⟩
                  · rw [if_neg c18] at H
                    have c18b0 : decide (x8_1 < 0) = false := decide_eq_false c18
                    clear c18
                    by_cases c20 : 0 ≤ x8_1
                    · rw [if_pos c20] at H
                      have c20b0 : decide (0 ≤ x8_1) = true := decide_eq_true c20
                      clear c20
                      by_cases c21 : x8_1 < (t159.length : Int)
                      · rw [if_pos c21] at H
                        have c21b0 : decide (x8_1 < (t159.length : Int)) = true := decide_eq_true c21
                        clear c21
                        by_cases c22 : ((rdOf ByteArray.empty t159 x11_1).size : Int) > ((rdOf ByteArray.empty t159 x8_1).size : Int)
                        · rw [if_pos c22] at H
                          have c22b0 : decide (((rdOf ByteArray.empty t159 x8_1).size : Int) < ((rdOf ByteArray.empty t159 x11_1).size : Int)) = true := decide_eq_true c22
                          have c22b1 : decide ((rdOf ByteArray.empty t159 x8_1).size < (rdOf ByteArray.empty t159 x11_1).size) = true := decide_eq_true (Int.ofNat_lt.mp c22)
                          clear c22
                          have H' := Aside0.mk H
                          clear H
                          obtain ⟨Ao23, co23, eo23⟩ := Kd.R_slice HO_10.out
                          subst eo23
                          have p162 : 0 ≤ (x11_1 : Int) := of_decide_eq_true (by first | (with_reducible assumption) | assumption)
                          have q162 : x11_1 < (t159.length : Int) := of_decide_eq_true (by first | (with_reducible assumption) | assumption)
                          obtain ⟨ad162, e162, hx162_0⟩ := Kd.at_string (Kd.R_reads' HO_10.out).2.2 x11_1 p162 q162
                          cases e162
                          replace p162 := eq_true p162
                          replace q162 := eq_true q162
                          go_wp2_with (first | (go_at_call 6; (with_reducible refine (spec_l2Stands.calls a0 (wrap64 (a1 + 1)) (rdOf ByteArray.empty t159 x11_1) true _ A14.out).mono ?_); rintro e w' ⟨rfl, ⟨nd, rfl⟩⟩; (try first | exact ⟨rfl, _, World.drewN_drewN _ _ _⟩ | exact ⟨rfl, _, Eq.trans (World.drewN_drewN _ _ _) (congrArg (World.drewN _) (Nat.add_assoc _ _ _))⟩); have p164 : 0 ≤ (x11_1 : Int) := of_decide_eq_true (by first | (with_reducible assumption) | assumption); have q164 : x11_1 < (t159.length : Int) := of_decide_eq_true (by first | (with_reducible assumption) | assumption); obtain ⟨ad164, e164, hx164_0⟩ := Kd.at_string (Kd.R_reads' HO_10.out).2.2 x11_1 p164 q164; obtain rfl : ad162 = ad164 := (by injection e164); replace p164 := eq_true p164; replace q164 := eq_true q164) | (go_at_call 6; (with_reducible refine (spec_l2Stands.calls a0 (wrap64 (a1 + (wrap64 (1 + ((rdOf ByteArray.empty t159 x11_1).size : Int))))) (⟨#[59]⟩ : ByteArray) true _ A16.out).mono ?_); rintro e w' ⟨rfl, ⟨nd, rfl⟩⟩; (try first | exact ⟨rfl, _, World.drewN_drewN _ _ _⟩ | exact ⟨rfl, _, Eq.trans (World.drewN_drewN _ _ _) (congrArg (World.drewN _) (Nat.add_assoc _ _ _))⟩); have p166 : 0 ≤ (x11_1 : Int) := of_decide_eq_true (by first | (with_reducible assumption) | assumption); have q166 : x11_1 < (t159.length : Int) := of_decide_eq_true (by first | (with_reducible assumption) | assumption); obtain ⟨ad166, e166, hx166_0⟩ := Kd.at_string (Kd.R_reads' HO_10.out).2.2 x11_1 p166 q166; obtain rfl : ad162 = ad166 := (by injection e166); replace p166 := eq_true p166; replace q166 := eq_true q166; have p167 : 0 ≤ (x8_1 : Int) := of_decide_eq_true (by first | (with_reducible assumption) | assumption); have q167 : x8_1 < (t159.length : Int) := of_decide_eq_true (by first | (with_reducible assumption) | assumption); obtain ⟨ad167, e167, hx167_0⟩ := Kd.at_string (Kd.R_reads' HO_10.out).2.2 x8_1 p167 q167; obtain rfl : ad162 = ad167 := (by injection e167); replace p167 := eq_true p167; replace q167 := eq_true q167))
                          repeat (go_quiet (first | (go_at_call 6; (with_reducible refine (spec_l2Stands.calls a0 (wrap64 (a1 + 1)) (rdOf ByteArray.empty t159 x11_1) true _ A14.out).mono ?_); rintro e w' ⟨rfl, ⟨nd, rfl⟩⟩; (try first | exact ⟨rfl, _, World.drewN_drewN _ _ _⟩ | exact ⟨rfl, _, Eq.trans (World.drewN_drewN _ _ _) (congrArg (World.drewN _) (Nat.add_assoc _ _ _))⟩); have p164 : 0 ≤ (x11_1 : Int) := of_decide_eq_true (by first | (with_reducible assumption) | assumption); have q164 : x11_1 < (t159.length : Int) := of_decide_eq_true (by first | (with_reducible assumption) | assumption); obtain ⟨ad164, e164, hx164_0⟩ := Kd.at_string (Kd.R_reads' HO_10.out).2.2 x11_1 p164 q164; obtain rfl : ad162 = ad164 := (by injection e164); replace p164 := eq_true p164; replace q164 := eq_true q164) | (go_at_call 6; (with_reducible refine (spec_l2Stands.calls a0 (wrap64 (a1 + (wrap64 (1 + ((rdOf ByteArray.empty t159 x11_1).size : Int))))) (⟨#[59]⟩ : ByteArray) true _ A16.out).mono ?_); rintro e w' ⟨rfl, ⟨nd, rfl⟩⟩; (try first | exact ⟨rfl, _, World.drewN_drewN _ _ _⟩ | exact ⟨rfl, _, Eq.trans (World.drewN_drewN _ _ _) (congrArg (World.drewN _) (Nat.add_assoc _ _ _))⟩); have p166 : 0 ≤ (x11_1 : Int) := of_decide_eq_true (by first | (with_reducible assumption) | assumption); have q166 : x11_1 < (t159.length : Int) := of_decide_eq_true (by first | (with_reducible assumption) | assumption); obtain ⟨ad166, e166, hx166_0⟩ := Kd.at_string (Kd.R_reads' HO_10.out).2.2 x11_1 p166 q166; obtain rfl : ad162 = ad166 := (by injection e166); replace p166 := eq_true p166; replace q166 := eq_true q166; have p167 : 0 ≤ (x8_1 : Int) := of_decide_eq_true (by first | (with_reducible assumption) | assumption); have q167 : x8_1 < (t159.length : Int) := of_decide_eq_true (by first | (with_reducible assumption) | assumption); obtain ⟨ad167, e167, hx167_0⟩ := Kd.at_string (Kd.R_reads' HO_10.out).2.2 x8_1 p167 q167; obtain rfl : ad162 = ad167 := (by injection e167); replace p167 := eq_true p167; replace q167 := eq_true q167)); try go_wp2_with (first | (go_at_call 6; (with_reducible refine (spec_l2Stands.calls a0 (wrap64 (a1 + 1)) (rdOf ByteArray.empty t159 x11_1) true _ A14.out).mono ?_); rintro e w' ⟨rfl, ⟨nd, rfl⟩⟩; (try first | exact ⟨rfl, _, World.drewN_drewN _ _ _⟩ | exact ⟨rfl, _, Eq.trans (World.drewN_drewN _ _ _) (congrArg (World.drewN _) (Nat.add_assoc _ _ _))⟩); have p164 : 0 ≤ (x11_1 : Int) := of_decide_eq_true (by first | (with_reducible assumption) | assumption); have q164 : x11_1 < (t159.length : Int) := of_decide_eq_true (by first | (with_reducible assumption) | assumption); obtain ⟨ad164, e164, hx164_0⟩ := Kd.at_string (Kd.R_reads' HO_10.out).2.2 x11_1 p164 q164; obtain rfl : ad162 = ad164 := (by injection e164); replace p164 := eq_true p164; replace q164 := eq_true q164) | (go_at_call 6; (with_reducible refine (spec_l2Stands.calls a0 (wrap64 (a1 + (wrap64 (1 + ((rdOf ByteArray.empty t159 x11_1).size : Int))))) (⟨#[59]⟩ : ByteArray) true _ A16.out).mono ?_); rintro e w' ⟨rfl, ⟨nd, rfl⟩⟩; (try first | exact ⟨rfl, _, World.drewN_drewN _ _ _⟩ | exact ⟨rfl, _, Eq.trans (World.drewN_drewN _ _ _) (congrArg (World.drewN _) (Nat.add_assoc _ _ _))⟩); have p166 : 0 ≤ (x11_1 : Int) := of_decide_eq_true (by first | (with_reducible assumption) | assumption); have q166 : x11_1 < (t159.length : Int) := of_decide_eq_true (by first | (with_reducible assumption) | assumption); obtain ⟨ad166, e166, hx166_0⟩ := Kd.at_string (Kd.R_reads' HO_10.out).2.2 x11_1 p166 q166; obtain rfl : ad162 = ad166 := (by injection e166); replace p166 := eq_true p166; replace q166 := eq_true q166; have p167 : 0 ≤ (x8_1 : Int) := of_decide_eq_true (by first | (with_reducible assumption) | assumption); have q167 : x8_1 < (t159.length : Int) := of_decide_eq_true (by first | (with_reducible assumption) | assumption); obtain ⟨ad167, e167, hx167_0⟩ := Kd.at_string (Kd.R_reads' HO_10.out).2.2 x8_1 p167 q167; obtain rfl : ad162 = ad167 := (by injection e167); replace p167 := eq_true p167; replace q167 := eq_true q167)))
                          go_roundg k1
                          case measure => have := HK1.out; omega
                          case rel => exact ⟨(x11_1), (wrap64 ((wrap64 (1 + ((rdOf ByteArray.empty t159 x11_1).size : Int))) + 1)), (wrap64 (x11_1 + 1)), (by first | rfl | (simp; done) | (simp [*]; done)), (by first | rfl | (simp; done) | (simp [*]; done)), (by first | rfl | (simp; done) | (simp [*]; done)), H', ⟨by have := HK1.out; omega⟩, ⟨by (with_reducible repeat (first | apply Kd.R_alloc | apply Kd.R_drewN | apply Kd.R_drew)); exact HO_10.out⟩, ⟨by repeat (first | (with_reducible first | exact HB.out | apply below_alloc | apply pw_below_drewN | apply below_drew1) | exact HB.out)⟩⟩
                        · rw [if_neg c22] at H
                          have c22b0 : decide (((rdOf ByteArray.empty t159 x8_1).size : Int) < ((rdOf ByteArray.empty t159 x11_1).size : Int)) = false := decide_eq_false c22
                          have c22b1 : decide ((rdOf ByteArray.empty t159 x8_1).size < (rdOf ByteArray.empty t159 x11_1).size) = false := decide_eq_false (fun h => c22 (Int.ofNat_lt.mpr h))
                          clear c22
                          have H' := Aside0.mk H
                          clear H
                          obtain ⟨Ao24, co24, eo24⟩ := Kd.R_slice HO_10.out
                          subst eo24
                          have p162 : 0 ≤ (x11_1 : Int) := of_decide_eq_true (by first | (with_reducible assumption) | assumption)
                          have q162 : x11_1 < (t159.length : Int) := of_decide_eq_true (by first | (with_reducible assumption) | assumption)
                          obtain ⟨ad162, e162, hx162_0⟩ := Kd.at_string (Kd.R_reads' HO_10.out).2.2 x11_1 p162 q162
                          cases e162
                          replace p162 := eq_true p162
                          replace q162 := eq_true q162
                          go_wp2_with (first | (go_at_call 6; (with_reducible refine (spec_l2Stands.calls a0 (wrap64 (a1 + 1)) (rdOf ByteArray.empty t159 x11_1) true _ A14.out).mono ?_); rintro e w' ⟨rfl, ⟨nd, rfl⟩⟩; (try first | exact ⟨rfl, _, World.drewN_drewN _ _ _⟩ | exact ⟨rfl, _, Eq.trans (World.drewN_drewN _ _ _) (congrArg (World.drewN _) (Nat.add_assoc _ _ _))⟩); have p164 : 0 ≤ (x11_1 : Int) := of_decide_eq_true (by first | (with_reducible assumption) | assumption); have q164 : x11_1 < (t159.length : Int) := of_decide_eq_true (by first | (with_reducible assumption) | assumption); obtain ⟨ad164, e164, hx164_0⟩ := Kd.at_string (Kd.R_reads' HO_10.out).2.2 x11_1 p164 q164; obtain rfl : ad162 = ad164 := (by injection e164); replace p164 := eq_true p164; replace q164 := eq_true q164) | (go_at_call 6; (with_reducible refine (spec_l2Stands.calls a0 (wrap64 (a1 + (wrap64 (1 + ((rdOf ByteArray.empty t159 x11_1).size : Int))))) (⟨#[59]⟩ : ByteArray) true _ A16.out).mono ?_); rintro e w' ⟨rfl, ⟨nd, rfl⟩⟩; (try first | exact ⟨rfl, _, World.drewN_drewN _ _ _⟩ | exact ⟨rfl, _, Eq.trans (World.drewN_drewN _ _ _) (congrArg (World.drewN _) (Nat.add_assoc _ _ _))⟩); have p166 : 0 ≤ (x11_1 : Int) := of_decide_eq_true (by first | (with_reducible assumption) | assumption); have q166 : x11_1 < (t159.length : Int) := of_decide_eq_true (by first | (with_reducible assumption) | assumption); obtain ⟨ad166, e166, hx166_0⟩ := Kd.at_string (Kd.R_reads' HO_10.out).2.2 x11_1 p166 q166; obtain rfl : ad162 = ad166 := (by injection e166); replace p166 := eq_true p166; replace q166 := eq_true q166; have p167 : 0 ≤ (x8_1 : Int) := of_decide_eq_true (by first | (with_reducible assumption) | assumption); have q167 : x8_1 < (t159.length : Int) := of_decide_eq_true (by first | (with_reducible assumption) | assumption); obtain ⟨ad167, e167, hx167_0⟩ := Kd.at_string (Kd.R_reads' HO_10.out).2.2 x8_1 p167 q167; obtain rfl : ad162 = ad167 := (by injection e167); replace p167 := eq_true p167; replace q167 := eq_true q167))
                          repeat (go_quiet (first | (go_at_call 6; (with_reducible refine (spec_l2Stands.calls a0 (wrap64 (a1 + 1)) (rdOf ByteArray.empty t159 x11_1) true _ A14.out).mono ?_); rintro e w' ⟨rfl, ⟨nd, rfl⟩⟩; (try first | exact ⟨rfl, _, World.drewN_drewN _ _ _⟩ | exact ⟨rfl, _, Eq.trans (World.drewN_drewN _ _ _) (congrArg (World.drewN _) (Nat.add_assoc _ _ _))⟩); have p164 : 0 ≤ (x11_1 : Int) := of_decide_eq_true (by first | (with_reducible assumption) | assumption); have q164 : x11_1 < (t159.length : Int) := of_decide_eq_true (by first | (with_reducible assumption) | assumption); obtain ⟨ad164, e164, hx164_0⟩ := Kd.at_string (Kd.R_reads' HO_10.out).2.2 x11_1 p164 q164; obtain rfl : ad162 = ad164 := (by injection e164); replace p164 := eq_true p164; replace q164 := eq_true q164) | (go_at_call 6; (with_reducible refine (spec_l2Stands.calls a0 (wrap64 (a1 + (wrap64 (1 + ((rdOf ByteArray.empty t159 x11_1).size : Int))))) (⟨#[59]⟩ : ByteArray) true _ A16.out).mono ?_); rintro e w' ⟨rfl, ⟨nd, rfl⟩⟩; (try first | exact ⟨rfl, _, World.drewN_drewN _ _ _⟩ | exact ⟨rfl, _, Eq.trans (World.drewN_drewN _ _ _) (congrArg (World.drewN _) (Nat.add_assoc _ _ _))⟩); have p166 : 0 ≤ (x11_1 : Int) := of_decide_eq_true (by first | (with_reducible assumption) | assumption); have q166 : x11_1 < (t159.length : Int) := of_decide_eq_true (by first | (with_reducible assumption) | assumption); obtain ⟨ad166, e166, hx166_0⟩ := Kd.at_string (Kd.R_reads' HO_10.out).2.2 x11_1 p166 q166; obtain rfl : ad162 = ad166 := (by injection e166); replace p166 := eq_true p166; replace q166 := eq_true q166; have p167 : 0 ≤ (x8_1 : Int) := of_decide_eq_true (by first | (with_reducible assumption) | assumption); have q167 : x8_1 < (t159.length : Int) := of_decide_eq_true (by first | (with_reducible assumption) | assumption); obtain ⟨ad167, e167, hx167_0⟩ := Kd.at_string (Kd.R_reads' HO_10.out).2.2 x8_1 p167 q167; obtain rfl : ad162 = ad167 := (by injection e167); replace p167 := eq_true p167; replace q167 := eq_true q167)); try go_wp2_with (first | (go_at_call 6; (with_reducible refine (spec_l2Stands.calls a0 (wrap64 (a1 + 1)) (rdOf ByteArray.empty t159 x11_1) true _ A14.out).mono ?_); rintro e w' ⟨rfl, ⟨nd, rfl⟩⟩; (try first | exact ⟨rfl, _, World.drewN_drewN _ _ _⟩ | exact ⟨rfl, _, Eq.trans (World.drewN_drewN _ _ _) (congrArg (World.drewN _) (Nat.add_assoc _ _ _))⟩); have p164 : 0 ≤ (x11_1 : Int) := of_decide_eq_true (by first | (with_reducible assumption) | assumption); have q164 : x11_1 < (t159.length : Int) := of_decide_eq_true (by first | (with_reducible assumption) | assumption); obtain ⟨ad164, e164, hx164_0⟩ := Kd.at_string (Kd.R_reads' HO_10.out).2.2 x11_1 p164 q164; obtain rfl : ad162 = ad164 := (by injection e164); replace p164 := eq_true p164; replace q164 := eq_true q164) | (go_at_call 6; (with_reducible refine (spec_l2Stands.calls a0 (wrap64 (a1 + (wrap64 (1 + ((rdOf ByteArray.empty t159 x11_1).size : Int))))) (⟨#[59]⟩ : ByteArray) true _ A16.out).mono ?_); rintro e w' ⟨rfl, ⟨nd, rfl⟩⟩; (try first | exact ⟨rfl, _, World.drewN_drewN _ _ _⟩ | exact ⟨rfl, _, Eq.trans (World.drewN_drewN _ _ _) (congrArg (World.drewN _) (Nat.add_assoc _ _ _))⟩); have p166 : 0 ≤ (x11_1 : Int) := of_decide_eq_true (by first | (with_reducible assumption) | assumption); have q166 : x11_1 < (t159.length : Int) := of_decide_eq_true (by first | (with_reducible assumption) | assumption); obtain ⟨ad166, e166, hx166_0⟩ := Kd.at_string (Kd.R_reads' HO_10.out).2.2 x11_1 p166 q166; obtain rfl : ad162 = ad166 := (by injection e166); replace p166 := eq_true p166; replace q166 := eq_true q166; have p167 : 0 ≤ (x8_1 : Int) := of_decide_eq_true (by first | (with_reducible assumption) | assumption); have q167 : x8_1 < (t159.length : Int) := of_decide_eq_true (by first | (with_reducible assumption) | assumption); obtain ⟨ad167, e167, hx167_0⟩ := Kd.at_string (Kd.R_reads' HO_10.out).2.2 x8_1 p167 q167; obtain rfl : ad162 = ad167 := (by injection e167); replace p167 := eq_true p167; replace q167 := eq_true q167)))
                          go_roundg k1
                          case measure => have := HK1.out; omega
                          case rel => exact ⟨(x8_1), (x9_1), (wrap64 (x11_1 + 1)), (by first | rfl | (simp; done) | (simp [*]; done)), (by first | rfl | (simp; done) | (simp [*]; done)), (by first | rfl | (simp; done) | (simp [*]; done)), H', ⟨by have := HK1.out; omega⟩, ⟨by (with_reducible repeat (first | apply Kd.R_alloc | apply Kd.R_drewN | apply Kd.R_drew)); exact HO_10.out⟩, ⟨by repeat (first | (with_reducible first | exact HB.out | apply below_alloc | apply pw_below_drewN | apply below_drew1) | exact HB.out)⟩⟩
                      · rw [if_neg c21] at H
                        exact absurd H (by simp)
                    · rw [if_neg c20] at H
                      exact absurd H (by simp)
                · replace c17 := Bool.eq_false_iff.mpr c17
                  subst c17
                  have H1 : (if x11_1 ≥ 6 then (spec_Reference.j1 k1 a0 a1 a2 x8_1 x9_1 t159 x11_1 (wrap64 (1 + ((rdOf ByteArray.empty t159 x11_1).size : Int))) true) else (if a2 = true then (if (wrap64 (a1 + (wrap64 (1 + ((rdOf ByteArray.empty t159 x11_1).size : Int))))) < (a0.size : Int) then (if 0 ≤ (wrap64 (a1 + (wrap64 (1 + ((rdOf ByteArray.empty t159 x11_1).size : Int))))) then ((spec_l1Letter.f (bt a0 (wrap64 (a1 + (wrap64 (1 + ((rdOf ByteArray.empty t159 x11_1).size : Int))))))).bind fun t168 => (if t168 = true then (spec_Reference.j1 k1 a0 a1 a2 x8_1 x9_1 t159 x11_1 (wrap64 (1 + ((rdOf ByteArray.empty t159 x11_1).size : Int))) true) else ((spec_l1Digit.f (bt a0 (wrap64 (a1 + (wrap64 (1 + ((rdOf ByteArray.empty t159 x11_1).size : Int))))))).bind fun t169 => (if t169 = true then (spec_Reference.j1 k1 a0 a1 a2 x8_1 x9_1 t159 x11_1 (wrap64 (1 + ((rdOf ByteArray.empty t159 x11_1).size : Int))) true) else (spec_Reference.j1 k1 a0 a1 a2 x8_1 x9_1 t159 x11_1 (wrap64 (1 + ((rdOf ByteArray.empty t159 x11_1).size : Int))) ((bt a0 (wrap64 (a1 + (wrap64 (1 + ((rdOf ByteArray.empty t159 x11_1).size : Int)))))) == 61)))))) else (none)) else (spec_Reference.j1 k1 a0 a1 a2 x8_1 x9_1 t159 x11_1 (wrap64 (1 + ((rdOf ByteArray.empty t159 x11_1).size : Int))) false)) else (spec_Reference.j1 k1 a0 a1 a2 x8_1 x9_1 t159 x11_1 (wrap64 (1 + ((rdOf ByteArray.empty t159 x11_1).size : Int))) false))) = some (r1, r2) := by rw [if_neg (show ¬ (false = true) by decide)] at H; exact H
                  clear H
                  have H := H1
                  clear H1
                  have HC25 := Aside0.mk H
                  clear H
                  obtain ⟨Ao26, co26, eo26⟩ := Kd.R_slice HO_10.out
                  subst eo26
                  have p162 : 0 ≤ (x11_1 : Int) := of_decide_eq_true (by first | (with_reducible assumption) | assumption)
                  have q162 : x11_1 < (t159.length : Int) := of_decide_eq_true (by first | (with_reducible assumption) | assumption)
                  obtain ⟨ad162, e162, hx162_0⟩ := Kd.at_string (Kd.R_reads' HO_10.out).2.2 x11_1 p162 q162
                  cases e162
                  replace p162 := eq_true p162
                  replace q162 := eq_true q162
                  go_upto_region 16 with (first | (go_at_call 6; (with_reducible refine (spec_l2Stands.calls a0 (wrap64 (a1 + 1)) (rdOf ByteArray.empty t159 x11_1) true _ A14.out).mono ?_); rintro e w' ⟨rfl, ⟨nd, rfl⟩⟩; (try first | exact ⟨rfl, _, World.drewN_drewN _ _ _⟩ | exact ⟨rfl, _, Eq.trans (World.drewN_drewN _ _ _) (congrArg (World.drewN _) (Nat.add_assoc _ _ _))⟩); have p164 : 0 ≤ (x11_1 : Int) := of_decide_eq_true (by first | (with_reducible assumption) | assumption); have q164 : x11_1 < (t159.length : Int) := of_decide_eq_true (by first | (with_reducible assumption) | assumption); obtain ⟨ad164, e164, hx164_0⟩ := Kd.at_string (Kd.R_reads' HO_10.out).2.2 x11_1 p164 q164; obtain rfl : ad162 = ad164 := (by injection e164); replace p164 := eq_true p164; replace q164 := eq_true q164) | (go_at_call 6; (with_reducible refine (spec_l2Stands.calls a0 (wrap64 (a1 + (wrap64 (1 + ((rdOf ByteArray.empty t159 x11_1).size : Int))))) (⟨#[59]⟩ : ByteArray) false _ A16.out).mono ?_); rintro e w' ⟨rfl, ⟨nd, rfl⟩⟩; (try first | exact ⟨rfl, _, World.drewN_drewN _ _ _⟩ | exact ⟨rfl, _, Eq.trans (World.drewN_drewN _ _ _) (congrArg (World.drewN _) (Nat.add_assoc _ _ _))⟩)))
                  repeat (go_quiet (first | (go_at_call 6; (with_reducible refine (spec_l2Stands.calls a0 (wrap64 (a1 + 1)) (rdOf ByteArray.empty t159 x11_1) true _ A14.out).mono ?_); rintro e w' ⟨rfl, ⟨nd, rfl⟩⟩; (try first | exact ⟨rfl, _, World.drewN_drewN _ _ _⟩ | exact ⟨rfl, _, Eq.trans (World.drewN_drewN _ _ _) (congrArg (World.drewN _) (Nat.add_assoc _ _ _))⟩); have p164 : 0 ≤ (x11_1 : Int) := of_decide_eq_true (by first | (with_reducible assumption) | assumption); have q164 : x11_1 < (t159.length : Int) := of_decide_eq_true (by first | (with_reducible assumption) | assumption); obtain ⟨ad164, e164, hx164_0⟩ := Kd.at_string (Kd.R_reads' HO_10.out).2.2 x11_1 p164 q164; obtain rfl : ad162 = ad164 := (by injection e164); replace p164 := eq_true p164; replace q164 := eq_true q164) | (go_at_call 6; (with_reducible refine (spec_l2Stands.calls a0 (wrap64 (a1 + (wrap64 (1 + ((rdOf ByteArray.empty t159 x11_1).size : Int))))) (⟨#[59]⟩ : ByteArray) false _ A16.out).mono ?_); rintro e w' ⟨rfl, ⟨nd, rfl⟩⟩; (try first | exact ⟨rfl, _, World.drewN_drewN _ _ _⟩ | exact ⟨rfl, _, Eq.trans (World.drewN_drewN _ _ _) (congrArg (World.drewN _) (Nat.add_assoc _ _ _))⟩))); go_upto_region 16 with (first | (go_at_call 6; (with_reducible refine (spec_l2Stands.calls a0 (wrap64 (a1 + 1)) (rdOf ByteArray.empty t159 x11_1) true _ A14.out).mono ?_); rintro e w' ⟨rfl, ⟨nd, rfl⟩⟩; (try first | exact ⟨rfl, _, World.drewN_drewN _ _ _⟩ | exact ⟨rfl, _, Eq.trans (World.drewN_drewN _ _ _) (congrArg (World.drewN _) (Nat.add_assoc _ _ _))⟩); have p164 : 0 ≤ (x11_1 : Int) := of_decide_eq_true (by first | (with_reducible assumption) | assumption); have q164 : x11_1 < (t159.length : Int) := of_decide_eq_true (by first | (with_reducible assumption) | assumption); obtain ⟨ad164, e164, hx164_0⟩ := Kd.at_string (Kd.R_reads' HO_10.out).2.2 x11_1 p164 q164; obtain rfl : ad162 = ad164 := (by injection e164); replace p164 := eq_true p164; replace q164 := eq_true q164) | (go_at_call 6; (with_reducible refine (spec_l2Stands.calls a0 (wrap64 (a1 + (wrap64 (1 + ((rdOf ByteArray.empty t159 x11_1).size : Int))))) (⟨#[59]⟩ : ByteArray) false _ A16.out).mono ?_); rintro e w' ⟨rfl, ⟨nd, rfl⟩⟩; (try first | exact ⟨rfl, _, World.drewN_drewN _ _ _⟩ | exact ⟨rfl, _, Eq.trans (World.drewN_drewN _ _ _) (congrArg (World.drewN _) (Nat.add_assoc _ _ _))⟩))))
                  (try simp only [Act.put, List.setIfInBounds_toArray, List.set_cons_zero, List.set_cons_succ])
                  go_cut [84] (fun v84 wc => ∃ (kq : Nat) (x84_24 : Bool), v84 = .bool x84_24 ∧ Aside0 (spec_Reference.j1 kq a0 a1 a2 x8_1 x9_1 t159 x11_1 (wrap64 (1 + ((rdOf ByteArray.empty t159 x11_1).size : Int))) x84_24 = some (r1, r2)) ∧ Aside0 (kq ≤ k1) ∧ Aside0 (Kd.R Kd.string 9 wc w.heap.size (fun _ => True) (.slice (some ad162) t159.length co26) t159) ∧ Aside0 (Below w.heap.size w wc))
                  case first =>
                    have H := HC25.out
                    clear HC25
                    by_cases c27 : x11_1 ≥ 6
                    · rw [if_pos c27] at H
                      have c27b0 : decide (6 ≤ x11_1) = true := decide_eq_true c27
                      clear c27
                      (first | rw [c27b0] | (simp only [i64_w, i32_w]; rw [c27b0]) | rw [c27b1] | skip)
                      have H' := Aside0.mk H
                      clear H
                      go_wp2
                      repeat (go_quiet (fail); try go_wp2)
                      go_meet
                      case rel => exact ⟨_, (true), (by first | rfl | (simp; done) | (simp [*]; done)), H', ⟨by have := HK1.out; first | omega | exact Nat.le_refl _⟩, ⟨by (with_reducible repeat (first | apply Kd.R_alloc | apply Kd.R_drewN | apply Kd.R_drew)); exact HO_10.out⟩, ⟨by repeat (first | (with_reducible first | exact HB.out | apply below_alloc | apply pw_below_drewN | apply below_drew1) | exact HB.out)⟩⟩
                    · rw [if_neg c27] at H
                      have c27b0 : decide (6 ≤ x11_1) = false := decide_eq_false c27
                      clear c27
                      (first | rw [c27b0] | (simp only [i64_w, i32_w]; rw [c27b0]) | rw [c27b1] | skip)
                      by_cases c28 : a2 = true
                      · subst c28
                        have H1 : (if (wrap64 (a1 + (wrap64 (1 + ((rdOf ByteArray.empty t159 x11_1).size : Int))))) < (a0.size : Int) then (if 0 ≤ (wrap64 (a1 + (wrap64 (1 + ((rdOf ByteArray.empty t159 x11_1).size : Int))))) then ((spec_l1Letter.f (bt a0 (wrap64 (a1 + (wrap64 (1 + ((rdOf ByteArray.empty t159 x11_1).size : Int))))))).bind fun t168 => (if t168 = true then (spec_Reference.j1 k1 a0 a1 true x8_1 x9_1 t159 x11_1 (wrap64 (1 + ((rdOf ByteArray.empty t159 x11_1).size : Int))) true) else ((spec_l1Digit.f (bt a0 (wrap64 (a1 + (wrap64 (1 + ((rdOf ByteArray.empty t159 x11_1).size : Int))))))).bind fun t169 => (if t169 = true then (spec_Reference.j1 k1 a0 a1 true x8_1 x9_1 t159 x11_1 (wrap64 (1 + ((rdOf ByteArray.empty t159 x11_1).size : Int))) true) else (spec_Reference.j1 k1 a0 a1 true x8_1 x9_1 t159 x11_1 (wrap64 (1 + ((rdOf ByteArray.empty t159 x11_1).size : Int))) ((bt a0 (wrap64 (a1 + (wrap64 (1 + ((rdOf ByteArray.empty t159 x11_1).size : Int)))))) == 61)))))) else (none)) else (spec_Reference.j1 k1 a0 a1 true x8_1 x9_1 t159 x11_1 (wrap64 (1 + ((rdOf ByteArray.empty t159 x11_1).size : Int))) false)) = some (r1, r2) := by rw [if_pos rfl] at H; exact H
                        clear H
                        have H := H1
                        clear H1
                        by_cases c29 : (wrap64 (a1 + (wrap64 (1 + ((rdOf ByteArray.empty t159 x11_1).size : Int))))) < (a0.size : Int)
                        · rw [if_pos c29] at H
                          have c29b0 : decide ((wrap64 (a1 + (wrap64 (1 + ((rdOf ByteArray.empty t159 x11_1).size : Int))))) < (a0.size : Int)) = true := decide_eq_true c29
                          clear c29
                          obtain ⟨ji30, hji30⟩ : ∃ j_ : Int, (wrap64 (a1 + (wrap64 (1 + ((rdOf ByteArray.empty t159 x11_1).size : Int))))) = j_ := ⟨_, rfl⟩
                          replace H : (if 0 ≤ (ji30) then ((spec_l1Letter.f (bt a0 (ji30))).bind fun t168 => (if t168 = true then (spec_Reference.j1 k1 a0 a1 true x8_1 x9_1 t159 x11_1 (wrap64 (1 + ((rdOf ByteArray.empty t159 x11_1).size : Int))) true) else ((spec_l1Digit.f (bt a0 (ji30))).bind fun t169 => (if t169 = true then (spec_Reference.j1 k1 a0 a1 true x8_1 x9_1 t159 x11_1 (wrap64 (1 + ((rdOf ByteArray.empty t159 x11_1).size : Int))) true) else (spec_Reference.j1 k1 a0 a1 true x8_1 x9_1 t159 x11_1 (wrap64 (1 + ((rdOf ByteArray.empty t159 x11_1).size : Int))) ((bt a0 (ji30)) == 61)))))) else (none)) = some (r1, r2) := by first | (rw [hji30] at H; exact H) | (simp only [hji30] at H ⊢; exact H)
                          (try rw [hji30] at c29b0)
                          have hji30w : (IntKind.i64.wrap (a1 + (wrap64 (1 + ((rdOf ByteArray.empty t159 x11_1).size : Int))))) = ji30 := (i64_w _).trans hji30
                          by_cases c31 : 0 ≤ (ji30)
                          · rw [if_pos c31] at H
                            have c31b0 : decide (0 ≤ (ji30)) = true := decide_eq_true c31
                            clear c31
                            replace H := Option.bind_eq_some_iff.mp H
                            obtain ⟨t168, A330, H⟩ := H
                            replace H : (if t168 = true then (spec_Reference.j1 k1 a0 a1 true x8_1 x9_1 t159 x11_1 (wrap64 (1 + ((rdOf ByteArray.empty t159 x11_1).size : Int))) true) else ((spec_l1Digit.f (bt a0 (ji30))).bind fun t169 => (if t169 = true then (spec_Reference.j1 k1 a0 a1 true x8_1 x9_1 t159 x11_1 (wrap64 (1 + ((rdOf ByteArray.empty t159 x11_1).size : Int))) true) else (spec_Reference.j1 k1 a0 a1 true x8_1 x9_1 t159 x11_1 (wrap64 (1 + ((rdOf ByteArray.empty t159 x11_1).size : Int))) ((bt a0 (ji30)) == 61))))) = some (r1, r2) := H
                            have A33 := Aside0.mk A330
                            clear A330
                            by_cases c34 : t168 = true
                            · subst c34
                              have H1 : (spec_Reference.j1 k1 a0 a1 true x8_1 x9_1 t159 x11_1 (wrap64 (1 + ((rdOf ByteArray.empty t159 x11_1).size : Int))) true) = some (r1, r2) := by rw [if_pos rfl] at H; exact H
                              clear H
                              have H := H1
                              clear H1
                              have H' := Aside0.mk H
                              clear H
                              have p32 : 0 ≤ ((ji30) : Int) := of_decide_eq_true (by first | (with_reducible assumption) | assumption)
                              have q32 : (ji30) < (a0.size : Int) := of_decide_eq_true (by first | (with_reducible assumption) | assumption)
                              have hx32 := bt_at a0 (ji30)
                              replace p32 := eq_true p32
                              replace q32 := eq_true q32
                              go_wp2_with (first | (go_at_call 9; (with_reducible refine (spec_l1Letter.calls (bt a0 (ji30)) true _ A33.out).mono ?_); rintro e w' ⟨rfl, ⟨nd, rfl⟩⟩; (try first | exact ⟨rfl, _, World.drewN_drewN _ _ _⟩ | exact ⟨rfl, _, Eq.trans (World.drewN_drewN _ _ _) (congrArg (World.drewN _) (Nat.add_assoc _ _ _))⟩)))
                              repeat (go_quiet (first | (go_at_call 9; (with_reducible refine (spec_l1Letter.calls (bt a0 (ji30)) true _ A33.out).mono ?_); rintro e w' ⟨rfl, ⟨nd, rfl⟩⟩; (try first | exact ⟨rfl, _, World.drewN_drewN _ _ _⟩ | exact ⟨rfl, _, Eq.trans (World.drewN_drewN _ _ _) (congrArg (World.drewN _) (Nat.add_assoc _ _ _))⟩))); try go_wp2_with (first | (go_at_call 9; (with_reducible refine (spec_l1Letter.calls (bt a0 (ji30)) true _ A33.out).mono ?_); rintro e w' ⟨rfl, ⟨nd, rfl⟩⟩; (try first | exact ⟨rfl, _, World.drewN_drewN _ _ _⟩ | exact ⟨rfl, _, Eq.trans (World.drewN_drewN _ _ _) (congrArg (World.drewN _) (Nat.add_assoc _ _ _))⟩))))
                              (try subst hji30)
                              go_meet
                              case rel => exact ⟨_, (true), (by first | rfl | (simp; done) | (simp [*]; done)), H', ⟨by have := HK1.out; first | omega | exact Nat.le_refl _⟩, ⟨by (with_reducible repeat (first | apply Kd.R_alloc | apply Kd.R_drewN | apply Kd.R_drew)); exact HO_10.out⟩, ⟨by repeat (first | (with_reducible first | exact HB.out | apply below_alloc | apply pw_below_drewN | apply below_drew1) | exact HB.out)⟩⟩
                            · replace c34 := Bool.eq_false_iff.mpr c34
                              subst c34
                              have H1 : ((spec_l1Digit.f (bt a0 (ji30))).bind fun t169 => (if t169 = true then (spec_Reference.j1 k1 a0 a1 true x8_1 x9_1 t159 x11_1 (wrap64 (1 + ((rdOf ByteArray.empty t159 x11_1).size : Int))) true) else (spec_Reference.j1 k1 a0 a1 true x8_1 x9_1 t159 x11_1 (wrap64 (1 + ((rdOf ByteArray.empty t159 x11_1).size : Int))) ((bt a0 (ji30)) == 61)))) = some (r1, r2) := by rw [if_neg (show ¬ (false = true) by decide)] at H; exact H
                              clear H
                              have H := H1
                              clear H1
                              replace H := Option.bind_eq_some_iff.mp H
                              obtain ⟨t169, A360, H⟩ := H
                              replace H : (if t169 = true then (spec_Reference.j1 k1 a0 a1 true x8_1 x9_1 t159 x11_1 (wrap64 (1 + ((rdOf ByteArray.empty t159 x11_1).size : Int))) true) else (spec_Reference.j1 k1 a0 a1 true x8_1 x9_1 t159 x11_1 (wrap64 (1 + ((rdOf ByteArray.empty t159 x11_1).size : Int))) ((bt a0 (ji30)) == 61))) = some (r1, r2) := H
                              have A36 := Aside0.mk A360
                              clear A360
                              by_cases c37 : t169 = true
                              · subst c37
                                have H1 : (spec_Reference.j1 k1 a0 a1 true x8_1 x9_1 t159 x11_1 (wrap64 (1 + ((rdOf ByteArray.empty t159 x11_1).size : Int))) true) = some (r1, r2) := by rw [if_pos rfl] at H; exact H
                                clear H
                                have H := H1
                                clear H1
                                have H' := Aside0.mk H
                                clear H
                                have p32 : 0 ≤ ((ji30) : Int) := of_decide_eq_true (by first | (with_reducible assumption) | assumption)
                                have q32 : (ji30) < (a0.size : Int) := of_decide_eq_true (by first | (with_reducible assumption) | assumption)
                                have hx32 := bt_at a0 (ji30)
                                replace p32 := eq_true p32
                                replace q32 := eq_true q32
                                go_wp2_with (first | (go_at_call 9; (with_reducible refine (spec_l1Letter.calls (bt a0 (ji30)) false _ A33.out).mono ?_); rintro e w' ⟨rfl, ⟨nd, rfl⟩⟩; (try first | exact ⟨rfl, _, World.drewN_drewN _ _ _⟩ | exact ⟨rfl, _, Eq.trans (World.drewN_drewN _ _ _) (congrArg (World.drewN _) (Nat.add_assoc _ _ _))⟩); have p35 : 0 ≤ ((ji30) : Int) := of_decide_eq_true (by first | (with_reducible assumption) | assumption); have q35 : (ji30) < (a0.size : Int) := of_decide_eq_true (by first | (with_reducible assumption) | assumption); have hx35 := bt_at a0 (ji30); replace p35 := eq_true p35; replace q35 := eq_true q35) | (go_at_call 10; (with_reducible refine (spec_l1Digit.calls (bt a0 (ji30)) true _ A36.out).mono ?_); rintro e w' ⟨rfl, ⟨nd, rfl⟩⟩; (try first | exact ⟨rfl, _, World.drewN_drewN _ _ _⟩ | exact ⟨rfl, _, Eq.trans (World.drewN_drewN _ _ _) (congrArg (World.drewN _) (Nat.add_assoc _ _ _))⟩)))
                                repeat (go_quiet (first | (go_at_call 9; (with_reducible refine (spec_l1Letter.calls (bt a0 (ji30)) false _ A33.out).mono ?_); rintro e w' ⟨rfl, ⟨nd, rfl⟩⟩; (try first | exact ⟨rfl, _, World.drewN_drewN _ _ _⟩ | exact ⟨rfl, _, Eq.trans (World.drewN_drewN _ _ _) (congrArg (World.drewN _) (Nat.add_assoc _ _ _))⟩); have p35 : 0 ≤ ((ji30) : Int) := of_decide_eq_true (by first | (with_reducible assumption) | assumption); have q35 : (ji30) < (a0.size : Int) := of_decide_eq_true (by first | (with_reducible assumption) | assumption); have hx35 := bt_at a0 (ji30); replace p35 := eq_true p35; replace q35 := eq_true q35) | (go_at_call 10; (with_reducible refine (spec_l1Digit.calls (bt a0 (ji30)) true _ A36.out).mono ?_); rintro e w' ⟨rfl, ⟨nd, rfl⟩⟩; (try first | exact ⟨rfl, _, World.drewN_drewN _ _ _⟩ | exact ⟨rfl, _, Eq.trans (World.drewN_drewN _ _ _) (congrArg (World.drewN _) (Nat.add_assoc _ _ _))⟩))); try go_wp2_with (first | (go_at_call 9; (with_reducible refine (spec_l1Letter.calls (bt a0 (ji30)) false _ A33.out).mono ?_); rintro e w' ⟨rfl, ⟨nd, rfl⟩⟩; (try first | exact ⟨rfl, _, World.drewN_drewN _ _ _⟩ | exact ⟨rfl, _, Eq.trans (World.drewN_drewN _ _ _) (congrArg (World.drewN _) (Nat.add_assoc _ _ _))⟩); have p35 : 0 ≤ ((ji30) : Int) := of_decide_eq_true (by first | (with_reducible assumption) | assumption); have q35 : (ji30) < (a0.size : Int) := of_decide_eq_true (by first | (with_reducible assumption) | assumption); have hx35 := bt_at a0 (ji30); replace p35 := eq_true p35; replace q35 := eq_true q35) | (go_at_call 10; (with_reducible refine (spec_l1Digit.calls (bt a0 (ji30)) true _ A36.out).mono ?_); rintro e w' ⟨rfl, ⟨nd, rfl⟩⟩; (try first | exact ⟨rfl, _, World.drewN_drewN _ _ _⟩ | exact ⟨rfl, _, Eq.trans (World.drewN_drewN _ _ _) (congrArg (World.drewN _) (Nat.add_assoc _ _ _))⟩))))
                                (try subst hji30)
                                go_meet
                                case rel => exact ⟨_, (true), (by first | rfl | (simp; done) | (simp [*]; done)), H', ⟨by have := HK1.out; first | omega | exact Nat.le_refl _⟩, ⟨by (with_reducible repeat (first | apply Kd.R_alloc | apply Kd.R_drewN | apply Kd.R_drew)); exact HO_10.out⟩, ⟨by repeat (first | (with_reducible first | exact HB.out | apply below_alloc | apply pw_below_drewN | apply below_drew1) | exact HB.out)⟩⟩
                              · replace c37 := Bool.eq_false_iff.mpr c37
                                subst c37
                                have H1 : (spec_Reference.j1 k1 a0 a1 true x8_1 x9_1 t159 x11_1 (wrap64 (1 + ((rdOf ByteArray.empty t159 x11_1).size : Int))) ((bt a0 (ji30)) == 61)) = some (r1, r2) := by rw [if_neg (show ¬ (false = true) by decide)] at H; exact H
                                clear H
                                have H := H1
                                clear H1
                                have H' := Aside0.mk H
                                clear H
                                have p32 : 0 ≤ ((ji30) : Int) := of_decide_eq_true (by first | (with_reducible assumption) | assumption)
                                have q32 : (ji30) < (a0.size : Int) := of_decide_eq_true (by first | (with_reducible assumption) | assumption)
                                have hx32 := bt_at a0 (ji30)
                                replace p32 := eq_true p32
                                replace q32 := eq_true q32
                                go_wp2_with (first | (go_at_call 9; (with_reducible refine (spec_l1Letter.calls (bt a0 (ji30)) false _ A33.out).mono ?_); rintro e w' ⟨rfl, ⟨nd, rfl⟩⟩; (try first | exact ⟨rfl, _, World.drewN_drewN _ _ _⟩ | exact ⟨rfl, _, Eq.trans (World.drewN_drewN _ _ _) (congrArg (World.drewN _) (Nat.add_assoc _ _ _))⟩); have p35 : 0 ≤ ((ji30) : Int) := of_decide_eq_true (by first | (with_reducible assumption) | assumption); have q35 : (ji30) < (a0.size : Int) := of_decide_eq_true (by first | (with_reducible assumption) | assumption); have hx35 := bt_at a0 (ji30); replace p35 := eq_true p35; replace q35 := eq_true q35) | (go_at_call 10; (with_reducible refine (spec_l1Digit.calls (bt a0 (ji30)) false _ A36.out).mono ?_); rintro e w' ⟨rfl, ⟨nd, rfl⟩⟩; (try first | exact ⟨rfl, _, World.drewN_drewN _ _ _⟩ | exact ⟨rfl, _, Eq.trans (World.drewN_drewN _ _ _) (congrArg (World.drewN _) (Nat.add_assoc _ _ _))⟩); have p38 : 0 ≤ ((ji30) : Int) := of_decide_eq_true (by first | (with_reducible assumption) | assumption); have q38 : (ji30) < (a0.size : Int) := of_decide_eq_true (by first | (with_reducible assumption) | assumption); have hx38 := bt_at a0 (ji30); replace p38 := eq_true p38; replace q38 := eq_true q38))
                                repeat (go_quiet (first | (go_at_call 9; (with_reducible refine (spec_l1Letter.calls (bt a0 (ji30)) false _ A33.out).mono ?_); rintro e w' ⟨rfl, ⟨nd, rfl⟩⟩; (try first | exact ⟨rfl, _, World.drewN_drewN _ _ _⟩ | exact ⟨rfl, _, Eq.trans (World.drewN_drewN _ _ _) (congrArg (World.drewN _) (Nat.add_assoc _ _ _))⟩); have p35 : 0 ≤ ((ji30) : Int) := of_decide_eq_true (by first | (with_reducible assumption) | assumption); have q35 : (ji30) < (a0.size : Int) := of_decide_eq_true (by first | (with_reducible assumption) | assumption); have hx35 := bt_at a0 (ji30); replace p35 := eq_true p35; replace q35 := eq_true q35) | (go_at_call 10; (with_reducible refine (spec_l1Digit.calls (bt a0 (ji30)) false _ A36.out).mono ?_); rintro e w' ⟨rfl, ⟨nd, rfl⟩⟩; (try first | exact ⟨rfl, _, World.drewN_drewN _ _ _⟩ | exact ⟨rfl, _, Eq.trans (World.drewN_drewN _ _ _) (congrArg (World.drewN _) (Nat.add_assoc _ _ _))⟩); have p38 : 0 ≤ ((ji30) : Int) := of_decide_eq_true (by first | (with_reducible assumption) | assumption); have q38 : (ji30) < (a0.size : Int) := of_decide_eq_true (by first | (with_reducible assumption) | assumption); have hx38 := bt_at a0 (ji30); replace p38 := eq_true p38; replace q38 := eq_true q38)); try go_wp2_with (first | (go_at_call 9; (with_reducible refine (spec_l1Letter.calls (bt a0 (ji30)) false _ A33.out).mono ?_); rintro e w' ⟨rfl, ⟨nd, rfl⟩⟩; (try first | exact ⟨rfl, _, World.drewN_drewN _ _ _⟩ | exact ⟨rfl, _, Eq.trans (World.drewN_drewN _ _ _) (congrArg (World.drewN _) (Nat.add_assoc _ _ _))⟩); have p35 : 0 ≤ ((ji30) : Int) := of_decide_eq_true (by first | (with_reducible assumption) | assumption); have q35 : (ji30) < (a0.size : Int) := of_decide_eq_true (by first | (with_reducible assumption) | assumption); have hx35 := bt_at a0 (ji30); replace p35 := eq_true p35; replace q35 := eq_true q35) | (go_at_call 10; (with_reducible refine (spec_l1Digit.calls (bt a0 (ji30)) false _ A36.out).mono ?_); rintro e w' ⟨rfl, ⟨nd, rfl⟩⟩; (try first | exact ⟨rfl, _, World.drewN_drewN _ _ _⟩ | exact ⟨rfl, _, Eq.trans (World.drewN_drewN _ _ _) (congrArg (World.drewN _) (Nat.add_assoc _ _ _))⟩); have p38 : 0 ≤ ((ji30) : Int) := of_decide_eq_true (by first | (with_reducible assumption) | assumption); have q38 : (ji30) < (a0.size : Int) := of_decide_eq_true (by first | (with_reducible assumption) | assumption); have hx38 := bt_at a0 (ji30); replace p38 := eq_true p38; replace q38 := eq_true q38)))
                                (try subst hji30)
                                go_meet
                                case rel => exact ⟨_, _, (by first | rfl | (simp; done) | (simp only [← hji30] <;> (first | rfl | simp)) | (simp [*]; done)), H', ⟨by have := HK1.out; first | omega | exact Nat.le_refl _⟩, ⟨by (with_reducible repeat (first | apply Kd.R_alloc | apply Kd.R_drewN | apply Kd.R_drew)); exact HO_10.out⟩, ⟨by repeat (first | (with_reducible first | exact HB.out | apply below_alloc | apply pw_below_drewN | apply below_drew1) | exact HB.out)⟩⟩
                          · rw [if_neg c31] at H
                            exact absurd H (by simp)
                        · rw [if_neg c29] at H
                          have c29b0 : decide ((wrap64 (a1 + (wrap64 (1 + ((rdOf ByteArray.empty t159 x11_1).size : Int))))) < (a0.size : Int)) = false := decide_eq_false c29
                          clear c29
                          have H' := Aside0.mk H
                          clear H
                          go_wp2
                          repeat (go_quiet (fail); try go_wp2)
                          go_meet
                          case rel => exact ⟨_, (false), (by first | rfl | (simp; done) | (simp [*]; done)), H', ⟨by have := HK1.out; first | omega | exact Nat.le_refl _⟩, ⟨by (with_reducible repeat (first | apply Kd.R_alloc | apply Kd.R_drewN | apply Kd.R_drew)); exact HO_10.out⟩, ⟨by repeat (first | (with_reducible first | exact HB.out | apply below_alloc | apply pw_below_drewN | apply below_drew1) | exact HB.out)⟩⟩
                      · replace c28 := Bool.eq_false_iff.mpr c28
                        subst c28
                        have H1 : (spec_Reference.j1 k1 a0 a1 false x8_1 x9_1 t159 x11_1 (wrap64 (1 + ((rdOf ByteArray.empty t159 x11_1).size : Int))) false) = some (r1, r2) := by rw [if_neg (show ¬ (false = true) by decide)] at H; exact H
                        clear H
                        have H := H1
                        clear H1
                        have H' := Aside0.mk H
                        clear H
                        go_wp2
                        repeat (go_quiet (fail); try go_wp2)
                        go_meet
                        case rel => exact ⟨_, (false), (by first | rfl | (simp; done) | (simp [*]; done)), H', ⟨by have := HK1.out; first | omega | exact Nat.le_refl _⟩, ⟨by (with_reducible repeat (first | apply Kd.R_alloc | apply Kd.R_drewN | apply Kd.R_drew)); exact HO_10.out⟩, ⟨by repeat (first | (with_reducible first | exact HB.out | apply below_alloc | apply pw_below_drewN | apply below_drew1) | exact HB.out)⟩⟩
                  case rest =>
                    clear HC25
                    try clear c1
                    try clear p1
                    try clear q1
                    try clear hx1
                    try clear c2
                    try clear p2
                    try clear c3
                    try clear p3
                    try clear q3
                    try clear hx3
                    try clear c4
                    try clear c5
                    try clear p6
                    try clear c7
                    try clear c12
                    try clear c12b0
                    try clear c13
                    try clear c13b0
                    try clear c15
                    try clear p16
                    try clear q16
                    try clear hx16
                    try clear c17
                    try clear c18
                    try clear c18b0
                    try clear c20
                    try clear c20b0
                    try clear c21
                    try clear c21b0
                    try clear c22
                    try clear c22b0
                    try clear c22b1
                    try clear c27
                    try clear c27b0
                    try clear c28
                    try clear c29
                    try clear c29b0
                    try clear c31
                    try clear c31b0
                    try clear p32
                    try clear q32
                    try clear hx32
                    try clear c34
                    try clear p35
                    try clear q35
                    try clear hx35
                    try clear c37
                    try clear p38
                    try clear q38
                    try clear hx38
                    try clear hx162_0
                    try clear hx164_0
                    try clear hx166_0
                    try clear hx167_0
                    try clear p162
                    try clear p164
                    try clear p166
                    try clear p167
                    try clear p2
                    try clear p32
                    try clear p35
                    try clear p38
                    try clear q162
                    try clear q164
                    try clear q166
                    try clear q167
                    try clear q32
                    try clear q35
                    try clear q38
                    obtain ⟨kq, x84_24, rfl, HA, HJ24, HO_10, HB⟩ := hcut
                    cases kq with
                    | zero => exact absurd HA.out (by simp [spec_Reference.j1])
                    | succ kj24 =>
                      have H := HA.out
                      clear HA
                      simp only [spec_Reference.j1] at H
                      by_cases c39 : x84_24 = true
                      · subst c39
                        have H1 : (spec_Reference.l0 kj24 a0 a1 a2 x8_1 x9_1 t159 (wrap64 (x11_1 + 1))) = some (r1, r2) := by rw [if_pos rfl] at H; exact H
                        clear H
                        have H := H1
                        clear H1
                        have H' := Aside0.mk H
                        clear H
                        go_wp2
                        repeat (go_quiet (fail); try go_wp2)
                        go_roundg kj24
                        case measure => have := HK1.out; have := HJ24.out; omega
                        case rel => exact ⟨(x8_1), (x9_1), (wrap64 (x11_1 + 1)), (by first | rfl | (simp; done) | (simp [*]; done)), (by first | rfl | (simp; done) | (simp [*]; done)), (by first | rfl | (simp; done) | (simp [*]; done)), H', ⟨by have := HK1.out; have := HJ24.out; omega⟩, ⟨by (with_reducible repeat (first | apply Kd.R_alloc | apply Kd.R_drewN | apply Kd.R_drew)); exact HO_10.out⟩, ⟨by repeat (first | (with_reducible first | exact HB.out | apply below_alloc | apply pw_below_drewN | apply below_drew1) | exact HB.out)⟩⟩
                      · replace c39 := Bool.eq_false_iff.mpr c39
                        subst c39
                        have H1 : (if x8_1 < 0 then (spec_Reference.l0 kj24 a0 a1 a2 x11_1 (wrap64 (1 + ((rdOf ByteArray.empty t159 x11_1).size : Int))) t159 (wrap64 (x11_1 + 1))) else (if 0 ≤ x11_1 then (if x11_1 < (t159.length : Int) then (if 0 ≤ x8_1 then (if x8_1 < (t159.length : Int) then (if ((rdOf ByteArray.empty t159 x11_1).size : Int) > ((rdOf ByteArray.empty t159 x8_1).size : Int) then (spec_Reference.l0 kj24 a0 a1 a2 x11_1 (wrap64 (1 + ((rdOf ByteArray.empty t159 x11_1).size : Int))) t159 (wrap64 (x11_1 + 1))) else (spec_Reference.l0 kj24 a0 a1 a2 x8_1 x9_1 t159 (wrap64 (x11_1 + 1)))) else (none)) else (none)) else (none)) else (none))) = some (r1, r2) := by rw [if_neg (show ¬ (false = true) by decide)] at H; exact H
                        clear H
                        have H := H1
                        clear H1
                        by_cases c40 : x8_1 < 0
                        · rw [if_pos c40] at H
                          have c40b0 : decide (x8_1 < 0) = true := decide_eq_true c40
                          clear c40
                          have H' := Aside0.mk H
                          clear H
                          go_wp2
                          repeat (go_quiet (fail); try go_wp2)
                          go_roundg kj24
                          case measure => have := HK1.out; have := HJ24.out; omega
                          case rel => exact ⟨(x11_1), ((wrap64 (1 + ((rdOf ByteArray.empty t159 x11_1).size : Int)))), (wrap64 (x11_1 + 1)), (by first | rfl | (simp; done) | (simp [*]; done)), (by first | rfl | (simp; done) | (simp [*]; done)), (by first | rfl | (simp; done) | (simp [*]; done)), H', ⟨by have := HK1.out; have := HJ24.out; omega⟩, ⟨by (with_reducible repeat (first | apply Kd.R_alloc | apply Kd.R_drewN | apply Kd.R_drew)); exact HO_10.out⟩, ⟨by repeat (first | (with_reducible first | exact HB.out | apply below_alloc | apply pw_below_drewN | apply below_drew1) | exact HB.out)⟩⟩
                        · rw [if_neg c40] at H
                          have c40b0 : decide (x8_1 < 0) = false := decide_eq_false c40
                          clear c40
                          by_cases c41 : 0 ≤ x11_1
                          · rw [if_pos c41] at H
                            have c41b0 : decide (0 ≤ x11_1) = true := decide_eq_true c41
                            clear c41
                            by_cases c42 : x11_1 < (t159.length : Int)
                            · rw [if_pos c42] at H
                              have c42b0 : decide (x11_1 < (t159.length : Int)) = true := decide_eq_true c42
                              clear c42
                              by_cases c43 : 0 ≤ x8_1
                              · rw [if_pos c43] at H
                                have c43b0 : decide (0 ≤ x8_1) = true := decide_eq_true c43
                                clear c43
                                by_cases c44 : x8_1 < (t159.length : Int)
                                · rw [if_pos c44] at H
                                  have c44b0 : decide (x8_1 < (t159.length : Int)) = true := decide_eq_true c44
                                  clear c44
                                  by_cases c45 : ((rdOf ByteArray.empty t159 x11_1).size : Int) > ((rdOf ByteArray.empty t159 x8_1).size : Int)
                                  · rw [if_pos c45] at H
                                    have c45b0 : decide (((rdOf ByteArray.empty t159 x8_1).size : Int) < ((rdOf ByteArray.empty t159 x11_1).size : Int)) = true := decide_eq_true c45
                                    have c45b1 : decide ((rdOf ByteArray.empty t159 x8_1).size < (rdOf ByteArray.empty t159 x11_1).size) = true := decide_eq_true (Int.ofNat_lt.mp c45)
                                    clear c45
                                    have H' := Aside0.mk H
                                    clear H
                                    have p170 : 0 ≤ (x11_1 : Int) := of_decide_eq_true (by first | (with_reducible assumption) | assumption)
                                    have q170 : x11_1 < (t159.length : Int) := of_decide_eq_true (by first | (with_reducible assumption) | assumption)
                                    obtain ⟨ad170, e170, hx170_0⟩ := Kd.at_string (Kd.R_reads' HO_10.out).2.2 x11_1 p170 q170
                                    obtain rfl : ad162 = ad170 := (by injection e170)
                                    replace p170 := eq_true p170
                                    replace q170 := eq_true q170
                                    have p171 : 0 ≤ (x8_1 : Int) := of_decide_eq_true (by first | (with_reducible assumption) | assumption)
                                    have q171 : x8_1 < (t159.length : Int) := of_decide_eq_true (by first | (with_reducible assumption) | assumption)
                                    obtain ⟨ad171, e171, hx171_0⟩ := Kd.at_string (Kd.R_reads' HO_10.out).2.2 x8_1 p171 q171
                                    obtain rfl : ad162 = ad171 := (by injection e171)
                                    replace p171 := eq_true p171
                                    replace q171 := eq_true q171
                                    go_wp2
                                    repeat (go_quiet (fail); try go_wp2)
                                    go_roundg kj24
                                    case measure => have := HK1.out; have := HJ24.out; omega
                                    case rel => exact ⟨(x11_1), ((wrap64 (1 + ((rdOf ByteArray.empty t159 x11_1).size : Int)))), (wrap64 (x11_1 + 1)), (by first | rfl | (simp; done) | (simp [*]; done)), (by first | rfl | (simp; done) | (simp [*]; done)), (by first | rfl | (simp; done) | (simp [*]; done)), H', ⟨by have := HK1.out; have := HJ24.out; omega⟩, ⟨by (with_reducible repeat (first | apply Kd.R_alloc | apply Kd.R_drewN | apply Kd.R_drew)); exact HO_10.out⟩, ⟨by repeat (first | (with_reducible first | exact HB.out | apply below_alloc | apply pw_below_drewN | apply below_drew1) | exact HB.out)⟩⟩
                                  · rw [if_neg c45] at H
                                    have c45b0 : decide (((rdOf ByteArray.empty t159 x8_1).size : Int) < ((rdOf ByteArray.empty t159 x11_1).size : Int)) = false := decide_eq_false c45
                                    have c45b1 : decide ((rdOf ByteArray.empty t159 x8_1).size < (rdOf ByteArray.empty t159 x11_1).size) = false := decide_eq_false (fun h => c45 (Int.ofNat_lt.mpr h))
                                    clear c45
                                    have H' := Aside0.mk H
                                    clear H
                                    have p170 : 0 ≤ (x11_1 : Int) := of_decide_eq_true (by first | (with_reducible assumption) | assumption)
                                    have q170 : x11_1 < (t159.length : Int) := of_decide_eq_true (by first | (with_reducible assumption) | assumption)
                                    obtain ⟨ad170, e170, hx170_0⟩ := Kd.at_string (Kd.R_reads' HO_10.out).2.2 x11_1 p170 q170
                                    obtain rfl : ad162 = ad170 := (by injection e170)
                                    replace p170 := eq_true p170
                                    replace q170 := eq_true q170
                                    have p171 : 0 ≤ (x8_1 : Int) := of_decide_eq_true (by first | (with_reducible assumption) | assumption)
                                    have q171 : x8_1 < (t159.length : Int) := of_decide_eq_true (by first | (with_reducible assumption) | assumption)
                                    obtain ⟨ad171, e171, hx171_0⟩ := Kd.at_string (Kd.R_reads' HO_10.out).2.2 x8_1 p171 q171
                                    obtain rfl : ad162 = ad171 := (by injection e171)
                                    replace p171 := eq_true p171
                                    replace q171 := eq_true q171
                                    go_wp2
                                    repeat (go_quiet (fail); try go_wp2)
                                    go_roundg kj24
                                    case measure => have := HK1.out; have := HJ24.out; omega
                                    case rel => exact ⟨(x8_1), (x9_1), (wrap64 (x11_1 + 1)), (by first | rfl | (simp; done) | (simp [*]; done)), (by first | rfl | (simp; done) | (simp [*]; done)), (by first | rfl | (simp; done) | (simp [*]; done)), H', ⟨by have := HK1.out; have := HJ24.out; omega⟩, ⟨by (with_reducible repeat (first | apply Kd.R_alloc | apply Kd.R_drewN | apply Kd.R_drew)); exact HO_10.out⟩, ⟨by repeat (first | (with_reducible first | exact HB.out | apply below_alloc | apply pw_below_drewN | apply below_drew1) | exact HB.out)⟩⟩
                                · rw [if_neg c44] at H
                                  exact absurd H (by simp)
                              · rw [if_neg c43] at H
                                exact absurd H (by simp)
                            · rw [if_neg c42] at H
                              exact absurd H (by simp)
                          · rw [if_neg c41] at H
                            exact absurd H (by simp)
              · replace c15 := Bool.eq_false_iff.mpr c15
                subst c15
                have H1 : (spec_Reference.l0 k1 a0 a1 a2 x8_1 x9_1 t159 (wrap64 (x11_1 + 1))) = some (r1, r2) := by rw [if_neg (show ¬ (false = true) by decide)] at H; exact H
                clear H
                have H := H1
                clear H1
                have H' := Aside0.mk H
                clear H
                obtain ⟨Ao46, co46, eo46⟩ := Kd.R_slice HO_10.out
                subst eo46
                have p162 : 0 ≤ (x11_1 : Int) := of_decide_eq_true (by first | (with_reducible assumption) | assumption)
                have q162 : x11_1 < (t159.length : Int) := of_decide_eq_true (by first | (with_reducible assumption) | assumption)
                obtain ⟨ad162, e162, hx162_0⟩ := Kd.at_string (Kd.R_reads' HO_10.out).2.2 x11_1 p162 q162
                cases e162
                replace p162 := eq_true p162
                replace q162 := eq_true q162
                go_wp2_with (first | (go_at_call 6; (with_reducible refine (spec_l2Stands.calls a0 (wrap64 (a1 + 1)) (rdOf ByteArray.empty t159 x11_1) false _ A14.out).mono ?_); rintro e w' ⟨rfl, ⟨nd, rfl⟩⟩; (try first | exact ⟨rfl, _, World.drewN_drewN _ _ _⟩ | exact ⟨rfl, _, Eq.trans (World.drewN_drewN _ _ _) (congrArg (World.drewN _) (Nat.add_assoc _ _ _))⟩)))
                repeat (go_quiet (first | (go_at_call 6; (with_reducible refine (spec_l2Stands.calls a0 (wrap64 (a1 + 1)) (rdOf ByteArray.empty t159 x11_1) false _ A14.out).mono ?_); rintro e w' ⟨rfl, ⟨nd, rfl⟩⟩; (try first | exact ⟨rfl, _, World.drewN_drewN _ _ _⟩ | exact ⟨rfl, _, Eq.trans (World.drewN_drewN _ _ _) (congrArg (World.drewN _) (Nat.add_assoc _ _ _))⟩))); try go_wp2_with (first | (go_at_call 6; (with_reducible refine (spec_l2Stands.calls a0 (wrap64 (a1 + 1)) (rdOf ByteArray.empty t159 x11_1) false _ A14.out).mono ?_); rintro e w' ⟨rfl, ⟨nd, rfl⟩⟩; (try first | exact ⟨rfl, _, World.drewN_drewN _ _ _⟩ | exact ⟨rfl, _, Eq.trans (World.drewN_drewN _ _ _) (congrArg (World.drewN _) (Nat.add_assoc _ _ _))⟩))))
                go_roundg k1
                case measure => have := HK1.out; omega
                case rel => exact ⟨(x8_1), (x9_1), (wrap64 (x11_1 + 1)), (by first | rfl | (simp; done) | (simp [*]; done)), (by first | rfl | (simp; done) | (simp [*]; done)), (by first | rfl | (simp; done) | (simp [*]; done)), H', ⟨by have := HK1.out; omega⟩, ⟨by (with_reducible repeat (first | apply Kd.R_alloc | apply Kd.R_drewN | apply Kd.R_drew)); exact HO_10.out⟩, ⟨by repeat (first | (with_reducible first | exact HB.out | apply below_alloc | apply pw_below_drewN | apply below_drew1) | exact HB.out)⟩⟩
            · rw [if_neg c13] at H
              exact absurd H (by simp)
          · rw [if_neg c12] at H
            have c12b0 : decide (x11_1 < (t159.length : Int)) = false := decide_eq_false c12
            clear c12
            by_cases c47 : x8_1 < 0
            · rw [if_pos c47] at H
              have c47b0 : decide (x8_1 < 0) = true := decide_eq_true c47
              clear c47
              simp only [Option.some.injEq, Prod.mk.injEq] at H
              obtain ⟨rfl, rfl⟩ := H
              obtain ⟨Ao48, co48, eo48⟩ := Kd.R_slice HO_10.out
              subst eo48
              go_wp2
              repeat (go_quiet (fail); try go_wp2)
              go_ret2
              exact ⟨by first | rfl | (simp [errW_none, errW_some] <;> rfl) | (simp [*, errW_none, errW_some] <;> rfl), by repeat (first | (with_reducible first | exact HB.out | apply below_alloc | apply pw_below_drewN | apply below_drew1) | exact HB.out)⟩
            · rw [if_neg c47] at H
              have c47b0 : decide (x8_1 < 0) = false := decide_eq_false c47
              clear c47
              obtain ⟨y172, hy172⟩ : ∃ y_ : List Int, y_ = (([] : List Int)) := ⟨_, rfl⟩
              replace H : ((spec_l2Points.f).bind fun t175 => (if 0 ≤ x8_1 then (if x8_1 < (t175.length : Int) then ((spec_l1Put.f k1 y172 (rd t175 x8_1)).bind fun t179 => (some (strOfNums t179, x9_1))) else (none)) else (none))) = some (r1, r2) := by first | (rw [hy172]; with_reducible exact H) | (have H2_ := (Option.bind_some _ _).symm.trans H; rw [hy172]; with_reducible exact H2_) | (have H2_ := (Option.bind_some _ _).symm.trans H; with_reducible exact H2_) | with_reducible exact H | (rw [hy172]; exact H) | exact H
              have Ny172 := Aside0.mk hy172
              clear hy172
              replace H := Option.bind_eq_some_iff.mp H
              obtain ⟨t175, A490, H⟩ := H
              replace H : (if 0 ≤ x8_1 then (if x8_1 < (t175.length : Int) then ((spec_l1Put.f k1 y172 (rd t175 x8_1)).bind fun t179 => (some (strOfNums t179, x9_1))) else (none)) else (none)) = some (r1, r2) := H
              have A49 := Aside0.mk A490
              clear A490
              by_cases c50 : 0 ≤ x8_1
              · rw [if_pos c50] at H
                have c50b0 : decide (0 ≤ x8_1) = true := decide_eq_true c50
                clear c50
                by_cases c51 : x8_1 < (t175.length : Int)
                · rw [if_pos c51] at H
                  have c51b0 : decide (x8_1 < (t175.length : Int)) = true := decide_eq_true c51
                  clear c51
                  replace H := Option.bind_eq_some_iff.mp H
                  obtain ⟨t179, A520, H⟩ := H
                  replace H : (some (strOfNums t179, x9_1)) = some (r1, r2) := H
                  have A52 := Aside0.mk A520
                  clear A520
                  simp only [Option.some.injEq, Prod.mk.injEq] at H
                  obtain ⟨rfl, rfl⟩ := H
                  obtain ⟨Ao53, co53, eo53⟩ := Kd.R_slice HO_10.out
                  subst eo53
                  go_wp2_with (first | ((with_reducible refine gate_dst (N := 104) rfl ?_); (try (refine gate_guard (by rfl) ?_; dsimp only)); refine Kd.R_lit (Kd.int .u8) _ 5 ?hg (N := 104) ?hd (xs := ([] : List Int)) (inner := []) (ok := fun _ => True) (okp := fun _ => True) ?hr ?hp (fun _ hk => hk) trivial (Below.refl _ _) (Nat.le_refl _) (by simp) ?_; (case hd => rfl); (case hg => rfl); (case hr => first | (go_simp; done) | (go_simp; rfl)); (case hp => exact (Reps.none _ _)); intro v173 w54 ho55 hb hg_ hnew_; clear hg_ hnew_; (first | rw [← Ny172.out] at ho55 | (simp only [Int.reduceToNat] at ho55; rw [← Ny172.out] at ho55)); have n0_ := Aside0.mk (Kd.R_below (by (with_reducible repeat (first | apply Kd.R_alloc | apply Kd.R_drewN | apply Kd.R_drew)); exact HO_10.out) hb); have n1_ := Aside0.mk (Kd.R_lower ho55 (below_size (by repeat (first | (with_reducible first | exact HB.out | apply below_alloc | apply pw_below_drewN | apply below_drew1) | exact HB.out)))); have n2_ := Aside0.mk (below_step (by repeat (first | (with_reducible first | exact HB.out | apply below_alloc | apply pw_below_drewN | apply below_drew1) | exact HB.out)) hb); clear HO_10; clear HB; have HO_10 := n0_; have HO174 := n1_; have HB := n2_; clear n0_ n1_ n2_; clear hb ho55) | (go_at_call 12; (with_reducible refine (spec_l2Points.calls  t175 _ A49.out).mono ?_); rintro e w56 ⟨v176, rfl, ho0, hb⟩; have n0_ := Aside0.mk (Kd.R_below (by (with_reducible repeat (first | apply Kd.R_alloc | apply Kd.R_drewN | apply Kd.R_drew)); exact HO_10.out) hb); have n1_ := Aside0.mk (Kd.R_below (by (with_reducible repeat (first | apply Kd.R_alloc | apply Kd.R_drewN | apply Kd.R_drew)); exact HO174.out) hb); have n2_ := Aside0.mk (Kd.R_lower ho0 (below_size (by repeat (first | (with_reducible first | exact HB.out | apply below_alloc | apply pw_below_drewN | apply below_drew1) | exact HB.out)))); have n3_ := Aside0.mk (below_step (by repeat (first | (with_reducible first | exact HB.out | apply below_alloc | apply pw_below_drewN | apply below_drew1) | exact HB.out)) hb); clear HO_10; clear HO174; clear HB; have HO_10 := n0_; have HO174 := n1_; have HO177 := n2_; have HB := n3_; clear n0_ n1_ n2_ n3_; (try clear hb); (try clear hb2); (try clear hk); (try clear hi); (try clear ho0); obtain ⟨Ao57, co57, eo57⟩ := Kd.R_slice HO177.out; subst eo57; have p178 : 0 ≤ (x8_1 : Int) := of_decide_eq_true (by first | (with_reducible assumption) | assumption); have q178 : x8_1 < (t175.length : Int) := of_decide_eq_true (by first | (with_reducible assumption) | assumption); obtain ⟨ad178, e178, hx178_0⟩ := Kd.at_int (Kd.R_reads' HO177.out).2.2 x8_1 p178 q178; cases e178; replace p178 := eq_true p178; replace q178 := eq_true q178; obtain ⟨Ao58, co58, eo58⟩ := Kd.R_slice HO174.out; subst eo58) | (go_at_call 11; (with_reducible refine (spec_l1Put.calls k1 (fun k_ => some k_ = (.slice Ao58 y172.length co58 : Value).ownBlock) (.slice Ao58 y172.length co58) y172 (rd t175 x8_1) t179 w _ ?side1 ?side2 A52.out).mono ?_); (case side1 => repeat (first | (with_reducible first | exact HB.out | apply below_alloc | apply pw_below_drewN | apply below_drew1) | exact HB.out)); (case side2 => exact Kd.R_tight rfl HO174.out); rintro e w59 ⟨v180, rfl, ho0, hb, hkp⟩; have n0_ := Aside0.mk (Kd.R_mono (ok' := fun k_ => True) (Kd.R_keptB ((Kd.R_apart' HO_10.out (Kd.R_typed HO174.out) (by decide))) hkp (fun k_ hk_ hs_ => (hk_.2) hs_)) (fun k_ hk_ => trivial)); have n1_ := Aside0.mk (Kd.R_mono (ok' := fun k_ => True) (Kd.R_keptB ((Kd.R_apart' HO177.out (Kd.R_typed HO174.out) (by decide))) hkp (fun k_ hk_ hs_ => (hk_.2) hs_)) (fun k_ hk_ => trivial)); have n2_ := Aside0.mk (Kd.R_mono (ok' := fun k_ => True) ho0 (fun k_ hk_ => trivial)); have n3_ := Aside0.mk (hb); clear HO_10; clear HO177; clear HB; clear HO174; have HO_10 := n0_; have HO177 := n1_; have HO181 := n2_; have HB := n3_; clear n0_ n1_ n2_ n3_; (try clear hb); (try clear hkp); (try clear ho0); have hcv60 := own_string (P := Tryd.prog) Tryd.underlying30 Tryd.underlying5 Tryd.underlying9 (Kd.own_of_R HO181.out)))
                  repeat (go_quiet (first | ((with_reducible refine gate_dst (N := 104) rfl ?_); (try (refine gate_guard (by rfl) ?_; dsimp only)); refine Kd.R_lit (Kd.int .u8) _ 5 ?hg (N := 104) ?hd (xs := ([] : List Int)) (inner := []) (ok := fun _ => True) (okp := fun _ => True) ?hr ?hp (fun _ hk => hk) trivial (Below.refl _ _) (Nat.le_refl _) (by simp) ?_; (case hd => rfl); (case hg => rfl); (case hr => first | (go_simp; done) | (go_simp; rfl)); (case hp => exact (Reps.none _ _)); intro v173 w54 ho55 hb hg_ hnew_; clear hg_ hnew_; (first | rw [← Ny172.out] at ho55 | (simp only [Int.reduceToNat] at ho55; rw [← Ny172.out] at ho55)); have n0_ := Aside0.mk (Kd.R_below (by (with_reducible repeat (first | apply Kd.R_alloc | apply Kd.R_drewN | apply Kd.R_drew)); exact HO_10.out) hb); have n1_ := Aside0.mk (Kd.R_lower ho55 (below_size (by repeat (first | (with_reducible first | exact HB.out | apply below_alloc | apply pw_below_drewN | apply below_drew1) | exact HB.out)))); have n2_ := Aside0.mk (below_step (by repeat (first | (with_reducible first | exact HB.out | apply below_alloc | apply pw_below_drewN | apply below_drew1) | exact HB.out)) hb); clear HO_10; clear HB; have HO_10 := n0_; have HO174 := n1_; have HB := n2_; clear n0_ n1_ n2_; clear hb ho55) | (go_at_call 12; (with_reducible refine (spec_l2Points.calls  t175 _ A49.out).mono ?_); rintro e w56 ⟨v176, rfl, ho0, hb⟩; have n0_ := Aside0.mk (Kd.R_below (by (with_reducible repeat (first | apply Kd.R_alloc | apply Kd.R_drewN | apply Kd.R_drew)); exact HO_10.out) hb); have n1_ := Aside0.mk (Kd.R_below (by (with_reducible repeat (first | apply Kd.R_alloc | apply Kd.R_drewN | apply Kd.R_drew)); exact HO174.out) hb); have n2_ := Aside0.mk (Kd.R_lower ho0 (below_size (by repeat (first | (with_reducible first | exact HB.out | apply below_alloc | apply pw_below_drewN | apply below_drew1) | exact HB.out)))); have n3_ := Aside0.mk (below_step (by repeat (first | (with_reducible first | exact HB.out | apply below_alloc | apply pw_below_drewN | apply below_drew1) | exact HB.out)) hb); clear HO_10; clear HO174; clear HB; have HO_10 := n0_; have HO174 := n1_; have HO177 := n2_; have HB := n3_; clear n0_ n1_ n2_ n3_; (try clear hb); (try clear hb2); (try clear hk); (try clear hi); (try clear ho0); obtain ⟨Ao57, co57, eo57⟩ := Kd.R_slice HO177.out; subst eo57; have p178 : 0 ≤ (x8_1 : Int) := of_decide_eq_true (by first | (with_reducible assumption) | assumption); have q178 : x8_1 < (t175.length : Int) := of_decide_eq_true (by first | (with_reducible assumption) | assumption); obtain ⟨ad178, e178, hx178_0⟩ := Kd.at_int (Kd.R_reads' HO177.out).2.2 x8_1 p178 q178; cases e178; replace p178 := eq_true p178; replace q178 := eq_true q178; obtain ⟨Ao58, co58, eo58⟩ := Kd.R_slice HO174.out; subst eo58) | (go_at_call 11; (with_reducible refine (spec_l1Put.calls k1 (fun k_ => some k_ = (.slice Ao58 y172.length co58 : Value).ownBlock) (.slice Ao58 y172.length co58) y172 (rd t175 x8_1) t179 w _ ?side1 ?side2 A52.out).mono ?_); (case side1 => repeat (first | (with_reducible first | exact HB.out | apply below_alloc | apply pw_below_drewN | apply below_drew1) | exact HB.out)); (case side2 => exact Kd.R_tight rfl HO174.out); rintro e w59 ⟨v180, rfl, ho0, hb, hkp⟩; have n0_ := Aside0.mk (Kd.R_mono (ok' := fun k_ => True) (Kd.R_keptB ((Kd.R_apart' HO_10.out (Kd.R_typed HO174.out) (by decide))) hkp (fun k_ hk_ hs_ => (hk_.2) hs_)) (fun k_ hk_ => trivial)); have n1_ := Aside0.mk (Kd.R_mono (ok' := fun k_ => True) (Kd.R_keptB ((Kd.R_apart' HO177.out (Kd.R_typed HO174.out) (by decide))) hkp (fun k_ hk_ hs_ => (hk_.2) hs_)) (fun k_ hk_ => trivial)); have n2_ := Aside0.mk (Kd.R_mono (ok' := fun k_ => True) ho0 (fun k_ hk_ => trivial)); have n3_ := Aside0.mk (hb); clear HO_10; clear HO177; clear HB; clear HO174; have HO_10 := n0_; have HO177 := n1_; have HO181 := n2_; have HB := n3_; clear n0_ n1_ n2_ n3_; (try clear hb); (try clear hkp); (try clear ho0); have hcv60 := own_string (P := Tryd.prog) Tryd.underlying30 Tryd.underlying5 Tryd.underlying9 (Kd.own_of_R HO181.out))); try go_wp2_with (first | ((with_reducible refine gate_dst (N := 104) rfl ?_); (try (refine gate_guard (by rfl) ?_; dsimp only)); refine Kd.R_lit (Kd.int .u8) _ 5 ?hg (N := 104) ?hd (xs := ([] : List Int)) (inner := []) (ok := fun _ => True) (okp := fun _ => True) ?hr ?hp (fun _ hk => hk) trivial (Below.refl _ _) (Nat.le_refl _) (by simp) ?_; (case hd => rfl); (case hg => rfl); (case hr => first | (go_simp; done) | (go_simp; rfl)); (case hp => exact (Reps.none _ _)); intro v173 w54 ho55 hb hg_ hnew_; clear hg_ hnew_; (first | rw [← Ny172.out] at ho55 | (simp only [Int.reduceToNat] at ho55; rw [← Ny172.out] at ho55)); have n0_ := Aside0.mk (Kd.R_below (by (with_reducible repeat (first | apply Kd.R_alloc | apply Kd.R_drewN | apply Kd.R_drew)); exact HO_10.out) hb); have n1_ := Aside0.mk (Kd.R_lower ho55 (below_size (by repeat (first | (with_reducible first | exact HB.out | apply below_alloc | apply pw_below_drewN | apply below_drew1) | exact HB.out)))); have n2_ := Aside0.mk (below_step (by repeat (first | (with_reducible first | exact HB.out | apply below_alloc | apply pw_below_drewN | apply below_drew1) | exact HB.out)) hb); clear HO_10; clear HB; have HO_10 := n0_; have HO174 := n1_; have HB := n2_; clear n0_ n1_ n2_; clear hb ho55) | (go_at_call 12; (with_reducible refine (spec_l2Points.calls  t175 _ A49.out).mono ?_); rintro e w56 ⟨v176, rfl, ho0, hb⟩; have n0_ := Aside0.mk (Kd.R_below (by (with_reducible repeat (first | apply Kd.R_alloc | apply Kd.R_drewN | apply Kd.R_drew)); exact HO_10.out) hb); have n1_ := Aside0.mk (Kd.R_below (by (with_reducible repeat (first | apply Kd.R_alloc | apply Kd.R_drewN | apply Kd.R_drew)); exact HO174.out) hb); have n2_ := Aside0.mk (Kd.R_lower ho0 (below_size (by repeat (first | (with_reducible first | exact HB.out | apply below_alloc | apply pw_below_drewN | apply below_drew1) | exact HB.out)))); have n3_ := Aside0.mk (below_step (by repeat (first | (with_reducible first | exact HB.out | apply below_alloc | apply pw_below_drewN | apply below_drew1) | exact HB.out)) hb); clear HO_10; clear HO174; clear HB; have HO_10 := n0_; have HO174 := n1_; have HO177 := n2_; have HB := n3_; clear n0_ n1_ n2_ n3_; (try clear hb); (try clear hb2); (try clear hk); (try clear hi); (try clear ho0); obtain ⟨Ao57, co57, eo57⟩ := Kd.R_slice HO177.out; subst eo57; have p178 : 0 ≤ (x8_1 : Int) := of_decide_eq_true (by first | (with_reducible assumption) | assumption); have q178 : x8_1 < (t175.length : Int) := of_decide_eq_true (by first | (with_reducible assumption) | assumption); obtain ⟨ad178, e178, hx178_0⟩ := Kd.at_int (Kd.R_reads' HO177.out).2.2 x8_1 p178 q178; cases e178; replace p178 := eq_true p178; replace q178 := eq_true q178; obtain ⟨Ao58, co58, eo58⟩ := Kd.R_slice HO174.out; subst eo58) | (go_at_call 11; (with_reducible refine (spec_l1Put.calls k1 (fun k_ => some k_ = (.slice Ao58 y172.length co58 : Value).ownBlock) (.slice Ao58 y172.length co58) y172 (rd t175 x8_1) t179 w _ ?side1 ?side2 A52.out).mono ?_); (case side1 => repeat (first | (with_reducible first | exact HB.out | apply below_alloc | apply pw_below_drewN | apply below_drew1) | exact HB.out)); (case side2 => exact Kd.R_tight rfl HO174.out); rintro e w59 ⟨v180, rfl, ho0, hb, hkp⟩; have n0_ := Aside0.mk (Kd.R_mono (ok' := fun k_ => True) (Kd.R_keptB ((Kd.R_apart' HO_10.out (Kd.R_typed HO174.out) (by decide))) hkp (fun k_ hk_ hs_ => (hk_.2) hs_)) (fun k_ hk_ => trivial)); have n1_ := Aside0.mk (Kd.R_mono (ok' := fun k_ => True) (Kd.R_keptB ((Kd.R_apart' HO177.out (Kd.R_typed HO174.out) (by decide))) hkp (fun k_ hk_ hs_ => (hk_.2) hs_)) (fun k_ hk_ => trivial)); have n2_ := Aside0.mk (Kd.R_mono (ok' := fun k_ => True) ho0 (fun k_ hk_ => trivial)); have n3_ := Aside0.mk (hb); clear HO_10; clear HO177; clear HB; clear HO174; have HO_10 := n0_; have HO177 := n1_; have HO181 := n2_; have HB := n3_; clear n0_ n1_ n2_ n3_; (try clear hb); (try clear hkp); (try clear ho0); have hcv60 := own_string (P := Tryd.prog) Tryd.underlying30 Tryd.underlying5 Tryd.underlying9 (Kd.own_of_R HO181.out))))
                  go_ret2
                  exact ⟨by first | rfl | (simp [errW_none, errW_some] <;> rfl) | (simp [*, errW_none, errW_some] <;> rfl), by repeat (first | (with_reducible first | exact HB.out | apply below_alloc | apply pw_below_drewN | apply below_drew1) | exact HB.out)⟩
                · rw [if_neg c51] at H
                  exact absurd H (by simp)
              · rw [if_neg c50] at H
                exact absurd H (by simp)
  · replace c5 := Bool.eq_false_iff.mpr c5
    subst c5
    have H1 : (some ((⟨#[]⟩ : ByteArray), 0)) = some (r1, r2) := by rw [if_neg (show ¬ (false = true) by decide)] at H; exact H
    clear H
    have H := H1
    clear H1
    simp only [Option.some.injEq, Prod.mk.injEq] at H
    obtain ⟨rfl, rfl⟩ := H
    go_enter Tryd.func4, Tryd.ntmps4
    go_wp2_with (first | (go_at_call 6; (with_reducible refine (spec_l2Stands.calls a0 a1 (⟨#[38]⟩ : ByteArray) false _ A4.out).mono ?_); rintro e w' ⟨rfl, ⟨nd, rfl⟩⟩; (try first | exact ⟨rfl, _, World.drewN_drewN _ _ _⟩ | exact ⟨rfl, _, Eq.trans (World.drewN_drewN _ _ _) (congrArg (World.drewN _) (Nat.add_assoc _ _ _))⟩)))
    repeat (go_quiet (first | (go_at_call 6; (with_reducible refine (spec_l2Stands.calls a0 a1 (⟨#[38]⟩ : ByteArray) false _ A4.out).mono ?_); rintro e w' ⟨rfl, ⟨nd, rfl⟩⟩; (try first | exact ⟨rfl, _, World.drewN_drewN _ _ _⟩ | exact ⟨rfl, _, Eq.trans (World.drewN_drewN _ _ _) (congrArg (World.drewN _) (Nat.add_assoc _ _ _))⟩))); try go_wp2_with (first | (go_at_call 6; (with_reducible refine (spec_l2Stands.calls a0 a1 (⟨#[38]⟩ : ByteArray) false _ A4.out).mono ?_); rintro e w' ⟨rfl, ⟨nd, rfl⟩⟩; (try first | exact ⟨rfl, _, World.drewN_drewN _ _ _⟩ | exact ⟨rfl, _, Eq.trans (World.drewN_drewN _ _ _) (congrArg (World.drewN _) (Nat.add_assoc _ _ _))⟩))))
    go_ret2
    exact ⟨by first | rfl | (simp [errW_none, errW_some] <;> rfl) | (simp [*, errW_none, errW_some] <;> rfl), by repeat (first | (with_reducible first | exact HB.out | apply below_alloc | apply pw_below_drewN | apply below_drew1) | exact HB.out)⟩

/-! ### stringslite_HasPrefix: function 19 -/
def stringslite_HasPrefix.f (a0 : ByteArray) (a1 : ByteArray) : Option (Bool) := if (a0.size : Int) ≥ (a1.size : Int) then (if 0 ≤ (a1.size : Int) then (if (a1.size : Int) ≤ (a0.size : Int) then (some ((a0.extract 0 ((a1.size : Int) : Int).toNat).toList == a1.toList)) else (none)) else (none)) else (some false)
set_option maxHeartbeats 8000000 in
set_option maxRecDepth 100000 in
theorem stringslite_HasPrefix.calls (a0 : ByteArray) (a1 : ByteArray) (r : Bool) (w : World) (h : stringslite_HasPrefix.f a0 a1 = some r) :
    Calls Tryd.prog 19 #[.string a0, .string a1] w fun e w' => e = .returned (.bool r) ∧ Drawn0 w w' := by
  have H : (if (a0.size : Int) ≥ (a1.size : Int) then (if 0 ≤ (a1.size : Int) then (if (a1.size : Int) ≤ (a0.size : Int) then (some ((a0.extract 0 ((a1.size : Int) : Int).toNat).toList == a1.toList)) else (none)) else (none)) else (some false)) = some r := h
  clear h
  by_cases c3 : (a0.size : Int) ≥ (a1.size : Int)
  · rw [if_pos c3] at H
    have c3b0 : decide ((a1.size : Int) ≤ (a0.size : Int)) = true := decide_eq_true c3
    have c3b1 : decide (a1.size ≤ a0.size) = true := decide_eq_true (Int.ofNat_le.mp c3)
    clear c3
    by_cases c4 : 0 ≤ (a1.size : Int)
    · rw [if_pos c4] at H
      have c4b0 := eq_true c4
      have c4b1 : decide (0 ≤ (a1.size : Int)) = true := decide_eq_true c4
      clear c4
      by_cases c5 : (a1.size : Int) ≤ (a0.size : Int)
      · rw [if_pos c5] at H
        have c5b0 := eq_true c5
        have c5b1 : decide ((a1.size : Int) ≤ (a0.size : Int)) = true := decide_eq_true c5
        clear c5
        obtain rfl := Option.some.inj H
        go_enter Tryd.func19, Tryd.ntmps19
        go_wp2
        go_ret
        exact ⟨by first | rfl | (simp; done) | (simp [*]; done), by repeat (first | exact Drawn0.refl _ | apply Drawn0.step)⟩
      · rw [if_neg c5] at H
        exact absurd H (by simp)
    · rw [if_neg c4] at H
      exact absurd H (by simp)
  · rw [if_neg c3] at H
    have c3b0 : decide ((a1.size : Int) ≤ (a0.size : Int)) = false := decide_eq_false c3
    have c3b1 : decide (a1.size ≤ a0.size) = false := decide_eq_false (fun h => c3 (Int.ofNat_le.mpr h))
    clear c3
    obtain rfl := Option.some.inj H
    go_enter Tryd.func19, Tryd.ntmps19
    go_wp2
    go_ret
    exact ⟨by first | rfl | (simp; done) | (simp [*]; done), by repeat (first | exact Drawn0.refl _ | apply Drawn0.step)⟩

/-! ### strings_HasPrefix: function 13 -/
def strings_HasPrefix.f (a0 : ByteArray) (a1 : ByteArray) : Option (Bool) := (stringslite_HasPrefix.f a0 a1).bind fun t182 => (some t182)
set_option maxHeartbeats 8000000 in
set_option maxRecDepth 100000 in
theorem strings_HasPrefix.calls (a0 : ByteArray) (a1 : ByteArray) (r : Bool) (w : World) (h : strings_HasPrefix.f a0 a1 = some r) :
    Calls Tryd.prog 13 #[.string a0, .string a1] w fun e w' => e = .returned (.bool r) ∧ Drawn0 w w' := by
  have H : ((stringslite_HasPrefix.f a0 a1).bind fun t182 => (some t182)) = some r := h
  clear h
  replace H := Option.bind_eq_some_iff.mp H
  obtain ⟨t182, A30, H⟩ := H
  replace H : (some t182) = some r := H
  have A3 := Aside0.mk A30
  clear A30
  obtain rfl := Option.some.inj H
  go_enter Tryd.func13, Tryd.ntmps13
  go_wp2_with (first | ((with_reducible refine gate_callee (f := 19) rfl ?_); refine goesL_ (some 7) rfl rfl Tryd.func19 (by kernel_rfl) rfl #[.string a0, .string a1] rfl (by (try simp only [List.map_toArray, List.map_cons, List.map_nil]); first | done | rfl | (simp only [List.length_drop, List.length_take]; rfl)) ?_; (with_reducible refine (stringslite_HasPrefix.calls a0 a1 t182 _ A3.out).mono ?_); rintro e w' ⟨rfl, ⟨nd, rfl⟩⟩; refine ⟨_, rfl, ?_⟩))
  go_ret
  exact ⟨by first | rfl | (simp; done) | (simp [*]; done), by repeat (first | exact Drawn0.refl _ | apply Drawn0.step)⟩

end Go.Proofs.YtalljfmgpicdaaaDoor.QFnExactReference
