/- Written by a program (wip/tools/own_print.py) out of the walk that the kit's printer made; turned where it fell. -/
-- PRINTED by print.py (a twelfth state) out of the translation. Not trusted: Lean checks it.
import Derived.Test.YtalljfmgpicdaaaDoorQFnExactReferencex0
import Derived.Test.YtalljfmgpicdaaaDoorQFnExactReferencex2
import Derived.Test.YtalljfmgpicdaaaDoorQFnExactReferencex3
import Derived.Test.YtalljfmgpicdaaaDoorQFnExactReferencex4
import Derived.Test.YtalljfmgpicdaaaDoorQFnExactReferencex5
import Derived.Laws.Rows
namespace Go.Proofs.YtalljfmgpicdaaaDoor.QFnExactReference
open Go.RowKit Go.Proofs.YtalljfmgpicdaaaDoorW.PrintWords Go.Proofs.YtalljfmgpicdaaaDoorW.PrintLast Go.Proofs.YtalljfmgpicdaaaDoorW.PrintMore
attribute [local go_sem] max2_int min2_int max_two min_two max_three min_three max_four min_four   -- for this text's walks alone
set_option linter.unusedVariables false
set_option linter.unusedSimpArgs false

/-- The table. -/
def refs : List (ByteArray × Int) := [(⟨#[97, 109, 112]⟩, 38), (⟨#[108, 116]⟩, 60), (⟨#[103, 116]⟩, 62), (⟨#[113, 117, 111, 116]⟩, 34), (⟨#[110, 98, 115, 112]⟩, 160), (⟨#[99, 111, 112, 121]⟩, 169),
  (⟨#[97, 112, 111, 115]⟩, 39), (⟨#[115, 104, 121]⟩, 173), (⟨#[116, 105, 109, 101, 115]⟩, 215), (⟨#[110, 100, 97, 115, 104]⟩, 8211), (⟨#[109, 100, 97, 115, 104]⟩, 8212), (⟨#[104, 101, 108, 108, 105, 112]⟩, 8230),
  (⟨#[101, 117, 114, 111]⟩, 8364), (⟨#[108, 114, 109]⟩, 8206), (⟨#[114, 108, 109]⟩, 8207), (⟨#[122, 119, 106]⟩, 8205)]
def refCells : List Value := refs.flatMap fun p => [.string p.1, .int .i64 p.2]
def refAt (i : Int) : Option (ByteArray × Int) := if 0 ≤ i then refs[i.toNat]? else none
/-- The table lies where the program's text lays it: the block of the variable. -/
def GRef (W : World) : Prop := ∃ t fr, W.heap[0]? = some (.cells refCells.toArray t fr)
theorem GRef.below {W W1 : World} (h : GRef W) (hb : Below W.heap.size W W1) : GRef W1 := by
  obtain ⟨t, fr, hg⟩ := h
  exact ⟨t, fr, blk_below hg hb⟩
theorem index_ref (i : Nat) (n : ByteArray) (v : Int) (h : refs[i]? = some (n, v)) (w : World) : (Instr.index 38 (Value.agg refCells.toArray) (Value.int .i64 (i : Int))).run Tryd.prog w = .ok (Value.agg #[.string n, .int .i64 v]) w := by
  have hi : i < 16 := (List.getElem?_eq_some_iff.1 h).1
  have hu : Tryd.prog.underlying 38 = some (.array 16 37) := Tryd.underlying38
  have hi5 : (Tryd.prog.info? 37).map (·.size) = some 2 := by kernel_rfl
  have hu5 := Tryd.underlying37
  cases hq : Tryd.prog.info? 37 with
  | none => simp [hq] at hi5
  | some z =>
    have hs : z.size = 2 := by simpa [hq] using hi5
    have h0 : (0 ≤ (i : Int) ∧ (i : Int) < 16) := by omega
    have hx : List.take 2 (List.drop (i * 2) refCells) = [.string n, .int .i64 v] := by
      match i, hi, h with
      | 0, _, h | 1, _, h | 2, _, h | 3, _, h | 4, _, h | 5, _, h | 6, _, h | 7, _, h | 8, _, h | 9, _, h | 10, _, h | 11, _, h | 12, _, h | 13, _, h | 14, _, h | 15, _, h => cases Option.some.inj h; rfl
    simp [Instr.index, run_underlying hu, asIntOf, Sem.run_bind, h0, part, isAgg, run_underlying hu5, sizeOf, typeInfo, hq, hs, go_sem, hx, hi]
theorem index_event {a : Act} {o : Oper} {W : World} (x y : Operand) (i : Int) {n : ByteArray} {v : Int} (ho : o.op = .index 38 x y) (hx : a.eval x = .agg refCells.toArray) (hy : a.eval y = .int .i64 i) (h : refAt i = some (n, v)) :
    (execOp a.eval o).run Tryd.prog W = .ok (.value (.agg #[.string n, .int .i64 v])) W := by
  unfold refAt at h
  split at h
  · rename_i h0
    obtain ⟨j, rfl⟩ : ∃ j : Nat, i = (j : Int) := ⟨i.toNat, by omega⟩
    have hr := index_ref j n v h W
    unfold execOp
    simp only [ho, hx, hy]
    simp [Sem.run_bind, hr]
  · cases h

/-! ### impl_Reference: function 5 -/
mutual
def impl_Reference.j0 : Nat → ByteArray → Int → Bool → Bool → Option (ByteArray × Int)
  | 0, _, _, _, _ => none
  | k + 1, x0, x1, x2, x27 => if x27 = true then (some ((⟨#[]⟩ : ByteArray), 0)) else (if 0 ≤ (wrap64 (x1 + 1)) then (if (wrap64 (x1 + 1)) ≤ (x0.size : Int) then ((strings_HasPrefix.f (x0.extract ((wrap64 (x1 + 1)) : Int).toNat x0.size) (⟨#[35]⟩ : ByteArray)).bind fun t258 => (if t258 = true then (if 1 ≤ ((x0.extract ((wrap64 (x1 + 1)) : Int).toNat x0.size).size : Int) then ((impl_numbered.f k ((x0.extract ((wrap64 (x1 + 1)) : Int).toNat x0.size).extract 1 (x0.extract ((wrap64 (x1 + 1)) : Int).toNat x0.size).size)).bind fun bt259 => (some (bt259.1, bt259.2))) else (none)) else (impl_Reference.l0 k x2 (x0.extract ((wrap64 (x1 + 1)) : Int).toNat x0.size) 0 0 (⟨#[]⟩ : ByteArray) 0))) else (none)) else (none))
def impl_Reference.l0 : Nat → Bool → ByteArray → Int → Int → ByteArray → Int → Option (ByteArray × Int)
  | 0, _, _, _, _, _, _ => none
  | k + 1, x2, x8, x10, x41, x262000, x262001 => if x41 < 16 then ((refAt x41).bind fun bt262 => ((strings_HasPrefix.f x8 bt262.1).bind fun t269 => (if t269 = true then (impl_Reference.j2 k x2 x8 x10 x41 x41 (decide ((bt262.1.size : Int) ≤ (x262000.size : Int))) x262000 x262001 bt262.1 bt262.2) else (impl_Reference.j2 k x2 x8 x10 x41 x41 true x262000 x262001 bt262.1 bt262.2)))) else (if x10 = 0 then (some ((⟨#[]⟩ : ByteArray), 0)) else ((impl_Encode.f k (([x262001] : List Int))).bind fun t267 => (some (t267, x10))))
def impl_Reference.j2 : Nat → Bool → ByteArray → Int → Int → Int → Bool → ByteArray → Int → ByteArray → Int → Option (ByteArray × Int)
  | 0, _, _, _, _, _, _, _, _, _, _ => none
  | k + 1, x2, x8, x10, x11, x41, x58, x262000, x262001, x269000, x269001 => if x58 = true then (impl_Reference.l0 k x2 x8 x10 (wrap64 (x41 + 1)) x262000 x262001) else (if (x269000.size : Int) < (x8.size : Int) then (if 0 ≤ (x269000.size : Int) then (impl_Reference.j3 k x2 x8 x10 x11 (x269000.size : Int) x41 ((bt x8 (x269000.size : Int)) == 59) x262000 x262001 x269000 x269001) else (none)) else (impl_Reference.j3 k x2 x8 x10 x11 (x269000.size : Int) x41 false x262000 x262001 x269000 x269001))
def impl_Reference.j3 : Nat → Bool → ByteArray → Int → Int → Int → Int → Bool → ByteArray → Int → ByteArray → Int → Option (ByteArray × Int)
  | 0, _, _, _, _, _, _, _, _, _, _, _ => none
  | k + 1, x2, x8, x10, x11, x13, x41, x62, x262000, x262001, x269000, x269001 => if x62 = true then (impl_Reference.l0 k x2 x8 (wrap64 (x13 + 2)) (wrap64 (x41 + 1)) x269000 x269001) else (if x11 < 6 then (if x2 = true then (if x13 < (x8.size : Int) then (if 0 ≤ x13 then ((impl_isLetter.f (bt x8 x13)).bind fun t270 => (if t270 = true then (impl_Reference.l0 k x2 x8 x10 (wrap64 (x41 + 1)) x262000 x262001) else ((impl_isDigit.f (bt x8 x13)).bind fun t271 => (if t271 = true then (impl_Reference.l0 k x2 x8 x10 (wrap64 (x41 + 1)) x262000 x262001) else (if ((bt x8 x13) = 61) then (impl_Reference.l0 k x2 x8 x10 (wrap64 (x41 + 1)) x262000 x262001) else (impl_Reference.l0 k x2 x8 (wrap64 (x13 + 1)) (wrap64 (x41 + 1)) x269000 x269001)))))) else (none)) else (impl_Reference.l0 k x2 x8 (wrap64 (x13 + 1)) (wrap64 (x41 + 1)) x269000 x269001)) else (impl_Reference.l0 k x2 x8 (wrap64 (x13 + 1)) (wrap64 (x41 + 1)) x269000 x269001)) else (impl_Reference.l0 k x2 x8 x10 (wrap64 (x41 + 1)) x262000 x262001))
end
def impl_Reference.f (k : Nat) (a0 : ByteArray) (a1 : Int) (a2 : Bool) : Option (ByteArray × Int) := if a1 < 0 then (impl_Reference.j0 k a0 a1 a2 true) else (if a1 ≥ (a0.size : Int) then (impl_Reference.j0 k a0 a1 a2 true) else (if 0 ≤ a1 then (if a1 < (a0.size : Int) then (impl_Reference.j0 k a0 a1 a2 ((bt a0 a1) != 38)) else (none)) else (none)))
theorem impl_Reference.mono_l : ∀ k, (∀ y0 y1 y2 y3, LeO (impl_Reference.j0 k y0 y1 y2 y3) (impl_Reference.j0 (k + 1) y0 y1 y2 y3)) ∧ (∀ y0 y1 y2 y3 y4 y5, LeO (impl_Reference.l0 k y0 y1 y2 y3 y4 y5) (impl_Reference.l0 (k + 1) y0 y1 y2 y3 y4 y5)) ∧ (∀ y0 y1 y2 y3 y4 y5 y6 y7 y8 y9, LeO (impl_Reference.j2 k y0 y1 y2 y3 y4 y5 y6 y7 y8 y9) (impl_Reference.j2 (k + 1) y0 y1 y2 y3 y4 y5 y6 y7 y8 y9)) ∧ (∀ y0 y1 y2 y3 y4 y5 y6 y7 y8 y9 y10, LeO (impl_Reference.j3 k y0 y1 y2 y3 y4 y5 y6 y7 y8 y9 y10) (impl_Reference.j3 (k + 1) y0 y1 y2 y3 y4 y5 y6 y7 y8 y9 y10))
  | 0 => ⟨fun _ _ _ _ r h => by simp [impl_Reference.j0] at h, fun _ _ _ _ _ _ r h => by simp [impl_Reference.l0] at h, fun _ _ _ _ _ _ _ _ _ _ r h => by simp [impl_Reference.j2] at h, fun _ _ _ _ _ _ _ _ _ _ _ r h => by simp [impl_Reference.j3] at h⟩
  | k + 1 => by
    obtain ⟨ih0, ih1, ih2, ih3⟩ := impl_Reference.mono_l k
    refine ⟨?_, ?_, ?_, ?_⟩
    · intro y0 y1 y2 y3
      unfold impl_Reference.j0
      repeat' first
      | (with_reducible exact ih0 _ _ _ _)
      | (with_reducible exact ih1 _ _ _ _ _ _)
      | (with_reducible exact ih2 _ _ _ _ _ _ _ _ _ _)
      | (with_reducible exact ih3 _ _ _ _ _ _ _ _ _ _ _)
      | (with_reducible exact impl_Encode.mono _ _)
      | (with_reducible exact impl_numbered.mono _ _)
      | (with_reducible exact LeO.refl _)
      | (with_reducible exact LeO.none _)
      | (with_reducible refine LeO.ite ?_ ?_)
      | (with_reducible refine LeO.bind ?_ (fun _ => ?_))
      | exact ih0 _ _ _ _
      | exact ih1 _ _ _ _ _ _
      | exact ih2 _ _ _ _ _ _ _ _ _ _
      | exact ih3 _ _ _ _ _ _ _ _ _ _ _
      | exact impl_Encode.mono _ _
      | exact impl_numbered.mono _ _
      | exact LeO.none _
      | refine LeO.ite ?_ ?_
      | refine LeO.bind ?_ (fun _ => ?_)
    · intro y0 y1 y2 y3 y4 y5
      unfold impl_Reference.l0
      repeat' first
      | (with_reducible exact ih0 _ _ _ _)
      | (with_reducible exact ih1 _ _ _ _ _ _)
      | (with_reducible exact ih2 _ _ _ _ _ _ _ _ _ _)
      | (with_reducible exact ih3 _ _ _ _ _ _ _ _ _ _ _)
      | (with_reducible exact impl_Encode.mono _ _)
      | (with_reducible exact impl_numbered.mono _ _)
      | (with_reducible exact LeO.refl _)
      | (with_reducible exact LeO.none _)
      | (with_reducible refine LeO.ite ?_ ?_)
      | (with_reducible refine LeO.bind ?_ (fun _ => ?_))
      | exact ih0 _ _ _ _
      | exact ih1 _ _ _ _ _ _
      | exact ih2 _ _ _ _ _ _ _ _ _ _
      | exact ih3 _ _ _ _ _ _ _ _ _ _ _
      | exact impl_Encode.mono _ _
      | exact impl_numbered.mono _ _
      | exact LeO.none _
      | refine LeO.ite ?_ ?_
      | refine LeO.bind ?_ (fun _ => ?_)
    · intro y0 y1 y2 y3 y4 y5 y6 y7 y8 y9
      unfold impl_Reference.j2
      repeat' first
      | (with_reducible exact ih0 _ _ _ _)
      | (with_reducible exact ih1 _ _ _ _ _ _)
      | (with_reducible exact ih2 _ _ _ _ _ _ _ _ _ _)
      | (with_reducible exact ih3 _ _ _ _ _ _ _ _ _ _ _)
      | (with_reducible exact impl_Encode.mono _ _)
      | (with_reducible exact impl_numbered.mono _ _)
      | (with_reducible exact LeO.refl _)
      | (with_reducible exact LeO.none _)
      | (with_reducible refine LeO.ite ?_ ?_)
      | (with_reducible refine LeO.bind ?_ (fun _ => ?_))
      | exact ih0 _ _ _ _
      | exact ih1 _ _ _ _ _ _
      | exact ih2 _ _ _ _ _ _ _ _ _ _
      | exact ih3 _ _ _ _ _ _ _ _ _ _ _
      | exact impl_Encode.mono _ _
      | exact impl_numbered.mono _ _
      | exact LeO.none _
      | refine LeO.ite ?_ ?_
      | refine LeO.bind ?_ (fun _ => ?_)
    · intro y0 y1 y2 y3 y4 y5 y6 y7 y8 y9 y10
      unfold impl_Reference.j3
      repeat' first
      | (with_reducible exact ih0 _ _ _ _)
      | (with_reducible exact ih1 _ _ _ _ _ _)
      | (with_reducible exact ih2 _ _ _ _ _ _ _ _ _ _)
      | (with_reducible exact ih3 _ _ _ _ _ _ _ _ _ _ _)
      | (with_reducible exact impl_Encode.mono _ _)
      | (with_reducible exact impl_numbered.mono _ _)
      | (with_reducible exact LeO.refl _)
      | (with_reducible exact LeO.none _)
      | (with_reducible refine LeO.ite ?_ ?_)
      | (with_reducible refine LeO.bind ?_ (fun _ => ?_))
      | exact ih0 _ _ _ _
      | exact ih1 _ _ _ _ _ _
      | exact ih2 _ _ _ _ _ _ _ _ _ _
      | exact ih3 _ _ _ _ _ _ _ _ _ _ _
      | exact impl_Encode.mono _ _
      | exact impl_numbered.mono _ _
      | exact LeO.none _
      | refine LeO.ite ?_ ?_
      | refine LeO.bind ?_ (fun _ => ?_)
theorem impl_Reference.mono : ∀ a0 a1 a2 k, LeO (impl_Reference.f k a0 a1 a2) (impl_Reference.f (k + 1) a0 a1 a2) := by
  intro a0 a1 a2 k
  obtain ⟨ih0, ih1, ih2, ih3⟩ := impl_Reference.mono_l k
  unfold impl_Reference.f
  repeat' first
      | (with_reducible exact ih0 _ _ _ _)
      | (with_reducible exact ih1 _ _ _ _ _ _)
      | (with_reducible exact ih2 _ _ _ _ _ _ _ _ _ _)
      | (with_reducible exact ih3 _ _ _ _ _ _ _ _ _ _ _)
      | (with_reducible exact impl_Encode.mono _ _)
      | (with_reducible exact impl_numbered.mono _ _)
      | (with_reducible exact LeO.refl _)
      | (with_reducible exact LeO.none _)
      | (with_reducible refine LeO.ite ?_ ?_)
      | (with_reducible refine LeO.bind ?_ (fun _ => ?_))
      | exact ih0 _ _ _ _
      | exact ih1 _ _ _ _ _ _
      | exact ih2 _ _ _ _ _ _ _ _ _ _
      | exact ih3 _ _ _ _ _ _ _ _ _ _ _
      | exact impl_Encode.mono _ _
      | exact impl_numbered.mono _ _
      | exact LeO.none _
      | refine LeO.ite ?_ ?_
      | refine LeO.bind ?_ (fun _ => ?_)
set_option maxHeartbeats 8000000 in
set_option maxRecDepth 100000 in
theorem impl_Reference.calls (k : Nat) (a0 : ByteArray) (a1 : Int) (a2 : Bool) (r1 : ByteArray) (r2 : Int) (w : World) (hG : GRef w) (h : impl_Reference.f k a0 a1 a2 = some (r1, r2)) :
    Calls Tryd.prog 5 #[.string a0, .int .i64 a1, .bool a2] w fun e w' => e = .returned (.tuple #[.string r1, .int .i64 r2]) ∧ Below w.heap.size w w' := by
  obtain ⟨tG, frG, hg0⟩ := hG
  have HG := Aside0.mk hg0
  clear hg0
  have hu37 := Tryd.underlying37
  have HB := Aside0.mk (Below.refl w.heap.size w)
  have H : (if a1 < 0 then (impl_Reference.j0 k a0 a1 a2 true) else (if a1 ≥ (a0.size : Int) then (impl_Reference.j0 k a0 a1 a2 true) else (if 0 ≤ a1 then (if a1 < (a0.size : Int) then (impl_Reference.j0 k a0 a1 a2 ((bt a0 a1) != 38)) else (none)) else (none)))) = some (r1, r2) := h
  clear h
  have HC4 := Aside0.mk H
  clear H
  go_enter Tryd.func5, Tryd.ntmps5
  go_upto_region 1 with (fail)
  go_cut [27] (fun v27 wc => ∃ (kq : Nat) (x27_3 : Bool), v27 = .bool x27_3 ∧ Aside0 (impl_Reference.j0 kq a0 a1 a2 x27_3 = some (r1, r2)) ∧ Aside0 (kq ≤ k) ∧ Aside0 (Below w.heap.size w wc))
  case first =>
    have H := HC4.out
    clear HC4
    by_cases c5 : a1 < 0
    · rw [if_pos c5] at H
      have c5b0 : decide (a1 < 0) = true := decide_eq_true c5
      clear c5
      (first | rw [c5b0] | (simp only [i64_w, i32_w]; rw [c5b0]) | rw [c5b1] | skip)
      have H' := Aside0.mk H
      clear H
      go_wp2
      go_meet
      case rel => exact ⟨_, (true), (by first | rfl | (simp; done) | (simp [*]; done)), H', ⟨by first | omega | exact Nat.le_refl _⟩, ⟨by repeat (first | (with_reducible first | exact HB.out | apply below_alloc | apply pw_below_drewN | apply below_drew1) | exact HB.out)⟩⟩
    · rw [if_neg c5] at H
      have c5b0 : decide (a1 < 0) = false := decide_eq_false c5
      clear c5
      (first | rw [c5b0] | (simp only [i64_w, i32_w]; rw [c5b0]) | rw [c5b1] | skip)
      by_cases c6 : a1 ≥ (a0.size : Int)
      · rw [if_pos c6] at H
        have c6b0 : decide ((a0.size : Int) ≤ a1) = true := decide_eq_true c6
        clear c6
        have H' := Aside0.mk H
        clear H
        go_wp2
        go_meet
        case rel => exact ⟨_, (true), (by first | rfl | (simp; done) | (simp [*]; done)), H', ⟨by first | omega | exact Nat.le_refl _⟩, ⟨by repeat (first | (with_reducible first | exact HB.out | apply below_alloc | apply pw_below_drewN | apply below_drew1) | exact HB.out)⟩⟩
      · rw [if_neg c6] at H
        have c6b0 : decide ((a0.size : Int) ≤ a1) = false := decide_eq_false c6
        clear c6
        by_cases c7 : 0 ≤ a1
        · rw [if_pos c7] at H
          have c7b0 : decide (0 ≤ a1) = true := decide_eq_true c7
          clear c7
          by_cases c8 : a1 < (a0.size : Int)
          · rw [if_pos c8] at H
            have c8b0 : decide (a1 < (a0.size : Int)) = true := decide_eq_true c8
            clear c8
            have H' := Aside0.mk H
            clear H
            have p9 : 0 ≤ (a1 : Int) := of_decide_eq_true (by first | (with_reducible assumption) | assumption)
            have q9 : a1 < (a0.size : Int) := of_decide_eq_true (by first | (with_reducible assumption) | assumption)
            have hx9 := bt_at a0 a1
            replace p9 := eq_true p9
            replace q9 := eq_true q9
            go_wp2
            go_meet
            case rel => exact ⟨_, (((bt a0 a1) != 38)), (by first | rfl | (simp; done) | (simp [*]; done)), H', ⟨by first | omega | exact Nat.le_refl _⟩, ⟨by repeat (first | (with_reducible first | exact HB.out | apply below_alloc | apply pw_below_drewN | apply below_drew1) | exact HB.out)⟩⟩
          · rw [if_neg c8] at H
            exact absurd H (by simp)
        · rw [if_neg c7] at H
          exact absurd H (by simp)
  case rest =>
    clear HC4
    try clear p2
    try clear c5
    try clear c5b0
    try clear c6
    try clear c6b0
    try clear c7
    try clear c7b0
    try clear c8
    try clear c8b0
    try clear p9
    try clear q9
    try clear hx9
    try clear p9
    try clear q9
    obtain ⟨kq, x27_3, rfl, HA, HJ3, HB⟩ := hcut
    cases kq with
    | zero => exact absurd HA.out (by simp [impl_Reference.j0])
    | succ kj3 =>
      have H := HA.out
      clear HA
      simp only [impl_Reference.j0] at H
      by_cases c10 : x27_3 = true
      · subst c10
        have H1 : (some ((⟨#[]⟩ : ByteArray), 0)) = some (r1, r2) := by rw [if_pos rfl] at H; exact H
        clear H
        have H := H1
        clear H1
        simp only [Option.some.injEq, Prod.mk.injEq] at H
        obtain ⟨rfl, rfl⟩ := H
        go_wp2
        go_ret2
        exact ⟨by first | rfl | (simp [errW_none, errW_some] <;> rfl) | (simp [*, errW_none, errW_some] <;> rfl), by repeat (first | (with_reducible first | exact HB.out | apply below_alloc | apply pw_below_drewN | apply below_drew1) | exact HB.out)⟩
      · replace c10 := Bool.eq_false_iff.mpr c10
        subst c10
        have H1 : (if 0 ≤ (wrap64 (a1 + 1)) then (if (wrap64 (a1 + 1)) ≤ (a0.size : Int) then ((strings_HasPrefix.f (a0.extract ((wrap64 (a1 + 1)) : Int).toNat a0.size) (⟨#[35]⟩ : ByteArray)).bind fun t258 => (if t258 = true then (if 1 ≤ ((a0.extract ((wrap64 (a1 + 1)) : Int).toNat a0.size).size : Int) then ((impl_numbered.f kj3 ((a0.extract ((wrap64 (a1 + 1)) : Int).toNat a0.size).extract 1 (a0.extract ((wrap64 (a1 + 1)) : Int).toNat a0.size).size)).bind fun bt259 => (some (bt259.1, bt259.2))) else (none)) else (impl_Reference.l0 kj3 a2 (a0.extract ((wrap64 (a1 + 1)) : Int).toNat a0.size) 0 0 (⟨#[]⟩ : ByteArray) 0))) else (none)) else (none)) = some (r1, r2) := by rw [if_neg (show ¬ (false = true) by decide)] at H; exact H
        clear H
        have H := H1
        clear H1
        obtain ⟨ji11, hji11⟩ : ∃ j_ : Int, (wrap64 (a1 + 1)) = j_ := ⟨_, rfl⟩
        replace H : (if 0 ≤ (ji11) then (if (ji11) ≤ (a0.size : Int) then ((strings_HasPrefix.f (a0.extract ((ji11) : Int).toNat a0.size) (⟨#[35]⟩ : ByteArray)).bind fun t258 => (if t258 = true then (if 1 ≤ ((a0.extract ((ji11) : Int).toNat a0.size).size : Int) then ((impl_numbered.f kj3 ((a0.extract ((ji11) : Int).toNat a0.size).extract 1 (a0.extract ((ji11) : Int).toNat a0.size).size)).bind fun bt259 => (some (bt259.1, bt259.2))) else (none)) else (impl_Reference.l0 kj3 a2 (a0.extract ((ji11) : Int).toNat a0.size) 0 0 (⟨#[]⟩ : ByteArray) 0))) else (none)) else (none)) = some (r1, r2) := by first | (rw [hji11] at H; exact H) | (simp only [hji11] at H ⊢; exact H)
        have hji11w : (IntKind.i64.wrap (a1 + 1)) = ji11 := (i64_w _).trans hji11
        by_cases c12 : 0 ≤ (ji11)
        · rw [if_pos c12] at H
          have c12b0 := eq_true c12
          have c12b1 : decide (0 ≤ (ji11)) = true := decide_eq_true c12
          clear c12
          by_cases c13 : (ji11) ≤ (a0.size : Int)
          · rw [if_pos c13] at H
            have c13b0 := eq_true c13
            have c13b1 : decide ((ji11) ≤ (a0.size : Int)) = true := decide_eq_true c13
            clear c13
            replace H := Option.bind_eq_some_iff.mp H
            obtain ⟨t258, A140, H⟩ := H
            replace H : (if t258 = true then (if 1 ≤ ((a0.extract ((ji11) : Int).toNat a0.size).size : Int) then ((impl_numbered.f kj3 ((a0.extract ((ji11) : Int).toNat a0.size).extract 1 (a0.extract ((ji11) : Int).toNat a0.size).size)).bind fun bt259 => (some (bt259.1, bt259.2))) else (none)) else (impl_Reference.l0 kj3 a2 (a0.extract ((ji11) : Int).toNat a0.size) 0 0 (⟨#[]⟩ : ByteArray) 0)) = some (r1, r2) := H
            have A14 := Aside0.mk A140
            clear A140
            go_upto_region 4 with (fail)
            generalize hx8g : a0.extract ((ji11) : Int).toNat a0.size = x8g at H A14 ⊢
            clear hx8g
            by_cases c15 : t258 = true
            · subst c15
              have H1 : (if 1 ≤ (x8g.size : Int) then ((impl_numbered.f kj3 (x8g.extract 1 x8g.size)).bind fun bt259 => (some (bt259.1, bt259.2))) else (none)) = some (r1, r2) := by rw [if_pos rfl] at H; exact H
              clear H
              have H := H1
              clear H1
              by_cases c16 : 1 ≤ (x8g.size : Int)
              · rw [if_pos c16] at H
                have c16b0 := eq_true c16
                have c16b1 : decide (1 ≤ (x8g.size : Int)) = true := decide_eq_true c16
                clear c16
                replace H := Option.bind_eq_some_iff.mp H
                obtain ⟨⟨t259, t260⟩, A170, H⟩ := H
                replace H : (some (t259, t260)) = some (r1, r2) := H
                have A17 := Aside0.mk A170
                clear A170
                simp only [Option.some.injEq, Prod.mk.injEq] at H
                obtain ⟨rfl, rfl⟩ := H
                go_wp2_with (first | ((with_reducible refine gate_callee (f := 13) rfl ?_); refine goesL_ (some 33) rfl rfl Tryd.func13 (by kernel_rfl) rfl #[.string x8g, .string (⟨#[35]⟩ : ByteArray)] rfl (by (try simp only [List.map_toArray, List.map_cons, List.map_nil]); first | done | (simp only [hji11]; rfl) | rfl | (simp only [List.length_drop, List.length_take]; rfl)) ?_; (with_reducible refine (strings_HasPrefix.calls x8g (⟨#[35]⟩ : ByteArray) true _ A14.out).mono ?_); rintro e w' ⟨rfl, ⟨nd, rfl⟩⟩; refine ⟨_, rfl, ?_⟩) | ((with_reducible refine gate_callee (f := 14) rfl ?_); refine goesL_ (some 36) rfl rfl Tryd.func14 (by kernel_rfl) rfl #[.string (x8g.extract 1 x8g.size)] rfl (by (try simp only [List.map_toArray, List.map_cons, List.map_nil]); first | done | (simp only [hji11]; rfl) | rfl | (simp only [List.length_drop, List.length_take]; rfl)) ?_; (with_reducible refine (impl_numbered.calls kj3 (x8g.extract 1 x8g.size) t259 t260 _ A17.out).mono ?_); rintro e w18 ⟨rfl, hb⟩; refine ⟨_, rfl, ?_⟩; have n0_ := Aside0.mk (below_step (by repeat (first | (with_reducible first | exact HB.out | apply below_alloc | apply pw_below_drewN | apply below_drew1) | exact HB.out)) hb); clear HB; have HB := n0_; clear n0_; (try clear hb); (try clear hb2); (try clear hk); (try clear hi)))
                go_ret2
                exact ⟨by first | rfl | (simp [errW_none, errW_some] <;> rfl) | (simp only [← hji11]; first | rfl | (simp [errW_none, errW_some] <;> rfl)) | (simp [*, errW_none, errW_some] <;> rfl), by repeat (first | (with_reducible first | exact HB.out | apply below_alloc | apply pw_below_drewN | apply below_drew1) | exact HB.out)⟩
              · rw [if_neg c16] at H
                exact absurd H (by simp)
            · replace c15 := Bool.eq_false_iff.mpr c15
              subst c15
              have H1 : (impl_Reference.l0 kj3 a2 x8g 0 0 (⟨#[]⟩ : ByteArray) 0) = some (r1, r2) := by rw [if_neg (show ¬ (false = true) by decide)] at H; exact H
              clear H
              have H := H1
              clear H1
              have H' := Aside0.mk H
              clear H
              go_wp2_with (first | ((with_reducible refine gate_dst (N := 40) rfl ?_); refine wpList_load_row rfl 38 (.global 0) rfl 0 rfl tG refCells.toArray frG _ (blk_below HG.out (by repeat (first | (with_reducible first | exact HB.out | apply below_alloc | apply pw_below_drewN | apply below_drew1 | refine below_set ?_ GE261.out) | exact HB.out))) Tryd.underlying38 rfl (by kernel_rfl) ?_) | ((with_reducible refine gate_callee (f := 13) rfl ?_); refine goesL_ (some 33) rfl rfl Tryd.func13 (by kernel_rfl) rfl #[.string x8g, .string (⟨#[35]⟩ : ByteArray)] rfl (by (try simp only [List.map_toArray, List.map_cons, List.map_nil]); first | done | (simp only [hji11]; rfl) | rfl | (simp only [List.length_drop, List.length_take]; rfl)) ?_; (with_reducible refine (strings_HasPrefix.calls x8g (⟨#[35]⟩ : ByteArray) false _ A14.out).mono ?_); rintro e w' ⟨rfl, ⟨nd, rfl⟩⟩; refine ⟨_, rfl, ?_⟩; (try (rw [drewN_self wc]; generalize hq_ : World.drewN wc _ = wc; have n0_ : Aside0 (Below w.heap.size w wc) := ⟨by rw [← hq_]; exact (by repeat (first | (with_reducible first | exact HB.out | apply below_alloc | apply pw_below_drewN | apply below_drew1) | exact HB.out))⟩; clear HB hq_; have HB := n0_; clear n0_))) | ((with_reducible refine gate_dst (N := 9) rfl ?_); (try (refine gate_guard (by rfl) ?_; dsimp only)); refine box_event ?hg (N := 9) ?hd (cs := #[.string (⟨#[]⟩ : ByteArray), .int .i64 0]) (t := 37) ?hr ?_; (case hd => rfl); (case hg => rfl); (case hr => first | (go_simp; done) | (go_simp; rfl)); intro gb261 hg w19 hbox hb; have n0_ := Aside0.mk (below_step (by repeat (first | (with_reducible first | exact HB.out | apply below_alloc | apply pw_below_drewN | apply below_drew1) | exact HB.out)) hb); have n1_ := Aside0.mk (hbox); have n2_ := Aside0.mk ((by rw [hg]; exact (below_size (by repeat (first | (with_reducible first | exact HB.out | apply below_alloc | apply pw_below_drewN | apply below_drew1) | exact HB.out))) : w.heap.size ≤ gb261)); have n3_ := Aside0.mk ((by rw [hg]; exact (below_size (by repeat (first | (with_reducible first | exact HB.out | apply below_alloc | apply pw_below_drewN | apply below_drew1) | exact HB.out))) : w.heap.size ≤ gb261)); clear HB; have HB := n0_; have BK261 := n1_; have GW261 := n2_; have GE261 := n3_; clear n0_ n1_ n2_ n3_; clear hb hbox hg; have hcz20_0 : w19.cell? ⟨gb261, 0, none⟩ = some (.string (⟨#[]⟩ : ByteArray)) := (blk_cell BK261.out 0).trans rfl; have hcz20_1 : w19.cell? ⟨gb261, 1, none⟩ = some (.int .i64 0) := (blk_cell BK261.out 1).trans rfl; have hfz20_0 := blk_frozen BK261.out 0; have hfz20_1 := blk_frozen BK261.out 1))
              go_loopg [10, 41] kj3 (fun kq v10 v41 w' => ∃ (x10_2 : Int) (x41_2 : Int) (x262000_2 : ByteArray) (x262001_2 : Int), v10 = .int .i64 x10_2 ∧ v41 = .int .i64 x41_2 ∧ Aside0 (impl_Reference.l0 kq a2 x8g x10_2 x41_2 x262000_2 x262001_2 = some (r1, r2)) ∧ Aside0 (kq ≤ kj3) ∧ Aside0 (w'.heap[gb261]? = some (.cells #[.string x262000_2, .int .i64 x262001_2] 37 (0, 0))) ∧ Aside0 (Below w.heap.size w w'))
              case atStart => exact ⟨(0), (0), ((⟨#[]⟩ : ByteArray)), (0), (by first | rfl | (simp; done) | (simp [*]; done)), (by first | rfl | (simp; done) | (simp [*]; done)), H', ⟨Nat.le_refl _⟩, ⟨by (with_reducible repeat (first | refine blk_drewN ?_ _ | refine blk_drew ?_ | refine blk_alloc ?_ _)); refine blk_put (cs := #[.string (⟨#[]⟩ : ByteArray), .int .i64 0]) ?_ 1 _ rfl; (with_reducible repeat (first | refine blk_drewN ?_ _ | refine blk_drew ?_ | refine blk_alloc ?_ _)); refine blk_put (cs := #[.string (⟨#[]⟩ : ByteArray), .int .i64 0]) ?_ 0 _ rfl; (with_reducible repeat (first | refine blk_drewN ?_ _ | refine blk_drew ?_ | refine blk_alloc ?_ _)); exact BK261.out⟩, ⟨by repeat (first | (with_reducible first | exact HB.out | apply below_alloc | apply pw_below_drewN | apply below_drew1 | refine below_set ?_ GE261.out) | exact HB.out)⟩⟩
              case round =>
                clear H'
                try clear c1
                try clear p2
                try clear c5
                try clear c5b0
                try clear c6
                try clear c6b0
                try clear p6
                try clear c7
                try clear c7b0
                try clear c8
                try clear c8b0
                try clear p9
                try clear q9
                try clear hx9
                try clear c10
                try clear c12
                try clear c12b0
                try clear c12b1
                try clear c13
                try clear c13b0
                try clear c13b1
                try clear c14
                try clear c15
                try clear c16
                try clear c16b0
                try clear c16b1
                try clear hcz20_0
                try clear hcz20_1
                try clear hfz20_0
                try clear hfz20_1
                try clear p2
                try clear p9
                try clear q9
                obtain ⟨x10_2, x41_2, x262000_2, x262001_2, rfl, rfl, HA, HK2, BK261, HB⟩ := hrel
                cases gk with
                | zero => exact absurd HA.out (by simp [impl_Reference.l0])
                | succ k2 =>
                  have H := HA.out
                  clear HA
                  simp only [impl_Reference.l0] at H
                  by_cases c21 : x41_2 < 16
                  · rw [if_pos c21] at H
                    have c21b0 : decide (x41_2 < 16) = true := decide_eq_true c21
                    clear c21
                    replace H := Option.bind_eq_some_iff.mp H
                    obtain ⟨⟨t262, t263⟩, A220, H⟩ := H
                    replace H : ((strings_HasPrefix.f x8g t262).bind fun t269 => (if t269 = true then (impl_Reference.j2 k2 a2 x8g x10_2 x41_2 x41_2 (decide ((t262.size : Int) ≤ (x262000_2.size : Int))) x262000_2 x262001_2 t262 t263) else (impl_Reference.j2 k2 a2 x8g x10_2 x41_2 x41_2 true x262000_2 x262001_2 t262 t263))) = some (r1, r2) := H
                    have A22 := Aside0.mk A220
                    clear A220
                    have HC23 := Aside0.mk H
                    clear H
                    go_upto_region 11 with (first | ((with_reducible refine gate_dst (N := 44) rfl ?_); refine Kd.event_run rfl (index_event _ _ _ (by rfl) (by rfl) (by rfl) A22.out) ?_) | ((with_reducible refine gate_dst (N := 12) rfl ?_); (try (refine gate_guard (by rfl) ?_; dsimp only)); refine box_event ?hg (N := 12) ?hd (cs := #[.string (⟨#[]⟩ : ByteArray), .int .i64 0]) (t := 37) ?hr ?_; (case hd => rfl); (case hg => rfl); (case hr => first | (go_simp; done) | (go_simp; rfl)); intro gb268 hg w25 hbox hb; have n0_ := Aside0.mk (blk_below (g := gb261) (o := .cells #[.string x262000_2, .int .i64 x262001_2] 37 (0, 0)) (by (with_reducible repeat (first | refine blk_drewN ?_ _ | refine blk_drew ?_ | refine blk_alloc ?_ _)); exact BK261.out) hb); have n1_ := Aside0.mk (below_step (by repeat (first | (with_reducible first | exact HB.out | apply below_alloc | apply pw_below_drewN | apply below_drew1 | refine below_set ?_ GE261.out) | exact HB.out)) hb); have n2_ := Aside0.mk (hbox); have n3_ := Aside0.mk ((by rw [hg]; exact (below_size (by repeat (first | (with_reducible first | exact HB.out | apply below_alloc | apply pw_below_drewN | apply below_drew1 | refine below_set ?_ GE261.out) | exact HB.out))) : w.heap.size ≤ gb268)); have n4_ := Aside0.mk ((by rw [hg]; exact (below_size (by repeat (first | (with_reducible first | exact HB.out | apply below_alloc | apply pw_below_drewN | apply below_drew1 | refine below_set ?_ GE261.out) | exact HB.out))) : w.heap.size ≤ gb268)); have n5_ := Aside0.mk ((by rw [hg]; exact Nat.ne_of_lt (blk_lt (g := gb261) (o := .cells #[.string x262000_2, .int .i64 x262001_2] 37 (0, 0)) (by (with_reducible repeat (first | refine blk_drewN ?_ _ | refine blk_drew ?_ | refine blk_alloc ?_ _)); exact BK261.out)) : gb261 ≠ gb268)); have n6_ := Aside0.mk ((by rw [hg]; exact Nat.ne_of_gt (blk_lt (g := gb261) (o := .cells #[.string x262000_2, .int .i64 x262001_2] 37 (0, 0)) (by (with_reducible repeat (first | refine blk_drewN ?_ _ | refine blk_drew ?_ | refine blk_alloc ?_ _)); exact BK261.out)) : gb268 ≠ gb261)); clear BK261; clear HB; have BK261 := n0_; have HB := n1_; have BK268 := n2_; have GW268 := n3_; have GE268 := n4_; have NB261_268 := n5_; have NB268_261 := n6_; clear n0_ n1_ n2_ n3_ n4_ n5_ n6_; clear hb hbox hg; have hnb26 := NB268_261.out; have hnc26 := NB261_268.out; have hcz27_0 : w25.cell? ⟨gb268, 0, none⟩ = some (.string (⟨#[]⟩ : ByteArray)) := (blk_cell BK268.out 0).trans rfl; have hcz27_1 : w25.cell? ⟨gb268, 1, none⟩ = some (.int .i64 0) := (blk_cell BK268.out 1).trans rfl; have hfz27_0 := blk_frozen BK268.out 0; have hfz27_1 := blk_frozen BK268.out 1))
                    (try simp only [Act.put, List.setIfInBounds_toArray, List.set_cons_zero, List.set_cons_succ])
                    go_cut [58] (fun v58 wc => ∃ (kq : Nat) (x58_22 : Bool), v58 = .bool x58_22 ∧ Aside0 (impl_Reference.j2 kq a2 x8g x10_2 x41_2 x41_2 x58_22 x262000_2 x262001_2 t262 t263 = some (r1, r2)) ∧ Aside0 (kq ≤ k2) ∧ Aside0 (wc.heap[gb261]? = some (.cells #[.string x262000_2, .int .i64 x262001_2] 37 (0, 0))) ∧ Aside0 (wc.heap[gb268]? = some (.cells #[.string t262, .int .i64 t263] 37 (0, 0))) ∧ Aside0 (Below w.heap.size w wc))
                    case first =>
                      have H := HC23.out
                      clear HC23
                      replace H := Option.bind_eq_some_iff.mp H
                      obtain ⟨t269, A280, H⟩ := H
                      replace H : (if t269 = true then (impl_Reference.j2 k2 a2 x8g x10_2 x41_2 x41_2 (decide ((t262.size : Int) ≤ (x262000_2.size : Int))) x262000_2 x262001_2 t262 t263) else (impl_Reference.j2 k2 a2 x8g x10_2 x41_2 x41_2 true x262000_2 x262001_2 t262 t263)) = some (r1, r2) := H
                      have A28 := Aside0.mk A280
                      clear A280
                      by_cases c29 : t269 = true
                      · subst c29
                        have H1 : (impl_Reference.j2 k2 a2 x8g x10_2 x41_2 x41_2 (decide ((t262.size : Int) ≤ (x262000_2.size : Int))) x262000_2 x262001_2 t262 t263) = some (r1, r2) := by rw [if_pos rfl] at H; exact H
                        clear H
                        have H := H1
                        clear H1
                        have H' := Aside0.mk H
                        clear H
                        have hnb30 := NB268_261.out
                        have hnc30 := NB261_268.out
                        have hcz31_0 : w25.cell? ⟨gb268, 0, none⟩ = some (.string (⟨#[]⟩ : ByteArray)) := (blk_cell BK268.out 0).trans rfl
                        have hcz31_1 : w25.cell? ⟨gb268, 1, none⟩ = some (.int .i64 0) := (blk_cell BK268.out 1).trans rfl
                        have hfz31_0 := blk_frozen BK268.out 0
                        have hfz31_1 := blk_frozen BK268.out 1
                        go_wp2_with (first | ((with_reducible refine gate_callee (f := 13) rfl ?_); refine goesL_ (some 48) rfl rfl Tryd.func13 (by kernel_rfl) rfl #[.string x8g, .string t262] rfl (by (try simp only [List.map_toArray, List.map_cons, List.map_nil]); first | done | (simp only [hji11]; rfl) | rfl | (simp only [List.length_drop, List.length_take]; rfl)) ?_; (with_reducible refine (strings_HasPrefix.calls x8g t262 true _ A28.out).mono ?_); rintro e w' ⟨rfl, ⟨nd, rfl⟩⟩; refine ⟨_, rfl, ?_⟩; have hcz32_0 : w25.cell? ⟨gb261, 0, none⟩ = some (.string x262000_2) := (blk_cell BK261.out 0).trans rfl; have hcz32_1 : w25.cell? ⟨gb261, 1, none⟩ = some (.int .i64 x262001_2) := (blk_cell BK261.out 1).trans rfl; have hfz32_0 := blk_frozen BK261.out 0; have hfz32_1 := blk_frozen BK261.out 1))
                        go_meet
                        case rel => exact ⟨_, (decide ((t262.size : Int) ≤ (x262000_2.size : Int))), (by first | rfl | (simp; done) | (simp [*]; done)), H', ⟨by have := HJ3.out; have := HK2.out; first | omega | exact Nat.le_refl _⟩, ⟨by (with_reducible repeat (first | refine blk_drewN ?_ _ | refine blk_drew ?_ | refine blk_alloc ?_ _)); refine blk_far ?_ NB261_268.out _; (with_reducible repeat (first | refine blk_drewN ?_ _ | refine blk_drew ?_ | refine blk_alloc ?_ _)); refine blk_far ?_ NB261_268.out _; (with_reducible repeat (first | refine blk_drewN ?_ _ | refine blk_drew ?_ | refine blk_alloc ?_ _)); exact BK261.out⟩, ⟨by (with_reducible repeat (first | refine blk_drewN ?_ _ | refine blk_drew ?_ | refine blk_alloc ?_ _)); refine blk_put (cs := #[.string t262, .int .i64 0]) ?_ 1 _ rfl; (with_reducible repeat (first | refine blk_drewN ?_ _ | refine blk_drew ?_ | refine blk_alloc ?_ _)); refine blk_put (cs := #[.string (⟨#[]⟩ : ByteArray), .int .i64 0]) ?_ 0 _ rfl; (with_reducible repeat (first | refine blk_drewN ?_ _ | refine blk_drew ?_ | refine blk_alloc ?_ _)); exact BK268.out⟩, ⟨by repeat (first | (with_reducible first | exact HB.out | apply below_alloc | apply pw_below_drewN | apply below_drew1 | refine below_set ?_ GE261.out | refine below_set ?_ GE268.out) | exact HB.out)⟩⟩
                      · replace c29 := Bool.eq_false_iff.mpr c29
                        subst c29
                        have H1 : (impl_Reference.j2 k2 a2 x8g x10_2 x41_2 x41_2 true x262000_2 x262001_2 t262 t263) = some (r1, r2) := by rw [if_neg (show ¬ (false = true) by decide)] at H; exact H
                        clear H
                        have H := H1
                        clear H1
                        have H' := Aside0.mk H
                        clear H
                        have hnb33 := NB268_261.out
                        have hnc33 := NB261_268.out
                        have hcz34_0 : w25.cell? ⟨gb268, 0, none⟩ = some (.string (⟨#[]⟩ : ByteArray)) := (blk_cell BK268.out 0).trans rfl
                        have hcz34_1 : w25.cell? ⟨gb268, 1, none⟩ = some (.int .i64 0) := (blk_cell BK268.out 1).trans rfl
                        have hfz34_0 := blk_frozen BK268.out 0
                        have hfz34_1 := blk_frozen BK268.out 1
                        go_wp2_with (first | ((with_reducible refine gate_callee (f := 13) rfl ?_); refine goesL_ (some 48) rfl rfl Tryd.func13 (by kernel_rfl) rfl #[.string x8g, .string t262] rfl (by (try simp only [List.map_toArray, List.map_cons, List.map_nil]); first | done | (simp only [hji11]; rfl) | rfl | (simp only [List.length_drop, List.length_take]; rfl)) ?_; (with_reducible refine (strings_HasPrefix.calls x8g t262 false _ A28.out).mono ?_); rintro e w' ⟨rfl, ⟨nd, rfl⟩⟩; refine ⟨_, rfl, ?_⟩))
                        go_meet
                        case rel => exact ⟨_, (true), (by first | rfl | (simp; done) | (simp [*]; done)), H', ⟨by have := HJ3.out; have := HK2.out; first | omega | exact Nat.le_refl _⟩, ⟨by (with_reducible repeat (first | refine blk_drewN ?_ _ | refine blk_drew ?_ | refine blk_alloc ?_ _)); refine blk_far ?_ NB261_268.out _; (with_reducible repeat (first | refine blk_drewN ?_ _ | refine blk_drew ?_ | refine blk_alloc ?_ _)); refine blk_far ?_ NB261_268.out _; (with_reducible repeat (first | refine blk_drewN ?_ _ | refine blk_drew ?_ | refine blk_alloc ?_ _)); exact BK261.out⟩, ⟨by (with_reducible repeat (first | refine blk_drewN ?_ _ | refine blk_drew ?_ | refine blk_alloc ?_ _)); refine blk_put (cs := #[.string t262, .int .i64 0]) ?_ 1 _ rfl; (with_reducible repeat (first | refine blk_drewN ?_ _ | refine blk_drew ?_ | refine blk_alloc ?_ _)); refine blk_put (cs := #[.string (⟨#[]⟩ : ByteArray), .int .i64 0]) ?_ 0 _ rfl; (with_reducible repeat (first | refine blk_drewN ?_ _ | refine blk_drew ?_ | refine blk_alloc ?_ _)); exact BK268.out⟩, ⟨by repeat (first | (with_reducible first | exact HB.out | apply below_alloc | apply pw_below_drewN | apply below_drew1 | refine below_set ?_ GE261.out | refine below_set ?_ GE268.out) | exact HB.out)⟩⟩
                    case rest =>
                      clear HC23
                      try clear c1
                      try clear c2
                      try clear p2
                      try clear c3
                      try clear c5
                      try clear c5b0
                      try clear c6
                      try clear c6b0
                      try clear p6
                      try clear c7
                      try clear c7b0
                      try clear c8
                      try clear c8b0
                      try clear p9
                      try clear q9
                      try clear hx9
                      try clear c10
                      try clear c12
                      try clear c12b0
                      try clear c12b1
                      try clear c13
                      try clear c13b0
                      try clear c13b1
                      try clear c14
                      try clear c15
                      try clear c16
                      try clear c16b0
                      try clear c16b1
                      try clear c21
                      try clear c21b0
                      try clear c26
                      try clear c29
                      try clear c30
                      try clear c33
                      try clear hcz20_0
                      try clear hcz20_1
                      try clear hcz27_0
                      try clear hcz27_1
                      try clear hcz31_0
                      try clear hcz31_1
                      try clear hcz32_0
                      try clear hcz32_1
                      try clear hcz34_0
                      try clear hcz34_1
                      try clear hfz20_0
                      try clear hfz20_1
                      try clear hfz27_0
                      try clear hfz27_1
                      try clear hfz31_0
                      try clear hfz31_1
                      try clear hfz32_0
                      try clear hfz32_1
                      try clear hfz34_0
                      try clear hfz34_1
                      try clear p2
                      try clear p6
                      try clear p9
                      try clear q9
                      obtain ⟨kq, x58_22, rfl, HA, HJ22, BK261, BK268, HB⟩ := hcut
                      cases kq with
                      | zero => exact absurd HA.out (by simp [impl_Reference.j2])
                      | succ kj22 =>
                        have H := HA.out
                        clear HA
                        simp only [impl_Reference.j2] at H
                        by_cases c35 : x58_22 = true
                        · subst c35
                          have H1 : (impl_Reference.l0 kj22 a2 x8g x10_2 (wrap64 (x41_2 + 1)) x262000_2 x262001_2) = some (r1, r2) := by rw [if_pos rfl] at H; exact H
                          clear H
                          have H := H1
                          clear H1
                          have H' := Aside0.mk H
                          clear H
                          go_wp2
                          go_roundg kj22
                          case measure => have := HJ3.out; have := HK2.out; have := HJ22.out; omega
                          case rel => exact ⟨(x10_2), (wrap64 (x41_2 + 1)), (x262000_2), (x262001_2), (by first | rfl | (simp; done) | (simp [*]; done)), (by first | rfl | (simp; done) | (simp [*]; done)), H', ⟨by have := HJ3.out; have := HK2.out; have := HJ22.out; omega⟩, ⟨by (with_reducible repeat (first | refine blk_drewN ?_ _ | refine blk_drew ?_ | refine blk_alloc ?_ _)); exact BK261.out⟩, ⟨by repeat (first | (with_reducible first | exact HB.out | apply below_alloc | apply pw_below_drewN | apply below_drew1 | refine below_set ?_ GE261.out | refine below_set ?_ GE268.out) | exact HB.out)⟩⟩
                        · replace c35 := Bool.eq_false_iff.mpr c35
                          subst c35
                          have H1 : (if (t262.size : Int) < (x8g.size : Int) then (if 0 ≤ (t262.size : Int) then (impl_Reference.j3 kj22 a2 x8g x10_2 x41_2 (t262.size : Int) x41_2 ((bt x8g (t262.size : Int)) == 59) x262000_2 x262001_2 t262 t263) else (none)) else (impl_Reference.j3 kj22 a2 x8g x10_2 x41_2 (t262.size : Int) x41_2 false x262000_2 x262001_2 t262 t263)) = some (r1, r2) := by rw [if_neg (show ¬ (false = true) by decide)] at H; exact H
                          clear H
                          have H := H1
                          clear H1
                          have HC36 := Aside0.mk H
                          clear H
                          have hnb37 := NB268_261.out
                          have hnc37 := NB261_268.out
                          have hcz38_0 : wc.cell? ⟨gb268, 0, none⟩ = some (.string t262) := (blk_cell BK268.out 0).trans rfl
                          have hcz38_1 : wc.cell? ⟨gb268, 1, none⟩ = some (.int .i64 t263) := (blk_cell BK268.out 1).trans rfl
                          have hfz38_0 := blk_frozen BK268.out 0
                          have hfz38_1 := blk_frozen BK268.out 1
                          go_upto_region 13 with (fail)
                          go_cut [62] (fun v62 wc => ∃ (kq : Nat) (x62_35 : Bool), v62 = .bool x62_35 ∧ Aside0 (impl_Reference.j3 kq a2 x8g x10_2 x41_2 (t262.size : Int) x41_2 x62_35 x262000_2 x262001_2 t262 t263 = some (r1, r2)) ∧ Aside0 (kq ≤ kj22) ∧ Aside0 (wc.heap[gb261]? = some (.cells #[.string x262000_2, .int .i64 x262001_2] 37 (0, 0))) ∧ Aside0 (wc.heap[gb268]? = some (.cells #[.string t262, .int .i64 t263] 37 (0, 0))) ∧ Aside0 (Below w.heap.size w wc))
                          case first =>
                            have H := HC36.out
                            clear HC36
                            by_cases c39 : (t262.size : Int) < (x8g.size : Int)
                            · rw [if_pos c39] at H
                              have c39b0 : decide ((t262.size : Int) < (x8g.size : Int)) = true := decide_eq_true c39
                              have c39b1 : decide (t262.size < x8g.size) = true := decide_eq_true (Int.ofNat_lt.mp c39)
                              clear c39
                              (first | rw [c39b0] | (simp only [i64_w, i32_w]; rw [c39b0]) | rw [c39b1] | skip)
                              by_cases c40 : 0 ≤ (t262.size : Int)
                              · rw [if_pos c40] at H
                                have c40b0 : decide (0 ≤ (t262.size : Int)) = true := decide_eq_true c40
                                have c40b1 : decide (0 ≤ t262.size) = true := decide_eq_true (by omega)
                                clear c40
                                have H' := Aside0.mk H
                                clear H
                                have p41 : 0 ≤ ((t262.size : Int) : Int) := of_decide_eq_true (by first | (with_reducible assumption) | assumption)
                                have q41 : (t262.size : Int) < (x8g.size : Int) := of_decide_eq_true (by first | (with_reducible assumption) | assumption)
                                have hx41 := bt_at x8g (t262.size : Int)
                                have hx41n : ∀ h : t262.size < x8g.size, ((x8g[t262.size]'h).toNat : Int) = bt x8g (t262.size : Int) := fun h => bt_at x8g (t262.size : Int) h
                                replace p41 := eq_true p41
                                replace q41 := eq_true q41
                                go_wp2
                                go_meet
                                case rel => exact ⟨_, (((bt x8g (t262.size : Int)) == 59)), (by first | rfl | (simp; done) | (simp only [← hji11] <;> (first | rfl | simp)) | (simp [*]; done)), H', ⟨by have := HJ3.out; have := HK2.out; have := HJ22.out; first | omega | exact Nat.le_refl _⟩, ⟨by (with_reducible repeat (first | refine blk_drewN ?_ _ | refine blk_drew ?_ | refine blk_alloc ?_ _)); exact BK261.out⟩, ⟨by (with_reducible repeat (first | refine blk_drewN ?_ _ | refine blk_drew ?_ | refine blk_alloc ?_ _)); exact BK268.out⟩, ⟨by repeat (first | (with_reducible first | exact HB.out | apply below_alloc | apply pw_below_drewN | apply below_drew1 | refine below_set ?_ GE261.out | refine below_set ?_ GE268.out) | exact HB.out)⟩⟩
                              · rw [if_neg c40] at H
                                exact absurd H (by simp)
                            · rw [if_neg c39] at H
                              have c39b0 : decide ((t262.size : Int) < (x8g.size : Int)) = false := decide_eq_false c39
                              have c39b1 : decide (t262.size < x8g.size) = false := decide_eq_false (fun h => c39 (Int.ofNat_lt.mpr h))
                              clear c39
                              (first | rw [c39b0] | (simp only [i64_w, i32_w]; rw [c39b0]) | rw [c39b1] | skip)
                              have H' := Aside0.mk H
                              clear H
                              go_wp2
                              go_meet
                              case rel => exact ⟨_, (false), (by first | rfl | (simp; done) | (simp [*]; done)), H', ⟨by have := HJ3.out; have := HK2.out; have := HJ22.out; first | omega | exact Nat.le_refl _⟩, ⟨by (with_reducible repeat (first | refine blk_drewN ?_ _ | refine blk_drew ?_ | refine blk_alloc ?_ _)); exact BK261.out⟩, ⟨by (with_reducible repeat (first | refine blk_drewN ?_ _ | refine blk_drew ?_ | refine blk_alloc ?_ _)); exact BK268.out⟩, ⟨by repeat (first | (with_reducible first | exact HB.out | apply below_alloc | apply pw_below_drewN | apply below_drew1 | refine below_set ?_ GE261.out | refine below_set ?_ GE268.out) | exact HB.out)⟩⟩
                          case rest =>
                            clear HC36
                            try clear c1
                            try clear c2
                            try clear p2
                            try clear c3
                            try clear c4
                            try clear p4
                            try clear q4
                            try clear hx4
                            try clear c5
                            try clear c5b0
                            try clear c6
                            try clear c6b0
                            try clear p6
                            try clear c7
                            try clear c7b0
                            try clear c8
                            try clear c8b0
                            try clear p9
                            try clear q9
                            try clear hx9
                            try clear c10
                            try clear c12
                            try clear c12b0
                            try clear c12b1
                            try clear c13
                            try clear c13b0
                            try clear c13b1
                            try clear c14
                            try clear c15
                            try clear c16
                            try clear c16b0
                            try clear c16b1
                            try clear c21
                            try clear c21b0
                            try clear c26
                            try clear c29
                            try clear c30
                            try clear c33
                            try clear c35
                            try clear c37
                            try clear c39
                            try clear c39b0
                            try clear c39b1
                            try clear c40
                            try clear c40b0
                            try clear c40b1
                            try clear p41
                            try clear q41
                            try clear hx41
                            try clear hcz20_0
                            try clear hcz20_1
                            try clear hcz27_0
                            try clear hcz27_1
                            try clear hcz31_0
                            try clear hcz31_1
                            try clear hcz32_0
                            try clear hcz32_1
                            try clear hcz34_0
                            try clear hcz34_1
                            try clear hcz38_0
                            try clear hcz38_1
                            try clear hfz20_0
                            try clear hfz20_1
                            try clear hfz27_0
                            try clear hfz27_1
                            try clear hfz31_0
                            try clear hfz31_1
                            try clear hfz32_0
                            try clear hfz32_1
                            try clear hfz34_0
                            try clear hfz34_1
                            try clear hfz38_0
                            try clear hfz38_1
                            try clear p2
                            try clear p41
                            try clear p6
                            try clear p9
                            try clear q41
                            try clear q9
                            obtain ⟨kq, x62_35, rfl, HA, HJ35, BK261, BK268, HB⟩ := hcut
                            cases kq with
                            | zero => exact absurd HA.out (by simp [impl_Reference.j3])
                            | succ kj35 =>
                              have H := HA.out
                              clear HA
                              simp only [impl_Reference.j3] at H
                              by_cases c42 : x62_35 = true
                              · subst c42
                                have H1 : (impl_Reference.l0 kj35 a2 x8g (wrap64 ((t262.size : Int) + 2)) (wrap64 (x41_2 + 1)) t262 t263) = some (r1, r2) := by rw [if_pos rfl] at H; exact H
                                clear H
                                have H := H1
                                clear H1
                                have H' := Aside0.mk H
                                clear H
                                have hnb43 := NB268_261.out
                                have hnc43 := NB261_268.out
                                have hcz44_0 : wc.cell? ⟨gb268, 0, none⟩ = some (.string t262) := (blk_cell BK268.out 0).trans rfl
                                have hcz44_1 : wc.cell? ⟨gb268, 1, none⟩ = some (.int .i64 t263) := (blk_cell BK268.out 1).trans rfl
                                have hfz44_0 := blk_frozen BK268.out 0
                                have hfz44_1 := blk_frozen BK268.out 1
                                have hcz45_0 : wc.cell? ⟨gb261, 0, none⟩ = some (.string x262000_2) := (blk_cell BK261.out 0).trans rfl
                                have hcz45_1 : wc.cell? ⟨gb261, 1, none⟩ = some (.int .i64 x262001_2) := (blk_cell BK261.out 1).trans rfl
                                have hfz45_0 := blk_frozen BK261.out 0
                                have hfz45_1 := blk_frozen BK261.out 1
                                go_wp2
                                go_roundg kj35
                                case measure => have := HJ3.out; have := HK2.out; have := HJ22.out; have := HJ35.out; omega
                                case rel => exact ⟨(wrap64 ((t262.size : Int) + 2)), (wrap64 (x41_2 + 1)), (t262), (t263), (by first | rfl | (simp; done) | (simp [*]; done)), (by first | rfl | (simp; done) | (simp [*]; done)), H', ⟨by have := HJ3.out; have := HK2.out; have := HJ22.out; have := HJ35.out; omega⟩, ⟨by (with_reducible repeat (first | refine blk_drewN ?_ _ | refine blk_drew ?_ | refine blk_alloc ?_ _)); refine blk_put (cs := #[.string t262, .int .i64 x262001_2]) ?_ 1 _ rfl; (with_reducible repeat (first | refine blk_drewN ?_ _ | refine blk_drew ?_ | refine blk_alloc ?_ _)); refine blk_put (cs := #[.string x262000_2, .int .i64 x262001_2]) ?_ 0 _ rfl; (with_reducible repeat (first | refine blk_drewN ?_ _ | refine blk_drew ?_ | refine blk_alloc ?_ _)); exact BK261.out⟩, ⟨by repeat (first | (with_reducible first | exact HB.out | apply below_alloc | apply pw_below_drewN | apply below_drew1 | refine below_set ?_ GE261.out | refine below_set ?_ GE268.out) | exact HB.out)⟩⟩
                              · replace c42 := Bool.eq_false_iff.mpr c42
                                subst c42
                                have H1 : (if x41_2 < 6 then (if a2 = true then (if (t262.size : Int) < (x8g.size : Int) then (if 0 ≤ (t262.size : Int) then ((impl_isLetter.f (bt x8g (t262.size : Int))).bind fun t270 => (if t270 = true then (impl_Reference.l0 kj35 a2 x8g x10_2 (wrap64 (x41_2 + 1)) x262000_2 x262001_2) else ((impl_isDigit.f (bt x8g (t262.size : Int))).bind fun t271 => (if t271 = true then (impl_Reference.l0 kj35 a2 x8g x10_2 (wrap64 (x41_2 + 1)) x262000_2 x262001_2) else (if ((bt x8g (t262.size : Int)) = 61) then (impl_Reference.l0 kj35 a2 x8g x10_2 (wrap64 (x41_2 + 1)) x262000_2 x262001_2) else (impl_Reference.l0 kj35 a2 x8g (wrap64 ((t262.size : Int) + 1)) (wrap64 (x41_2 + 1)) t262 t263)))))) else (none)) else (impl_Reference.l0 kj35 a2 x8g (wrap64 ((t262.size : Int) + 1)) (wrap64 (x41_2 + 1)) t262 t263)) else (impl_Reference.l0 kj35 a2 x8g (wrap64 ((t262.size : Int) + 1)) (wrap64 (x41_2 + 1)) t262 t263)) else (impl_Reference.l0 kj35 a2 x8g x10_2 (wrap64 (x41_2 + 1)) x262000_2 x262001_2)) = some (r1, r2) := by rw [if_neg (show ¬ (false = true) by decide)] at H; exact H
                                clear H
                                have H := H1
                                clear H1
                                by_cases c46 : x41_2 < 6
                                · rw [if_pos c46] at H
                                  have c46b0 : decide (x41_2 < 6) = true := decide_eq_true c46
                                  clear c46
                                  by_cases c47 : a2 = true
                                  · subst c47
                                    have H1 : (if (t262.size : Int) < (x8g.size : Int) then (if 0 ≤ (t262.size : Int) then ((impl_isLetter.f (bt x8g (t262.size : Int))).bind fun t270 => (if t270 = true then (impl_Reference.l0 kj35 true x8g x10_2 (wrap64 (x41_2 + 1)) x262000_2 x262001_2) else ((impl_isDigit.f (bt x8g (t262.size : Int))).bind fun t271 => (if t271 = true then (impl_Reference.l0 kj35 true x8g x10_2 (wrap64 (x41_2 + 1)) x262000_2 x262001_2) else (if ((bt x8g (t262.size : Int)) = 61) then (impl_Reference.l0 kj35 true x8g x10_2 (wrap64 (x41_2 + 1)) x262000_2 x262001_2) else (impl_Reference.l0 kj35 true x8g (wrap64 ((t262.size : Int) + 1)) (wrap64 (x41_2 + 1)) t262 t263)))))) else (none)) else (impl_Reference.l0 kj35 true x8g (wrap64 ((t262.size : Int) + 1)) (wrap64 (x41_2 + 1)) t262 t263)) = some (r1, r2) := by rw [if_pos rfl] at H; exact H
                                    clear H
                                    have H := H1
                                    clear H1
                                    by_cases c48 : (t262.size : Int) < (x8g.size : Int)
                                    · rw [if_pos c48] at H
                                      have c48b0 : decide ((t262.size : Int) < (x8g.size : Int)) = true := decide_eq_true c48
                                      have c48b1 : decide (t262.size < x8g.size) = true := decide_eq_true (Int.ofNat_lt.mp c48)
                                      clear c48
                                      by_cases c49 : 0 ≤ (t262.size : Int)
                                      · rw [if_pos c49] at H
                                        have c49b0 : decide (0 ≤ (t262.size : Int)) = true := decide_eq_true c49
                                        have c49b1 : decide (0 ≤ t262.size) = true := decide_eq_true (by omega)
                                        clear c49
                                        replace H := Option.bind_eq_some_iff.mp H
                                        obtain ⟨t270, A510, H⟩ := H
                                        replace H : (if t270 = true then (impl_Reference.l0 kj35 true x8g x10_2 (wrap64 (x41_2 + 1)) x262000_2 x262001_2) else ((impl_isDigit.f (bt x8g (t262.size : Int))).bind fun t271 => (if t271 = true then (impl_Reference.l0 kj35 true x8g x10_2 (wrap64 (x41_2 + 1)) x262000_2 x262001_2) else (if ((bt x8g (t262.size : Int)) = 61) then (impl_Reference.l0 kj35 true x8g x10_2 (wrap64 (x41_2 + 1)) x262000_2 x262001_2) else (impl_Reference.l0 kj35 true x8g (wrap64 ((t262.size : Int) + 1)) (wrap64 (x41_2 + 1)) t262 t263))))) = some (r1, r2) := H
                                        have A51 := Aside0.mk A510
                                        clear A510
                                        by_cases c52 : t270 = true
                                        · subst c52
                                          have H1 : (impl_Reference.l0 kj35 true x8g x10_2 (wrap64 (x41_2 + 1)) x262000_2 x262001_2) = some (r1, r2) := by rw [if_pos rfl] at H; exact H
                                          clear H
                                          have H := H1
                                          clear H1
                                          have H' := Aside0.mk H
                                          clear H
                                          have p50 : 0 ≤ ((t262.size : Int) : Int) := of_decide_eq_true (by first | (with_reducible assumption) | assumption)
                                          have q50 : (t262.size : Int) < (x8g.size : Int) := of_decide_eq_true (by first | (with_reducible assumption) | assumption)
                                          have hx50 := bt_at x8g (t262.size : Int)
                                          have hx50n : ∀ h : t262.size < x8g.size, ((x8g[t262.size]'h).toNat : Int) = bt x8g (t262.size : Int) := fun h => bt_at x8g (t262.size : Int) h
                                          replace p50 := eq_true p50
                                          replace q50 := eq_true q50
                                          go_wp2_with (first | (go_at_call 15; (with_reducible refine (impl_isLetter.calls (bt x8g (t262.size : Int)) true _ A51.out).mono ?_); rintro e w' ⟨rfl, ⟨nd, rfl⟩⟩))
                                          go_roundg kj35
                                          case measure => have := HJ3.out; have := HK2.out; have := HJ22.out; have := HJ35.out; omega
                                          case rel => exact ⟨(x10_2), (wrap64 (x41_2 + 1)), (x262000_2), (x262001_2), (by first | rfl | (simp; done) | (simp [*]; done)), (by first | rfl | (simp; done) | (simp [*]; done)), H', ⟨by have := HJ3.out; have := HK2.out; have := HJ22.out; have := HJ35.out; omega⟩, ⟨by (with_reducible repeat (first | refine blk_drewN ?_ _ | refine blk_drew ?_ | refine blk_alloc ?_ _)); exact BK261.out⟩, ⟨by repeat (first | (with_reducible first | exact HB.out | apply below_alloc | apply pw_below_drewN | apply below_drew1 | refine below_set ?_ GE261.out | refine below_set ?_ GE268.out) | exact HB.out)⟩⟩
                                        · replace c52 := Bool.eq_false_iff.mpr c52
                                          subst c52
                                          have H1 : ((impl_isDigit.f (bt x8g (t262.size : Int))).bind fun t271 => (if t271 = true then (impl_Reference.l0 kj35 true x8g x10_2 (wrap64 (x41_2 + 1)) x262000_2 x262001_2) else (if ((bt x8g (t262.size : Int)) = 61) then (impl_Reference.l0 kj35 true x8g x10_2 (wrap64 (x41_2 + 1)) x262000_2 x262001_2) else (impl_Reference.l0 kj35 true x8g (wrap64 ((t262.size : Int) + 1)) (wrap64 (x41_2 + 1)) t262 t263)))) = some (r1, r2) := by rw [if_neg (show ¬ (false = true) by decide)] at H; exact H
                                          clear H
                                          have H := H1
                                          clear H1
                                          replace H := Option.bind_eq_some_iff.mp H
                                          obtain ⟨t271, A540, H⟩ := H
                                          replace H : (if t271 = true then (impl_Reference.l0 kj35 true x8g x10_2 (wrap64 (x41_2 + 1)) x262000_2 x262001_2) else (if ((bt x8g (t262.size : Int)) = 61) then (impl_Reference.l0 kj35 true x8g x10_2 (wrap64 (x41_2 + 1)) x262000_2 x262001_2) else (impl_Reference.l0 kj35 true x8g (wrap64 ((t262.size : Int) + 1)) (wrap64 (x41_2 + 1)) t262 t263))) = some (r1, r2) := H
                                          have A54 := Aside0.mk A540
                                          clear A540
                                          by_cases c55 : t271 = true
                                          · subst c55
                                            have H1 : (impl_Reference.l0 kj35 true x8g x10_2 (wrap64 (x41_2 + 1)) x262000_2 x262001_2) = some (r1, r2) := by rw [if_pos rfl] at H; exact H
                                            clear H
                                            have H := H1
                                            clear H1
                                            have H' := Aside0.mk H
                                            clear H
                                            have p50 : 0 ≤ ((t262.size : Int) : Int) := of_decide_eq_true (by first | (with_reducible assumption) | assumption)
                                            have q50 : (t262.size : Int) < (x8g.size : Int) := of_decide_eq_true (by first | (with_reducible assumption) | assumption)
                                            have hx50 := bt_at x8g (t262.size : Int)
                                            have hx50n : ∀ h : t262.size < x8g.size, ((x8g[t262.size]'h).toNat : Int) = bt x8g (t262.size : Int) := fun h => bt_at x8g (t262.size : Int) h
                                            replace p50 := eq_true p50
                                            replace q50 := eq_true q50
                                            go_wp2_with (first | (go_at_call 15; (with_reducible refine (impl_isLetter.calls (bt x8g (t262.size : Int)) false _ A51.out).mono ?_); rintro e w' ⟨rfl, ⟨nd, rfl⟩⟩; have p53 : 0 ≤ ((t262.size : Int) : Int) := of_decide_eq_true (by first | (with_reducible assumption) | assumption); have q53 : (t262.size : Int) < (x8g.size : Int) := of_decide_eq_true (by first | (with_reducible assumption) | assumption); have hx53 := bt_at x8g (t262.size : Int); have hx53n : ∀ h : t262.size < x8g.size, ((x8g[t262.size]'h).toNat : Int) = bt x8g (t262.size : Int) := fun h => bt_at x8g (t262.size : Int) h; replace p53 := eq_true p53; replace q53 := eq_true q53) | (go_at_call 16; (with_reducible refine (impl_isDigit.calls (bt x8g (t262.size : Int)) true _ A54.out).mono ?_); rintro e w' ⟨rfl, ⟨nd, rfl⟩⟩))
                                            go_roundg kj35
                                            case measure => have := HJ3.out; have := HK2.out; have := HJ22.out; have := HJ35.out; omega
                                            case rel => exact ⟨(x10_2), (wrap64 (x41_2 + 1)), (x262000_2), (x262001_2), (by first | rfl | (simp; done) | (simp [*]; done)), (by first | rfl | (simp; done) | (simp [*]; done)), H', ⟨by have := HJ3.out; have := HK2.out; have := HJ22.out; have := HJ35.out; omega⟩, ⟨by (with_reducible repeat (first | refine blk_drewN ?_ _ | refine blk_drew ?_ | refine blk_alloc ?_ _)); exact BK261.out⟩, ⟨by repeat (first | (with_reducible first | exact HB.out | apply below_alloc | apply pw_below_drewN | apply below_drew1 | refine below_set ?_ GE261.out | refine below_set ?_ GE268.out) | exact HB.out)⟩⟩
                                          · replace c55 := Bool.eq_false_iff.mpr c55
                                            subst c55
                                            have H1 : (if ((bt x8g (t262.size : Int)) = 61) then (impl_Reference.l0 kj35 true x8g x10_2 (wrap64 (x41_2 + 1)) x262000_2 x262001_2) else (impl_Reference.l0 kj35 true x8g (wrap64 ((t262.size : Int) + 1)) (wrap64 (x41_2 + 1)) t262 t263)) = some (r1, r2) := by rw [if_neg (show ¬ (false = true) by decide)] at H; exact H
                                            clear H
                                            have H := H1
                                            clear H1
                                            by_cases c57 : ((bt x8g (t262.size : Int)) = 61)
                                            · rw [if_pos c57] at H
                                              have c57b0 : ((bt x8g (t262.size : Int)) == 61) = true := beq_iff_eq.mpr c57
                                              have c57b1 : ((bt x8g (t262.size : Int)) != 61) = false := bne_eq_false_iff_eq.mpr c57
                                              clear c57
                                              have H' := Aside0.mk H
                                              clear H
                                              have p50 : 0 ≤ ((t262.size : Int) : Int) := of_decide_eq_true (by first | (with_reducible assumption) | assumption)
                                              have q50 : (t262.size : Int) < (x8g.size : Int) := of_decide_eq_true (by first | (with_reducible assumption) | assumption)
                                              have hx50 := bt_at x8g (t262.size : Int)
                                              have hx50n : ∀ h : t262.size < x8g.size, ((x8g[t262.size]'h).toNat : Int) = bt x8g (t262.size : Int) := fun h => bt_at x8g (t262.size : Int) h
                                              replace p50 := eq_true p50
                                              replace q50 := eq_true q50
                                              go_wp2_with (first | (go_at_call 15; (with_reducible refine (impl_isLetter.calls (bt x8g (t262.size : Int)) false _ A51.out).mono ?_); rintro e w' ⟨rfl, ⟨nd, rfl⟩⟩; have p53 : 0 ≤ ((t262.size : Int) : Int) := of_decide_eq_true (by first | (with_reducible assumption) | assumption); have q53 : (t262.size : Int) < (x8g.size : Int) := of_decide_eq_true (by first | (with_reducible assumption) | assumption); have hx53 := bt_at x8g (t262.size : Int); have hx53n : ∀ h : t262.size < x8g.size, ((x8g[t262.size]'h).toNat : Int) = bt x8g (t262.size : Int) := fun h => bt_at x8g (t262.size : Int) h; replace p53 := eq_true p53; replace q53 := eq_true q53) | (go_at_call 16; (with_reducible refine (impl_isDigit.calls (bt x8g (t262.size : Int)) false _ A54.out).mono ?_); rintro e w' ⟨rfl, ⟨nd, rfl⟩⟩; have p56 : 0 ≤ ((t262.size : Int) : Int) := of_decide_eq_true (by first | (with_reducible assumption) | assumption); have q56 : (t262.size : Int) < (x8g.size : Int) := of_decide_eq_true (by first | (with_reducible assumption) | assumption); have hx56 := bt_at x8g (t262.size : Int); have hx56n : ∀ h : t262.size < x8g.size, ((x8g[t262.size]'h).toNat : Int) = bt x8g (t262.size : Int) := fun h => bt_at x8g (t262.size : Int) h; replace p56 := eq_true p56; replace q56 := eq_true q56))
                                              go_roundg kj35
                                              case measure => have := HJ3.out; have := HK2.out; have := HJ22.out; have := HJ35.out; omega
                                              case rel => exact ⟨(x10_2), (wrap64 (x41_2 + 1)), (x262000_2), (x262001_2), (by first | rfl | (simp; done) | (simp [*]; done)), (by first | rfl | (simp; done) | (simp [*]; done)), H', ⟨by have := HJ3.out; have := HK2.out; have := HJ22.out; have := HJ35.out; omega⟩, ⟨by (with_reducible repeat (first | refine blk_drewN ?_ _ | refine blk_drew ?_ | refine blk_alloc ?_ _)); exact BK261.out⟩, ⟨by repeat (first | (with_reducible first | exact HB.out | apply below_alloc | apply pw_below_drewN | apply below_drew1 | refine below_set ?_ GE261.out | refine below_set ?_ GE268.out) | exact HB.out)⟩⟩
                                            · rw [if_neg c57] at H
                                              have c57b0 : ((bt x8g (t262.size : Int)) == 61) = false := beq_eq_false_iff_ne.mpr c57
                                              have c57b1 : ((bt x8g (t262.size : Int)) != 61) = true := bne_iff_ne.mpr c57
                                              have H' := Aside0.mk H
                                              clear H
                                              have p50 : 0 ≤ ((t262.size : Int) : Int) := of_decide_eq_true (by first | (with_reducible assumption) | assumption)
                                              have q50 : (t262.size : Int) < (x8g.size : Int) := of_decide_eq_true (by first | (with_reducible assumption) | assumption)
                                              have hx50 := bt_at x8g (t262.size : Int)
                                              have hx50n : ∀ h : t262.size < x8g.size, ((x8g[t262.size]'h).toNat : Int) = bt x8g (t262.size : Int) := fun h => bt_at x8g (t262.size : Int) h
                                              replace p50 := eq_true p50
                                              replace q50 := eq_true q50
                                              go_wp2_with (first | (go_at_call 15; (with_reducible refine (impl_isLetter.calls (bt x8g (t262.size : Int)) false _ A51.out).mono ?_); rintro e w' ⟨rfl, ⟨nd, rfl⟩⟩; (try (rw [drewN_self wc]; generalize hq_ : World.drewN wc _ = wc; have n0_ : Aside0 (wc.heap[gb261]? = some (.cells #[.string x262000_2, .int .i64 x262001_2] 37 (0, 0))) := ⟨by rw [← hq_]; exact (by (with_reducible repeat (first | refine blk_drewN ?_ _ | refine blk_drew ?_ | refine blk_alloc ?_ _)); exact BK261.out)⟩; have n1_ : Aside0 (wc.heap[gb268]? = some (.cells #[.string t262, .int .i64 t263] 37 (0, 0))) := ⟨by rw [← hq_]; exact (by (with_reducible repeat (first | refine blk_drewN ?_ _ | refine blk_drew ?_ | refine blk_alloc ?_ _)); exact BK268.out)⟩; have n2_ : Aside0 (Below w.heap.size w wc) := ⟨by rw [← hq_]; exact (by repeat (first | (with_reducible first | exact HB.out | apply below_alloc | apply pw_below_drewN | apply below_drew1 | refine below_set ?_ GE261.out | refine below_set ?_ GE268.out) | exact HB.out))⟩; clear BK261 BK268 HB hq_; have BK261 := n0_; have BK268 := n1_; have HB := n2_; clear n0_ n1_ n2_)); have p53 : 0 ≤ ((t262.size : Int) : Int) := of_decide_eq_true (by first | (with_reducible assumption) | assumption); have q53 : (t262.size : Int) < (x8g.size : Int) := of_decide_eq_true (by first | (with_reducible assumption) | assumption); have hx53 := bt_at x8g (t262.size : Int); have hx53n : ∀ h : t262.size < x8g.size, ((x8g[t262.size]'h).toNat : Int) = bt x8g (t262.size : Int) := fun h => bt_at x8g (t262.size : Int) h; replace p53 := eq_true p53; replace q53 := eq_true q53) | (go_at_call 16; (with_reducible refine (impl_isDigit.calls (bt x8g (t262.size : Int)) false _ A54.out).mono ?_); rintro e w' ⟨rfl, ⟨nd, rfl⟩⟩; (try (rw [drewN_self wc]; generalize hq_ : World.drewN wc _ = wc; have n0_ : Aside0 (wc.heap[gb261]? = some (.cells #[.string x262000_2, .int .i64 x262001_2] 37 (0, 0))) := ⟨by rw [← hq_]; exact (by (with_reducible repeat (first | refine blk_drewN ?_ _ | refine blk_drew ?_ | refine blk_alloc ?_ _)); exact BK261.out)⟩; have n1_ : Aside0 (wc.heap[gb268]? = some (.cells #[.string t262, .int .i64 t263] 37 (0, 0))) := ⟨by rw [← hq_]; exact (by (with_reducible repeat (first | refine blk_drewN ?_ _ | refine blk_drew ?_ | refine blk_alloc ?_ _)); exact BK268.out)⟩; have n2_ : Aside0 (Below w.heap.size w wc) := ⟨by rw [← hq_]; exact (by repeat (first | (with_reducible first | exact HB.out | apply below_alloc | apply pw_below_drewN | apply below_drew1 | refine below_set ?_ GE261.out | refine below_set ?_ GE268.out) | exact HB.out))⟩; clear BK261 BK268 HB hq_; have BK261 := n0_; have BK268 := n1_; have HB := n2_; clear n0_ n1_ n2_)); have p56 : 0 ≤ ((t262.size : Int) : Int) := of_decide_eq_true (by first | (with_reducible assumption) | assumption); have q56 : (t262.size : Int) < (x8g.size : Int) := of_decide_eq_true (by first | (with_reducible assumption) | assumption); have hx56 := bt_at x8g (t262.size : Int); have hx56n : ∀ h : t262.size < x8g.size, ((x8g[t262.size]'h).toNat : Int) = bt x8g (t262.size : Int) := fun h => bt_at x8g (t262.size : Int) h; replace p56 := eq_true p56; replace q56 := eq_true q56; have hnb58 := NB268_261.out; have hnc58 := NB261_268.out; have hcz59_0 : wc.cell? ⟨gb268, 0, none⟩ = some (.string t262) := (blk_cell BK268.out 0).trans rfl; have hcz59_1 : wc.cell? ⟨gb268, 1, none⟩ = some (.int .i64 t263) := (blk_cell BK268.out 1).trans rfl; have hfz59_0 := blk_frozen BK268.out 0; have hfz59_1 := blk_frozen BK268.out 1; have hcz60_0 : wc.cell? ⟨gb261, 0, none⟩ = some (.string x262000_2) := (blk_cell BK261.out 0).trans rfl; have hcz60_1 : wc.cell? ⟨gb261, 1, none⟩ = some (.int .i64 x262001_2) := (blk_cell BK261.out 1).trans rfl; have hfz60_0 := blk_frozen BK261.out 0; have hfz60_1 := blk_frozen BK261.out 1))
                                              go_roundg kj35
                                              case measure => have := HJ3.out; have := HK2.out; have := HJ22.out; have := HJ35.out; omega
                                              case rel => exact ⟨(wrap64 ((t262.size : Int) + 1)), (wrap64 (x41_2 + 1)), (t262), (t263), (by first | rfl | (simp; done) | (simp [*]; done)), (by first | rfl | (simp; done) | (simp [*]; done)), H', ⟨by have := HJ3.out; have := HK2.out; have := HJ22.out; have := HJ35.out; omega⟩, ⟨by (with_reducible repeat (first | refine blk_drewN ?_ _ | refine blk_drew ?_ | refine blk_alloc ?_ _)); refine blk_put (cs := #[.string t262, .int .i64 x262001_2]) ?_ 1 _ rfl; (with_reducible repeat (first | refine blk_drewN ?_ _ | refine blk_drew ?_ | refine blk_alloc ?_ _)); refine blk_put (cs := #[.string x262000_2, .int .i64 x262001_2]) ?_ 0 _ rfl; (with_reducible repeat (first | refine blk_drewN ?_ _ | refine blk_drew ?_ | refine blk_alloc ?_ _)); exact BK261.out⟩, ⟨by repeat (first | (with_reducible first | exact HB.out | apply below_alloc | apply pw_below_drewN | apply below_drew1 | refine below_set ?_ GE261.out | refine below_set ?_ GE268.out) | exact HB.out)⟩⟩
                                      · rw [if_neg c49] at H
                                        exact absurd H (by simp)
                                    · rw [if_neg c48] at H
                                      have c48b0 : decide ((t262.size : Int) < (x8g.size : Int)) = false := decide_eq_false c48
                                      have c48b1 : decide (t262.size < x8g.size) = false := decide_eq_false (fun h => c48 (Int.ofNat_lt.mpr h))
                                      clear c48
                                      have H' := Aside0.mk H
                                      clear H
                                      have hnb61 := NB268_261.out
                                      have hnc61 := NB261_268.out
                                      have hcz62_0 : wc.cell? ⟨gb268, 0, none⟩ = some (.string t262) := (blk_cell BK268.out 0).trans rfl
                                      have hcz62_1 : wc.cell? ⟨gb268, 1, none⟩ = some (.int .i64 t263) := (blk_cell BK268.out 1).trans rfl
                                      have hfz62_0 := blk_frozen BK268.out 0
                                      have hfz62_1 := blk_frozen BK268.out 1
                                      have hcz63_0 : wc.cell? ⟨gb261, 0, none⟩ = some (.string x262000_2) := (blk_cell BK261.out 0).trans rfl
                                      have hcz63_1 : wc.cell? ⟨gb261, 1, none⟩ = some (.int .i64 x262001_2) := (blk_cell BK261.out 1).trans rfl
                                      have hfz63_0 := blk_frozen BK261.out 0
                                      have hfz63_1 := blk_frozen BK261.out 1
                                      go_wp2
                                      go_roundg kj35
                                      case measure => have := HJ3.out; have := HK2.out; have := HJ22.out; have := HJ35.out; omega
                                      case rel => exact ⟨(wrap64 ((t262.size : Int) + 1)), (wrap64 (x41_2 + 1)), (t262), (t263), (by first | rfl | (simp; done) | (simp [*]; done)), (by first | rfl | (simp; done) | (simp [*]; done)), H', ⟨by have := HJ3.out; have := HK2.out; have := HJ22.out; have := HJ35.out; omega⟩, ⟨by (with_reducible repeat (first | refine blk_drewN ?_ _ | refine blk_drew ?_ | refine blk_alloc ?_ _)); refine blk_put (cs := #[.string t262, .int .i64 x262001_2]) ?_ 1 _ rfl; (with_reducible repeat (first | refine blk_drewN ?_ _ | refine blk_drew ?_ | refine blk_alloc ?_ _)); refine blk_put (cs := #[.string x262000_2, .int .i64 x262001_2]) ?_ 0 _ rfl; (with_reducible repeat (first | refine blk_drewN ?_ _ | refine blk_drew ?_ | refine blk_alloc ?_ _)); exact BK261.out⟩, ⟨by repeat (first | (with_reducible first | exact HB.out | apply below_alloc | apply pw_below_drewN | apply below_drew1 | refine below_set ?_ GE261.out | refine below_set ?_ GE268.out) | exact HB.out)⟩⟩
                                  · replace c47 := Bool.eq_false_iff.mpr c47
                                    subst c47
                                    have H1 : (impl_Reference.l0 kj35 false x8g (wrap64 ((t262.size : Int) + 1)) (wrap64 (x41_2 + 1)) t262 t263) = some (r1, r2) := by rw [if_neg (show ¬ (false = true) by decide)] at H; exact H
                                    clear H
                                    have H := H1
                                    clear H1
                                    have H' := Aside0.mk H
                                    clear H
                                    have hnb64 := NB268_261.out
                                    have hnc64 := NB261_268.out
                                    have hcz65_0 : wc.cell? ⟨gb268, 0, none⟩ = some (.string t262) := (blk_cell BK268.out 0).trans rfl
                                    have hcz65_1 : wc.cell? ⟨gb268, 1, none⟩ = some (.int .i64 t263) := (blk_cell BK268.out 1).trans rfl
                                    have hfz65_0 := blk_frozen BK268.out 0
                                    have hfz65_1 := blk_frozen BK268.out 1
                                    have hcz66_0 : wc.cell? ⟨gb261, 0, none⟩ = some (.string x262000_2) := (blk_cell BK261.out 0).trans rfl
                                    have hcz66_1 : wc.cell? ⟨gb261, 1, none⟩ = some (.int .i64 x262001_2) := (blk_cell BK261.out 1).trans rfl
                                    have hfz66_0 := blk_frozen BK261.out 0
                                    have hfz66_1 := blk_frozen BK261.out 1
                                    go_wp2
                                    go_roundg kj35
                                    case measure => have := HJ3.out; have := HK2.out; have := HJ22.out; have := HJ35.out; omega
                                    case rel => exact ⟨(wrap64 ((t262.size : Int) + 1)), (wrap64 (x41_2 + 1)), (t262), (t263), (by first | rfl | (simp; done) | (simp [*]; done)), (by first | rfl | (simp; done) | (simp [*]; done)), H', ⟨by have := HJ3.out; have := HK2.out; have := HJ22.out; have := HJ35.out; omega⟩, ⟨by (with_reducible repeat (first | refine blk_drewN ?_ _ | refine blk_drew ?_ | refine blk_alloc ?_ _)); refine blk_put (cs := #[.string t262, .int .i64 x262001_2]) ?_ 1 _ rfl; (with_reducible repeat (first | refine blk_drewN ?_ _ | refine blk_drew ?_ | refine blk_alloc ?_ _)); refine blk_put (cs := #[.string x262000_2, .int .i64 x262001_2]) ?_ 0 _ rfl; (with_reducible repeat (first | refine blk_drewN ?_ _ | refine blk_drew ?_ | refine blk_alloc ?_ _)); exact BK261.out⟩, ⟨by repeat (first | (with_reducible first | exact HB.out | apply below_alloc | apply pw_below_drewN | apply below_drew1 | refine below_set ?_ GE261.out | refine below_set ?_ GE268.out) | exact HB.out)⟩⟩
                                · rw [if_neg c46] at H
                                  have c46b0 : decide (x41_2 < 6) = false := decide_eq_false c46
                                  clear c46
                                  have H' := Aside0.mk H
                                  clear H
                                  go_wp2
                                  go_roundg kj35
                                  case measure => have := HJ3.out; have := HK2.out; have := HJ22.out; have := HJ35.out; omega
                                  case rel => exact ⟨(x10_2), (wrap64 (x41_2 + 1)), (x262000_2), (x262001_2), (by first | rfl | (simp; done) | (simp [*]; done)), (by first | rfl | (simp; done) | (simp [*]; done)), H', ⟨by have := HJ3.out; have := HK2.out; have := HJ22.out; have := HJ35.out; omega⟩, ⟨by (with_reducible repeat (first | refine blk_drewN ?_ _ | refine blk_drew ?_ | refine blk_alloc ?_ _)); exact BK261.out⟩, ⟨by repeat (first | (with_reducible first | exact HB.out | apply below_alloc | apply pw_below_drewN | apply below_drew1 | refine below_set ?_ GE261.out | refine below_set ?_ GE268.out) | exact HB.out)⟩⟩
                  · rw [if_neg c21] at H
                    have c21b0 : decide (x41_2 < 16) = false := decide_eq_false c21
                    clear c21
                    by_cases c67 : x10_2 = 0
                    · rw [if_pos c67] at H
                      have c67b0 : (x10_2 == 0) = true := beq_iff_eq.mpr c67
                      have c67b1 : (x10_2 != 0) = false := bne_eq_false_iff_eq.mpr c67
                      clear c67
                      simp only [Option.some.injEq, Prod.mk.injEq] at H
                      obtain ⟨rfl, rfl⟩ := H
                      go_wp2
                      go_ret2
                      exact ⟨by first | rfl | (simp [errW_none, errW_some] <;> rfl) | (simp only [← hji11]; first | rfl | (simp [errW_none, errW_some] <;> rfl)) | (simp [*, errW_none, errW_some] <;> rfl), by repeat (first | (with_reducible first | exact HB.out | apply below_alloc | apply pw_below_drewN | apply below_drew1 | refine below_set ?_ GE261.out) | exact HB.out)⟩
                    · rw [if_neg c67] at H
                      have c67b0 : (x10_2 == 0) = false := beq_eq_false_iff_ne.mpr c67
                      have c67b1 : (x10_2 != 0) = true := bne_iff_ne.mpr c67
                      obtain ⟨y264, hy264⟩ : ∃ y_ : List Int, y_ = (([x262001_2] : List Int)) := ⟨_, rfl⟩
                      replace H : ((impl_Encode.f k2 y264).bind fun t267 => (some (t267, x10_2))) = some (r1, r2) := by first | (rw [hy264]; with_reducible exact H) | (have H2_ := (Option.bind_some _ _).symm.trans H; rw [hy264]; with_reducible exact H2_) | (have H2_ := (Option.bind_some _ _).symm.trans H; with_reducible exact H2_) | with_reducible exact H | (rw [hy264]; exact H) | exact H
                      have Ny264 := Aside0.mk hy264
                      clear hy264
                      replace H := Option.bind_eq_some_iff.mp H
                      obtain ⟨t267, A680, H⟩ := H
                      replace H : (some (t267, x10_2)) = some (r1, r2) := H
                      have A68 := Aside0.mk A680
                      clear A680
                      simp only [Option.some.injEq, Prod.mk.injEq] at H
                      obtain ⟨rfl, rfl⟩ := H
                      have hcz69_0 : wr.cell? ⟨gb261, 0, none⟩ = some (.string x262000_2) := (blk_cell BK261.out 0).trans rfl
                      have hcz69_1 : wr.cell? ⟨gb261, 1, none⟩ = some (.int .i64 x262001_2) := (blk_cell BK261.out 1).trans rfl
                      have hfz69_0 := blk_frozen BK261.out 0
                      have hfz69_1 := blk_frozen BK261.out 1
                      go_wp2_with (first | ((with_reducible refine gate_dst (N := 115) rfl ?_); (try (refine gate_guard (by rfl) ?_; dsimp only)); refine Kd.R_lit (Kd.int .i64) _ 3 ?hg (N := 115) ?hd (xs := ([x262001_2] : List Int)) (inner := [.int .i64 x262001_2]) (ok := fun _ => True) (okp := fun _ => True) ?hr ?hp (fun _ hk => hk) trivial (Below.refl _ _) (Nat.le_refl _) (by simp) ?_; (case hd => rfl); (case hg => rfl); (case hr => first | (go_simp; done) | (go_simp; rfl)); (case hp => exact (Reps.one (show Kd.M (Kd.int .i64) _ _ _ x262001_2 [.int .i64 x262001_2] from rfl) (Reps.none _ _))); intro v265 w70 ho71 hb hg_ hnew_; clear hg_ hnew_; (first | rw [← Ny264.out] at ho71 | (simp only [Int.reduceToNat] at ho71; rw [← Ny264.out] at ho71)); have n0_ := Aside0.mk (Kd.R_lower ho71 (below_size (by repeat (first | (with_reducible first | exact HB.out | apply below_alloc | apply pw_below_drewN | apply below_drew1 | refine below_set ?_ GE261.out) | exact HB.out)))); have n1_ := Aside0.mk (blk_below (g := gb261) (o := .cells #[.string x262000_2, .int .i64 x262001_2] 37 (0, 0)) (by (with_reducible repeat (first | refine blk_drewN ?_ _ | refine blk_drew ?_ | refine blk_alloc ?_ _)); exact BK261.out) hb); have n2_ := Aside0.mk (below_step (by repeat (first | (with_reducible first | exact HB.out | apply below_alloc | apply pw_below_drewN | apply below_drew1 | refine below_set ?_ GE261.out) | exact HB.out)) hb); clear BK261; clear HB; have HO266 := n0_; have BK261 := n1_; have HB := n2_; clear n0_ n1_ n2_; clear hb ho71; obtain ⟨Ao72, co72, eo72⟩ := Kd.R_slice HO266.out; subst eo72) | ((with_reducible refine gate_callee (f := 17) rfl ?_); refine goesL_ (some 116) rfl rfl Tryd.func17 (by kernel_rfl) rfl #[.slice Ao72 y264.length co72] rfl (by (try simp only [List.map_toArray, List.map_cons, List.map_nil]); first | done | rfl | (simp only [List.length_drop, List.length_take]; rfl)) ?_; (with_reducible refine (impl_Encode.calls k2 _ _ y264 t267 _ ?side1 ?side2 A68.out).mono ?_); (case side1 => repeat (first | exact (Kd.R_reads' HO266.out).2.2 | (with_reducible refine Kd.C_alloc ?_ _) | (with_reducible refine Kd.C_drewN ?_ _) | (with_reducible refine Kd.C_drew ?_))); (case side2 => exact (Kd.R_reads' HO266.out).2.1); rintro e w73 ⟨rfl, hb⟩; refine ⟨_, rfl, ?_⟩; have n0_ := Aside0.mk (Kd.R_below (by (with_reducible repeat (first | apply Kd.R_alloc | apply Kd.R_drewN | apply Kd.R_drew)); exact HO266.out) hb); have n1_ := Aside0.mk (blk_below (g := gb261) (o := .cells #[.string x262000_2, .int .i64 x262001_2] 37 (0, 0)) (by (with_reducible repeat (first | refine blk_drewN ?_ _ | refine blk_drew ?_ | refine blk_alloc ?_ _)); exact BK261.out) hb); have n2_ := Aside0.mk (below_step (by repeat (first | (with_reducible first | exact HB.out | apply below_alloc | apply pw_below_drewN | apply below_drew1 | refine below_set ?_ GE261.out) | exact HB.out)) hb); clear HO266; clear BK261; clear HB; have HO266 := n0_; have BK261 := n1_; have HB := n2_; clear n0_ n1_ n2_; (try clear hb); (try clear hb2); (try clear hk); (try clear hi)))
                      go_ret2
                      exact ⟨by first | rfl | (simp [errW_none, errW_some] <;> rfl) | (simp only [← hji11]; first | rfl | (simp [errW_none, errW_some] <;> rfl)) | (simp [*, errW_none, errW_some] <;> rfl), by repeat (first | (with_reducible first | exact HB.out | apply below_alloc | apply pw_below_drewN | apply below_drew1 | refine below_set ?_ GE261.out) | exact HB.out)⟩
          · rw [if_neg c13] at H
            exact absurd H (by simp)
        · rw [if_neg c12] at H
          exact absurd H (by simp)

end Go.Proofs.YtalljfmgpicdaaaDoor.QFnExactReference
