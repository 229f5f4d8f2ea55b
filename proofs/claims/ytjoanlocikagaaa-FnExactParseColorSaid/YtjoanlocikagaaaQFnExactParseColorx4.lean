/- Written by a program (wip/tools/own_print.py) out of the walk that the kit's printer made; turned where it fell. -/
-- PRINTED by print.py (a twelfth state) out of the translation. Not trusted: Lean checks it.
import Derived.Test.YtjoanlocikagaaaMapObj
import Derived.Test.YtjoanlocikagaaaQFnExactParseColorx0
import Derived.Test.YtjoanlocikagaaaQFnExactParseColorx3
namespace Go.Proofs.Ytjoanlocikagaaa.QFnExactParseColor
open Go.RowKit Go.Proofs.YtjoanlocikagaaaW.PrintWords Go.Proofs.YtjoanlocikagaaaW.PrintLast Go.Proofs.YtjoanlocikagaaaW.PrintMore
attribute [local go_sem] max2_int min2_int max_two min_two max_three min_three max_four min_four   -- for this text's walks alone
open Go.Proofs.Ytjoanlocikagaaa.MapObj
set_option linter.unusedVariables false
set_option linter.unusedSimpArgs false

/-! ### impl_ParseColor: function 22 -/
def colHist : List (ByteArray × Int) := [((⟨#[111, 114, 97, 110, 103, 101]⟩ : ByteArray), 16753920), ((⟨#[115, 105, 108, 118, 101, 114]⟩ : ByteArray), 12632256), ((⟨#[109, 97, 114, 111, 111, 110]⟩ : ByteArray), 8388608), ((⟨#[116, 101, 97, 108]⟩ : ByteArray), 32896), ((⟨#[110, 97, 118, 121]⟩ : ByteArray), 128), ((⟨#[103, 114, 97, 121]⟩ : ByteArray), 8421504), ((⟨#[121, 101, 108, 108, 111, 119]⟩ : ByteArray), 16776960), ((⟨#[98, 108, 117, 101]⟩ : ByteArray), 255), ((⟨#[103, 114, 101, 101, 110]⟩ : ByteArray), 32768), ((⟨#[114, 101, 100]⟩ : ByteArray), 16711680), ((⟨#[119, 104, 105, 116, 101]⟩ : ByteArray), 16777215), ((⟨#[98, 108, 97, 99, 107]⟩ : ByteArray), 0)]
def colN (s : ByteArray) : Int := (mget colHist s).getD 0
def colB (s : ByteArray) : Bool := (mget colHist s).isSome
theorem colN_ok (s : ByteArray) : ((mget colHist s).map (Value.int .i64)).getD (.int .i64 0) = .int .i64 (colN s) := by
  unfold colN
  cases mget colHist s <;> rfl
private theorem zero_int {W : World} : (zeroValue 3).run Try.prog W = .ok (.int .i64 0) W := by kernel_rfl
mutual
def impl_ParseColor.j0 : Nat → Bool → Int → ByteArray → Int → ByteArray → Option (Int × Bool)
  | 0, _, _, _, _, _ => none
  | k + 1, x48, x189000, x189001, x189002, x189003 => if x48 = true then (some (0, false)) else (impl_ParseColor.l0 k 0 (x189001.size : Int) 0 x189000 x189001 x189002 x189003)
def impl_ParseColor.l0 : Nat → Int → Int → Int → Int → ByteArray → Int → ByteArray → Option (Int × Bool)
  | 0, _, _, _, _, _, _, _ => none
  | k + 1, x8, x51, x52, x189000, x189001, x189002, x189003 => if x52 < x51 then (if 0 ≤ x52 then (if x52 < (x189001.size : Int) then ((impl_digitOf.f k (bt x189001 x52) true).bind fun t190 => (if t190 < 0 then (some (0, false)) else (if (x189001.size : Int) = 3 then (impl_ParseColor.l0 k (wrap64 ((wrap64 ((wrap64 ((wrap64 (x8 * 16)) + t190)) * 16)) + t190)) x51 (wrap64 (x52 + 1)) x189000 x189001 x189002 x189003) else (impl_ParseColor.l0 k (wrap64 ((wrap64 (x8 * 16)) + t190)) x51 (wrap64 (x52 + 1)) x189000 x189001 x189002 x189003)))) else (none)) else (none)) else (some (x8, true))
end
def impl_ParseColor.f (k : Nat) (l0 : List (S96)) : Option (Int × Bool) := (impl_trimmed.f k l0).bind fun t184 => (if (t184.length : Int) = 1 then (if 0 < (t184.length : Int) then (if ((rd_T96 t184 0).f0) = 1 then ((impl_lower.f k ((rd_T96 t184 0).f1)).bind fun t189 => (some (colN t189, colB t189))) else (if ((rd_T96 t184 0).f0) = 4 then (if (((rd_T96 t184 0).f1).size : Int) = 3 then (impl_ParseColor.j0 k false ((rd_T96 t184 0).f0) ((rd_T96 t184 0).f1) ((rd_T96 t184 0).f2) ((rd_T96 t184 0).f3)) else (impl_ParseColor.j0 k ((((rd_T96 t184 0).f1).size : Int) != 6) ((rd_T96 t184 0).f0) ((rd_T96 t184 0).f1) ((rd_T96 t184 0).f2) ((rd_T96 t184 0).f3))) else (impl_ParseColor.j0 k true ((rd_T96 t184 0).f0) ((rd_T96 t184 0).f1) ((rd_T96 t184 0).f2) ((rd_T96 t184 0).f3)))) else (none)) else (some (0, false)))
theorem impl_ParseColor.mono_l : ∀ k, (∀ y0 y1 y2 y3 y4, LeO (impl_ParseColor.j0 k y0 y1 y2 y3 y4) (impl_ParseColor.j0 (k + 1) y0 y1 y2 y3 y4)) ∧ (∀ y0 y1 y2 y3 y4 y5 y6, LeO (impl_ParseColor.l0 k y0 y1 y2 y3 y4 y5 y6) (impl_ParseColor.l0 (k + 1) y0 y1 y2 y3 y4 y5 y6))
  | 0 => ⟨fun _ _ _ _ _ r h => by simp [impl_ParseColor.j0] at h, fun _ _ _ _ _ _ _ r h => by simp [impl_ParseColor.l0] at h⟩
  | k + 1 => by
    obtain ⟨ih0, ih1⟩ := impl_ParseColor.mono_l k
    refine ⟨?_, ?_⟩
    · intro y0 y1 y2 y3 y4
      unfold impl_ParseColor.j0
      repeat' first
      | (with_reducible exact ih0 _ _ _ _ _)
      | (with_reducible exact ih1 _ _ _ _ _ _ _)
      | (with_reducible exact impl_digitOf.mono _ _ _)
      | (with_reducible exact impl_lower.mono _ _)
      | (with_reducible exact impl_trimmed.mono _ _)
      | (with_reducible exact LeO.refl _)
      | (with_reducible exact LeO.none _)
      | (with_reducible refine LeO.ite ?_ ?_)
      | (with_reducible refine LeO.bind ?_ (fun _ => ?_))
      | exact ih0 _ _ _ _ _
      | exact ih1 _ _ _ _ _ _ _
      | exact impl_digitOf.mono _ _ _
      | exact impl_lower.mono _ _
      | exact impl_trimmed.mono _ _
      | exact LeO.none _
      | refine LeO.ite ?_ ?_
      | refine LeO.bind ?_ (fun _ => ?_)
    · intro y0 y1 y2 y3 y4 y5 y6
      unfold impl_ParseColor.l0
      repeat' first
      | (with_reducible exact ih0 _ _ _ _ _)
      | (with_reducible exact ih1 _ _ _ _ _ _ _)
      | (with_reducible exact impl_digitOf.mono _ _ _)
      | (with_reducible exact impl_lower.mono _ _)
      | (with_reducible exact impl_trimmed.mono _ _)
      | (with_reducible exact LeO.refl _)
      | (with_reducible exact LeO.none _)
      | (with_reducible refine LeO.ite ?_ ?_)
      | (with_reducible refine LeO.bind ?_ (fun _ => ?_))
      | exact ih0 _ _ _ _ _
      | exact ih1 _ _ _ _ _ _ _
      | exact impl_digitOf.mono _ _ _
      | exact impl_lower.mono _ _
      | exact impl_trimmed.mono _ _
      | exact LeO.none _
      | refine LeO.ite ?_ ?_
      | refine LeO.bind ?_ (fun _ => ?_)
theorem impl_ParseColor.mono : ∀ a0 k, LeO (impl_ParseColor.f k a0) (impl_ParseColor.f (k + 1) a0) := by
  intro a0 k
  obtain ⟨ih0, ih1⟩ := impl_ParseColor.mono_l k
  unfold impl_ParseColor.f
  repeat' first
      | (with_reducible exact ih0 _ _ _ _ _)
      | (with_reducible exact ih1 _ _ _ _ _ _ _)
      | (with_reducible exact impl_digitOf.mono _ _ _)
      | (with_reducible exact impl_lower.mono _ _)
      | (with_reducible exact impl_trimmed.mono _ _)
      | (with_reducible exact LeO.refl _)
      | (with_reducible exact LeO.none _)
      | (with_reducible refine LeO.ite ?_ ?_)
      | (with_reducible refine LeO.bind ?_ (fun _ => ?_))
      | exact ih0 _ _ _ _ _
      | exact ih1 _ _ _ _ _ _ _
      | exact impl_digitOf.mono _ _ _
      | exact impl_lower.mono _ _
      | exact impl_trimmed.mono _ _
      | exact LeO.none _
      | refine LeO.ite ?_ ?_
      | refine LeO.bind ?_ (fun _ => ?_)
set_option maxHeartbeats 8000000 in
set_option maxRecDepth 100000 in
theorem impl_ParseColor.calls (k : Nat) (A0 : Option Addr) (c0 : Nat) (l0 : List (S96)) (r1 : Int) (r2 : Bool) (w : World) (hr0 : Kd.C k96 w A0 l0.length l0) (hc0 : l0.length ≤ c0) (h : impl_ParseColor.f k l0 = some (r1, r2)) :
    Calls Try.prog 22 #[.slice A0 l0.length c0] w fun e w' => e = .returned (.tuple #[.int .i64 r1, .bool r2]) ∧ Below w.heap.size w w' := by
  have hu96 := Try.underlying96
  have HR0 := Aside0.mk hr0
  have HC0 := Aside0.mk hc0
  clear hr0 hc0
  have HB := Aside0.mk (Below.refl w.heap.size w)
  have H : ((impl_trimmed.f k l0).bind fun t184 => (if (t184.length : Int) = 1 then (if 0 < (t184.length : Int) then (if ((rd_T96 t184 0).f0) = 1 then ((impl_lower.f k ((rd_T96 t184 0).f1)).bind fun t189 => (some (colN t189, colB t189))) else (if ((rd_T96 t184 0).f0) = 4 then (if (((rd_T96 t184 0).f1).size : Int) = 3 then (impl_ParseColor.j0 k false ((rd_T96 t184 0).f0) ((rd_T96 t184 0).f1) ((rd_T96 t184 0).f2) ((rd_T96 t184 0).f3)) else (impl_ParseColor.j0 k ((((rd_T96 t184 0).f1).size : Int) != 6) ((rd_T96 t184 0).f0) ((rd_T96 t184 0).f1) ((rd_T96 t184 0).f2) ((rd_T96 t184 0).f3))) else (impl_ParseColor.j0 k true ((rd_T96 t184 0).f0) ((rd_T96 t184 0).f1) ((rd_T96 t184 0).f2) ((rd_T96 t184 0).f3)))) else (none)) else (some (0, false)))) = some (r1, r2) := h
  clear h
  replace H := Option.bind_eq_some_iff.mp H
  obtain ⟨t184, A20, H⟩ := H
  replace H : (if (t184.length : Int) = 1 then (if 0 < (t184.length : Int) then (if ((rd_T96 t184 0).f0) = 1 then ((impl_lower.f k ((rd_T96 t184 0).f1)).bind fun t189 => (some (colN t189, colB t189))) else (if ((rd_T96 t184 0).f0) = 4 then (if (((rd_T96 t184 0).f1).size : Int) = 3 then (impl_ParseColor.j0 k false ((rd_T96 t184 0).f0) ((rd_T96 t184 0).f1) ((rd_T96 t184 0).f2) ((rd_T96 t184 0).f3)) else (impl_ParseColor.j0 k ((((rd_T96 t184 0).f1).size : Int) != 6) ((rd_T96 t184 0).f0) ((rd_T96 t184 0).f1) ((rd_T96 t184 0).f2) ((rd_T96 t184 0).f3))) else (impl_ParseColor.j0 k true ((rd_T96 t184 0).f0) ((rd_T96 t184 0).f1) ((rd_T96 t184 0).f2) ((rd_T96 t184 0).f3)))) else (none)) else (some (0, false))) = some (r1, r2) := H
  have A2 := Aside0.mk A20
  clear A20
  by_cases c3 : (t184.length : Int) = 1
  · rw [if_pos c3] at H
    have c3b0 : ((t184.length : Int) == 1) = true := beq_iff_eq.mpr c3
    have c3b1 : ((t184.length : Int) != 1) = false := bne_eq_false_iff_eq.mpr c3
    clear c3
    by_cases c4 : 0 < (t184.length : Int)
    · rw [if_pos c4] at H
      have c4b0 : decide (0 < (t184.length : Int)) = true := decide_eq_true c4
      have c4b1 : decide (0 < t184.length) = true := decide_eq_true (by omega)
      clear c4
      by_cases c5 : ((rd_T96 t184 0).f0) = 1
      · rw [if_pos c5] at H
        have c5b0 : (((rd_T96 t184 0).f0) == 1) = true := beq_iff_eq.mpr c5
        have c5b1 : (((rd_T96 t184 0).f0) != 1) = false := bne_eq_false_iff_eq.mpr c5
        clear c5
        replace H := Option.bind_eq_some_iff.mp H
        obtain ⟨t189, A60, H⟩ := H
        replace H : (some (colN t189, colB t189)) = some (r1, r2) := H
        have A6 := Aside0.mk A60
        clear A60
        simp only [Option.some.injEq, Prod.mk.injEq] at H
        obtain ⟨rfl, rfl⟩ := H
        have hmm := @run_makeMap Try.prog
        go_enter Try.func22, Try.ntmps22
        go_wp2_with (first | ((with_reducible refine gate_callee (f := 60) rfl ?_); refine goesL_ (some 12) rfl rfl Try.func60 (by kernel_rfl) rfl #[.slice A0 l0.length c0] rfl (by (try simp only [List.map_toArray, List.map_cons, List.map_nil]); first | done | rfl | (simp only [List.length_drop, List.length_take]; rfl)) ?_; (with_reducible refine (impl_trimmed.calls k (fun k_ => k_ < w.heap.size) _ _ l0 t184 _ ?side1 A2.out).mono ?_); (case side1 => exact Kd.V_mk HC0.out (Kd.F_below (Kd.C_F k96_heap HR0.out) (by repeat (first | (with_reducible first | exact HB.out | apply below_alloc | apply pw_below_drewN | apply below_drew1) | exact HB.out)))); rintro e w7 ⟨v185, rfl, ho0, hb⟩; refine ⟨_, rfl, ?_⟩; have n0_ := Aside0.mk (Kd.V_lower (Kd.V_mono (ok' := fun k_ => True) ho0 (fun k_ hk_ => trivial)) (below_size (by repeat (first | (with_reducible first | exact HB.out | apply below_alloc | apply pw_below_drewN | apply below_drew1) | exact HB.out)))); have n1_ := Aside0.mk (below_step (by repeat (first | (with_reducible first | exact HB.out | apply below_alloc | apply pw_below_drewN | apply below_drew1) | exact HB.out)) hb); clear HB; have HO186 := n0_; have HB := n1_; clear n0_ n1_; (try clear hb); (try clear hb2); (try clear hk); (try clear hi); (try clear ho0); obtain ⟨Ao8, co8, eo8⟩ := Kd.V_slice HO186.out; subst eo8; have p187 : 0 ≤ (0 : Int) := (by omega); have q187 : 0 < (t184.length : Int) := of_decide_eq_true (by first | (with_reducible assumption) | assumption); obtain ⟨ad187, e187, hx187_0, hx187_1, hx187_2, hx187_3⟩ := at_T96 (Kd.V_reads' HO186.out).2.2 0 p187 q187; cases e187; have qi187 : (0 < t184.length) = True := eq_true (by omega); (try rw [show ((0 : Int)).toNat = 0 from rfl] at hx187_0); (try rw [show 0 * 4 = 0 from rfl] at hx187_0); (try rw [Addr.add_zero'] at hx187_0); (try rw [show ((0 : Int)).toNat = 0 from rfl] at hx187_1); (try rw [show 0 * 4 = 0 from rfl] at hx187_1); (try rw [Addr.add_zero'] at hx187_1); (try rw [show ((0 : Int)).toNat = 0 from rfl] at hx187_2); (try rw [show 0 * 4 = 0 from rfl] at hx187_2); (try rw [Addr.add_zero'] at hx187_2); (try rw [show ((0 : Int)).toNat = 0 from rfl] at hx187_3); (try rw [show 0 * 4 = 0 from rfl] at hx187_3); (try rw [Addr.add_zero'] at hx187_3); replace p187 := eq_true p187; replace q187 := eq_true q187) | ((with_reducible refine gate_dst (N := 4) rfl ?_); (try (refine gate_guard (by rfl) ?_; dsimp only)); refine box_event ?hg (N := 4) ?hd (cs := #[.int .i64 0, .string (⟨#[]⟩ : ByteArray), .int .i64 0, .string (⟨#[]⟩ : ByteArray)]) (t := 96) ?hr ?_; (case hd => rfl); (case hg => rfl); (case hr => first | (go_simp; done) | (go_simp; rfl)); intro gb188 hg w9 hbox hb; have n0_ := Aside0.mk (Kd.V_below (Kd.V_elderB (by (with_reducible repeat (first | apply Kd.V_alloc | apply Kd.V_drewN | apply Kd.V_drew)); exact HO186.out) gb188 (Nat.le_of_eq hg.symm)) hb); have n1_ := Aside0.mk (below_step (by repeat (first | (with_reducible first | exact HB.out | apply below_alloc | apply pw_below_drewN | apply below_drew1) | exact HB.out)) hb); have n2_ := Aside0.mk (hbox); have n3_ := Aside0.mk ((by rw [hg]; exact (below_size (by repeat (first | (with_reducible first | exact HB.out | apply below_alloc | apply pw_below_drewN | apply below_drew1) | exact HB.out))) : w.heap.size ≤ gb188)); have n4_ := Aside0.mk ((by rw [hg]; exact (below_size (by repeat (first | (with_reducible first | exact HB.out | apply below_alloc | apply pw_below_drewN | apply below_drew1) | exact HB.out))) : w.heap.size ≤ gb188)); clear HO186; clear HB; have HO186 := n0_; have HB := n1_; have BK188 := n2_; have GW188 := n3_; have GE188 := n4_; clear n0_ n1_ n2_ n3_ n4_; clear hb hbox hg; have hcz10_0 : w9.cell? ⟨gb188, 0, none⟩ = some (.int .i64 0) := (blk_cell BK188.out 0).trans rfl; have hcz10_1 : w9.cell? ⟨gb188, 1, none⟩ = some (.string (⟨#[]⟩ : ByteArray)) := (blk_cell BK188.out 1).trans rfl; have hcz10_2 : w9.cell? ⟨gb188, 2, none⟩ = some (.int .i64 0) := (blk_cell BK188.out 2).trans rfl; have hcz10_3 : w9.cell? ⟨gb188, 3, none⟩ = some (.string (⟨#[]⟩ : ByteArray)) := (blk_cell BK188.out 3).trans rfl; have hfz10_0 := blk_frozen BK188.out 0; have hfz10_1 := blk_frozen BK188.out 1; have hfz10_2 := blk_frozen BK188.out 2; have hfz10_3 := blk_frozen BK188.out 3) | ((with_reducible refine gate_dst (N := 22) rfl ?_); refine make_event ?hg (N := 22) ?hd ?hr ?_; (case hd => rfl); (case hg => rfl); (case hr => first | (go_simp; done) | (go_simp; rfl)); intro gm hg wM hbox hb; have n0_ := Aside0.mk (below_step (by repeat (first | (with_reducible first | exact HB.out | apply below_alloc | apply pw_below_drewN | apply below_drew1 | refine below_set ?_ GE188.out) | exact HB.out)) hb); have n1_ := Aside0.mk (blk_below (g := gb188) (o := .cells #[.int .i64 ((rd_T96 t184 0).f0), .string ((rd_T96 t184 0).f1), .int .i64 ((rd_T96 t184 0).f2), .string ((rd_T96 t184 0).f3)] 96 (0, 0)) (by (with_reducible repeat (first | refine blk_drewN ?_ _ | refine blk_drew ?_ | refine blk_alloc ?_ _)); refine blk_put (cs := #[.int .i64 ((rd_T96 t184 0).f0), .string ((rd_T96 t184 0).f1), .int .i64 ((rd_T96 t184 0).f2), .string (⟨#[]⟩ : ByteArray)]) ?_ 3 _ rfl; (with_reducible repeat (first | refine blk_drewN ?_ _ | refine blk_drew ?_ | refine blk_alloc ?_ _)); refine blk_put (cs := #[.int .i64 ((rd_T96 t184 0).f0), .string ((rd_T96 t184 0).f1), .int .i64 0, .string (⟨#[]⟩ : ByteArray)]) ?_ 2 _ rfl; (with_reducible repeat (first | refine blk_drewN ?_ _ | refine blk_drew ?_ | refine blk_alloc ?_ _)); refine blk_put (cs := #[.int .i64 ((rd_T96 t184 0).f0), .string (⟨#[]⟩ : ByteArray), .int .i64 0, .string (⟨#[]⟩ : ByteArray)]) ?_ 1 _ rfl; (with_reducible repeat (first | refine blk_drewN ?_ _ | refine blk_drew ?_ | refine blk_alloc ?_ _)); refine blk_put (cs := #[.int .i64 0, .string (⟨#[]⟩ : ByteArray), .int .i64 0, .string (⟨#[]⟩ : ByteArray)]) ?_ 0 _ rfl; (with_reducible repeat (first | refine blk_drewN ?_ _ | refine blk_drew ?_ | refine blk_alloc ?_ _)); exact BK188.out) hb); have n2_ := Aside0.mk (show wM.heap[gm]? = some (mobj Value.string (Value.int .i64) []) from hbox); have n3_ := Aside0.mk ((by rw [hg]; exact (below_size (by repeat (first | (with_reducible first | exact HB.out | apply below_alloc | apply pw_below_drewN | apply below_drew1 | refine below_set ?_ GE188.out) | exact HB.out)))) : w.heap.size ≤ gm); clear HB BK188; have HB := n0_; have BK188 := n1_; have BKM := n2_; have GEM := n3_; clear n0_ n1_ n2_ n3_; clear hb hbox hg) | ((with_reducible refine gate_insert rfl ?_); refine ins_event (kt := 9) (et := 3) (d := .string) (ek := Value.string) (ev := Value.int .i64) (g := gm) rfl _ _ _ rfl rfl rfl _ _ rfl rfl Try.underlying100 Try.underlying9 (fun _ => trivial) vstr_inj BKM.out ?_; intro wI hmap hg; have n0_ := Aside0.mk hmap; have n1_ := Aside0.mk (pw_below_grown HB.out _ (below_size HB.out) hg (fun k hk => by injection hk with hk; rw [← hk]; exact GEM.out)); have n2_ := Aside0.mk (blk_grown (g := gb188) (o := .cells #[.int .i64 ((rd_T96 t184 0).f0), .string ((rd_T96 t184 0).f1), .int .i64 ((rd_T96 t184 0).f2), .string ((rd_T96 t184 0).f3)] 96 (0, 0)) BK188.out hg (cells_ne_map BK188.out BKM.out)); clear BKM HB BK188; have BKM := n0_; have HB := n1_; have BK188 := n2_; clear n0_ n1_ n2_ hmap hg; have hcI : wI.cell? ⟨gb188, 1, none⟩ = some (.string ((rd_T96 t184 0).f1)) := (blk_cell BK188.out 1).trans rfl) | ((with_reducible refine gate_callee (f := 61) rfl ?_); refine goesL_ (some 28) rfl rfl Try.func61 (by kernel_rfl) rfl #[.string ((rd_T96 t184 0).f1)] rfl (by (try simp only [List.map_toArray, List.map_cons, List.map_nil]); first | done | rfl | (simp only [List.length_drop, List.length_take]; rfl)) ?_; (with_reducible refine (impl_lower.calls k ((rd_T96 t184 0).f1) t189 _ A6.out).mono ?_); rintro e w11 ⟨rfl, hb⟩; refine ⟨_, rfl, ?_⟩; have n0_ := Aside0.mk (blk_below (g := gm) (o := mobj Value.string (Value.int .i64) colHist) BKM.out hb); have n1_ := Aside0.mk (below_step HB.out hb); clear BKM HB; have BKM := n0_; have HB := n1_; clear n0_ n1_ hb) | (at_lookup; refine get_ok_event (kt := 9) (et := 3) (d := .string) (ek := Value.string) (ev := Value.int .i64) (g := gm) rfl _ _ rfl rfl t189 rfl Try.underlying100 Try.underlying9 (fun _ => trivial) vstr_inj zero_int BKM.out (.int .i64 (colN t189)) (colB t189) (colN_ok t189) rfl ?_))
        go_ret2
        exact ⟨by first | rfl | (simp [errW_none, errW_some] <;> rfl) | (simp [*, errW_none, errW_some] <;> rfl), by repeat (first | (with_reducible first | exact HB.out | apply below_alloc | apply pw_below_drewN | apply below_drew1 | refine below_set ?_ GE188.out) | exact HB.out)⟩
      · rw [if_neg c5] at H
        have c5b0 : (((rd_T96 t184 0).f0) == 1) = false := beq_eq_false_iff_ne.mpr c5
        have c5b1 : (((rd_T96 t184 0).f0) != 1) = true := bne_iff_ne.mpr c5
        have HC12 := Aside0.mk H
        clear H
        go_enter Try.func22, Try.ntmps22
        go_upto_region 9 with (first | ((with_reducible refine gate_callee (f := 60) rfl ?_); refine goesL_ (some 12) rfl rfl Try.func60 (by kernel_rfl) rfl #[.slice A0 l0.length c0] rfl (by (try simp only [List.map_toArray, List.map_cons, List.map_nil]); first | done | rfl | (simp only [List.length_drop, List.length_take]; rfl)) ?_; (with_reducible refine (impl_trimmed.calls k (fun k_ => k_ < w.heap.size) _ _ l0 t184 _ ?side1 A2.out).mono ?_); (case side1 => exact Kd.V_mk HC0.out (Kd.F_below (Kd.C_F k96_heap HR0.out) (by repeat (first | (with_reducible first | exact HB.out | apply below_alloc | apply pw_below_drewN | apply below_drew1) | exact HB.out)))); rintro e w13 ⟨v185, rfl, ho0, hb⟩; refine ⟨_, rfl, ?_⟩; have n0_ := Aside0.mk (Kd.V_lower (Kd.V_mono (ok' := fun k_ => True) ho0 (fun k_ hk_ => trivial)) (below_size (by repeat (first | (with_reducible first | exact HB.out | apply below_alloc | apply pw_below_drewN | apply below_drew1) | exact HB.out)))); have n1_ := Aside0.mk (below_step (by repeat (first | (with_reducible first | exact HB.out | apply below_alloc | apply pw_below_drewN | apply below_drew1) | exact HB.out)) hb); clear HB; have HO186 := n0_; have HB := n1_; clear n0_ n1_; (try clear hb); (try clear hb2); (try clear hk); (try clear hi); (try clear ho0); obtain ⟨Ao14, co14, eo14⟩ := Kd.V_slice HO186.out; subst eo14; have p187 : 0 ≤ (0 : Int) := (by omega); have q187 : 0 < (t184.length : Int) := of_decide_eq_true (by first | (with_reducible assumption) | assumption); obtain ⟨ad187, e187, hx187_0, hx187_1, hx187_2, hx187_3⟩ := at_T96 (Kd.V_reads' HO186.out).2.2 0 p187 q187; cases e187; have qi187 : (0 < t184.length) = True := eq_true (by omega); (try rw [show ((0 : Int)).toNat = 0 from rfl] at hx187_0); (try rw [show 0 * 4 = 0 from rfl] at hx187_0); (try rw [Addr.add_zero'] at hx187_0); (try rw [show ((0 : Int)).toNat = 0 from rfl] at hx187_1); (try rw [show 0 * 4 = 0 from rfl] at hx187_1); (try rw [Addr.add_zero'] at hx187_1); (try rw [show ((0 : Int)).toNat = 0 from rfl] at hx187_2); (try rw [show 0 * 4 = 0 from rfl] at hx187_2); (try rw [Addr.add_zero'] at hx187_2); (try rw [show ((0 : Int)).toNat = 0 from rfl] at hx187_3); (try rw [show 0 * 4 = 0 from rfl] at hx187_3); (try rw [Addr.add_zero'] at hx187_3); replace p187 := eq_true p187; replace q187 := eq_true q187) | ((with_reducible refine gate_dst (N := 4) rfl ?_); (try (refine gate_guard (by rfl) ?_; dsimp only)); refine box_event ?hg (N := 4) ?hd (cs := #[.int .i64 0, .string (⟨#[]⟩ : ByteArray), .int .i64 0, .string (⟨#[]⟩ : ByteArray)]) (t := 96) ?hr ?_; (case hd => rfl); (case hg => rfl); (case hr => first | (go_simp; done) | (go_simp; rfl)); intro gb188 hg w15 hbox hb; have n0_ := Aside0.mk (Kd.V_below (Kd.V_elderB (by (with_reducible repeat (first | apply Kd.V_alloc | apply Kd.V_drewN | apply Kd.V_drew)); exact HO186.out) gb188 (Nat.le_of_eq hg.symm)) hb); have n1_ := Aside0.mk (below_step (by repeat (first | (with_reducible first | exact HB.out | apply below_alloc | apply pw_below_drewN | apply below_drew1) | exact HB.out)) hb); have n2_ := Aside0.mk (hbox); have n3_ := Aside0.mk ((by rw [hg]; exact (below_size (by repeat (first | (with_reducible first | exact HB.out | apply below_alloc | apply pw_below_drewN | apply below_drew1) | exact HB.out))) : w.heap.size ≤ gb188)); have n4_ := Aside0.mk ((by rw [hg]; exact (below_size (by repeat (first | (with_reducible first | exact HB.out | apply below_alloc | apply pw_below_drewN | apply below_drew1) | exact HB.out))) : w.heap.size ≤ gb188)); clear HO186; clear HB; have HO186 := n0_; have HB := n1_; have BK188 := n2_; have GW188 := n3_; have GE188 := n4_; clear n0_ n1_ n2_ n3_ n4_; clear hb hbox hg; have hcz16_0 : w15.cell? ⟨gb188, 0, none⟩ = some (.int .i64 0) := (blk_cell BK188.out 0).trans rfl; have hcz16_1 : w15.cell? ⟨gb188, 1, none⟩ = some (.string (⟨#[]⟩ : ByteArray)) := (blk_cell BK188.out 1).trans rfl; have hcz16_2 : w15.cell? ⟨gb188, 2, none⟩ = some (.int .i64 0) := (blk_cell BK188.out 2).trans rfl; have hcz16_3 : w15.cell? ⟨gb188, 3, none⟩ = some (.string (⟨#[]⟩ : ByteArray)) := (blk_cell BK188.out 3).trans rfl; have hfz16_0 := blk_frozen BK188.out 0; have hfz16_1 := blk_frozen BK188.out 1; have hfz16_2 := blk_frozen BK188.out 2; have hfz16_3 := blk_frozen BK188.out 3))
        (try simp only [Act.put, List.setIfInBounds_toArray, List.set_cons_zero, List.set_cons_succ])
        go_cut [48] (fun v48 wc => ∃ (kq : Nat) (x48_11 : Bool), v48 = .bool x48_11 ∧ Aside0 (impl_ParseColor.j0 kq x48_11 ((rd_T96 t184 0).f0) ((rd_T96 t184 0).f1) ((rd_T96 t184 0).f2) ((rd_T96 t184 0).f3) = some (r1, r2)) ∧ Aside0 (kq ≤ k) ∧ Aside0 (wc.heap[gb188]? = some (.cells #[.int .i64 ((rd_T96 t184 0).f0), .string ((rd_T96 t184 0).f1), .int .i64 ((rd_T96 t184 0).f2), .string ((rd_T96 t184 0).f3)] 96 (0, 0))) ∧ Aside0 (Below w.heap.size w wc))
        case first =>
          have H := HC12.out
          clear HC12
          by_cases c17 : ((rd_T96 t184 0).f0) = 4
          · rw [if_pos c17] at H
            have c17b0 : (((rd_T96 t184 0).f0) == 4) = true := beq_iff_eq.mpr c17
            have c17b1 : (((rd_T96 t184 0).f0) != 4) = false := bne_eq_false_iff_eq.mpr c17
            clear c17
            (first | rw [c17b0] | (simp only [i64_w, i32_w]; rw [c17b0]) | rw [c17b1] | skip)
            by_cases c18 : (((rd_T96 t184 0).f1).size : Int) = 3
            · rw [if_pos c18] at H
              have c18b0 : ((((rd_T96 t184 0).f1).size : Int) == 3) = true := beq_iff_eq.mpr c18
              have c18b1 : ((((rd_T96 t184 0).f1).size : Int) != 3) = false := bne_eq_false_iff_eq.mpr c18
              clear c18
              have H' := Aside0.mk H
              clear H
              have hcz19_0 : w15.cell? ⟨gb188, 0, none⟩ = some (.int .i64 0) := (blk_cell BK188.out 0).trans rfl
              have hcz19_1 : w15.cell? ⟨gb188, 1, none⟩ = some (.string (⟨#[]⟩ : ByteArray)) := (blk_cell BK188.out 1).trans rfl
              have hcz19_2 : w15.cell? ⟨gb188, 2, none⟩ = some (.int .i64 0) := (blk_cell BK188.out 2).trans rfl
              have hcz19_3 : w15.cell? ⟨gb188, 3, none⟩ = some (.string (⟨#[]⟩ : ByteArray)) := (blk_cell BK188.out 3).trans rfl
              have hfz19_0 := blk_frozen BK188.out 0
              have hfz19_1 := blk_frozen BK188.out 1
              have hfz19_2 := blk_frozen BK188.out 2
              have hfz19_3 := blk_frozen BK188.out 3
              go_wp2
              go_meet
              case rel => exact ⟨_, (false), (by first | rfl | (simp; done) | (simp [*]; done)), H', ⟨by first | omega | exact Nat.le_refl _⟩, ⟨by (with_reducible repeat (first | refine blk_drewN ?_ _ | refine blk_drew ?_ | refine blk_alloc ?_ _)); refine blk_put (cs := #[.int .i64 ((rd_T96 t184 0).f0), .string ((rd_T96 t184 0).f1), .int .i64 ((rd_T96 t184 0).f2), .string (⟨#[]⟩ : ByteArray)]) ?_ 3 _ rfl; (with_reducible repeat (first | refine blk_drewN ?_ _ | refine blk_drew ?_ | refine blk_alloc ?_ _)); refine blk_put (cs := #[.int .i64 ((rd_T96 t184 0).f0), .string ((rd_T96 t184 0).f1), .int .i64 0, .string (⟨#[]⟩ : ByteArray)]) ?_ 2 _ rfl; (with_reducible repeat (first | refine blk_drewN ?_ _ | refine blk_drew ?_ | refine blk_alloc ?_ _)); refine blk_put (cs := #[.int .i64 ((rd_T96 t184 0).f0), .string (⟨#[]⟩ : ByteArray), .int .i64 0, .string (⟨#[]⟩ : ByteArray)]) ?_ 1 _ rfl; (with_reducible repeat (first | refine blk_drewN ?_ _ | refine blk_drew ?_ | refine blk_alloc ?_ _)); refine blk_put (cs := #[.int .i64 0, .string (⟨#[]⟩ : ByteArray), .int .i64 0, .string (⟨#[]⟩ : ByteArray)]) ?_ 0 _ rfl; (with_reducible repeat (first | refine blk_drewN ?_ _ | refine blk_drew ?_ | refine blk_alloc ?_ _)); exact BK188.out⟩, ⟨by repeat (first | (with_reducible first | exact HB.out | apply below_alloc | apply pw_below_drewN | apply below_drew1 | refine below_set ?_ GE188.out) | exact HB.out)⟩⟩
            · rw [if_neg c18] at H
              have c18b0 : ((((rd_T96 t184 0).f1).size : Int) == 3) = false := beq_eq_false_iff_ne.mpr c18
              have c18b1 : ((((rd_T96 t184 0).f1).size : Int) != 3) = true := bne_iff_ne.mpr c18
              have H' := Aside0.mk H
              clear H
              have hcz20_0 : w15.cell? ⟨gb188, 0, none⟩ = some (.int .i64 0) := (blk_cell BK188.out 0).trans rfl
              have hcz20_1 : w15.cell? ⟨gb188, 1, none⟩ = some (.string (⟨#[]⟩ : ByteArray)) := (blk_cell BK188.out 1).trans rfl
              have hcz20_2 : w15.cell? ⟨gb188, 2, none⟩ = some (.int .i64 0) := (blk_cell BK188.out 2).trans rfl
              have hcz20_3 : w15.cell? ⟨gb188, 3, none⟩ = some (.string (⟨#[]⟩ : ByteArray)) := (blk_cell BK188.out 3).trans rfl
              have hfz20_0 := blk_frozen BK188.out 0
              have hfz20_1 := blk_frozen BK188.out 1
              have hfz20_2 := blk_frozen BK188.out 2
              have hfz20_3 := blk_frozen BK188.out 3
              go_wp2
              go_meet
              case rel => exact ⟨_, (((((rd_T96 t184 0).f1).size : Int) != 6)), (by first | rfl | (simp; done) | (simp [*]; done)), H', ⟨by first | omega | exact Nat.le_refl _⟩, ⟨by (with_reducible repeat (first | refine blk_drewN ?_ _ | refine blk_drew ?_ | refine blk_alloc ?_ _)); refine blk_put (cs := #[.int .i64 ((rd_T96 t184 0).f0), .string ((rd_T96 t184 0).f1), .int .i64 ((rd_T96 t184 0).f2), .string (⟨#[]⟩ : ByteArray)]) ?_ 3 _ rfl; (with_reducible repeat (first | refine blk_drewN ?_ _ | refine blk_drew ?_ | refine blk_alloc ?_ _)); refine blk_put (cs := #[.int .i64 ((rd_T96 t184 0).f0), .string ((rd_T96 t184 0).f1), .int .i64 0, .string (⟨#[]⟩ : ByteArray)]) ?_ 2 _ rfl; (with_reducible repeat (first | refine blk_drewN ?_ _ | refine blk_drew ?_ | refine blk_alloc ?_ _)); refine blk_put (cs := #[.int .i64 ((rd_T96 t184 0).f0), .string (⟨#[]⟩ : ByteArray), .int .i64 0, .string (⟨#[]⟩ : ByteArray)]) ?_ 1 _ rfl; (with_reducible repeat (first | refine blk_drewN ?_ _ | refine blk_drew ?_ | refine blk_alloc ?_ _)); refine blk_put (cs := #[.int .i64 0, .string (⟨#[]⟩ : ByteArray), .int .i64 0, .string (⟨#[]⟩ : ByteArray)]) ?_ 0 _ rfl; (with_reducible repeat (first | refine blk_drewN ?_ _ | refine blk_drew ?_ | refine blk_alloc ?_ _)); exact BK188.out⟩, ⟨by repeat (first | (with_reducible first | exact HB.out | apply below_alloc | apply pw_below_drewN | apply below_drew1 | refine below_set ?_ GE188.out) | exact HB.out)⟩⟩
          · rw [if_neg c17] at H
            have c17b0 : (((rd_T96 t184 0).f0) == 4) = false := beq_eq_false_iff_ne.mpr c17
            have c17b1 : (((rd_T96 t184 0).f0) != 4) = true := bne_iff_ne.mpr c17
            (first | rw [c17b0] | (simp only [i64_w, i32_w]; rw [c17b0]) | rw [c17b1] | skip)
            have H' := Aside0.mk H
            clear H
            have hcz21_0 : w15.cell? ⟨gb188, 0, none⟩ = some (.int .i64 0) := (blk_cell BK188.out 0).trans rfl
            have hcz21_1 : w15.cell? ⟨gb188, 1, none⟩ = some (.string (⟨#[]⟩ : ByteArray)) := (blk_cell BK188.out 1).trans rfl
            have hcz21_2 : w15.cell? ⟨gb188, 2, none⟩ = some (.int .i64 0) := (blk_cell BK188.out 2).trans rfl
            have hcz21_3 : w15.cell? ⟨gb188, 3, none⟩ = some (.string (⟨#[]⟩ : ByteArray)) := (blk_cell BK188.out 3).trans rfl
            have hfz21_0 := blk_frozen BK188.out 0
            have hfz21_1 := blk_frozen BK188.out 1
            have hfz21_2 := blk_frozen BK188.out 2
            have hfz21_3 := blk_frozen BK188.out 3
            go_wp2
            go_meet
            case rel => exact ⟨_, (true), (by first | rfl | (simp; done) | (simp [*]; done)), H', ⟨by first | omega | exact Nat.le_refl _⟩, ⟨by (with_reducible repeat (first | refine blk_drewN ?_ _ | refine blk_drew ?_ | refine blk_alloc ?_ _)); refine blk_put (cs := #[.int .i64 ((rd_T96 t184 0).f0), .string ((rd_T96 t184 0).f1), .int .i64 ((rd_T96 t184 0).f2), .string (⟨#[]⟩ : ByteArray)]) ?_ 3 _ rfl; (with_reducible repeat (first | refine blk_drewN ?_ _ | refine blk_drew ?_ | refine blk_alloc ?_ _)); refine blk_put (cs := #[.int .i64 ((rd_T96 t184 0).f0), .string ((rd_T96 t184 0).f1), .int .i64 0, .string (⟨#[]⟩ : ByteArray)]) ?_ 2 _ rfl; (with_reducible repeat (first | refine blk_drewN ?_ _ | refine blk_drew ?_ | refine blk_alloc ?_ _)); refine blk_put (cs := #[.int .i64 ((rd_T96 t184 0).f0), .string (⟨#[]⟩ : ByteArray), .int .i64 0, .string (⟨#[]⟩ : ByteArray)]) ?_ 1 _ rfl; (with_reducible repeat (first | refine blk_drewN ?_ _ | refine blk_drew ?_ | refine blk_alloc ?_ _)); refine blk_put (cs := #[.int .i64 0, .string (⟨#[]⟩ : ByteArray), .int .i64 0, .string (⟨#[]⟩ : ByteArray)]) ?_ 0 _ rfl; (with_reducible repeat (first | refine blk_drewN ?_ _ | refine blk_drew ?_ | refine blk_alloc ?_ _)); exact BK188.out⟩, ⟨by repeat (first | (with_reducible first | exact HB.out | apply below_alloc | apply pw_below_drewN | apply below_drew1 | refine below_set ?_ GE188.out) | exact HB.out)⟩⟩
        case rest =>
          clear HC12
          try clear c1
          try clear p1
          try clear q1
          try clear hx1
          try clear qi1
          try clear c2
          try clear p2
          try clear c3
          try clear c3b0
          try clear c3b1
          try clear c4
          try clear c4b0
          try clear c4b1
          try clear c5
          try clear c5b0
          try clear c5b1
          try clear c6
          try clear c17
          try clear c17b0
          try clear c17b1
          try clear c18
          try clear c18b0
          try clear c18b1
          try clear p18
          try clear q18
          try clear hx18
          try clear qi18
          try clear hcz10_0
          try clear hcz10_1
          try clear hcz10_2
          try clear hcz10_3
          try clear hcz16_0
          try clear hcz16_1
          try clear hcz16_2
          try clear hcz16_3
          try clear hcz19_0
          try clear hcz19_1
          try clear hcz19_2
          try clear hcz19_3
          try clear hcz20_0
          try clear hcz20_1
          try clear hcz20_2
          try clear hcz20_3
          try clear hcz21_0
          try clear hcz21_1
          try clear hcz21_2
          try clear hcz21_3
          try clear hfz10_0
          try clear hfz10_1
          try clear hfz10_2
          try clear hfz10_3
          try clear hfz16_0
          try clear hfz16_1
          try clear hfz16_2
          try clear hfz16_3
          try clear hfz19_0
          try clear hfz19_1
          try clear hfz19_2
          try clear hfz19_3
          try clear hfz20_0
          try clear hfz20_1
          try clear hfz20_2
          try clear hfz20_3
          try clear hfz21_0
          try clear hfz21_1
          try clear hfz21_2
          try clear hfz21_3
          try clear hx187_0
          try clear hx187_1
          try clear hx187_2
          try clear hx187_3
          try clear p187
          try clear q187
          obtain ⟨kq, x48_11, rfl, HA, HJ11, BK188, HB⟩ := hcut
          cases kq with
          | zero => exact absurd HA.out (by simp [impl_ParseColor.j0])
          | succ kj11 =>
            have H := HA.out
            clear HA
            simp only [impl_ParseColor.j0] at H
            by_cases c22 : x48_11 = true
            · subst c22
              have H1 : (some (0, false)) = some (r1, r2) := by rw [if_pos rfl] at H; exact H
              clear H
              have H := H1
              clear H1
              simp only [Option.some.injEq, Prod.mk.injEq] at H
              obtain ⟨rfl, rfl⟩ := H
              go_wp2
              go_ret2
              exact ⟨by first | rfl | (simp [errW_none, errW_some] <;> rfl) | (simp [*, errW_none, errW_some] <;> rfl), by repeat (first | (with_reducible first | exact HB.out | apply below_alloc | apply pw_below_drewN | apply below_drew1 | refine below_set ?_ GE188.out) | exact HB.out)⟩
            · replace c22 := Bool.eq_false_iff.mpr c22
              subst c22
              have H1 : (impl_ParseColor.l0 kj11 0 (((rd_T96 t184 0).f1).size : Int) 0 ((rd_T96 t184 0).f0) ((rd_T96 t184 0).f1) ((rd_T96 t184 0).f2) ((rd_T96 t184 0).f3)) = some (r1, r2) := by rw [if_neg (show ¬ (false = true) by decide)] at H; exact H
              clear H
              have H := H1
              clear H1
              have H' := Aside0.mk H
              clear H
              have hcz23_0 : wc.cell? ⟨gb188, 0, none⟩ = some (.int .i64 ((rd_T96 t184 0).f0)) := (blk_cell BK188.out 0).trans rfl
              have hcz23_1 : wc.cell? ⟨gb188, 1, none⟩ = some (.string ((rd_T96 t184 0).f1)) := (blk_cell BK188.out 1).trans rfl
              have hcz23_2 : wc.cell? ⟨gb188, 2, none⟩ = some (.int .i64 ((rd_T96 t184 0).f2)) := (blk_cell BK188.out 2).trans rfl
              have hcz23_3 : wc.cell? ⟨gb188, 3, none⟩ = some (.string ((rd_T96 t184 0).f3)) := (blk_cell BK188.out 3).trans rfl
              have hfz23_0 := blk_frozen BK188.out 0
              have hfz23_1 := blk_frozen BK188.out 1
              have hfz23_2 := blk_frozen BK188.out 2
              have hfz23_3 := blk_frozen BK188.out 3
              go_wp2
              go_loopg [8, 52] kj11 (fun kq v8 v52 w' => ∃ (x8_2 : Int) (x52_2 : Int), v8 = .int .i64 x8_2 ∧ v52 = .int .i64 x52_2 ∧ Aside0 (impl_ParseColor.l0 kq x8_2 (((rd_T96 t184 0).f1).size : Int) x52_2 ((rd_T96 t184 0).f0) ((rd_T96 t184 0).f1) ((rd_T96 t184 0).f2) ((rd_T96 t184 0).f3) = some (r1, r2)) ∧ Aside0 (kq ≤ kj11) ∧ Aside0 (w'.heap[gb188]? = some (.cells #[.int .i64 ((rd_T96 t184 0).f0), .string ((rd_T96 t184 0).f1), .int .i64 ((rd_T96 t184 0).f2), .string ((rd_T96 t184 0).f3)] 96 (0, 0))) ∧ Aside0 (Below w.heap.size w w'))
              case atStart => exact ⟨(0), (0), (by first | rfl | (simp; done) | (simp [*]; done)), (by first | rfl | (simp; done) | (simp [*]; done)), H', ⟨Nat.le_refl _⟩, ⟨by (with_reducible repeat (first | refine blk_drewN ?_ _ | refine blk_drew ?_ | refine blk_alloc ?_ _)); exact BK188.out⟩, ⟨by repeat (first | (with_reducible first | exact HB.out | apply below_alloc | apply pw_below_drewN | apply below_drew1 | refine below_set ?_ GE188.out) | exact HB.out)⟩⟩
              case round =>
                clear H'
                try clear c1
                try clear p1
                try clear q1
                try clear hx1
                try clear qi1
                try clear c2
                try clear p2
                try clear c3
                try clear c3b0
                try clear c3b1
                try clear c4
                try clear c4b0
                try clear c4b1
                try clear c5
                try clear c5b0
                try clear c5b1
                try clear c6
                try clear c17
                try clear c17b0
                try clear c17b1
                try clear c18
                try clear c18b0
                try clear c18b1
                try clear p18
                try clear q18
                try clear hx18
                try clear qi18
                try clear c22
                try clear hcz10_0
                try clear hcz10_1
                try clear hcz10_2
                try clear hcz10_3
                try clear hcz16_0
                try clear hcz16_1
                try clear hcz16_2
                try clear hcz16_3
                try clear hcz19_0
                try clear hcz19_1
                try clear hcz19_2
                try clear hcz19_3
                try clear hcz20_0
                try clear hcz20_1
                try clear hcz20_2
                try clear hcz20_3
                try clear hcz21_0
                try clear hcz21_1
                try clear hcz21_2
                try clear hcz21_3
                try clear hcz23_0
                try clear hcz23_1
                try clear hcz23_2
                try clear hcz23_3
                try clear hfz10_0
                try clear hfz10_1
                try clear hfz10_2
                try clear hfz10_3
                try clear hfz16_0
                try clear hfz16_1
                try clear hfz16_2
                try clear hfz16_3
                try clear hfz19_0
                try clear hfz19_1
                try clear hfz19_2
                try clear hfz19_3
                try clear hfz20_0
                try clear hfz20_1
                try clear hfz20_2
                try clear hfz20_3
                try clear hfz21_0
                try clear hfz21_1
                try clear hfz21_2
                try clear hfz21_3
                try clear hfz23_0
                try clear hfz23_1
                try clear hfz23_2
                try clear hfz23_3
                try clear hx187_0
                try clear hx187_1
                try clear hx187_2
                try clear hx187_3
                try clear p1
                try clear p18
                try clear p187
                try clear p2
                try clear q1
                try clear q18
                try clear q187
                obtain ⟨x8_2, x52_2, rfl, rfl, HA, HK2, BK188, HB⟩ := hrel
                cases gk with
                | zero => exact absurd HA.out (by simp [impl_ParseColor.l0])
                | succ k2 =>
                  have H := HA.out
                  clear HA
                  simp only [impl_ParseColor.l0] at H
                  by_cases c24 : x52_2 < (((rd_T96 t184 0).f1).size : Int)
                  · rw [if_pos c24] at H
                    have c24b0 : decide (x52_2 < (((rd_T96 t184 0).f1).size : Int)) = true := decide_eq_true c24
                    clear c24
                    by_cases c25 : 0 ≤ x52_2
                    · rw [if_pos c25] at H
                      have c25b0 : decide (0 ≤ x52_2) = true := decide_eq_true c25
                      clear c25
                      by_cases c26 : x52_2 < (((rd_T96 t184 0).f1).size : Int)
                      · rw [if_pos c26] at H
                        have c26b0 : decide (x52_2 < (((rd_T96 t184 0).f1).size : Int)) = true := decide_eq_true c26
                        clear c26
                        replace H := Option.bind_eq_some_iff.mp H
                        obtain ⟨t190, A280, H⟩ := H
                        replace H : (if t190 < 0 then (some (0, false)) else (if (((rd_T96 t184 0).f1).size : Int) = 3 then (impl_ParseColor.l0 k2 (wrap64 ((wrap64 ((wrap64 ((wrap64 (x8_2 * 16)) + t190)) * 16)) + t190)) (((rd_T96 t184 0).f1).size : Int) (wrap64 (x52_2 + 1)) ((rd_T96 t184 0).f0) ((rd_T96 t184 0).f1) ((rd_T96 t184 0).f2) ((rd_T96 t184 0).f3)) else (impl_ParseColor.l0 k2 (wrap64 ((wrap64 (x8_2 * 16)) + t190)) (((rd_T96 t184 0).f1).size : Int) (wrap64 (x52_2 + 1)) ((rd_T96 t184 0).f0) ((rd_T96 t184 0).f1) ((rd_T96 t184 0).f2) ((rd_T96 t184 0).f3)))) = some (r1, r2) := H
                        have A28 := Aside0.mk A280
                        clear A280
                        by_cases c29 : t190 < 0
                        · rw [if_pos c29] at H
                          have c29b0 : decide (t190 < 0) = true := decide_eq_true c29
                          clear c29
                          simp only [Option.some.injEq, Prod.mk.injEq] at H
                          obtain ⟨rfl, rfl⟩ := H
                          have hcz30_0 : wr.cell? ⟨gb188, 0, none⟩ = some (.int .i64 ((rd_T96 t184 0).f0)) := (blk_cell BK188.out 0).trans rfl
                          have hcz30_1 : wr.cell? ⟨gb188, 1, none⟩ = some (.string ((rd_T96 t184 0).f1)) := (blk_cell BK188.out 1).trans rfl
                          have hcz30_2 : wr.cell? ⟨gb188, 2, none⟩ = some (.int .i64 ((rd_T96 t184 0).f2)) := (blk_cell BK188.out 2).trans rfl
                          have hcz30_3 : wr.cell? ⟨gb188, 3, none⟩ = some (.string ((rd_T96 t184 0).f3)) := (blk_cell BK188.out 3).trans rfl
                          have hfz30_0 := blk_frozen BK188.out 0
                          have hfz30_1 := blk_frozen BK188.out 1
                          have hfz30_2 := blk_frozen BK188.out 2
                          have hfz30_3 := blk_frozen BK188.out 3
                          have p27 : 0 ≤ (x52_2 : Int) := of_decide_eq_true (by first | (with_reducible assumption) | assumption)
                          have q27 : x52_2 < (((rd_T96 t184 0).f1).size : Int) := of_decide_eq_true (by first | (with_reducible assumption) | assumption)
                          have hx27 := bt_at ((rd_T96 t184 0).f1) x52_2
                          replace p27 := eq_true p27
                          replace q27 := eq_true q27
                          go_wp2_with (first | ((with_reducible refine gate_callee (f := 62) rfl ?_); refine goesL_ (some 59) rfl rfl Try.func62 (by kernel_rfl) rfl #[.int .u8 (bt ((rd_T96 t184 0).f1) x52_2), .bool true] rfl (by (try simp only [List.map_toArray, List.map_cons, List.map_nil]); first | done | rfl | (simp only [List.length_drop, List.length_take]; rfl)) ?_; (with_reducible refine (impl_digitOf.calls k2 (bt ((rd_T96 t184 0).f1) x52_2) true t190 _ A28.out).mono ?_); rintro e w' ⟨rfl, ⟨nd, rfl⟩⟩; refine ⟨_, rfl, ?_⟩))
                          go_ret2
                          exact ⟨by first | rfl | (simp [errW_none, errW_some] <;> rfl) | (simp [*, errW_none, errW_some] <;> rfl), by repeat (first | (with_reducible first | exact HB.out | apply below_alloc | apply pw_below_drewN | apply below_drew1 | refine below_set ?_ GE188.out) | exact HB.out)⟩
                        · rw [if_neg c29] at H
                          have c29b0 : decide (t190 < 0) = false := decide_eq_false c29
                          clear c29
                          by_cases c31 : (((rd_T96 t184 0).f1).size : Int) = 3
                          · rw [if_pos c31] at H
                            have c31b0 : ((((rd_T96 t184 0).f1).size : Int) == 3) = true := beq_iff_eq.mpr c31
                            have c31b1 : ((((rd_T96 t184 0).f1).size : Int) != 3) = false := bne_eq_false_iff_eq.mpr c31
                            clear c31
                            have H' := Aside0.mk H
                            clear H
                            have hcz32_0 : wr.cell? ⟨gb188, 0, none⟩ = some (.int .i64 ((rd_T96 t184 0).f0)) := (blk_cell BK188.out 0).trans rfl
                            have hcz32_1 : wr.cell? ⟨gb188, 1, none⟩ = some (.string ((rd_T96 t184 0).f1)) := (blk_cell BK188.out 1).trans rfl
                            have hcz32_2 : wr.cell? ⟨gb188, 2, none⟩ = some (.int .i64 ((rd_T96 t184 0).f2)) := (blk_cell BK188.out 2).trans rfl
                            have hcz32_3 : wr.cell? ⟨gb188, 3, none⟩ = some (.string ((rd_T96 t184 0).f3)) := (blk_cell BK188.out 3).trans rfl
                            have hfz32_0 := blk_frozen BK188.out 0
                            have hfz32_1 := blk_frozen BK188.out 1
                            have hfz32_2 := blk_frozen BK188.out 2
                            have hfz32_3 := blk_frozen BK188.out 3
                            have p27 : 0 ≤ (x52_2 : Int) := of_decide_eq_true (by first | (with_reducible assumption) | assumption)
                            have q27 : x52_2 < (((rd_T96 t184 0).f1).size : Int) := of_decide_eq_true (by first | (with_reducible assumption) | assumption)
                            have hx27 := bt_at ((rd_T96 t184 0).f1) x52_2
                            replace p27 := eq_true p27
                            replace q27 := eq_true q27
                            go_wp2_with (first | ((with_reducible refine gate_callee (f := 62) rfl ?_); refine goesL_ (some 59) rfl rfl Try.func62 (by kernel_rfl) rfl #[.int .u8 (bt ((rd_T96 t184 0).f1) x52_2), .bool true] rfl (by (try simp only [List.map_toArray, List.map_cons, List.map_nil]); first | done | rfl | (simp only [List.length_drop, List.length_take]; rfl)) ?_; (with_reducible refine (impl_digitOf.calls k2 (bt ((rd_T96 t184 0).f1) x52_2) true t190 _ A28.out).mono ?_); rintro e w' ⟨rfl, ⟨nd, rfl⟩⟩; refine ⟨_, rfl, ?_⟩))
                            go_roundg k2
                            case measure => have := HJ11.out; have := HK2.out; omega
                            case rel => exact ⟨(wrap64 ((wrap64 ((wrap64 ((wrap64 (x8_2 * 16)) + t190)) * 16)) + t190)), (wrap64 (x52_2 + 1)), (by first | rfl | (simp; done) | (simp [*]; done)), (by first | rfl | (simp; done) | (simp [*]; done)), H', ⟨by have := HJ11.out; have := HK2.out; omega⟩, ⟨by (with_reducible repeat (first | refine blk_drewN ?_ _ | refine blk_drew ?_ | refine blk_alloc ?_ _)); exact BK188.out⟩, ⟨by repeat (first | (with_reducible first | exact HB.out | apply below_alloc | apply pw_below_drewN | apply below_drew1 | refine below_set ?_ GE188.out) | exact HB.out)⟩⟩
                          · rw [if_neg c31] at H
                            have c31b0 : ((((rd_T96 t184 0).f1).size : Int) == 3) = false := beq_eq_false_iff_ne.mpr c31
                            have c31b1 : ((((rd_T96 t184 0).f1).size : Int) != 3) = true := bne_iff_ne.mpr c31
                            have H' := Aside0.mk H
                            clear H
                            have hcz33_0 : wr.cell? ⟨gb188, 0, none⟩ = some (.int .i64 ((rd_T96 t184 0).f0)) := (blk_cell BK188.out 0).trans rfl
                            have hcz33_1 : wr.cell? ⟨gb188, 1, none⟩ = some (.string ((rd_T96 t184 0).f1)) := (blk_cell BK188.out 1).trans rfl
                            have hcz33_2 : wr.cell? ⟨gb188, 2, none⟩ = some (.int .i64 ((rd_T96 t184 0).f2)) := (blk_cell BK188.out 2).trans rfl
                            have hcz33_3 : wr.cell? ⟨gb188, 3, none⟩ = some (.string ((rd_T96 t184 0).f3)) := (blk_cell BK188.out 3).trans rfl
                            have hfz33_0 := blk_frozen BK188.out 0
                            have hfz33_1 := blk_frozen BK188.out 1
                            have hfz33_2 := blk_frozen BK188.out 2
                            have hfz33_3 := blk_frozen BK188.out 3
                            have p27 : 0 ≤ (x52_2 : Int) := of_decide_eq_true (by first | (with_reducible assumption) | assumption)
                            have q27 : x52_2 < (((rd_T96 t184 0).f1).size : Int) := of_decide_eq_true (by first | (with_reducible assumption) | assumption)
                            have hx27 := bt_at ((rd_T96 t184 0).f1) x52_2
                            replace p27 := eq_true p27
                            replace q27 := eq_true q27
                            go_wp2_with (first | ((with_reducible refine gate_callee (f := 62) rfl ?_); refine goesL_ (some 59) rfl rfl Try.func62 (by kernel_rfl) rfl #[.int .u8 (bt ((rd_T96 t184 0).f1) x52_2), .bool true] rfl (by (try simp only [List.map_toArray, List.map_cons, List.map_nil]); first | done | rfl | (simp only [List.length_drop, List.length_take]; rfl)) ?_; (with_reducible refine (impl_digitOf.calls k2 (bt ((rd_T96 t184 0).f1) x52_2) true t190 _ A28.out).mono ?_); rintro e w' ⟨rfl, ⟨nd, rfl⟩⟩; refine ⟨_, rfl, ?_⟩))
                            go_roundg k2
                            case measure => have := HJ11.out; have := HK2.out; omega
                            case rel => exact ⟨(wrap64 ((wrap64 (x8_2 * 16)) + t190)), (wrap64 (x52_2 + 1)), (by first | rfl | (simp; done) | (simp [*]; done)), (by first | rfl | (simp; done) | (simp [*]; done)), H', ⟨by have := HJ11.out; have := HK2.out; omega⟩, ⟨by (with_reducible repeat (first | refine blk_drewN ?_ _ | refine blk_drew ?_ | refine blk_alloc ?_ _)); exact BK188.out⟩, ⟨by repeat (first | (with_reducible first | exact HB.out | apply below_alloc | apply pw_below_drewN | apply below_drew1 | refine below_set ?_ GE188.out) | exact HB.out)⟩⟩
                      · rw [if_neg c26] at H
                        exact absurd H (by simp)
                    · rw [if_neg c25] at H
                      exact absurd H (by simp)
                  · rw [if_neg c24] at H
                    have c24b0 : decide (x52_2 < (((rd_T96 t184 0).f1).size : Int)) = false := decide_eq_false c24
                    clear c24
                    simp only [Option.some.injEq, Prod.mk.injEq] at H
                    obtain ⟨rfl, rfl⟩ := H
                    go_wp2
                    go_ret2
                    exact ⟨by first | rfl | (simp [errW_none, errW_some] <;> rfl) | (simp [*, errW_none, errW_some] <;> rfl), by repeat (first | (with_reducible first | exact HB.out | apply below_alloc | apply pw_below_drewN | apply below_drew1 | refine below_set ?_ GE188.out) | exact HB.out)⟩
    · rw [if_neg c4] at H
      exact absurd H (by simp)
  · rw [if_neg c3] at H
    have c3b0 : ((t184.length : Int) == 1) = false := beq_eq_false_iff_ne.mpr c3
    have c3b1 : ((t184.length : Int) != 1) = true := bne_iff_ne.mpr c3
    simp only [Option.some.injEq, Prod.mk.injEq] at H
    obtain ⟨rfl, rfl⟩ := H
    go_enter Try.func22, Try.ntmps22
    go_wp2_with (first | ((with_reducible refine gate_callee (f := 60) rfl ?_); refine goesL_ (some 12) rfl rfl Try.func60 (by kernel_rfl) rfl #[.slice A0 l0.length c0] rfl (by (try simp only [List.map_toArray, List.map_cons, List.map_nil]); first | done | rfl | (simp only [List.length_drop, List.length_take]; rfl)) ?_; (with_reducible refine (impl_trimmed.calls k (fun k_ => k_ < w.heap.size) _ _ l0 t184 _ ?side1 A2.out).mono ?_); (case side1 => exact Kd.V_mk HC0.out (Kd.F_below (Kd.C_F k96_heap HR0.out) (by repeat (first | (with_reducible first | exact HB.out | apply below_alloc | apply pw_below_drewN | apply below_drew1) | exact HB.out)))); rintro e w34 ⟨v185, rfl, ho0, hb⟩; refine ⟨_, rfl, ?_⟩; have n0_ := Aside0.mk (Kd.V_lower (Kd.V_mono (ok' := fun k_ => True) ho0 (fun k_ hk_ => trivial)) (below_size (by repeat (first | (with_reducible first | exact HB.out | apply below_alloc | apply pw_below_drewN | apply below_drew1) | exact HB.out)))); have n1_ := Aside0.mk (below_step (by repeat (first | (with_reducible first | exact HB.out | apply below_alloc | apply pw_below_drewN | apply below_drew1) | exact HB.out)) hb); clear HB; have HO186 := n0_; have HB := n1_; clear n0_ n1_; (try clear hb); (try clear hb2); (try clear hk); (try clear hi); (try clear ho0); obtain ⟨Ao35, co35, eo35⟩ := Kd.V_slice HO186.out; subst eo35))
    go_ret2
    exact ⟨by first | rfl | (simp [errW_none, errW_some] <;> rfl) | (simp [*, errW_none, errW_some] <;> rfl), by repeat (first | (with_reducible first | exact HB.out | apply below_alloc | apply pw_below_drewN | apply below_drew1) | exact HB.out)⟩

/-! ### laws_eqWord: function 63 -/
def laws_eqWord.f (a0_0 : Int) (a0_1 : ByteArray) (a0_2 : Int) (a0_3 : ByteArray) (a1_0 : Int) (a1_1 : ByteArray) (a1_2 : Int) (a1_3 : ByteArray) : Option (Bool) := if a0_0 = a1_0 then (if a0_1.toList = a1_1.toList then (if a0_2 = a1_2 then (if a0_3.toList = a1_3.toList then (some true) else (none)) else (none)) else (none)) else (none)
set_option maxHeartbeats 8000000 in
set_option maxRecDepth 100000 in
theorem laws_eqWord.calls (a0_0 : Int) (a0_1 : ByteArray) (a0_2 : Int) (a0_3 : ByteArray) (a1_0 : Int) (a1_1 : ByteArray) (a1_2 : Int) (a1_3 : ByteArray) (r : Bool) (w : World) (h : laws_eqWord.f a0_0 a0_1 a0_2 a0_3 a1_0 a1_1 a1_2 a1_3 = some r) :
    Calls Try.prog 63 #[.agg #[.int .i64 a0_0, .string a0_1, .int .i64 a0_2, .string a0_3], .agg #[.int .i64 a1_0, .string a1_1, .int .i64 a1_2, .string a1_3]] w fun e w' => e = .returned (.bool r) ∧ Below w.heap.size w w' := by
  have hu96 := Try.underlying96
  have HB := Aside0.mk (Below.refl w.heap.size w)
  have H : (if a0_0 = a1_0 then (if a0_1.toList = a1_1.toList then (if a0_2 = a1_2 then (if a0_3.toList = a1_3.toList then (some true) else (none)) else (none)) else (none)) else (none)) = some r := h
  clear h
  by_cases c3 : a0_0 = a1_0
  · rw [if_pos c3] at H
    have c3b0 : (a0_0 == a1_0) = true := beq_iff_eq.mpr c3
    have c3b1 : (a0_0 != a1_0) = false := bne_eq_false_iff_eq.mpr c3
    clear c3
    by_cases c4 : a0_1.toList = a1_1.toList
    · rw [if_pos c4] at H
      have c4b0 : (a0_1.toList == a1_1.toList) = true := beq_iff_eq.mpr c4
      have c4b1 : (a0_1.toList != a1_1.toList) = false := bne_eq_false_iff_eq.mpr c4
      clear c4
      by_cases c5 : a0_2 = a1_2
      · rw [if_pos c5] at H
        have c5b0 : (a0_2 == a1_2) = true := beq_iff_eq.mpr c5
        have c5b1 : (a0_2 != a1_2) = false := bne_eq_false_iff_eq.mpr c5
        clear c5
        by_cases c6 : a0_3.toList = a1_3.toList
        · rw [if_pos c6] at H
          have c6b0 : (a0_3.toList == a1_3.toList) = true := beq_iff_eq.mpr c6
          have c6b1 : (a0_3.toList != a1_3.toList) = false := bne_eq_false_iff_eq.mpr c6
          clear c6
          obtain rfl := Option.some.inj H
          go_enter Try.func63, Try.ntmps63
          go_wp2_with (first | ((with_reducible refine gate_dst (N := 2) rfl ?_); refine box_event ?hg (N := 2) ?hd (cs := #[.int .i64 a0_0, .string a0_1, .int .i64 a0_2, .string a0_3]) (t := 96) ?hr ?_; (case hd => rfl); (case hg => rfl); (case hr => first | (go_simp; done) | (go_simp; rfl)); intro gb191 hg w7 hbox hb; have n0_ := Aside0.mk (below_step (by repeat (first | (with_reducible first | exact HB.out | apply below_alloc | apply pw_below_drewN | apply below_drew1) | exact HB.out)) hb); have n1_ := Aside0.mk (hbox); have n2_ := Aside0.mk ((by rw [hg]; exact (below_size (by repeat (first | (with_reducible first | exact HB.out | apply below_alloc | apply pw_below_drewN | apply below_drew1) | exact HB.out))) : w.heap.size ≤ gb191)); have n3_ := Aside0.mk ((by rw [hg]; exact (below_size (by repeat (first | (with_reducible first | exact HB.out | apply below_alloc | apply pw_below_drewN | apply below_drew1) | exact HB.out))) : w.heap.size ≤ gb191)); clear HB; have HB := n0_; have BK191 := n1_; have GW191 := n2_; have GE191 := n3_; clear n0_ n1_ n2_ n3_; clear hb hbox hg) | ((with_reducible refine gate_dst (N := 3) rfl ?_); refine box_event ?hg (N := 3) ?hd (cs := #[.int .i64 a1_0, .string a1_1, .int .i64 a1_2, .string a1_3]) (t := 96) ?hr ?_; (case hd => rfl); (case hg => rfl); (case hr => first | (go_simp; done) | (go_simp; rfl)); intro gb192 hg w8 hbox hb; have n0_ := Aside0.mk (blk_below (g := gb191) (o := .cells #[.int .i64 a0_0, .string a0_1, .int .i64 a0_2, .string a0_3] 96 (0, 0)) (by (with_reducible repeat (first | refine blk_drewN ?_ _ | refine blk_drew ?_ | refine blk_alloc ?_ _)); exact BK191.out) hb); have n1_ := Aside0.mk (below_step (by repeat (first | (with_reducible first | exact HB.out | apply below_alloc | apply pw_below_drewN | apply below_drew1 | refine below_set ?_ GE191.out) | exact HB.out)) hb); have n2_ := Aside0.mk (hbox); have n3_ := Aside0.mk ((by rw [hg]; exact (below_size (by repeat (first | (with_reducible first | exact HB.out | apply below_alloc | apply pw_below_drewN | apply below_drew1 | refine below_set ?_ GE191.out) | exact HB.out))) : w.heap.size ≤ gb192)); have n4_ := Aside0.mk ((by rw [hg]; exact (below_size (by repeat (first | (with_reducible first | exact HB.out | apply below_alloc | apply pw_below_drewN | apply below_drew1 | refine below_set ?_ GE191.out) | exact HB.out))) : w.heap.size ≤ gb192)); have n5_ := Aside0.mk ((by rw [hg]; exact Nat.ne_of_lt (blk_lt (g := gb191) (o := .cells #[.int .i64 a0_0, .string a0_1, .int .i64 a0_2, .string a0_3] 96 (0, 0)) (by (with_reducible repeat (first | refine blk_drewN ?_ _ | refine blk_drew ?_ | refine blk_alloc ?_ _)); exact BK191.out)) : gb191 ≠ gb192)); have n6_ := Aside0.mk ((by rw [hg]; exact Nat.ne_of_gt (blk_lt (g := gb191) (o := .cells #[.int .i64 a0_0, .string a0_1, .int .i64 a0_2, .string a0_3] 96 (0, 0)) (by (with_reducible repeat (first | refine blk_drewN ?_ _ | refine blk_drew ?_ | refine blk_alloc ?_ _)); exact BK191.out)) : gb192 ≠ gb191)); clear BK191; clear HB; have BK191 := n0_; have HB := n1_; have BK192 := n2_; have GW192 := n3_; have GE192 := n4_; have NB191_192 := n5_; have NB192_191 := n6_; clear n0_ n1_ n2_ n3_ n4_ n5_ n6_; clear hb hbox hg; have hnb9 := NB191_192.out; have hnc9 := NB192_191.out; have hcz10_0 : w8.cell? ⟨gb191, 0, none⟩ = some (.int .i64 a0_0) := (blk_cell BK191.out 0).trans rfl; have hcz10_1 : w8.cell? ⟨gb191, 1, none⟩ = some (.string a0_1) := (blk_cell BK191.out 1).trans rfl; have hcz10_2 : w8.cell? ⟨gb191, 2, none⟩ = some (.int .i64 a0_2) := (blk_cell BK191.out 2).trans rfl; have hcz10_3 : w8.cell? ⟨gb191, 3, none⟩ = some (.string a0_3) := (blk_cell BK191.out 3).trans rfl; have hfz10_0 := blk_frozen BK191.out 0; have hfz10_1 := blk_frozen BK191.out 1; have hfz10_2 := blk_frozen BK191.out 2; have hfz10_3 := blk_frozen BK191.out 3; have hcz11_0 : w8.cell? ⟨gb192, 0, none⟩ = some (.int .i64 a1_0) := (blk_cell BK192.out 0).trans rfl; have hcz11_1 : w8.cell? ⟨gb192, 1, none⟩ = some (.string a1_1) := (blk_cell BK192.out 1).trans rfl; have hcz11_2 : w8.cell? ⟨gb192, 2, none⟩ = some (.int .i64 a1_2) := (blk_cell BK192.out 2).trans rfl; have hcz11_3 : w8.cell? ⟨gb192, 3, none⟩ = some (.string a1_3) := (blk_cell BK192.out 3).trans rfl; have hfz11_0 := blk_frozen BK192.out 0; have hfz11_1 := blk_frozen BK192.out 1; have hfz11_2 := blk_frozen BK192.out 2; have hfz11_3 := blk_frozen BK192.out 3))
          go_ret
          exact ⟨by first | rfl | (simp [errW_none, errW_some] <;> rfl) | (simp [*, errW_none, errW_some] <;> rfl), by repeat (first | (with_reducible first | exact HB.out | apply below_alloc | apply pw_below_drewN | apply below_drew1 | refine below_set ?_ GE191.out | refine below_set ?_ GE192.out) | exact HB.out)⟩
        · rw [if_neg c6] at H
          exact absurd H (by simp)
      · rw [if_neg c5] at H
        exact absurd H (by simp)
    · rw [if_neg c4] at H
      exact absurd H (by simp)
  · rw [if_neg c3] at H
    exact absurd H (by simp)

end Go.Proofs.Ytjoanlocikagaaa.QFnExactParseColor
