/- Written by a program (wip/tools/own_print.py) out of the walk that the kit's printer made; turned where it fell. -/
-- PRINTED by print.py (a twelfth state) out of the translation. Not trusted: Lean checks it.
import Derived.Test.YtbhmoodfninbjaaQFnExactPlainFontx0
import Derived.Test.YtbhmoodfninbjaaPlainSort
import Derived.Test.YtbhmoodfninbjaaDyn
namespace Go.Proofs.Ytbhmoodfninbjaa.QFnExactPlainFont
open Go.RowKit Go.Proofs.YtbhmoodfninbjaaW.PrintWords Go.Proofs.YtbhmoodfninbjaaW.PrintLast Go.Proofs.YtbhmoodfninbjaaW.PrintMore
attribute [local go_sem] max2_int min2_int max_two min_two max_three min_three max_four min_four   -- for this text's walks alone
open Go Go.Proofs.Ytbhmoodfninbjaa.Dyn
set_option linter.unusedVariables false
set_option linter.unusedSimpArgs false

-- NOT PRINTED: function 32 (impl_Glyph_32)

-- NOT PRINTED: function 33 (impl_Glyph_33)

-- NOT PRINTED: function 34 (impl_Glyph_34)

-- NOT PRINTED: function 35 (impl_Glyph_35)

-- NOT PRINTED: function 36 (impl_Glyph_36)

-- NOT PRINTED: function 23 (impl_Glyph_23)

-- NOT PRINTED: function 11 (impl_Glyph_11)

/-! ### impl_PlainFont: function 5 -/
def impl_PlainFont.f  : Option (Int × Int × Int × Int × (List (S34)) × (List (S36)) × (List (S38))) := some (1000, 800, 200, 600, fontG, (([(⟨65, 86, (-80)⟩ : S36), (⟨84, 111, (-60)⟩ : S36), (⟨86, 65, (-80)⟩ : S36)] : List (S36))), (([(⟨102, 105, 64257⟩ : S38), (⟨102, 108, 64258⟩ : S38)] : List (S38))))
set_option maxHeartbeats 8000000 in
set_option maxRecDepth 100000 in
theorem impl_PlainFont.calls  (r1 : Int) (r2 : Int) (r3 : Int) (r4 : Int) (r5 : List (S34)) (r6 : List (S36)) (r7 : List (S38)) (w : World) (h : impl_PlainFont.f  = some (r1, r2, r3, r4, r5, r6, r7)) :
    Calls Try.prog 5 #[] w fun e w' => ∃ v4_ v5_ v6_ : Value, e = .returned (.agg #[.int .i64 r1, .int .i64 r2, .int .i64 r3, .int .i64 r4, v4_, v5_, v6_]) ∧ Kd.R k34 34 w' w.heap.size (fun _ => True) v4_ r5 ∧ Kd.R k36 36 w' w.heap.size (fun _ => True) v5_ r6 ∧ Kd.R k38 38 w' w.heap.size (fun _ => True) v6_ r7 ∧ Below w.heap.size w w' := by
  have hu26 := Try.underlying26
  have hu36 := Try.underlying36
  have hu38 := Try.underlying38
  have HB := Aside0.mk (Below.refl w.heap.size w)
  have H : (some (1000, 800, 200, 600, fontG, (([(⟨65, 86, (-80)⟩ : S36), (⟨84, 111, (-60)⟩ : S36), (⟨86, 65, (-80)⟩ : S36)] : List (S36))), (([(⟨102, 105, 64257⟩ : S38), (⟨102, 108, 64258⟩ : S38)] : List (S38))))) = some (r1, r2, r3, r4, r5, r6, r7) := h
  clear h
  obtain ⟨y145, hy145⟩ : ∃ y_ : List (S34), y_ = fontG := ⟨_, rfl⟩
  replace H : (some (1000, 800, 200, 600, y145, (([(⟨65, 86, (-80)⟩ : S36), (⟨84, 111, (-60)⟩ : S36), (⟨86, 65, (-80)⟩ : S36)] : List (S36))), (([(⟨102, 105, 64257⟩ : S38), (⟨102, 108, 64258⟩ : S38)] : List (S38))))) = some (r1, r2, r3, r4, r5, r6, r7) := by first | (rw [hy145]; with_reducible exact H) | (have H2_ := (Option.bind_some _ _).symm.trans H; rw [hy145]; with_reducible exact H2_) | (have H2_ := (Option.bind_some _ _).symm.trans H; with_reducible exact H2_) | with_reducible exact H | (rw [hy145]; exact H) | exact H
  have Ny145 := Aside0.mk hy145
  clear hy145
  obtain ⟨y148, hy148⟩ : ∃ y_ : List (S36), y_ = (([(⟨65, 86, (-80)⟩ : S36), (⟨84, 111, (-60)⟩ : S36), (⟨86, 65, (-80)⟩ : S36)] : List (S36))) := ⟨_, rfl⟩
  replace H : (some (1000, 800, 200, 600, y145, y148, (([(⟨102, 105, 64257⟩ : S38), (⟨102, 108, 64258⟩ : S38)] : List (S38))))) = some (r1, r2, r3, r4, r5, r6, r7) := by first | (rw [hy148]; with_reducible exact H) | (have H2_ := (Option.bind_some _ _).symm.trans H; rw [hy148]; with_reducible exact H2_) | (have H2_ := (Option.bind_some _ _).symm.trans H; with_reducible exact H2_) | with_reducible exact H | (rw [hy148]; exact H) | exact H
  have Ny148 := Aside0.mk hy148
  clear hy148
  obtain ⟨y151, hy151⟩ : ∃ y_ : List (S38), y_ = (([(⟨102, 105, 64257⟩ : S38), (⟨102, 108, 64258⟩ : S38)] : List (S38))) := ⟨_, rfl⟩
  replace H : (some (1000, 800, 200, 600, y145, y148, y151)) = some (r1, r2, r3, r4, r5, r6, r7) := by first | (rw [hy151]; with_reducible exact H) | (have H2_ := (Option.bind_some _ _).symm.trans H; rw [hy151]; with_reducible exact H2_) | (have H2_ := (Option.bind_some _ _).symm.trans H; with_reducible exact H2_) | with_reducible exact H | (rw [hy151]; exact H) | exact H
  have Ny151 := Aside0.mk hy151
  clear hy151
  simp only [Option.some.injEq, Prod.mk.injEq] at H
  obtain ⟨rfl, rfl, rfl, rfl, rfl, rfl, rfl⟩ := H
  go_enter Try.func5, Try.ntmps5
  have hmf : ∀ (fn : Fn) (first cap : Array Value) (w : World), (Instr.makeFunc fn first cap).run Try.prog w = .ok (.func fn first cap) w := fun _ _ _ _ => rfl
  go_wp2_with (first
    | ((with_reducible refine gate_dst (N := 0) rfl ?_); refine box_event ?hg (N := 0) ?hd (cs := #[.int .i64 0, .int .i64 0, .int .i64 0, .int .i64 0, .slice none 0 0, .slice none 0 0, .slice none 0 0]) (t := 26) ?hr ?_; (case hd => rfl); (case hg => rfl); (case hr => first | (go_simp; done) | (go_simp; rfl)); intro gb143 hg w1 hbox hb; have n0_ := Aside0.mk (below_step (by repeat (first | (with_reducible first | exact HB.out | apply below_alloc | apply pw_below_drewN | apply below_drew1) | exact HB.out)) hb); have n1_ := Aside0.mk (hbox); have n2_ := Aside0.mk ((by rw [hg]; exact (below_size (by repeat (first | (with_reducible first | exact HB.out | apply below_alloc | apply pw_below_drewN | apply below_drew1) | exact HB.out))) : w.heap.size ≤ gb143)); have n3_ := Aside0.mk ((by rw [hg]; exact (below_size (by repeat (first | (with_reducible first | exact HB.out | apply below_alloc | apply pw_below_drewN | apply below_drew1) | exact HB.out))) : w.heap.size ≤ gb143)); clear HB; have HB := n0_; have BK143 := n1_; have GW143 := n2_; have GE143 := n3_; clear n0_ n1_ n2_ n3_; clear hb hbox hg)
    | ((with_reducible refine gate_dst (N := 1) rfl ?_); refine box_event ?hg (N := 1) ?hd (cs := #[.int .i64 0, .int .i64 0, .int .i64 0, .int .i64 0, .slice none 0 0, .slice none 0 0, .slice none 0 0]) (t := 26) ?hr ?_; (case hd => rfl); (case hg => rfl); (case hr => first | (go_simp; done) | (go_simp; rfl)); intro gb144 hg w2 hbox hb; have n0_ := Aside0.mk (blk_below (g := gb143) (o := .cells #[.int .i64 0, .int .i64 0, .int .i64 0, .int .i64 0, .slice none 0 0, .slice none 0 0, .slice none 0 0] 26 (0, 0)) (by (with_reducible repeat (first | refine blk_drewN ?_ _ | refine blk_drew ?_ | refine blk_alloc ?_ _)); exact BK143.out) hb); have n1_ := Aside0.mk (below_step (by repeat (first | (with_reducible first | exact HB.out | apply below_alloc | apply pw_below_drewN | apply below_drew1 | refine below_set ?_ GE143.out) | exact HB.out)) hb); have n2_ := Aside0.mk (hbox); have n3_ := Aside0.mk ((by rw [hg]; exact (below_size (by repeat (first | (with_reducible first | exact HB.out | apply below_alloc | apply pw_below_drewN | apply below_drew1 | refine below_set ?_ GE143.out) | exact HB.out))) : w.heap.size ≤ gb144)); have n4_ := Aside0.mk ((by rw [hg]; exact (below_size (by repeat (first | (with_reducible first | exact HB.out | apply below_alloc | apply pw_below_drewN | apply below_drew1 | refine below_set ?_ GE143.out) | exact HB.out))) : w.heap.size ≤ gb144)); have n5_ := Aside0.mk ((by rw [hg]; exact Nat.ne_of_lt (blk_lt (g := gb143) (o := .cells #[.int .i64 0, .int .i64 0, .int .i64 0, .int .i64 0, .slice none 0 0, .slice none 0 0, .slice none 0 0] 26 (0, 0)) (by (with_reducible repeat (first | refine blk_drewN ?_ _ | refine blk_drew ?_ | refine blk_alloc ?_ _)); exact BK143.out)) : gb143 ≠ gb144)); have n6_ := Aside0.mk ((by rw [hg]; exact Nat.ne_of_gt (blk_lt (g := gb143) (o := .cells #[.int .i64 0, .int .i64 0, .int .i64 0, .int .i64 0, .slice none 0 0, .slice none 0 0, .slice none 0 0] 26 (0, 0)) (by (with_reducible repeat (first | refine blk_drewN ?_ _ | refine blk_drew ?_ | refine blk_alloc ?_ _)); exact BK143.out)) : gb144 ≠ gb143)); clear BK143; clear HB; have BK143 := n0_; have HB := n1_; have BK144 := n2_; have GW144 := n3_; have GE144 := n4_; have NB143_144 := n5_; have NB144_143 := n6_; clear n0_ n1_ n2_ n3_ n4_ n5_ n6_; clear hb hbox hg; have hnb3 := NB144_143.out; have hnc3 := NB143_144.out; have hcz4_0 : w2.cell? ⟨gb144, 0, none⟩ = some (.int .i64 0) := (blk_cell BK144.out 0).trans rfl; have hcz4_1 : w2.cell? ⟨gb144, 1, none⟩ = some (.int .i64 0) := (blk_cell BK144.out 1).trans rfl; have hcz4_2 : w2.cell? ⟨gb144, 2, none⟩ = some (.int .i64 0) := (blk_cell BK144.out 2).trans rfl; have hcz4_3 : w2.cell? ⟨gb144, 3, none⟩ = some (.int .i64 0) := (blk_cell BK144.out 3).trans rfl; have hcz4_4 : w2.cell? ⟨gb144, 4, none⟩ = some (.slice none 0 0) := (blk_cell BK144.out 4).trans rfl; have hcz4_5 : w2.cell? ⟨gb144, 5, none⟩ = some (.slice none 0 0) := (blk_cell BK144.out 5).trans rfl; have hcz4_6 : w2.cell? ⟨gb144, 6, none⟩ = some (.slice none 0 0) := (blk_cell BK144.out 6).trans rfl; have hfz4_0 := blk_frozen BK144.out 0; have hfz4_1 := blk_frozen BK144.out 1; have hfz4_2 := blk_frozen BK144.out 2; have hfz4_3 := blk_frozen BK144.out 3; have hfz4_4 := blk_frozen BK144.out 4; have hfz4_5 := blk_frozen BK144.out 5; have hfz4_6 := blk_frozen BK144.out 6)
    | ((with_reducible refine gate_dst (N := 6) rfl ?_); refine Kd.R_lit (Kd.int .i64) _ 3 ?hg (N := 6) ?hd (xs := r300) (inner := [.int .i64 32, .int .i64 33, .int .i64 39, .int .i64 44, .int .i64 46, .int .i64 58, .int .i64 59, .int .i64 105, .int .i64 106, .int .i64 108, .int .i64 124, .int .i64 160]) (ok := fun _ => True) (okp := fun _ => True) ?hr ?hp (fun _ hk => hk) trivial (Below.refl _ _) (Nat.le_refl _) (by simp [r300]) ?_; (case hd => rfl); (case hg => rfl); (case hr => first | (go_simp; done) | (go_simp; rfl)); (case hp => exact Kd.reps_scalar _); intro vi_r300 wi_r300 hoi hb hg_ hnew_; clear hg_ hnew_; have HF := Aside0.mk (FS.mk (below_step (by repeat (first | (with_reducible first | exact HB.out | apply below_alloc | apply pw_below_drewN | apply below_drew1 | refine below_set ?_ GE143.out | refine below_set ?_ GE144.out) | exact HB.out)) hb) (blk_below (g := gb143) (o := .cells #[.int .i64 0, .int .i64 0, .int .i64 0, .int .i64 0, .slice none 0 0, .slice none 0 0, .slice none 0 0] 26 (0, 0)) (by (with_reducible repeat (first | refine blk_drewN ?_ _ | refine blk_drew ?_ | refine blk_alloc ?_ _)); refine blk_far ?_ NB143_144.out _; (with_reducible repeat (first | refine blk_drewN ?_ _ | refine blk_drew ?_ | refine blk_alloc ?_ _)); refine blk_far ?_ NB143_144.out _; (with_reducible repeat (first | refine blk_drewN ?_ _ | refine blk_drew ?_ | refine blk_alloc ?_ _)); refine blk_far ?_ NB143_144.out _; (with_reducible repeat (first | refine blk_drewN ?_ _ | refine blk_drew ?_ | refine blk_alloc ?_ _)); refine blk_far ?_ NB143_144.out _; (with_reducible repeat (first | refine blk_drewN ?_ _ | refine blk_drew ?_ | refine blk_alloc ?_ _)); refine blk_far ?_ NB143_144.out _; (with_reducible repeat (first | refine blk_drewN ?_ _ | refine blk_drew ?_ | refine blk_alloc ?_ _)); refine blk_far ?_ NB143_144.out _; (with_reducible repeat (first | refine blk_drewN ?_ _ | refine blk_drew ?_ | refine blk_alloc ?_ _)); refine blk_far ?_ NB143_144.out _; (with_reducible repeat (first | refine blk_drewN ?_ _ | refine blk_drew ?_ | refine blk_alloc ?_ _)); exact BK143.out) hb) (blk_below (g := gb144) (o := .cells #[.int .i64 1000, .int .i64 800, .int .i64 200, .int .i64 600, .slice none 0 0, .slice none 0 0, .slice none 0 0] 26 (0, 0)) (by (with_reducible repeat (first | refine blk_drewN ?_ _ | refine blk_drew ?_ | refine blk_alloc ?_ _)); refine blk_put (cs := #[.int .i64 1000, .int .i64 800, .int .i64 200, .int .i64 600, .slice none 0 0, .slice none 0 0, .slice none 0 0]) ?_ 6 _ rfl; (with_reducible repeat (first | refine blk_drewN ?_ _ | refine blk_drew ?_ | refine blk_alloc ?_ _)); refine blk_put (cs := #[.int .i64 1000, .int .i64 800, .int .i64 200, .int .i64 600, .slice none 0 0, .slice none 0 0, .slice none 0 0]) ?_ 5 _ rfl; (with_reducible repeat (first | refine blk_drewN ?_ _ | refine blk_drew ?_ | refine blk_alloc ?_ _)); refine blk_put (cs := #[.int .i64 1000, .int .i64 800, .int .i64 200, .int .i64 600, .slice none 0 0, .slice none 0 0, .slice none 0 0]) ?_ 4 _ rfl; (with_reducible repeat (first | refine blk_drewN ?_ _ | refine blk_drew ?_ | refine blk_alloc ?_ _)); refine blk_put (cs := #[.int .i64 1000, .int .i64 800, .int .i64 200, .int .i64 0, .slice none 0 0, .slice none 0 0, .slice none 0 0]) ?_ 3 _ rfl; (with_reducible repeat (first | refine blk_drewN ?_ _ | refine blk_drew ?_ | refine blk_alloc ?_ _)); refine blk_put (cs := #[.int .i64 1000, .int .i64 800, .int .i64 0, .int .i64 0, .slice none 0 0, .slice none 0 0, .slice none 0 0]) ?_ 2 _ rfl; (with_reducible repeat (first | refine blk_drewN ?_ _ | refine blk_drew ?_ | refine blk_alloc ?_ _)); refine blk_put (cs := #[.int .i64 1000, .int .i64 0, .int .i64 0, .int .i64 0, .slice none 0 0, .slice none 0 0, .slice none 0 0]) ?_ 1 _ rfl; (with_reducible repeat (first | refine blk_drewN ?_ _ | refine blk_drew ?_ | refine blk_alloc ?_ _)); refine blk_put (cs := #[.int .i64 0, .int .i64 0, .int .i64 0, .int .i64 0, .slice none 0 0, .slice none 0 0, .slice none 0 0]) ?_ 0 _ rfl; (with_reducible repeat (first | refine blk_drewN ?_ _ | refine blk_drew ?_ | refine blk_alloc ?_ _)); exact BK144.out) hb) (Kd.R_nil _ _ _ _ _) : FS w wi_r300 gb143 gb144 (.slice none 0 0) []); have HI := Aside0.mk (Kd.R_lower hoi (below_size (by repeat (first | (with_reducible first | exact HB.out | apply below_alloc | apply pw_below_drewN | apply below_drew1 | refine below_set ?_ GE143.out | refine below_set ?_ GE144.out) | exact HB.out)))); clear BK143 BK144 HB hoi hb)
    | ((with_reducible refine gate_dst (N := 7) rfl ?_); refine goesCL_ (some 7) rfl rfl Try.func10 (by kernel_rfl) rfl #[.int .i64 300, vi_r300] #[.pointer (some ⟨gb144, 0, none⟩)] #[.int .i64 300, vi_r300, .pointer (some ⟨gb144, 0, none⟩)] rfl (by rfl) (by (try simp only [List.map_toArray, List.map_cons, List.map_nil]); first | done | rfl) (by first | rfl | (simp; done)) ?_; refine (add_calls w _ gb143 gb144 300 _ r300 _ _ HF.out GE144.out NB143_144.out HI.out (by simp [glyphs, r300, r400, r900, r700]) (by simp [r300])).mono ?_; rintro e wc_r300 ⟨rfl, vc_r300, hf⟩; refine ⟨_, rfl, ?_⟩; clear HF HI; have HF := Aside0.mk hf; clear hf)
    | ((with_reducible refine gate_dst (N := 9) rfl ?_); refine Kd.R_lit (Kd.int .i64) _ 3 ?hg (N := 9) ?hd (xs := r400) (inner := [.int .i64 102, .int .i64 114, .int .i64 116, .int .i64 40, .int .i64 41, .int .i64 91, .int .i64 93, .int .i64 45]) (ok := fun _ => True) (okp := fun _ => True) ?hr ?hp (fun _ hk => hk) trivial (Below.refl _ _) (Nat.le_refl _) (by simp [r400]) ?_; (case hd => rfl); (case hg => rfl); (case hr => first | (go_simp; done) | (go_simp; rfl)); (case hp => exact Kd.reps_scalar _); intro vi_r400 wi_r400 hoi hb hg_ hnew_; clear hg_ hnew_; have HI := Aside0.mk (Kd.R_lower hoi HF.out.bel.size); have hf_ := Aside0.mk (HF.out.below hb); clear HF; have HF := hf_; clear hf_ hoi hb)
    | ((with_reducible refine gate_dst (N := 10) rfl ?_); refine goesCL_ (some 10) rfl rfl Try.func10 (by kernel_rfl) rfl #[.int .i64 400, vi_r400] #[.pointer (some ⟨gb144, 0, none⟩)] #[.int .i64 400, vi_r400, .pointer (some ⟨gb144, 0, none⟩)] rfl (by rfl) (by (try simp only [List.map_toArray, List.map_cons, List.map_nil]); first | done | rfl) (by first | rfl | (simp; done)) ?_; refine (add_calls w _ gb143 gb144 400 _ r400 _ _ HF.out GE144.out NB143_144.out HI.out (by simp [glyphs, r300, r400, r900, r700]) (by simp [r400])).mono ?_; rintro e wc_r400 ⟨rfl, vc_r400, hf⟩; refine ⟨_, rfl, ?_⟩; clear HF HI; have HF := Aside0.mk hf; clear hf)
    | ((with_reducible refine gate_dst (N := 12) rfl ?_); refine Kd.R_lit (Kd.int .i64) _ 3 ?hg (N := 12) ?hd (xs := r900) (inner := [.int .i64 77, .int .i64 87, .int .i64 109, .int .i64 119]) (ok := fun _ => True) (okp := fun _ => True) ?hr ?hp (fun _ hk => hk) trivial (Below.refl _ _) (Nat.le_refl _) (by simp [r900]) ?_; (case hd => rfl); (case hg => rfl); (case hr => first | (go_simp; done) | (go_simp; rfl)); (case hp => exact Kd.reps_scalar _); intro vi_r900 wi_r900 hoi hb hg_ hnew_; clear hg_ hnew_; have HI := Aside0.mk (Kd.R_lower hoi HF.out.bel.size); have hf_ := Aside0.mk (HF.out.below hb); clear HF; have HF := hf_; clear hf_ hoi hb)
    | ((with_reducible refine gate_dst (N := 13) rfl ?_); refine goesCL_ (some 13) rfl rfl Try.func10 (by kernel_rfl) rfl #[.int .i64 900, vi_r900] #[.pointer (some ⟨gb144, 0, none⟩)] #[.int .i64 900, vi_r900, .pointer (some ⟨gb144, 0, none⟩)] rfl (by rfl) (by (try simp only [List.map_toArray, List.map_cons, List.map_nil]); first | done | rfl) (by first | rfl | (simp; done)) ?_; refine (add_calls w _ gb143 gb144 900 _ r900 _ _ HF.out GE144.out NB143_144.out HI.out (by simp [glyphs, r300, r400, r900, r700]) (by simp [r900])).mono ?_; rintro e wc_r900 ⟨rfl, vc_r900, hf⟩; refine ⟨_, rfl, ?_⟩; clear HF HI; have HF := Aside0.mk hf; clear hf)
    | ((with_reducible refine gate_dst (N := 15) rfl ?_); refine Kd.R_lit (Kd.int .i64) _ 3 ?hg (N := 15) ?hd (xs := r700) (inner := [.int .i64 64257, .int .i64 64258]) (ok := fun _ => True) (okp := fun _ => True) ?hr ?hp (fun _ hk => hk) trivial (Below.refl _ _) (Nat.le_refl _) (by simp [r700]) ?_; (case hd => rfl); (case hg => rfl); (case hr => first | (go_simp; done) | (go_simp; rfl)); (case hp => exact Kd.reps_scalar _); intro vi_r700 wi_r700 hoi hb hg_ hnew_; clear hg_ hnew_; have HI := Aside0.mk (Kd.R_lower hoi HF.out.bel.size); have hf_ := Aside0.mk (HF.out.below hb); clear HF; have HF := hf_; clear hf_ hoi hb)
    | ((with_reducible refine gate_dst (N := 16) rfl ?_); refine goesCL_ (some 16) rfl rfl Try.func10 (by kernel_rfl) rfl #[.int .i64 700, vi_r700] #[.pointer (some ⟨gb144, 0, none⟩)] #[.int .i64 700, vi_r700, .pointer (some ⟨gb144, 0, none⟩)] rfl (by rfl) (by (try simp only [List.map_toArray, List.map_cons, List.map_nil]); first | done | rfl) (by first | rfl | (simp; done)) ?_; refine (add_calls w _ gb143 gb144 700 _ r700 _ _ HF.out GE144.out NB143_144.out HI.out (by simp [glyphs, r300, r400, r900, r700]) (by simp [r700])).mono ?_; rintro e wc_r700 ⟨rfl, vc_r700, hf⟩; refine ⟨_, rfl, ?_⟩; clear HF HI; have HF := Aside0.mk hf; clear hf; have hcl : wc_r700.cell? ⟨gb144, 4, none⟩ = some vc_r700 := (blk_cell HF.out.bk 4).trans rfl)
    | ((with_reducible refine gate_dst (N := 19) rfl ?_); refine goesL_ (some 19) rfl rfl Try.func11 (by kernel_rfl) rfl #[vc_r700, .func (.func 12) #[] #[]] rfl (by (try simp only [List.map_toArray, List.map_cons, List.map_nil]); first | done | rfl) ?_; refine (sort_calls w _ (rawP.map mkG) fontG vc_r700 (by have h_ := HF.out.row; rw [raw_is] at h_; exact h_) (by simp [rawP, r300, r400, r900, r700]) (by simp [rawP, r300, r400, r900, r700]) font_perm font_sorted font_keys).mono ?_; rintro e w5 ⟨rfl, hr, hg⟩; refine ⟨_, rfl, ?_⟩; have hf := HF.out.sorted hg hr; clear HF hr hg hcl; rw [← Ny145.out] at hf; have HO147 := Aside0.mk hf.row; have BK143 := Aside0.mk hf.bz; have BK144 := Aside0.mk hf.bk; have HB := Aside0.mk hf.bel; clear hf; obtain ⟨Ao7, co7, eo7⟩ := Kd.R_slice HO147.out; subst eo7; have hcz8_0 : w5.cell? ⟨gb144, 0, none⟩ = some (.int .i64 1000) := (blk_cell BK144.out 0).trans rfl; have hcz8_1 : w5.cell? ⟨gb144, 1, none⟩ = some (.int .i64 800) := (blk_cell BK144.out 1).trans rfl; have hcz8_2 : w5.cell? ⟨gb144, 2, none⟩ = some (.int .i64 200) := (blk_cell BK144.out 2).trans rfl; have hcz8_3 : w5.cell? ⟨gb144, 3, none⟩ = some (.int .i64 600) := (blk_cell BK144.out 3).trans rfl; have hcz8_4 : w5.cell? ⟨gb144, 4, none⟩ = some (.slice Ao7 y145.length co7) := (blk_cell BK144.out 4).trans rfl; have hcz8_5 : w5.cell? ⟨gb144, 5, none⟩ = some (.slice none 0 0) := (blk_cell BK144.out 5).trans rfl; have hcz8_6 : w5.cell? ⟨gb144, 6, none⟩ = some (.slice none 0 0) := (blk_cell BK144.out 6).trans rfl; have hfz8_0 := blk_frozen BK144.out 0; have hfz8_1 := blk_frozen BK144.out 1; have hfz8_2 := blk_frozen BK144.out 2; have hfz8_3 := blk_frozen BK144.out 3; have hfz8_4 := blk_frozen BK144.out 4; have hfz8_5 := blk_frozen BK144.out 5; have hfz8_6 := blk_frozen BK144.out 6)
    | ((with_reducible refine gate_dst (N := 23) rfl ?_); refine Kd.R_lit k36 _ 36 ?hg (N := 23) ?hd (xs := ([(⟨65, 86, (-80)⟩ : S36), (⟨84, 111, (-60)⟩ : S36), (⟨86, 65, (-80)⟩ : S36)] : List (S36))) (inner := [.int .i64 65, .int .i64 86, .int .i64 (-80), .int .i64 84, .int .i64 111, .int .i64 (-60), .int .i64 86, .int .i64 65, .int .i64 (-80)]) (ok := fun _ => True) (okp := fun _ => True) ?hr ?hp (fun _ hk => hk) trivial (Below.refl _ _) (Nat.le_refl _) (by simp) ?_; (case hd => rfl); (case hg => rfl); (case hr => first | (go_simp; done) | (go_simp; rfl)); (case hp => exact (Reps.c3 (show Kd.M k36 _ _ _ (⟨65, 86, (-80)⟩ : S36) [.int .i64 65, .int .i64 86, .int .i64 (-80)] from (k36_mkM _ _ _ (⟨65, 86, (-80)⟩ : S36) )) (Reps.c3 (show Kd.M k36 _ _ _ (⟨84, 111, (-60)⟩ : S36) [.int .i64 84, .int .i64 111, .int .i64 (-60)] from (k36_mkM _ _ _ (⟨84, 111, (-60)⟩ : S36) )) (Reps.c3 (show Kd.M k36 _ _ _ (⟨86, 65, (-80)⟩ : S36) [.int .i64 86, .int .i64 65, .int .i64 (-80)] from (k36_mkM _ _ _ (⟨86, 65, (-80)⟩ : S36) )) (Reps.none _ _))))); intro v149 w9 ho10 hb hg_ hnew_; clear hg_ hnew_; (first | rw [← Ny148.out] at ho10 | (simp only [Int.reduceToNat] at ho10; rw [← Ny148.out] at ho10)); have n0_ := Aside0.mk (Kd.R_below (by (with_reducible repeat (first | apply Kd.R_alloc | apply Kd.R_drewN | apply Kd.R_drew)); exact HO147.out) hb); have n1_ := Aside0.mk (Kd.R_lower ho10 (below_size (by repeat (first | (with_reducible first | exact HB.out | apply below_alloc | apply pw_below_drewN | apply below_drew1 | refine below_set ?_ GE143.out | refine below_set ?_ GE144.out) | exact HB.out)))); have n2_ := Aside0.mk (blk_below (g := gb143) (o := .cells #[.int .i64 0, .int .i64 0, .int .i64 0, .int .i64 0, .slice none 0 0, .slice none 0 0, .slice none 0 0] 26 (0, 0)) (by (with_reducible repeat (first | refine blk_drewN ?_ _ | refine blk_drew ?_ | refine blk_alloc ?_ _)); exact BK143.out) hb); have n3_ := Aside0.mk (blk_below (g := gb144) (o := .cells #[.int .i64 1000, .int .i64 800, .int .i64 200, .int .i64 600, .slice Ao7 y145.length co7, .slice none 0 0, .slice none 0 0] 26 (0, 0)) (by (with_reducible repeat (first | refine blk_drewN ?_ _ | refine blk_drew ?_ | refine blk_alloc ?_ _)); exact BK144.out) hb); have n4_ := Aside0.mk (below_step (by repeat (first | (with_reducible first | exact HB.out | apply below_alloc | apply pw_below_drewN | apply below_drew1 | refine below_set ?_ GE143.out | refine below_set ?_ GE144.out) | exact HB.out)) hb); clear HO147; clear BK143; clear BK144; clear HB; have HO147 := n0_; have HO150 := n1_; have BK143 := n2_; have BK144 := n3_; have HB := n4_; clear n0_ n1_ n2_ n3_ n4_; clear hb ho10; obtain ⟨Ao11, co11, eo11⟩ := Kd.R_slice HO150.out; subst eo11; have hcz12_0 : w9.cell? ⟨gb144, 0, none⟩ = some (.int .i64 1000) := (blk_cell BK144.out 0).trans rfl; have hcz12_1 : w9.cell? ⟨gb144, 1, none⟩ = some (.int .i64 800) := (blk_cell BK144.out 1).trans rfl; have hcz12_2 : w9.cell? ⟨gb144, 2, none⟩ = some (.int .i64 200) := (blk_cell BK144.out 2).trans rfl; have hcz12_3 : w9.cell? ⟨gb144, 3, none⟩ = some (.int .i64 600) := (blk_cell BK144.out 3).trans rfl; have hcz12_4 : w9.cell? ⟨gb144, 4, none⟩ = some (.slice Ao7 y145.length co7) := (blk_cell BK144.out 4).trans rfl; have hcz12_5 : w9.cell? ⟨gb144, 5, none⟩ = some (.slice none 0 0) := (blk_cell BK144.out 5).trans rfl; have hcz12_6 : w9.cell? ⟨gb144, 6, none⟩ = some (.slice none 0 0) := (blk_cell BK144.out 6).trans rfl; have hfz12_0 := blk_frozen BK144.out 0; have hfz12_1 := blk_frozen BK144.out 1; have hfz12_2 := blk_frozen BK144.out 2; have hfz12_3 := blk_frozen BK144.out 3; have hfz12_4 := blk_frozen BK144.out 4; have hfz12_5 := blk_frozen BK144.out 5; have hfz12_6 := blk_frozen BK144.out 6)
    | ((with_reducible refine gate_dst (N := 27) rfl ?_); refine Kd.R_lit k38 _ 38 ?hg (N := 27) ?hd (xs := ([(⟨102, 105, 64257⟩ : S38), (⟨102, 108, 64258⟩ : S38)] : List (S38))) (inner := [.int .i64 102, .int .i64 105, .int .i64 64257, .int .i64 102, .int .i64 108, .int .i64 64258]) (ok := fun _ => True) (okp := fun _ => True) ?hr ?hp (fun _ hk => hk) trivial (Below.refl _ _) (Nat.le_refl _) (by simp) ?_; (case hd => rfl); (case hg => rfl); (case hr => first | (go_simp; done) | (go_simp; rfl)); (case hp => exact (Reps.c3 (show Kd.M k38 _ _ _ (⟨102, 105, 64257⟩ : S38) [.int .i64 102, .int .i64 105, .int .i64 64257] from (k38_mkM _ _ _ (⟨102, 105, 64257⟩ : S38) )) (Reps.c3 (show Kd.M k38 _ _ _ (⟨102, 108, 64258⟩ : S38) [.int .i64 102, .int .i64 108, .int .i64 64258] from (k38_mkM _ _ _ (⟨102, 108, 64258⟩ : S38) )) (Reps.none _ _)))); intro v152 w13 ho14 hb hg_ hnew_; clear hg_ hnew_; (first | rw [← Ny151.out] at ho14 | (simp only [Int.reduceToNat] at ho14; rw [← Ny151.out] at ho14)); have n0_ := Aside0.mk (Kd.R_below (by (with_reducible repeat (first | apply Kd.R_alloc | apply Kd.R_drewN | apply Kd.R_drew)); exact (Kd.R_mono (Kd.R_far (p := ⟨gb144, 5, none⟩) (Kd.R_types HO147.out BK144.out (by decide)) (fun _ hk => hk.2) (.slice Ao11 y148.length co11)) (fun _ h_ => h_.1))) hb); have n1_ := Aside0.mk (Kd.R_below (by (with_reducible repeat (first | apply Kd.R_alloc | apply Kd.R_drewN | apply Kd.R_drew)); exact (Kd.R_mono (Kd.R_far (p := ⟨gb144, 5, none⟩) (Kd.R_types HO150.out BK144.out (by decide)) (fun _ hk => hk.2) (.slice Ao11 y148.length co11)) (fun _ h_ => h_.1))) hb); have n2_ := Aside0.mk (Kd.R_lower ho14 (below_size (by repeat (first | (with_reducible first | exact HB.out | apply below_alloc | apply pw_below_drewN | apply below_drew1 | refine below_set ?_ GE143.out | refine below_set ?_ GE144.out) | exact HB.out)))); have n3_ := Aside0.mk (blk_below (g := gb143) (o := .cells #[.int .i64 0, .int .i64 0, .int .i64 0, .int .i64 0, .slice none 0 0, .slice none 0 0, .slice none 0 0] 26 (0, 0)) (by (with_reducible repeat (first | refine blk_drewN ?_ _ | refine blk_drew ?_ | refine blk_alloc ?_ _)); refine blk_far ?_ NB143_144.out _; (with_reducible repeat (first | refine blk_drewN ?_ _ | refine blk_drew ?_ | refine blk_alloc ?_ _)); exact BK143.out) hb); have n4_ := Aside0.mk (blk_below (g := gb144) (o := .cells #[.int .i64 1000, .int .i64 800, .int .i64 200, .int .i64 600, .slice Ao7 y145.length co7, .slice Ao11 y148.length co11, .slice none 0 0] 26 (0, 0)) (by (with_reducible repeat (first | refine blk_drewN ?_ _ | refine blk_drew ?_ | refine blk_alloc ?_ _)); refine blk_put (cs := #[.int .i64 1000, .int .i64 800, .int .i64 200, .int .i64 600, .slice Ao7 y145.length co7, .slice none 0 0, .slice none 0 0]) ?_ 5 _ rfl; (with_reducible repeat (first | refine blk_drewN ?_ _ | refine blk_drew ?_ | refine blk_alloc ?_ _)); exact BK144.out) hb); have n5_ := Aside0.mk (below_step (by repeat (first | (with_reducible first | exact HB.out | apply below_alloc | apply pw_below_drewN | apply below_drew1 | refine below_set ?_ GE143.out | refine below_set ?_ GE144.out) | exact HB.out)) hb); clear HO147; clear HO150; clear BK143; clear BK144; clear HB; have HO147 := n0_; have HO150 := n1_; have HO153 := n2_; have BK143 := n3_; have BK144 := n4_; have HB := n5_; clear n0_ n1_ n2_ n3_ n4_ n5_; clear hb ho14; obtain ⟨Ao15, co15, eo15⟩ := Kd.R_slice HO153.out; subst eo15; have hcz16_0 : w13.cell? ⟨gb144, 0, none⟩ = some (.int .i64 1000) := (blk_cell BK144.out 0).trans rfl; have hcz16_1 : w13.cell? ⟨gb144, 1, none⟩ = some (.int .i64 800) := (blk_cell BK144.out 1).trans rfl; have hcz16_2 : w13.cell? ⟨gb144, 2, none⟩ = some (.int .i64 200) := (blk_cell BK144.out 2).trans rfl; have hcz16_3 : w13.cell? ⟨gb144, 3, none⟩ = some (.int .i64 600) := (blk_cell BK144.out 3).trans rfl; have hcz16_4 : w13.cell? ⟨gb144, 4, none⟩ = some (.slice Ao7 y145.length co7) := (blk_cell BK144.out 4).trans rfl; have hcz16_5 : w13.cell? ⟨gb144, 5, none⟩ = some (.slice Ao11 y148.length co11) := (blk_cell BK144.out 5).trans rfl; have hcz16_6 : w13.cell? ⟨gb144, 6, none⟩ = some (.slice none 0 0) := (blk_cell BK144.out 6).trans rfl; have hfz16_0 := blk_frozen BK144.out 0; have hfz16_1 := blk_frozen BK144.out 1; have hfz16_2 := blk_frozen BK144.out 2; have hfz16_3 := blk_frozen BK144.out 3; have hfz16_4 := blk_frozen BK144.out 4; have hfz16_5 := blk_frozen BK144.out 5; have hfz16_6 := blk_frozen BK144.out 6; have hcz17_0 : w13.cell? ⟨gb143, 0, none⟩ = some (.int .i64 0) := (blk_cell BK143.out 0).trans rfl; have hcz17_1 : w13.cell? ⟨gb143, 1, none⟩ = some (.int .i64 0) := (blk_cell BK143.out 1).trans rfl; have hcz17_2 : w13.cell? ⟨gb143, 2, none⟩ = some (.int .i64 0) := (blk_cell BK143.out 2).trans rfl; have hcz17_3 : w13.cell? ⟨gb143, 3, none⟩ = some (.int .i64 0) := (blk_cell BK143.out 3).trans rfl; have hcz17_4 : w13.cell? ⟨gb143, 4, none⟩ = some (.slice none 0 0) := (blk_cell BK143.out 4).trans rfl; have hcz17_5 : w13.cell? ⟨gb143, 5, none⟩ = some (.slice none 0 0) := (blk_cell BK143.out 5).trans rfl; have hcz17_6 : w13.cell? ⟨gb143, 6, none⟩ = some (.slice none 0 0) := (blk_cell BK143.out 6).trans rfl; have hfz17_0 := blk_frozen BK143.out 0; have hfz17_1 := blk_frozen BK143.out 1; have hfz17_2 := blk_frozen BK143.out 2; have hfz17_3 := blk_frozen BK143.out 3; have hfz17_4 := blk_frozen BK143.out 4; have hfz17_5 := blk_frozen BK143.out 5; have hfz17_6 := blk_frozen BK143.out 6))
  refine bodyPost_ret (results_cell_row rfl _ _ gb143 26 #[.int .i64 1000, .int .i64 800, .int .i64 200, .int .i64 600, .slice Ao7 y145.length co7, .slice Ao11 y148.length co11, .slice Ao15 y151.length co15] (0, 0) _ rfl (by (with_reducible repeat (first | refine blk_drewN ?_ _ | refine blk_drew ?_ | refine blk_alloc ?_ _)); refine blk_put (cs := #[.int .i64 1000, .int .i64 800, .int .i64 200, .int .i64 600, .slice Ao7 y145.length co7, .slice Ao11 y148.length co11, .slice none 0 0]) ?_ 6 _ rfl; (with_reducible repeat (first | refine blk_drewN ?_ _ | refine blk_drew ?_ | refine blk_alloc ?_ _)); refine blk_put (cs := #[.int .i64 1000, .int .i64 800, .int .i64 200, .int .i64 600, .slice Ao7 y145.length co7, .slice none 0 0, .slice none 0 0]) ?_ 5 _ rfl; (with_reducible repeat (first | refine blk_drewN ?_ _ | refine blk_drew ?_ | refine blk_alloc ?_ _)); refine blk_put (cs := #[.int .i64 1000, .int .i64 800, .int .i64 200, .int .i64 600, .slice none 0 0, .slice none 0 0, .slice none 0 0]) ?_ 4 _ rfl; (with_reducible repeat (first | refine blk_drewN ?_ _ | refine blk_drew ?_ | refine blk_alloc ?_ _)); refine blk_put (cs := #[.int .i64 1000, .int .i64 800, .int .i64 200, .int .i64 0, .slice none 0 0, .slice none 0 0, .slice none 0 0]) ?_ 3 _ rfl; (with_reducible repeat (first | refine blk_drewN ?_ _ | refine blk_drew ?_ | refine blk_alloc ?_ _)); refine blk_put (cs := #[.int .i64 1000, .int .i64 800, .int .i64 0, .int .i64 0, .slice none 0 0, .slice none 0 0, .slice none 0 0]) ?_ 2 _ rfl; (with_reducible repeat (first | refine blk_drewN ?_ _ | refine blk_drew ?_ | refine blk_alloc ?_ _)); refine blk_put (cs := #[.int .i64 1000, .int .i64 0, .int .i64 0, .int .i64 0, .slice none 0 0, .slice none 0 0, .slice none 0 0]) ?_ 1 _ rfl; (with_reducible repeat (first | refine blk_drewN ?_ _ | refine blk_drew ?_ | refine blk_alloc ?_ _)); refine blk_put (cs := #[.int .i64 0, .int .i64 0, .int .i64 0, .int .i64 0, .slice none 0 0, .slice none 0 0, .slice none 0 0]) ?_ 0 _ rfl; (with_reducible repeat (first | refine blk_drewN ?_ _ | refine blk_drew ?_ | refine blk_alloc ?_ _)); refine blk_far ?_ NB143_144.out _; (with_reducible repeat (first | refine blk_drewN ?_ _ | refine blk_drew ?_ | refine blk_alloc ?_ _)); exact BK143.out) Try.underlying26 rfl (by kernel_rfl)) rfl ?_
  exact ⟨_, _, _, by first | rfl | (simp [errW_none, errW_some] <;> rfl) | (simp [*, errW_none, errW_some] <;> rfl), by (with_reducible repeat (first | apply Kd.R_alloc | apply Kd.R_drewN | apply Kd.R_drew)); exact Kd.R_mono (Kd.R_far (p := ⟨gb143, 6, none⟩) (Kd.R_far (p := ⟨gb143, 5, none⟩) (Kd.R_far (p := ⟨gb143, 4, none⟩) (Kd.R_far (p := ⟨gb143, 3, none⟩) (Kd.R_far (p := ⟨gb143, 2, none⟩) (Kd.R_far (p := ⟨gb143, 1, none⟩) (Kd.R_far (p := ⟨gb143, 0, none⟩) (Kd.R_far (p := ⟨gb144, 6, none⟩) (Kd.R_types (Kd.R_types HO147.out BK144.out (by decide)) BK143.out (by decide)) (fun _ hk => hk.1.2) (.slice Ao15 y151.length co15)) (fun _ hk => hk.2) (.int .i64 1000)) (fun _ hk => hk.2) (.int .i64 800)) (fun _ hk => hk.2) (.int .i64 200)) (fun _ hk => hk.2) (.int .i64 600)) (fun _ hk => hk.2) (.slice Ao7 y145.length co7)) (fun _ hk => hk.2) (.slice Ao11 y148.length co11)) (fun _ hk => hk.2) (.slice Ao15 y151.length co15)) (fun _ hk => trivial), by (with_reducible repeat (first | apply Kd.R_alloc | apply Kd.R_drewN | apply Kd.R_drew)); exact Kd.R_mono (Kd.R_far (p := ⟨gb143, 6, none⟩) (Kd.R_far (p := ⟨gb143, 5, none⟩) (Kd.R_far (p := ⟨gb143, 4, none⟩) (Kd.R_far (p := ⟨gb143, 3, none⟩) (Kd.R_far (p := ⟨gb143, 2, none⟩) (Kd.R_far (p := ⟨gb143, 1, none⟩) (Kd.R_far (p := ⟨gb143, 0, none⟩) (Kd.R_far (p := ⟨gb144, 6, none⟩) (Kd.R_types (Kd.R_types HO150.out BK144.out (by decide)) BK143.out (by decide)) (fun _ hk => hk.1.2) (.slice Ao15 y151.length co15)) (fun _ hk => hk.2) (.int .i64 1000)) (fun _ hk => hk.2) (.int .i64 800)) (fun _ hk => hk.2) (.int .i64 200)) (fun _ hk => hk.2) (.int .i64 600)) (fun _ hk => hk.2) (.slice Ao7 y145.length co7)) (fun _ hk => hk.2) (.slice Ao11 y148.length co11)) (fun _ hk => hk.2) (.slice Ao15 y151.length co15)) (fun _ hk => trivial), by (with_reducible repeat (first | apply Kd.R_alloc | apply Kd.R_drewN | apply Kd.R_drew)); exact Kd.R_mono (Kd.R_far (p := ⟨gb143, 6, none⟩) (Kd.R_far (p := ⟨gb143, 5, none⟩) (Kd.R_far (p := ⟨gb143, 4, none⟩) (Kd.R_far (p := ⟨gb143, 3, none⟩) (Kd.R_far (p := ⟨gb143, 2, none⟩) (Kd.R_far (p := ⟨gb143, 1, none⟩) (Kd.R_far (p := ⟨gb143, 0, none⟩) (Kd.R_far (p := ⟨gb144, 6, none⟩) (Kd.R_types (Kd.R_types HO153.out BK144.out (by decide)) BK143.out (by decide)) (fun _ hk => hk.1.2) (.slice Ao15 y151.length co15)) (fun _ hk => hk.2) (.int .i64 1000)) (fun _ hk => hk.2) (.int .i64 800)) (fun _ hk => hk.2) (.int .i64 200)) (fun _ hk => hk.2) (.int .i64 600)) (fun _ hk => hk.2) (.slice Ao7 y145.length co7)) (fun _ hk => hk.2) (.slice Ao11 y148.length co11)) (fun _ hk => hk.2) (.slice Ao15 y151.length co15)) (fun _ hk => trivial), by repeat (first | (with_reducible first | exact HB.out | apply below_alloc | apply pw_below_drewN | apply below_drew1 | refine below_set ?_ GE143.out | refine below_set ?_ GE144.out) | exact HB.out)⟩

/-! ### laws_eqGlyph: function 26 -/
def laws_eqGlyph.f (a0_0 : Int) (a0_1 : Int) (a1_0 : Int) (a1_1 : Int) : Option (Bool) := if a0_0 = a1_0 then (if a0_1 = a1_1 then (some true) else (none)) else (none)
set_option maxHeartbeats 8000000 in
set_option maxRecDepth 100000 in
theorem laws_eqGlyph.calls (a0_0 : Int) (a0_1 : Int) (a1_0 : Int) (a1_1 : Int) (r : Bool) (w : World) (h : laws_eqGlyph.f a0_0 a0_1 a1_0 a1_1 = some r) :
    Calls Try.prog 26 #[.agg #[.int .i64 a0_0, .int .i64 a0_1], .agg #[.int .i64 a1_0, .int .i64 a1_1]] w fun e w' => e = .returned (.bool r) ∧ Below w.heap.size w w' := by
  have hu34 := Try.underlying34
  have HB := Aside0.mk (Below.refl w.heap.size w)
  have H : (if a0_0 = a1_0 then (if a0_1 = a1_1 then (some true) else (none)) else (none)) = some r := h
  clear h
  by_cases c3 : a0_0 = a1_0
  · rw [if_pos c3] at H
    have c3b0 : (a0_0 == a1_0) = true := beq_iff_eq.mpr c3
    have c3b1 : (a0_0 != a1_0) = false := bne_eq_false_iff_eq.mpr c3
    clear c3
    by_cases c4 : a0_1 = a1_1
    · rw [if_pos c4] at H
      have c4b0 : (a0_1 == a1_1) = true := beq_iff_eq.mpr c4
      have c4b1 : (a0_1 != a1_1) = false := bne_eq_false_iff_eq.mpr c4
      clear c4
      obtain rfl := Option.some.inj H
      go_enter Try.func26, Try.ntmps26
      go_wp2_with (first | ((with_reducible refine gate_dst (N := 2) rfl ?_); refine box_event ?hg (N := 2) ?hd (cs := #[.int .i64 a0_0, .int .i64 a0_1]) (t := 34) ?hr ?_; (case hd => rfl); (case hg => rfl); (case hr => first | (go_simp; done) | (go_simp; rfl)); intro gb154 hg w5 hbox hb; have n0_ := Aside0.mk (below_step (by repeat (first | (with_reducible first | exact HB.out | apply below_alloc | apply pw_below_drewN | apply below_drew1) | exact HB.out)) hb); have n1_ := Aside0.mk (hbox); have n2_ := Aside0.mk ((by rw [hg]; exact (below_size (by repeat (first | (with_reducible first | exact HB.out | apply below_alloc | apply pw_below_drewN | apply below_drew1) | exact HB.out))) : w.heap.size ≤ gb154)); have n3_ := Aside0.mk ((by rw [hg]; exact (below_size (by repeat (first | (with_reducible first | exact HB.out | apply below_alloc | apply pw_below_drewN | apply below_drew1) | exact HB.out))) : w.heap.size ≤ gb154)); clear HB; have HB := n0_; have BK154 := n1_; have GW154 := n2_; have GE154 := n3_; clear n0_ n1_ n2_ n3_; clear hb hbox hg) | ((with_reducible refine gate_dst (N := 3) rfl ?_); refine box_event ?hg (N := 3) ?hd (cs := #[.int .i64 a1_0, .int .i64 a1_1]) (t := 34) ?hr ?_; (case hd => rfl); (case hg => rfl); (case hr => first | (go_simp; done) | (go_simp; rfl)); intro gb155 hg w6 hbox hb; have n0_ := Aside0.mk (blk_below (g := gb154) (o := .cells #[.int .i64 a0_0, .int .i64 a0_1] 34 (0, 0)) (by (with_reducible repeat (first | refine blk_drewN ?_ _ | refine blk_drew ?_ | refine blk_alloc ?_ _)); exact BK154.out) hb); have n1_ := Aside0.mk (below_step (by repeat (first | (with_reducible first | exact HB.out | apply below_alloc | apply pw_below_drewN | apply below_drew1 | refine below_set ?_ GE154.out) | exact HB.out)) hb); have n2_ := Aside0.mk (hbox); have n3_ := Aside0.mk ((by rw [hg]; exact (below_size (by repeat (first | (with_reducible first | exact HB.out | apply below_alloc | apply pw_below_drewN | apply below_drew1 | refine below_set ?_ GE154.out) | exact HB.out))) : w.heap.size ≤ gb155)); have n4_ := Aside0.mk ((by rw [hg]; exact (below_size (by repeat (first | (with_reducible first | exact HB.out | apply below_alloc | apply pw_below_drewN | apply below_drew1 | refine below_set ?_ GE154.out) | exact HB.out))) : w.heap.size ≤ gb155)); have n5_ := Aside0.mk ((by rw [hg]; exact Nat.ne_of_lt (blk_lt (g := gb154) (o := .cells #[.int .i64 a0_0, .int .i64 a0_1] 34 (0, 0)) (by (with_reducible repeat (first | refine blk_drewN ?_ _ | refine blk_drew ?_ | refine blk_alloc ?_ _)); exact BK154.out)) : gb154 ≠ gb155)); have n6_ := Aside0.mk ((by rw [hg]; exact Nat.ne_of_gt (blk_lt (g := gb154) (o := .cells #[.int .i64 a0_0, .int .i64 a0_1] 34 (0, 0)) (by (with_reducible repeat (first | refine blk_drewN ?_ _ | refine blk_drew ?_ | refine blk_alloc ?_ _)); exact BK154.out)) : gb155 ≠ gb154)); clear BK154; clear HB; have BK154 := n0_; have HB := n1_; have BK155 := n2_; have GW155 := n3_; have GE155 := n4_; have NB154_155 := n5_; have NB155_154 := n6_; clear n0_ n1_ n2_ n3_ n4_ n5_ n6_; clear hb hbox hg; have hnb7 := NB154_155.out; have hnc7 := NB155_154.out; have hcz8_0 : w6.cell? ⟨gb154, 0, none⟩ = some (.int .i64 a0_0) := (blk_cell BK154.out 0).trans rfl; have hcz8_1 : w6.cell? ⟨gb154, 1, none⟩ = some (.int .i64 a0_1) := (blk_cell BK154.out 1).trans rfl; have hfz8_0 := blk_frozen BK154.out 0; have hfz8_1 := blk_frozen BK154.out 1; have hcz9_0 : w6.cell? ⟨gb155, 0, none⟩ = some (.int .i64 a1_0) := (blk_cell BK155.out 0).trans rfl; have hcz9_1 : w6.cell? ⟨gb155, 1, none⟩ = some (.int .i64 a1_1) := (blk_cell BK155.out 1).trans rfl; have hfz9_0 := blk_frozen BK155.out 0; have hfz9_1 := blk_frozen BK155.out 1))
      go_ret
      exact ⟨by first | rfl | (simp [errW_none, errW_some] <;> rfl) | (simp [*, errW_none, errW_some] <;> rfl), by repeat (first | (with_reducible first | exact HB.out | apply below_alloc | apply pw_below_drewN | apply below_drew1 | refine below_set ?_ GE154.out | refine below_set ?_ GE155.out) | exact HB.out)⟩
    · rw [if_neg c4] at H
      exact absurd H (by simp)
  · rw [if_neg c3] at H
    exact absurd H (by simp)

/-! ### laws_eqGlyphS: function 14 -/
def laws_eqGlyphS.l0 : Nat → List (S34) → List (S34) → Int → Option (Bool)
  | 0, _, _, _ => none
  | k + 1, x0, x1, x5 => if x5 < (x0.length : Int) then (if 0 ≤ x5 then (if x5 < (x1.length : Int) then ((laws_eqGlyph.f ((rd_T34 x0 x5).f0) ((rd_T34 x0 x5).f1) ((rd_T34 x1 x5).f0) ((rd_T34 x1 x5).f1)).bind fun t158 => (if t158 = true then (laws_eqGlyphS.l0 k x0 x1 (wrap64 (x5 + 1))) else (none))) else (none)) else (none)) else (some true)
def laws_eqGlyphS.f (k : Nat) (l0 : List (S34)) (l1 : List (S34)) : Option (Bool) := if (l0.length : Int) = (l1.length : Int) then (laws_eqGlyphS.l0 k l0 l1 0) else (none)
theorem laws_eqGlyphS.mono_l : ∀ k, (∀ y0 y1 y2, LeO (laws_eqGlyphS.l0 k y0 y1 y2) (laws_eqGlyphS.l0 (k + 1) y0 y1 y2))
  | 0 => fun _ _ _ r h => by simp [laws_eqGlyphS.l0] at h
  | k + 1 => by
    have ih0 := laws_eqGlyphS.mono_l k
    · intro y0 y1 y2
      unfold laws_eqGlyphS.l0
      repeat' first
      | (with_reducible exact ih0 _ _ _)
      | (with_reducible exact LeO.refl _)
      | (with_reducible exact LeO.none _)
      | (with_reducible refine LeO.ite ?_ ?_)
      | (with_reducible refine LeO.bind ?_ (fun _ => ?_))
      | exact ih0 _ _ _
      | exact LeO.none _
      | refine LeO.ite ?_ ?_
      | refine LeO.bind ?_ (fun _ => ?_)
theorem laws_eqGlyphS.mono : ∀ a0 a1 k, LeO (laws_eqGlyphS.f k a0 a1) (laws_eqGlyphS.f (k + 1) a0 a1) := by
  intro a0 a1 k
  have ih0 := laws_eqGlyphS.mono_l k
  unfold laws_eqGlyphS.f
  repeat' first
      | (with_reducible exact ih0 _ _ _)
      | (with_reducible exact LeO.refl _)
      | (with_reducible exact LeO.none _)
      | (with_reducible refine LeO.ite ?_ ?_)
      | (with_reducible refine LeO.bind ?_ (fun _ => ?_))
      | exact ih0 _ _ _
      | exact LeO.none _
      | refine LeO.ite ?_ ?_
      | refine LeO.bind ?_ (fun _ => ?_)
def laws_eqGlyphS.T6 : Bool × List (List Nat × List Nat) := (true, [([], []), ([], []), ([0, 1], [0, 1]), ([2], [2]), ([], []), ([], []), ([4, 5], [4, 5]), ([6], [6]), ([3, 7], [3, 7]), ([8], [8])])
def laws_eqGlyphS.B6 : List Nat := [0, 0, 3, 7, 0, 0, 48, 112, 255, 511]
theorem laws_eqGlyphS.tab6 : rtab .any (opsOf Try.f14 6) = laws_eqGlyphS.T6 := by kernel_rfl
theorem laws_eqGlyphS.bits6 : waitsOk laws_eqGlyphS.T6.2 laws_eqGlyphS.B6 = true := by kernel_rfl
set_option maxHeartbeats 8000000 in
set_option maxRecDepth 100000 in
theorem laws_eqGlyphS.calls (k : Nat) (A0 : Option Addr) (c0 : Nat) (l0 : List (S34)) (A1 : Option Addr) (c1 : Nat) (l1 : List (S34)) (r : Bool) (w : World) (hr0 : Kd.C k34 w A0 l0.length l0) (hc0 : l0.length ≤ c0) (hr1 : Kd.C k34 w A1 l1.length l1) (hc1 : l1.length ≤ c1) (h : laws_eqGlyphS.f k l0 l1 = some r) :
    Calls Try.prog 14 #[.slice A0 l0.length c0, .slice A1 l1.length c1] w fun e w' => e = .returned (.bool r) ∧ Below w.heap.size w w' := by
  have hu34 := Try.underlying34
  have HR0 := Aside0.mk hr0
  have HC0 := Aside0.mk hc0
  clear hr0 hc0
  have HR1 := Aside0.mk hr1
  have HC1 := Aside0.mk hc1
  clear hr1 hc1
  have HB := Aside0.mk (Below.refl w.heap.size w)
  have H : (if (l0.length : Int) = (l1.length : Int) then (laws_eqGlyphS.l0 k l0 l1 0) else (none)) = some r := h
  clear h
  by_cases c3 : (l0.length : Int) = (l1.length : Int)
  · rw [if_pos c3] at H
    have c3b0 : ((l0.length : Int) == (l1.length : Int)) = true := beq_iff_eq.mpr c3
    have c3b1 : ((l0.length : Int) != (l1.length : Int)) = false := bne_eq_false_iff_eq.mpr c3
    have c3b2 : (l0.length == l1.length) = true := by first | simpa using c3 | (simp at c3 ⊢; omega)
    clear c3
    have H' := Aside0.mk H
    clear H
    go_enter Try.func14, Try.ntmps14
    go_wp2
    go_loopg [5] k (fun kq v5 w' => ∃ (x5_1 : Int), v5 = .int .i64 x5_1 ∧ Aside0 (laws_eqGlyphS.l0 kq l0 l1 x5_1 = some r) ∧ Aside0 (kq ≤ k) ∧ Aside0 (Below w.heap.size w w'))
    case atStart => exact ⟨(0), (by first | rfl | (simp; done) | (simp [*]; done)), H', ⟨Nat.le_refl _⟩, ⟨by repeat (first | (with_reducible first | exact HB.out | apply below_alloc | apply pw_below_drewN | apply below_drew1) | exact HB.out)⟩⟩
    case round =>
      clear H'
      try clear c1
      try clear p2
      try clear c3
      try clear c3b0
      try clear c3b1
      try clear c3b2
      obtain ⟨x5_1, rfl, HA, HK1, HB⟩ := hrel
      cases gk with
      | zero => exact absurd HA.out (by simp [laws_eqGlyphS.l0])
      | succ k1 =>
        have H := HA.out
        clear HA
        simp only [laws_eqGlyphS.l0] at H
        by_cases c4 : x5_1 < (l0.length : Int)
        · rw [if_pos c4] at H
          have c4b0 : decide (x5_1 < (l0.length : Int)) = true := decide_eq_true c4
          clear c4
          by_cases c5 : 0 ≤ x5_1
          · rw [if_pos c5] at H
            have c5b0 : decide (0 ≤ x5_1) = true := decide_eq_true c5
            clear c5
            by_cases c6 : x5_1 < (l1.length : Int)
            · rw [if_pos c6] at H
              have c6b0 : decide (x5_1 < (l1.length : Int)) = true := decide_eq_true c6
              clear c6
              replace H := Option.bind_eq_some_iff.mp H
              obtain ⟨t158, A70, H⟩ := H
              replace H : (if t158 = true then (laws_eqGlyphS.l0 k1 l0 l1 (wrap64 (x5_1 + 1))) else (none)) = some r := H
              have A7 := Aside0.mk A70
              clear A70
              by_cases c8 : t158 = true
              · subst c8
                have H1 : (laws_eqGlyphS.l0 k1 l0 l1 (wrap64 (x5_1 + 1))) = some r := by rw [if_pos rfl] at H; exact H
                clear H
                have H := H1
                clear H1
                have H' := Aside0.mk H
                clear H
                try go_wp2
                have n0_ := Aside0.mk (below_drew1 HB.out)
                clear HB
                have HB := n0_
                clear n0_
                have p156 : 0 ≤ (x5_1 : Int) := of_decide_eq_true (by first | (with_reducible assumption) | assumption)
                have q156 : x5_1 < (l0.length : Int) := of_decide_eq_true (by first | (with_reducible assumption) | assumption)
                obtain ⟨ad156, e156, hx156_0, hx156_1⟩ := at_T34 HR0.out x5_1 p156 q156
                have hw156_1 := hx156_1
                have hw156_0 := hx156_0
                cases e156
                replace hx156_0 := (HB.out.cell (World.block_lt_of_cell? w _ hx156_0)).trans hx156_0
                replace hx156_1 := (HB.out.cell (World.block_lt_of_cell? w _ hx156_1)).trans hx156_1
                replace p156 := eq_true p156
                replace q156 := eq_true q156
                have p157 : 0 ≤ (x5_1 : Int) := of_decide_eq_true (by first | (with_reducible assumption) | assumption)
                have q157 : x5_1 < (l1.length : Int) := of_decide_eq_true (by first | (with_reducible assumption) | assumption)
                obtain ⟨ad157, e157, hx157_0, hx157_1⟩ := at_T34 HR1.out x5_1 p157 q157
                have hw157_1 := hx157_1
                have hw157_0 := hx157_0
                cases e157
                replace hx157_0 := (HB.out.cell (World.block_lt_of_cell? w _ hx157_0)).trans hx157_0
                replace hx157_1 := (HB.out.cell (World.block_lt_of_cell? w _ hx157_1)).trans hx157_1
                replace p157 := eq_true p157
                replace q157 := eq_true q157
                refine start_ (n := 10) (S := fun w' => w'.cell? (ad156.add ((x5_1).toNat * 2)) = some (.int .i64 ((rd_T34 l0 x5_1).f0)) ∧ w'.cell? ⟨(ad156.add ((x5_1).toNat * 2)).block, (ad156.add ((x5_1).toNat * 2)).off + 1, none⟩ = some (.int .i64 ((rd_T34 l0 x5_1).f1)) ∧ w'.cell? (ad157.add ((x5_1).toNat * 2)) = some (.int .i64 ((rd_T34 l1 x5_1).f0)) ∧ w'.cell? ⟨(ad157.add ((x5_1).toNat * 2)).block, (ad157.add ((x5_1).toNat * 2)).off + 1, none⟩ = some (.int .i64 ((rd_T34 l1 x5_1).f1))) (ds := []) #[false, false, false, false, false, false, false, false, false, false] (by kernel_rfl) rfl rfl ⟨((HB.out.cell (World.block_lt_of_cell? w _ hw156_0)).trans hw156_0), ((HB.out.cell (World.block_lt_of_cell? w _ hw156_1)).trans hw156_1), ((HB.out.cell (World.block_lt_of_cell? w _ hw157_0)).trans hw157_0), ((HB.out.cell (World.block_lt_of_cell? w _ hw157_1)).trans hw157_1)⟩ (fun hHeld => ?_); refine with_tabW laws_eqGlyphS.tab6 laws_eqGlyphS.bits6 (fun HT_ HW_ => ?_)
                generalize wr.drew = w9 at HB hx156_0 hx156_1 hx157_0 hx157_1 hHeld ⊢
                refine pure_ (i := 0) (N := some 17) (v := ?_) (a' := ?_) #[true, false, false, false, false, false, false, false, false, false] rfl rfl (any_of HT_.out (by kernel_rfl)) (fun _ _ _ h => h) (Or.inl ⟨by rfl, ?_⟩) ?_ ?_
                rotate_left
                · intro w'
                  go_simp
                  with_reducible rfl
                rotate_left
                · simp only [Act.put, List.setIfInBounds_toArray, List.set_cons_zero, List.set_cons_succ, i64_w, i32_w]
                  rfl
                refine pure_ (i := 1) (N := some 18) (v := ?_) (a' := ?_) #[true, true, false, false, false, false, false, false, false, false] rfl rfl (any_of HT_.out (by kernel_rfl)) (fun _ _ _ h => h) (Or.inl ⟨by rfl, ?_⟩) ?_ ?_
                rotate_left
                · intro w'
                  go_simp
                  with_reducible rfl
                rotate_left
                · simp only [Act.put, List.setIfInBounds_toArray, List.set_cons_zero, List.set_cons_succ, i64_w, i32_w]
                  rfl
                refine pure_ (i := 2) (N := some 19) (v := ?_) (a' := ?_) #[true, true, true, false, false, false, false, false, false, false] rfl rfl (any_of HT_.out (by kernel_rfl)) (fun _ _ _ h => h) (Or.inl ⟨by rfl, ?_⟩) ?_ ?_
                rotate_left
                · intro w'
                  go_simp
                  with_reducible rfl
                rotate_left
                · simp only [Act.put, List.setIfInBounds_toArray, List.set_cons_zero, List.set_cons_succ, i64_w, i32_w]
                  rfl
                refine pure_ (i := 4) (N := some 21) (v := ?_) (a' := ?_) #[true, true, true, false, true, false, false, false, false, false] rfl rfl (any_of HT_.out (by kernel_rfl)) (fun _ _ _ h => h) (Or.inl ⟨by rfl, ?_⟩) ?_ ?_
                rotate_left
                · intro w'
                  go_simp
                  with_reducible rfl
                rotate_left
                · simp only [Act.put, List.setIfInBounds_toArray, List.set_cons_zero, List.set_cons_succ, i64_w, i32_w]
                  rfl
                refine pure_ (i := 5) (N := some 22) (v := ?_) (a' := ?_) #[true, true, true, false, true, true, false, false, false, false] rfl rfl (any_of HT_.out (by kernel_rfl)) (fun _ _ _ h => h) (Or.inl ⟨by rfl, ?_⟩) ?_ ?_
                rotate_left
                · intro w'
                  go_simp
                  with_reducible rfl
                rotate_left
                · simp only [Act.put, List.setIfInBounds_toArray, List.set_cons_zero, List.set_cons_succ, i64_w, i32_w]
                  rfl
                refine pure_ (i := 6) (N := some 23) (v := ?_) (a' := ?_) #[true, true, true, false, true, true, true, false, false, false] rfl rfl (any_of HT_.out (by kernel_rfl)) (fun _ _ _ h => h) (Or.inl ⟨by rfl, ?_⟩) ?_ ?_
                rotate_left
                · intro w'
                  go_simp
                  with_reducible rfl
                rotate_left
                · simp only [Act.put, List.setIfInBounds_toArray, List.set_cons_zero, List.set_cons_succ, i64_w, i32_w]
                  rfl
                refine take_ (i := 3) (N := some 20) (v := ?_) (a' := ?_) #[true, true, true, true, true, true, true, false, false, false] rfl rfl (take_ofW HT_.out HW_.out (by kernel_rfl)) (fun _ _ _ h => h) (Or.inl ⟨by rfl, ?_⟩) hHeld ?_ ?_
                rotate_left
                · rintro w' ⟨s0, s1, s2, s3⟩
                  go_simp
                  with_reducible rfl
                rotate_left
                · simp only [Act.put, List.setIfInBounds_toArray, List.set_cons_zero, List.set_cons_succ, i64_w, i32_w]
                  rfl
                refine take_ (i := 7) (N := some 24) (v := ?_) (a' := ?_) #[true, true, true, true, true, true, true, true, false, false] rfl rfl (take_ofW HT_.out HW_.out (by kernel_rfl)) (fun _ _ _ h => h) (Or.inl ⟨by rfl, ?_⟩) hHeld ?_ ?_
                rotate_left
                · rintro w' ⟨s0, s1, s2, s3⟩
                  go_simp
                  with_reducible rfl
                rotate_left
                · simp only [Act.put, List.setIfInBounds_toArray, List.set_cons_zero, List.set_cons_succ, i64_w, i32_w]
                  rfl
                refine one_ (i := 8) (N := some 25) #[true, true, true, true, true, true, true, true, true, false] rfl rfl (one_of HT_.out (by kernel_rfl)) (by decide) (fun K hK => ?_)
                refine goes_ Try.func26 (by kernel_rfl) rfl #[.agg #[.int .i64 ((rd_T34 l0 x5_1).f0), .int .i64 ((rd_T34 l0 x5_1).f1)], .agg #[.int .i64 ((rd_T34 l1 x5_1).f0), .int .i64 ((rd_T34 l1 x5_1).f1)]] (by rfl) rfl rfl (by (try simp only [List.map_toArray, List.map_cons, List.map_nil]); first | done | rfl | (simp only [List.length_drop, List.length_take]; rfl)) ?_
                with_reducible refine (laws_eqGlyph.calls ((rd_T34 l0 x5_1).f0) ((rd_T34 l0 x5_1).f1) ((rd_T34 l1 x5_1).f0) ((rd_T34 l1 x5_1).f1) true _ A7.out).mono ?_
                rintro e w10 ⟨rfl, hb⟩
                refine ⟨_, rfl, ?_⟩
                have n0_ := Aside0.mk (below_step (by repeat (first | (with_reducible first | exact HB.out | apply below_alloc | apply pw_below_drewN | apply below_drew1) | exact HB.out)) hb)
                clear HB
                have HB := n0_
                clear n0_
                (try clear hb)
                (try clear hb2)
                (try clear hk)
                (try clear hi)
                refine hK.out _ _ ⟨((HB.out.cell (World.block_lt_of_cell? w _ hw156_0)).trans hw156_0), ((HB.out.cell (World.block_lt_of_cell? w _ hw156_1)).trans hw156_1), ((HB.out.cell (World.block_lt_of_cell? w _ hw157_0)).trans hw157_0), ((HB.out.cell (World.block_lt_of_cell? w _ hw157_1)).trans hw157_1)⟩ (fun hHeld => ?_)
                clear hK K
                refine norm_ (a' := ?_) ?_ ?_
                rotate_left
                · show Act.put _ (some 25) _ = _
                  simp only [Act.put, List.setIfInBounds_toArray, List.set_cons_zero, List.set_cons_succ, i64_w, i32_w]
                  rfl
                refine pure_ (i := 9) (N := some 26) (v := ?_) (a' := ?_) #[true, true, true, true, true, true, true, true, true, true] rfl rfl (any_of HT_.out (by kernel_rfl)) (fun _ _ _ h => h) (Or.inl ⟨by rfl, ?_⟩) ?_ ?_
                rotate_left
                · intro w'
                  go_simp
                  with_reducible rfl
                rotate_left
                · simp only [Act.put, List.setIfInBounds_toArray, List.set_cons_zero, List.set_cons_succ, i64_w, i32_w]
                  rfl
                refine done_ (done_of HT_.out (by kernel_rfl)) ?_
                try go_wp2
                go_roundg k1
                case measure => have := HK1.out; omega
                case rel => exact ⟨(wrap64 (x5_1 + 1)), (by first | rfl | (simp; done) | (simp [*]; done)), H', ⟨by have := HK1.out; omega⟩, ⟨by repeat (first | (with_reducible first | exact HB.out | apply below_alloc | apply pw_below_drewN | apply below_drew1) | exact HB.out)⟩⟩
              · replace c8 := Bool.eq_false_iff.mpr c8
                subst c8
                exact absurd H (by simp)
            · rw [if_neg c6] at H
              exact absurd H (by simp)
          · rw [if_neg c5] at H
            exact absurd H (by simp)
        · rw [if_neg c4] at H
          have c4b0 : decide (x5_1 < (l0.length : Int)) = false := decide_eq_false c4
          clear c4
          obtain rfl := Option.some.inj H
          go_wp2
          go_ret
          exact ⟨by first | rfl | (simp [errW_none, errW_some] <;> rfl) | (simp [*, errW_none, errW_some] <;> rfl), by repeat (first | (with_reducible first | exact HB.out | apply below_alloc | apply pw_below_drewN | apply below_drew1) | exact HB.out)⟩
  · rw [if_neg c3] at H
    exact absurd H (by simp)

/-! ### laws_eqKern: function 27 -/
def laws_eqKern.f (a0_0 : Int) (a0_1 : Int) (a0_2 : Int) (a1_0 : Int) (a1_1 : Int) (a1_2 : Int) : Option (Bool) := if a0_0 = a1_0 then (if a0_1 = a1_1 then (if a0_2 = a1_2 then (some true) else (none)) else (none)) else (none)
set_option maxHeartbeats 8000000 in
set_option maxRecDepth 100000 in
theorem laws_eqKern.calls (a0_0 : Int) (a0_1 : Int) (a0_2 : Int) (a1_0 : Int) (a1_1 : Int) (a1_2 : Int) (r : Bool) (w : World) (h : laws_eqKern.f a0_0 a0_1 a0_2 a1_0 a1_1 a1_2 = some r) :
    Calls Try.prog 27 #[.agg #[.int .i64 a0_0, .int .i64 a0_1, .int .i64 a0_2], .agg #[.int .i64 a1_0, .int .i64 a1_1, .int .i64 a1_2]] w fun e w' => e = .returned (.bool r) ∧ Below w.heap.size w w' := by
  have hu36 := Try.underlying36
  have HB := Aside0.mk (Below.refl w.heap.size w)
  have H : (if a0_0 = a1_0 then (if a0_1 = a1_1 then (if a0_2 = a1_2 then (some true) else (none)) else (none)) else (none)) = some r := h
  clear h
  by_cases c3 : a0_0 = a1_0
  · rw [if_pos c3] at H
    have c3b0 : (a0_0 == a1_0) = true := beq_iff_eq.mpr c3
    have c3b1 : (a0_0 != a1_0) = false := bne_eq_false_iff_eq.mpr c3
    clear c3
    by_cases c4 : a0_1 = a1_1
    · rw [if_pos c4] at H
      have c4b0 : (a0_1 == a1_1) = true := beq_iff_eq.mpr c4
      have c4b1 : (a0_1 != a1_1) = false := bne_eq_false_iff_eq.mpr c4
      clear c4
      by_cases c5 : a0_2 = a1_2
      · rw [if_pos c5] at H
        have c5b0 : (a0_2 == a1_2) = true := beq_iff_eq.mpr c5
        have c5b1 : (a0_2 != a1_2) = false := bne_eq_false_iff_eq.mpr c5
        clear c5
        obtain rfl := Option.some.inj H
        go_enter Try.func27, Try.ntmps27
        go_wp2_with (first | ((with_reducible refine gate_dst (N := 2) rfl ?_); refine box_event ?hg (N := 2) ?hd (cs := #[.int .i64 a0_0, .int .i64 a0_1, .int .i64 a0_2]) (t := 36) ?hr ?_; (case hd => rfl); (case hg => rfl); (case hr => first | (go_simp; done) | (go_simp; rfl)); intro gb159 hg w6 hbox hb; have n0_ := Aside0.mk (below_step (by repeat (first | (with_reducible first | exact HB.out | apply below_alloc | apply pw_below_drewN | apply below_drew1) | exact HB.out)) hb); have n1_ := Aside0.mk (hbox); have n2_ := Aside0.mk ((by rw [hg]; exact (below_size (by repeat (first | (with_reducible first | exact HB.out | apply below_alloc | apply pw_below_drewN | apply below_drew1) | exact HB.out))) : w.heap.size ≤ gb159)); have n3_ := Aside0.mk ((by rw [hg]; exact (below_size (by repeat (first | (with_reducible first | exact HB.out | apply below_alloc | apply pw_below_drewN | apply below_drew1) | exact HB.out))) : w.heap.size ≤ gb159)); clear HB; have HB := n0_; have BK159 := n1_; have GW159 := n2_; have GE159 := n3_; clear n0_ n1_ n2_ n3_; clear hb hbox hg) | ((with_reducible refine gate_dst (N := 3) rfl ?_); refine box_event ?hg (N := 3) ?hd (cs := #[.int .i64 a1_0, .int .i64 a1_1, .int .i64 a1_2]) (t := 36) ?hr ?_; (case hd => rfl); (case hg => rfl); (case hr => first | (go_simp; done) | (go_simp; rfl)); intro gb160 hg w7 hbox hb; have n0_ := Aside0.mk (blk_below (g := gb159) (o := .cells #[.int .i64 a0_0, .int .i64 a0_1, .int .i64 a0_2] 36 (0, 0)) (by (with_reducible repeat (first | refine blk_drewN ?_ _ | refine blk_drew ?_ | refine blk_alloc ?_ _)); exact BK159.out) hb); have n1_ := Aside0.mk (below_step (by repeat (first | (with_reducible first | exact HB.out | apply below_alloc | apply pw_below_drewN | apply below_drew1 | refine below_set ?_ GE159.out) | exact HB.out)) hb); have n2_ := Aside0.mk (hbox); have n3_ := Aside0.mk ((by rw [hg]; exact (below_size (by repeat (first | (with_reducible first | exact HB.out | apply below_alloc | apply pw_below_drewN | apply below_drew1 | refine below_set ?_ GE159.out) | exact HB.out))) : w.heap.size ≤ gb160)); have n4_ := Aside0.mk ((by rw [hg]; exact (below_size (by repeat (first | (with_reducible first | exact HB.out | apply below_alloc | apply pw_below_drewN | apply below_drew1 | refine below_set ?_ GE159.out) | exact HB.out))) : w.heap.size ≤ gb160)); have n5_ := Aside0.mk ((by rw [hg]; exact Nat.ne_of_lt (blk_lt (g := gb159) (o := .cells #[.int .i64 a0_0, .int .i64 a0_1, .int .i64 a0_2] 36 (0, 0)) (by (with_reducible repeat (first | refine blk_drewN ?_ _ | refine blk_drew ?_ | refine blk_alloc ?_ _)); exact BK159.out)) : gb159 ≠ gb160)); have n6_ := Aside0.mk ((by rw [hg]; exact Nat.ne_of_gt (blk_lt (g := gb159) (o := .cells #[.int .i64 a0_0, .int .i64 a0_1, .int .i64 a0_2] 36 (0, 0)) (by (with_reducible repeat (first | refine blk_drewN ?_ _ | refine blk_drew ?_ | refine blk_alloc ?_ _)); exact BK159.out)) : gb160 ≠ gb159)); clear BK159; clear HB; have BK159 := n0_; have HB := n1_; have BK160 := n2_; have GW160 := n3_; have GE160 := n4_; have NB159_160 := n5_; have NB160_159 := n6_; clear n0_ n1_ n2_ n3_ n4_ n5_ n6_; clear hb hbox hg; have hnb8 := NB159_160.out; have hnc8 := NB160_159.out; have hcz9_0 : w7.cell? ⟨gb159, 0, none⟩ = some (.int .i64 a0_0) := (blk_cell BK159.out 0).trans rfl; have hcz9_1 : w7.cell? ⟨gb159, 1, none⟩ = some (.int .i64 a0_1) := (blk_cell BK159.out 1).trans rfl; have hcz9_2 : w7.cell? ⟨gb159, 2, none⟩ = some (.int .i64 a0_2) := (blk_cell BK159.out 2).trans rfl; have hfz9_0 := blk_frozen BK159.out 0; have hfz9_1 := blk_frozen BK159.out 1; have hfz9_2 := blk_frozen BK159.out 2; have hcz10_0 : w7.cell? ⟨gb160, 0, none⟩ = some (.int .i64 a1_0) := (blk_cell BK160.out 0).trans rfl; have hcz10_1 : w7.cell? ⟨gb160, 1, none⟩ = some (.int .i64 a1_1) := (blk_cell BK160.out 1).trans rfl; have hcz10_2 : w7.cell? ⟨gb160, 2, none⟩ = some (.int .i64 a1_2) := (blk_cell BK160.out 2).trans rfl; have hfz10_0 := blk_frozen BK160.out 0; have hfz10_1 := blk_frozen BK160.out 1; have hfz10_2 := blk_frozen BK160.out 2))
        go_ret
        exact ⟨by first | rfl | (simp [errW_none, errW_some] <;> rfl) | (simp [*, errW_none, errW_some] <;> rfl), by repeat (first | (with_reducible first | exact HB.out | apply below_alloc | apply pw_below_drewN | apply below_drew1 | refine below_set ?_ GE159.out | refine below_set ?_ GE160.out) | exact HB.out)⟩
      · rw [if_neg c5] at H
        exact absurd H (by simp)
    · rw [if_neg c4] at H
      exact absurd H (by simp)
  · rw [if_neg c3] at H
    exact absurd H (by simp)

/-! ### laws_eqKernS: function 15 -/
def laws_eqKernS.l0 : Nat → List (S36) → List (S36) → Int → Option (Bool)
  | 0, _, _, _ => none
  | k + 1, x0, x1, x5 => if x5 < (x0.length : Int) then (if 0 ≤ x5 then (if x5 < (x1.length : Int) then ((laws_eqKern.f ((rd_T36 x0 x5).f0) ((rd_T36 x0 x5).f1) ((rd_T36 x0 x5).f2) ((rd_T36 x1 x5).f0) ((rd_T36 x1 x5).f1) ((rd_T36 x1 x5).f2)).bind fun t163 => (if t163 = true then (laws_eqKernS.l0 k x0 x1 (wrap64 (x5 + 1))) else (none))) else (none)) else (none)) else (some true)
def laws_eqKernS.f (k : Nat) (l0 : List (S36)) (l1 : List (S36)) : Option (Bool) := if (l0.length : Int) = (l1.length : Int) then (laws_eqKernS.l0 k l0 l1 0) else (none)
theorem laws_eqKernS.mono_l : ∀ k, (∀ y0 y1 y2, LeO (laws_eqKernS.l0 k y0 y1 y2) (laws_eqKernS.l0 (k + 1) y0 y1 y2))
  | 0 => fun _ _ _ r h => by simp [laws_eqKernS.l0] at h
  | k + 1 => by
    have ih0 := laws_eqKernS.mono_l k
    · intro y0 y1 y2
      unfold laws_eqKernS.l0
      repeat' first
      | (with_reducible exact ih0 _ _ _)
      | (with_reducible exact LeO.refl _)
      | (with_reducible exact LeO.none _)
      | (with_reducible refine LeO.ite ?_ ?_)
      | (with_reducible refine LeO.bind ?_ (fun _ => ?_))
      | exact ih0 _ _ _
      | exact LeO.none _
      | refine LeO.ite ?_ ?_
      | refine LeO.bind ?_ (fun _ => ?_)
theorem laws_eqKernS.mono : ∀ a0 a1 k, LeO (laws_eqKernS.f k a0 a1) (laws_eqKernS.f (k + 1) a0 a1) := by
  intro a0 a1 k
  have ih0 := laws_eqKernS.mono_l k
  unfold laws_eqKernS.f
  repeat' first
      | (with_reducible exact ih0 _ _ _)
      | (with_reducible exact LeO.refl _)
      | (with_reducible exact LeO.none _)
      | (with_reducible refine LeO.ite ?_ ?_)
      | (with_reducible refine LeO.bind ?_ (fun _ => ?_))
      | exact ih0 _ _ _
      | exact LeO.none _
      | refine LeO.ite ?_ ?_
      | refine LeO.bind ?_ (fun _ => ?_)
def laws_eqKernS.T6 : Bool × List (List Nat × List Nat) := (true, [([], []), ([], []), ([0, 1], [0, 1]), ([2], [2]), ([], []), ([], []), ([4, 5], [4, 5]), ([6], [6]), ([3, 7], [3, 7]), ([8], [8])])
def laws_eqKernS.B6 : List Nat := [0, 0, 3, 7, 0, 0, 48, 112, 255, 511]
theorem laws_eqKernS.tab6 : rtab .any (opsOf Try.f15 6) = laws_eqKernS.T6 := by kernel_rfl
theorem laws_eqKernS.bits6 : waitsOk laws_eqKernS.T6.2 laws_eqKernS.B6 = true := by kernel_rfl
set_option maxHeartbeats 8000000 in
set_option maxRecDepth 100000 in
theorem laws_eqKernS.calls (k : Nat) (A0 : Option Addr) (c0 : Nat) (l0 : List (S36)) (A1 : Option Addr) (c1 : Nat) (l1 : List (S36)) (r : Bool) (w : World) (hr0 : Kd.C k36 w A0 l0.length l0) (hc0 : l0.length ≤ c0) (hr1 : Kd.C k36 w A1 l1.length l1) (hc1 : l1.length ≤ c1) (h : laws_eqKernS.f k l0 l1 = some r) :
    Calls Try.prog 15 #[.slice A0 l0.length c0, .slice A1 l1.length c1] w fun e w' => e = .returned (.bool r) ∧ Below w.heap.size w w' := by
  have hu36 := Try.underlying36
  have HR0 := Aside0.mk hr0
  have HC0 := Aside0.mk hc0
  clear hr0 hc0
  have HR1 := Aside0.mk hr1
  have HC1 := Aside0.mk hc1
  clear hr1 hc1
  have HB := Aside0.mk (Below.refl w.heap.size w)
  have H : (if (l0.length : Int) = (l1.length : Int) then (laws_eqKernS.l0 k l0 l1 0) else (none)) = some r := h
  clear h
  by_cases c3 : (l0.length : Int) = (l1.length : Int)
  · rw [if_pos c3] at H
    have c3b0 : ((l0.length : Int) == (l1.length : Int)) = true := beq_iff_eq.mpr c3
    have c3b1 : ((l0.length : Int) != (l1.length : Int)) = false := bne_eq_false_iff_eq.mpr c3
    have c3b2 : (l0.length == l1.length) = true := by first | simpa using c3 | (simp at c3 ⊢; omega)
    clear c3
    have H' := Aside0.mk H
    clear H
    go_enter Try.func15, Try.ntmps15
    go_wp2
    go_loopg [5] k (fun kq v5 w' => ∃ (x5_1 : Int), v5 = .int .i64 x5_1 ∧ Aside0 (laws_eqKernS.l0 kq l0 l1 x5_1 = some r) ∧ Aside0 (kq ≤ k) ∧ Aside0 (Below w.heap.size w w'))
    case atStart => exact ⟨(0), (by first | rfl | (simp; done) | (simp [*]; done)), H', ⟨Nat.le_refl _⟩, ⟨by repeat (first | (with_reducible first | exact HB.out | apply below_alloc | apply pw_below_drewN | apply below_drew1) | exact HB.out)⟩⟩
    case round =>
      clear H'
      try clear c1
      try clear p2
      try clear c3
      try clear c3b0
      try clear c3b1
      try clear c3b2
      obtain ⟨x5_1, rfl, HA, HK1, HB⟩ := hrel
      cases gk with
      | zero => exact absurd HA.out (by simp [laws_eqKernS.l0])
      | succ k1 =>
        have H := HA.out
        clear HA
        simp only [laws_eqKernS.l0] at H
        by_cases c4 : x5_1 < (l0.length : Int)
        · rw [if_pos c4] at H
          have c4b0 : decide (x5_1 < (l0.length : Int)) = true := decide_eq_true c4
          clear c4
          by_cases c5 : 0 ≤ x5_1
          · rw [if_pos c5] at H
            have c5b0 : decide (0 ≤ x5_1) = true := decide_eq_true c5
            clear c5
            by_cases c6 : x5_1 < (l1.length : Int)
            · rw [if_pos c6] at H
              have c6b0 : decide (x5_1 < (l1.length : Int)) = true := decide_eq_true c6
              clear c6
              replace H := Option.bind_eq_some_iff.mp H
              obtain ⟨t163, A70, H⟩ := H
              replace H : (if t163 = true then (laws_eqKernS.l0 k1 l0 l1 (wrap64 (x5_1 + 1))) else (none)) = some r := H
              have A7 := Aside0.mk A70
              clear A70
              by_cases c8 : t163 = true
              · subst c8
                have H1 : (laws_eqKernS.l0 k1 l0 l1 (wrap64 (x5_1 + 1))) = some r := by rw [if_pos rfl] at H; exact H
                clear H
                have H := H1
                clear H1
                have H' := Aside0.mk H
                clear H
                try go_wp2
                have n0_ := Aside0.mk (below_drew1 HB.out)
                clear HB
                have HB := n0_
                clear n0_
                have p161 : 0 ≤ (x5_1 : Int) := of_decide_eq_true (by first | (with_reducible assumption) | assumption)
                have q161 : x5_1 < (l0.length : Int) := of_decide_eq_true (by first | (with_reducible assumption) | assumption)
                obtain ⟨ad161, e161, hx161_0, hx161_1, hx161_2⟩ := at_T36 HR0.out x5_1 p161 q161
                have hw161_2 := hx161_2
                have hw161_1 := hx161_1
                have hw161_0 := hx161_0
                cases e161
                replace hx161_0 := (HB.out.cell (World.block_lt_of_cell? w _ hx161_0)).trans hx161_0
                replace hx161_1 := (HB.out.cell (World.block_lt_of_cell? w _ hx161_1)).trans hx161_1
                replace hx161_2 := (HB.out.cell (World.block_lt_of_cell? w _ hx161_2)).trans hx161_2
                replace p161 := eq_true p161
                replace q161 := eq_true q161
                have p162 : 0 ≤ (x5_1 : Int) := of_decide_eq_true (by first | (with_reducible assumption) | assumption)
                have q162 : x5_1 < (l1.length : Int) := of_decide_eq_true (by first | (with_reducible assumption) | assumption)
                obtain ⟨ad162, e162, hx162_0, hx162_1, hx162_2⟩ := at_T36 HR1.out x5_1 p162 q162
                have hw162_2 := hx162_2
                have hw162_1 := hx162_1
                have hw162_0 := hx162_0
                cases e162
                replace hx162_0 := (HB.out.cell (World.block_lt_of_cell? w _ hx162_0)).trans hx162_0
                replace hx162_1 := (HB.out.cell (World.block_lt_of_cell? w _ hx162_1)).trans hx162_1
                replace hx162_2 := (HB.out.cell (World.block_lt_of_cell? w _ hx162_2)).trans hx162_2
                replace p162 := eq_true p162
                replace q162 := eq_true q162
                refine start_ (n := 10) (S := fun w' => w'.cell? (ad161.add ((x5_1).toNat * 3)) = some (.int .i64 ((rd_T36 l0 x5_1).f0)) ∧ w'.cell? ⟨(ad161.add ((x5_1).toNat * 3)).block, (ad161.add ((x5_1).toNat * 3)).off + 1, none⟩ = some (.int .i64 ((rd_T36 l0 x5_1).f1)) ∧ w'.cell? ⟨(ad161.add ((x5_1).toNat * 3)).block, (ad161.add ((x5_1).toNat * 3)).off + 2, none⟩ = some (.int .i64 ((rd_T36 l0 x5_1).f2)) ∧ w'.cell? (ad162.add ((x5_1).toNat * 3)) = some (.int .i64 ((rd_T36 l1 x5_1).f0)) ∧ w'.cell? ⟨(ad162.add ((x5_1).toNat * 3)).block, (ad162.add ((x5_1).toNat * 3)).off + 1, none⟩ = some (.int .i64 ((rd_T36 l1 x5_1).f1)) ∧ w'.cell? ⟨(ad162.add ((x5_1).toNat * 3)).block, (ad162.add ((x5_1).toNat * 3)).off + 2, none⟩ = some (.int .i64 ((rd_T36 l1 x5_1).f2))) (ds := []) #[false, false, false, false, false, false, false, false, false, false] (by kernel_rfl) rfl rfl ⟨((HB.out.cell (World.block_lt_of_cell? w _ hw161_0)).trans hw161_0), ((HB.out.cell (World.block_lt_of_cell? w _ hw161_1)).trans hw161_1), ((HB.out.cell (World.block_lt_of_cell? w _ hw161_2)).trans hw161_2), ((HB.out.cell (World.block_lt_of_cell? w _ hw162_0)).trans hw162_0), ((HB.out.cell (World.block_lt_of_cell? w _ hw162_1)).trans hw162_1), ((HB.out.cell (World.block_lt_of_cell? w _ hw162_2)).trans hw162_2)⟩ (fun hHeld => ?_); refine with_tabW laws_eqKernS.tab6 laws_eqKernS.bits6 (fun HT_ HW_ => ?_)
                generalize wr.drew = w9 at HB hx161_0 hx161_1 hx161_2 hx162_0 hx162_1 hx162_2 hHeld ⊢
                refine pure_ (i := 0) (N := some 17) (v := ?_) (a' := ?_) #[true, false, false, false, false, false, false, false, false, false] rfl rfl (any_of HT_.out (by kernel_rfl)) (fun _ _ _ h => h) (Or.inl ⟨by rfl, ?_⟩) ?_ ?_
                rotate_left
                · intro w'
                  go_simp
                  with_reducible rfl
                rotate_left
                · simp only [Act.put, List.setIfInBounds_toArray, List.set_cons_zero, List.set_cons_succ, i64_w, i32_w]
                  rfl
                refine pure_ (i := 1) (N := some 18) (v := ?_) (a' := ?_) #[true, true, false, false, false, false, false, false, false, false] rfl rfl (any_of HT_.out (by kernel_rfl)) (fun _ _ _ h => h) (Or.inl ⟨by rfl, ?_⟩) ?_ ?_
                rotate_left
                · intro w'
                  go_simp
                  with_reducible rfl
                rotate_left
                · simp only [Act.put, List.setIfInBounds_toArray, List.set_cons_zero, List.set_cons_succ, i64_w, i32_w]
                  rfl
                refine pure_ (i := 2) (N := some 19) (v := ?_) (a' := ?_) #[true, true, true, false, false, false, false, false, false, false] rfl rfl (any_of HT_.out (by kernel_rfl)) (fun _ _ _ h => h) (Or.inl ⟨by rfl, ?_⟩) ?_ ?_
                rotate_left
                · intro w'
                  go_simp
                  with_reducible rfl
                rotate_left
                · simp only [Act.put, List.setIfInBounds_toArray, List.set_cons_zero, List.set_cons_succ, i64_w, i32_w]
                  rfl
                refine pure_ (i := 4) (N := some 21) (v := ?_) (a' := ?_) #[true, true, true, false, true, false, false, false, false, false] rfl rfl (any_of HT_.out (by kernel_rfl)) (fun _ _ _ h => h) (Or.inl ⟨by rfl, ?_⟩) ?_ ?_
                rotate_left
                · intro w'
                  go_simp
                  with_reducible rfl
                rotate_left
                · simp only [Act.put, List.setIfInBounds_toArray, List.set_cons_zero, List.set_cons_succ, i64_w, i32_w]
                  rfl
                refine pure_ (i := 5) (N := some 22) (v := ?_) (a' := ?_) #[true, true, true, false, true, true, false, false, false, false] rfl rfl (any_of HT_.out (by kernel_rfl)) (fun _ _ _ h => h) (Or.inl ⟨by rfl, ?_⟩) ?_ ?_
                rotate_left
                · intro w'
                  go_simp
                  with_reducible rfl
                rotate_left
                · simp only [Act.put, List.setIfInBounds_toArray, List.set_cons_zero, List.set_cons_succ, i64_w, i32_w]
                  rfl
                refine pure_ (i := 6) (N := some 23) (v := ?_) (a' := ?_) #[true, true, true, false, true, true, true, false, false, false] rfl rfl (any_of HT_.out (by kernel_rfl)) (fun _ _ _ h => h) (Or.inl ⟨by rfl, ?_⟩) ?_ ?_
                rotate_left
                · intro w'
                  go_simp
                  with_reducible rfl
                rotate_left
                · simp only [Act.put, List.setIfInBounds_toArray, List.set_cons_zero, List.set_cons_succ, i64_w, i32_w]
                  rfl
                refine take_ (i := 3) (N := some 20) (v := ?_) (a' := ?_) #[true, true, true, true, true, true, true, false, false, false] rfl rfl (take_ofW HT_.out HW_.out (by kernel_rfl)) (fun _ _ _ h => h) (Or.inl ⟨by rfl, ?_⟩) hHeld ?_ ?_
                rotate_left
                · rintro w' ⟨s0, s1, s2, s3, s4, s5⟩
                  go_simp
                  with_reducible rfl
                rotate_left
                · simp only [Act.put, List.setIfInBounds_toArray, List.set_cons_zero, List.set_cons_succ, i64_w, i32_w]
                  rfl
                refine take_ (i := 7) (N := some 24) (v := ?_) (a' := ?_) #[true, true, true, true, true, true, true, true, false, false] rfl rfl (take_ofW HT_.out HW_.out (by kernel_rfl)) (fun _ _ _ h => h) (Or.inl ⟨by rfl, ?_⟩) hHeld ?_ ?_
                rotate_left
                · rintro w' ⟨s0, s1, s2, s3, s4, s5⟩
                  go_simp
                  with_reducible rfl
                rotate_left
                · simp only [Act.put, List.setIfInBounds_toArray, List.set_cons_zero, List.set_cons_succ, i64_w, i32_w]
                  rfl
                refine one_ (i := 8) (N := some 25) #[true, true, true, true, true, true, true, true, true, false] rfl rfl (one_of HT_.out (by kernel_rfl)) (by decide) (fun K hK => ?_)
                refine goes_ Try.func27 (by kernel_rfl) rfl #[.agg #[.int .i64 ((rd_T36 l0 x5_1).f0), .int .i64 ((rd_T36 l0 x5_1).f1), .int .i64 ((rd_T36 l0 x5_1).f2)], .agg #[.int .i64 ((rd_T36 l1 x5_1).f0), .int .i64 ((rd_T36 l1 x5_1).f1), .int .i64 ((rd_T36 l1 x5_1).f2)]] (by rfl) rfl rfl (by (try simp only [List.map_toArray, List.map_cons, List.map_nil]); first | done | rfl | (simp only [List.length_drop, List.length_take]; rfl)) ?_
                with_reducible refine (laws_eqKern.calls ((rd_T36 l0 x5_1).f0) ((rd_T36 l0 x5_1).f1) ((rd_T36 l0 x5_1).f2) ((rd_T36 l1 x5_1).f0) ((rd_T36 l1 x5_1).f1) ((rd_T36 l1 x5_1).f2) true _ A7.out).mono ?_
                rintro e w10 ⟨rfl, hb⟩
                refine ⟨_, rfl, ?_⟩
                have n0_ := Aside0.mk (below_step (by repeat (first | (with_reducible first | exact HB.out | apply below_alloc | apply pw_below_drewN | apply below_drew1) | exact HB.out)) hb)
                clear HB
                have HB := n0_
                clear n0_
                (try clear hb)
                (try clear hb2)
                (try clear hk)
                (try clear hi)
                refine hK.out _ _ ⟨((HB.out.cell (World.block_lt_of_cell? w _ hw161_0)).trans hw161_0), ((HB.out.cell (World.block_lt_of_cell? w _ hw161_1)).trans hw161_1), ((HB.out.cell (World.block_lt_of_cell? w _ hw161_2)).trans hw161_2), ((HB.out.cell (World.block_lt_of_cell? w _ hw162_0)).trans hw162_0), ((HB.out.cell (World.block_lt_of_cell? w _ hw162_1)).trans hw162_1), ((HB.out.cell (World.block_lt_of_cell? w _ hw162_2)).trans hw162_2)⟩ (fun hHeld => ?_)
                clear hK K
                refine norm_ (a' := ?_) ?_ ?_
                rotate_left
                · show Act.put _ (some 25) _ = _
                  simp only [Act.put, List.setIfInBounds_toArray, List.set_cons_zero, List.set_cons_succ, i64_w, i32_w]
                  rfl
                refine pure_ (i := 9) (N := some 26) (v := ?_) (a' := ?_) #[true, true, true, true, true, true, true, true, true, true] rfl rfl (any_of HT_.out (by kernel_rfl)) (fun _ _ _ h => h) (Or.inl ⟨by rfl, ?_⟩) ?_ ?_
                rotate_left
                · intro w'
                  go_simp
                  with_reducible rfl
                rotate_left
                · simp only [Act.put, List.setIfInBounds_toArray, List.set_cons_zero, List.set_cons_succ, i64_w, i32_w]
                  rfl
                refine done_ (done_of HT_.out (by kernel_rfl)) ?_
                try go_wp2
                go_roundg k1
                case measure => have := HK1.out; omega
                case rel => exact ⟨(wrap64 (x5_1 + 1)), (by first | rfl | (simp; done) | (simp [*]; done)), H', ⟨by have := HK1.out; omega⟩, ⟨by repeat (first | (with_reducible first | exact HB.out | apply below_alloc | apply pw_below_drewN | apply below_drew1) | exact HB.out)⟩⟩
              · replace c8 := Bool.eq_false_iff.mpr c8
                subst c8
                exact absurd H (by simp)
            · rw [if_neg c6] at H
              exact absurd H (by simp)
          · rw [if_neg c5] at H
            exact absurd H (by simp)
        · rw [if_neg c4] at H
          have c4b0 : decide (x5_1 < (l0.length : Int)) = false := decide_eq_false c4
          clear c4
          obtain rfl := Option.some.inj H
          go_wp2
          go_ret
          exact ⟨by first | rfl | (simp [errW_none, errW_some] <;> rfl) | (simp [*, errW_none, errW_some] <;> rfl), by repeat (first | (with_reducible first | exact HB.out | apply below_alloc | apply pw_below_drewN | apply below_drew1) | exact HB.out)⟩
  · rw [if_neg c3] at H
    exact absurd H (by simp)

end Go.Proofs.Ytbhmoodfninbjaa.QFnExactPlainFont
