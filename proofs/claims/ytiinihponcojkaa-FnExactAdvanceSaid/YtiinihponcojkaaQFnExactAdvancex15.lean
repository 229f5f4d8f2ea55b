/- impl.Advance, walked. -/
import Derived.Test.YtiinihponcojkaaQFnExactAdvancex14
import Derived.Test.YtiinihponcojkaaAdvW
namespace Go.Proofs.Ytiinihponcojkaa.QFnExactAdvance
open Go Go.RowKit Go.Proofs.YtiinihponcojkaaV.PrintWords Go.Proofs.YtiinihponcojkaaV.PrintLast Go.Proofs.YtiinihponcojkaaV.PrintMore Go.Proofs.Ytiinihponcojkaa.MapObj Go.Proofs.Ytiinihponcojkaa.MapKey
set_option linter.unusedVariables false
set_option linter.unusedSimpArgs false

/-! ### impl_Advance: function 17 -/
def okFont (l4 : List S79) (l5 : List S81) (l6 : List S84) (l1 : List Int) : Prop := (okKern l5 ∧ okLig l6 ∧ okRune l6) ∧ (l4.length ≤ 1000 ∧ l5.length ≤ 1000 ∧ l6.length ≤ 1000) ∧ l1.length ≤ 1048576 ∧ ∀ x ∈ l1, ok64 x
noncomputable section
open Classical in
def shapeI (l4 : List S79) (l5 : List S81) (l6 : List S84) (l1 : List Int) : Option (List Int) := if okFont l4 l5 l6 l1 then some (shapeL (ligOf l6) l1) else none
def impl_Advance.f (k : Nat) (a0_0 : Int) (a0_1 : Int) (a0_2 : Int) (a0_3 : Int) (l0_4 : List (S79)) (l0_5 : List (S81)) (l0_6 : List (S84)) (l1 : List Int) (a2 : Int) : Option (Int) := (impl_FontOk.f k a0_0 a0_1 a0_2 a0_3 l0_4 l0_5 l0_6).bind fun t1 => (if t1 = true then ((shapeI l0_4 l0_5 l0_6 []).bind fun t2 => (if a2 < 0 then (some 0) else (if 64000 < a2 then (some 0) else ((impl_seenPoints.f k l1).bind fun t3 => ((shapeI l0_4 l0_5 l0_6 t3).bind fun t4 => ((advL l0_4 l0_5 a0_0 a0_3 a2 0 none t4).bind fun t5 => (impl_clamp.f t5 0 100000000))))))) else (some 0))
end
theorem impl_Advance.mono : ∀ a0 a1 a2 a3 a4 a5 a6 a7 a8 k, LeO (impl_Advance.f k a0 a1 a2 a3 a4 a5 a6 a7 a8) (impl_Advance.f (k + 1) a0 a1 a2 a3 a4 a5 a6 a7 a8) := by
  intro a0 a1 a2 a3 a4 a5 a6 a7 a8 k
  unfold impl_Advance.f
  repeat' first
    | (with_reducible exact impl_FontOk.mono _ _ _ _ _ _ _ _)
    | (with_reducible exact impl_seenPoints.mono _ _)
    | (with_reducible exact LeO.refl _)
    | (with_reducible refine LeO.ite ?_ ?_)
    | (with_reducible refine LeO.bind ?_ (fun _ => ?_))
set_option maxHeartbeats 8000000 in
set_option maxRecDepth 100000 in
theorem advance0_calls (W : World) (v u : Value) (size : Int) (h : size < 0 ∨ 64000 < size) : Calls Try.prog 45 #[v, u, .int .i64 size] W fun e w' => e = .returned (.int .i64 0) ∧ Below W.heap.size W w' := by
  by_cases c : size < 0
  · have g1 : decide (size < 0) = true := decide_eq_true c
    clear c h
    go_enter Try.func45, Try.ntmps45
    go_wp2
    go_ret
    exact ⟨rfl, Below.refl _ _⟩
  · have g1 : decide (size < 0) = false := decide_eq_false c
    have g2 : decide (64000 < size) = true := decide_eq_true (by omega)
    clear c h
    go_enter Try.func45, Try.ntmps45
    go_wp2
    go_ret
    exact ⟨rfl, Below.refl _ _⟩
set_option maxHeartbeats 8000000 in
set_option maxRecDepth 100000 in
theorem impl_Advance.calls (k : Nat) (a0_0 : Int) (a0_1 : Int) (a0_2 : Int) (a0_3 : Int) (A0_4 : Option Addr) (c0_4 : Nat) (l0_4 : List (S79)) (A0_5 : Option Addr) (c0_5 : Nat) (l0_5 : List (S81)) (A0_6 : Option Addr) (c0_6 : Nat) (l0_6 : List (S84)) (A1 : Option Addr) (c1 : Nat) (l1 : List Int) (a2 : Int) (r : Int) (w : World) (hr0_4 : Kd.C k79 w A0_4 l0_4.length l0_4) (hc0_4 : l0_4.length ≤ c0_4) (hr0_5 : Kd.C k81 w A0_5 l0_5.length l0_5) (hc0_5 : l0_5.length ≤ c0_5) (hr0_6 : Kd.C k84 w A0_6 l0_6.length l0_6) (hc0_6 : l0_6.length ≤ c0_6) (hr1 : Kd.C (Kd.int .i64) w A1 l1.length l1) (hc1 : l1.length ≤ c1) (h : impl_Advance.f k a0_0 a0_1 a0_2 a0_3 l0_4 l0_5 l0_6 l1 a2 = some r) :
    Calls Try.prog 17 #[.agg #[.int .i64 a0_0, .int .i64 a0_1, .int .i64 a0_2, .int .i64 a0_3, .slice A0_4 l0_4.length c0_4, .slice A0_5 l0_5.length c0_5, .slice A0_6 l0_6.length c0_6], .slice A1 l1.length c1, .int .i64 a2] w fun e w' => e = .returned (.int .i64 r) ∧ Below w.heap.size w w' := by
  have HR4 := Aside0.mk hr0_4
  have HC4 := Aside0.mk hc0_4
  have HR5 := Aside0.mk hr0_5
  have HC5 := Aside0.mk hc0_5
  have HR6 := Aside0.mk hr0_6
  have HC6 := Aside0.mk hc0_6
  have HR1 := Aside0.mk hr1
  have HC1 := Aside0.mk hc1
  have hu34 := Try.underlying34
  clear hr0_4 hc0_4 hr0_5 hc0_5 hr0_6 hc0_6 hr1 hc1
  unfold impl_Advance.f at h
  obtain ⟨t1, h1, h⟩ := Option.bind_eq_some_iff.mp h
  have A1_ := Aside0.mk h1
  clear h1
  cases t1 with
  | true =>
    rw [if_pos rfl] at h
    obtain ⟨t2, h2, h⟩ := Option.bind_eq_some_iff.mp h
    have hK : okFont l0_4 l0_5 l0_6 [] := by
      unfold shapeI at h2
      split at h2
      · rename_i hK
        exact hK
      · cases h2
    have HK := Aside0.mk hK
    clear hK h2
    by_cases c : a2 < 0 ∨ 64000 < a2
    · have e : r = 0 := by
        by_cases c1 : a2 < 0
        · rw [if_pos c1] at h
          exact (Option.some.inj h).symm
        · rw [if_neg c1, if_pos (by omega)] at h
          exact (Option.some.inj h).symm
      subst e
      have HZ := Aside0.mk c
      clear c h
      go_enter Try.func17, Try.ntmps17
      go_wp2_with (first
        | ((with_reducible refine gate_dst (N := 3) rfl ?_); refine box_event ?hg (N := 3) ?hd (cs := #[.int .i64 a0_0, .int .i64 a0_1, .int .i64 a0_2, .int .i64 a0_3, .slice A0_4 l0_4.length c0_4, .slice A0_5 l0_5.length c0_5, .slice A0_6 l0_6.length c0_6]) (t := 34) ?hr ?_; (case hd => rfl); (case hg => rfl); (case hr => first | (go_simp; done) | (go_simp; rfl)); intro gb hg w1 hbox hb; have z0 : w1.cell? ⟨gb, 0, none⟩ = some (.int .i64 a0_0) := (blk_cell hbox 0).trans rfl; have z1 : w1.cell? ⟨gb, 1, none⟩ = some (.int .i64 a0_1) := (blk_cell hbox 1).trans rfl; have z2 : w1.cell? ⟨gb, 2, none⟩ = some (.int .i64 a0_2) := (blk_cell hbox 2).trans rfl; have z3 : w1.cell? ⟨gb, 3, none⟩ = some (.int .i64 a0_3) := (blk_cell hbox 3).trans rfl; have z4 : w1.cell? ⟨gb, 4, none⟩ = some (.slice A0_4 l0_4.length c0_4) := (blk_cell hbox 4).trans rfl; have z5 : w1.cell? ⟨gb, 5, none⟩ = some (.slice A0_5 l0_5.length c0_5) := (blk_cell hbox 5).trans rfl; have z6 : w1.cell? ⟨gb, 6, none⟩ = some (.slice A0_6 l0_6.length c0_6) := (blk_cell hbox 6).trans rfl; have HBX := Aside0.mk hbox; have HB := Aside0.mk hb; clear hg hbox hb)
        | ((with_reducible refine gate_dst (N := 8) rfl ?_); (refine goesL_ (some 8) rfl rfl Try.func31 (by kernel_rfl) rfl #[.agg #[.int .i64 a0_0, .int .i64 a0_1, .int .i64 a0_2, .int .i64 a0_3, .slice A0_4 l0_4.length c0_4, .slice A0_5 l0_5.length c0_5, .slice A0_6 l0_6.length c0_6]] rfl (by (try simp only [List.map_toArray, List.map_cons, List.map_nil]); first | done | rfl) ?_; refine (impl_FontOk.calls k _ _ _ _ _ _ l0_4 _ _ l0_5 _ _ l0_6 true _ (Kd.C_below HR4.out HB.out) HC4.out (Kd.C_below HR5.out HB.out) HC5.out (Kd.C_below HR6.out HB.out) HC6.out A1_.out).mono ?_; rintro e_ w2 ⟨rfl, hb⟩; refine ⟨_, rfl, ?_⟩; have HB2 := Aside0.mk (below_step HB.out hb); have HBX2 := Aside0.mk (blk_below HBX.out hb); clear hb z0 z1 z2 z3 z4 z5 z6 HB HBX; have z0 : w2.cell? ⟨gb, 0, none⟩ = some (.int .i64 a0_0) := (blk_cell HBX2.out 0).trans rfl; have z1 : w2.cell? ⟨gb, 1, none⟩ = some (.int .i64 a0_1) := (blk_cell HBX2.out 1).trans rfl; have z2 : w2.cell? ⟨gb, 2, none⟩ = some (.int .i64 a0_2) := (blk_cell HBX2.out 2).trans rfl; have z3 : w2.cell? ⟨gb, 3, none⟩ = some (.int .i64 a0_3) := (blk_cell HBX2.out 3).trans rfl; have z4 : w2.cell? ⟨gb, 4, none⟩ = some (.slice A0_4 l0_4.length c0_4) := (blk_cell HBX2.out 4).trans rfl; have z5 : w2.cell? ⟨gb, 5, none⟩ = some (.slice A0_5 l0_5.length c0_5) := (blk_cell HBX2.out 5).trans rfl; have z6 : w2.cell? ⟨gb, 6, none⟩ = some (.slice A0_6 l0_6.length c0_6) := (blk_cell HBX2.out 6).trans rfl))
        | ((with_reducible refine gate_dst (N := 11) rfl ?_); (refine goesL_ (some 11) rfl rfl Try.func32 (by kernel_rfl) rfl #[.agg #[.int .i64 a0_0, .int .i64 a0_1, .int .i64 a0_2, .int .i64 a0_3, .slice A0_4 l0_4.length c0_4, .slice A0_5 l0_5.length c0_5, .slice A0_6 l0_6.length c0_6]] rfl (by (try simp only [List.map_toArray, List.map_cons, List.map_nil]); first | done | rfl) ?_; refine (newFace_calls _ _ _ _ _ _ _ _ _ _ _ l0_4 l0_5 l0_6 (Kd.C_below HR4.out HB2.out) HC4.out (Kd.C_below HR5.out HB2.out) HC5.out (Kd.C_below HR6.out HB2.out) HC6.out HK.out.1.1 HK.out.1.2.1 HK.out.2.1).mono ?_; rintro e_ w3 ⟨gf, gw, ge, gl, rfl, hb, hF⟩; refine ⟨_, rfl, ?_⟩; have HB3 := Aside0.mk (below_step HB2.out hb); have HF := Aside0.mk hF; clear hb hF z0 z1 z2 z3 z4 z5 z6 HB2 HBX2))
        | ((with_reducible refine gate_dst (N := 14) rfl ?_); (refine goesL_ (some 14) rfl rfl Try.func45 (by kernel_rfl) rfl #[.pointer (some ⟨gf, 0, none⟩), .slice A1 l1.length c1, .int .i64 a2] rfl (by (try simp only [List.map_toArray, List.map_cons, List.map_nil]); first | done | rfl) ?_; refine (advance0_calls _ _ _ a2 HZ.out).mono ?_; rintro e_ w4 ⟨rfl, hb⟩; refine ⟨_, rfl, ?_⟩; have HB4 := Aside0.mk (below_step HB3.out hb); clear hb HB3 HF)))
      go_ret
      exact ⟨rfl, HB4.out⟩
    · have HZ := Aside0.mk (show 0 ≤ a2 ∧ a2 ≤ 64000 from ⟨by omega, by omega⟩)
      rw [if_neg (by omega), if_neg (by omega)] at h
      obtain ⟨seen, h3, h⟩ := Option.bind_eq_some_iff.mp h
      obtain ⟨t4, h4, h⟩ := Option.bind_eq_some_iff.mp h
      obtain ⟨s0, h5, h⟩ := Option.bind_eq_some_iff.mp h
      have hKS : okFont l0_4 l0_5 l0_6 seen ∧ t4 = shapeL (ligOf l0_6) seen := by
        unfold shapeI at h4
        split at h4
        · rename_i hK
          exact ⟨hK, (Option.some.inj h4).symm⟩
        · cases h4
      rw [hKS.2] at h5
      have HKS := Aside0.mk hKS.1
      have HSN := Aside0.mk h3
      have HADV := Aside0.mk h5
      have HCL := Aside0.mk h
      clear c h h3 h4 h5 hKS
      go_enter Try.func17, Try.ntmps17
      go_wp2_with (first
        | ((with_reducible refine gate_dst (N := 3) rfl ?_); refine box_event ?hg (N := 3) ?hd (cs := #[.int .i64 a0_0, .int .i64 a0_1, .int .i64 a0_2, .int .i64 a0_3, .slice A0_4 l0_4.length c0_4, .slice A0_5 l0_5.length c0_5, .slice A0_6 l0_6.length c0_6]) (t := 34) ?hr ?_; (case hd => rfl); (case hg => rfl); (case hr => first | (go_simp; done) | (go_simp; rfl)); intro gb hg w1 hbox hb; have z0 : w1.cell? ⟨gb, 0, none⟩ = some (.int .i64 a0_0) := (blk_cell hbox 0).trans rfl; have z1 : w1.cell? ⟨gb, 1, none⟩ = some (.int .i64 a0_1) := (blk_cell hbox 1).trans rfl; have z2 : w1.cell? ⟨gb, 2, none⟩ = some (.int .i64 a0_2) := (blk_cell hbox 2).trans rfl; have z3 : w1.cell? ⟨gb, 3, none⟩ = some (.int .i64 a0_3) := (blk_cell hbox 3).trans rfl; have z4 : w1.cell? ⟨gb, 4, none⟩ = some (.slice A0_4 l0_4.length c0_4) := (blk_cell hbox 4).trans rfl; have z5 : w1.cell? ⟨gb, 5, none⟩ = some (.slice A0_5 l0_5.length c0_5) := (blk_cell hbox 5).trans rfl; have z6 : w1.cell? ⟨gb, 6, none⟩ = some (.slice A0_6 l0_6.length c0_6) := (blk_cell hbox 6).trans rfl; have HBX := Aside0.mk hbox; have HB := Aside0.mk hb; clear hg hbox hb)
        | ((with_reducible refine gate_dst (N := 8) rfl ?_); (refine goesL_ (some 8) rfl rfl Try.func31 (by kernel_rfl) rfl #[.agg #[.int .i64 a0_0, .int .i64 a0_1, .int .i64 a0_2, .int .i64 a0_3, .slice A0_4 l0_4.length c0_4, .slice A0_5 l0_5.length c0_5, .slice A0_6 l0_6.length c0_6]] rfl (by (try simp only [List.map_toArray, List.map_cons, List.map_nil]); first | done | rfl) ?_; refine (impl_FontOk.calls k _ _ _ _ _ _ l0_4 _ _ l0_5 _ _ l0_6 true _ (Kd.C_below HR4.out HB.out) HC4.out (Kd.C_below HR5.out HB.out) HC5.out (Kd.C_below HR6.out HB.out) HC6.out A1_.out).mono ?_; rintro e_ w2 ⟨rfl, hb⟩; refine ⟨_, rfl, ?_⟩; have HB2 := Aside0.mk (below_step HB.out hb); have HBX2 := Aside0.mk (blk_below HBX.out hb); clear hb z0 z1 z2 z3 z4 z5 z6 HB HBX; have z0 : w2.cell? ⟨gb, 0, none⟩ = some (.int .i64 a0_0) := (blk_cell HBX2.out 0).trans rfl; have z1 : w2.cell? ⟨gb, 1, none⟩ = some (.int .i64 a0_1) := (blk_cell HBX2.out 1).trans rfl; have z2 : w2.cell? ⟨gb, 2, none⟩ = some (.int .i64 a0_2) := (blk_cell HBX2.out 2).trans rfl; have z3 : w2.cell? ⟨gb, 3, none⟩ = some (.int .i64 a0_3) := (blk_cell HBX2.out 3).trans rfl; have z4 : w2.cell? ⟨gb, 4, none⟩ = some (.slice A0_4 l0_4.length c0_4) := (blk_cell HBX2.out 4).trans rfl; have z5 : w2.cell? ⟨gb, 5, none⟩ = some (.slice A0_5 l0_5.length c0_5) := (blk_cell HBX2.out 5).trans rfl; have z6 : w2.cell? ⟨gb, 6, none⟩ = some (.slice A0_6 l0_6.length c0_6) := (blk_cell HBX2.out 6).trans rfl))
        | ((with_reducible refine gate_dst (N := 11) rfl ?_); (refine goesL_ (some 11) rfl rfl Try.func32 (by kernel_rfl) rfl #[.agg #[.int .i64 a0_0, .int .i64 a0_1, .int .i64 a0_2, .int .i64 a0_3, .slice A0_4 l0_4.length c0_4, .slice A0_5 l0_5.length c0_5, .slice A0_6 l0_6.length c0_6]] rfl (by (try simp only [List.map_toArray, List.map_cons, List.map_nil]); first | done | rfl) ?_; refine (newFace_calls _ _ _ _ _ _ _ _ _ _ _ l0_4 l0_5 l0_6 (Kd.C_below HR4.out HB2.out) HC4.out (Kd.C_below HR5.out HB2.out) HC5.out (Kd.C_below HR6.out HB2.out) HC6.out HK.out.1.1 HK.out.1.2.1 HK.out.2.1).mono ?_; rintro e_ w3 ⟨gf, gw, ge, gl, rfl, hb, hF⟩; refine ⟨_, rfl, ?_⟩; have HB3 := Aside0.mk (below_step HB2.out hb); have HF := Aside0.mk hF; clear hb hF z0 z1 z2 z3 z4 z5 z6 HB2 HBX2))
        | ((with_reducible refine gate_dst (N := 14) rfl ?_); (refine goesL_ (some 14) rfl rfl Try.func45 (by kernel_rfl) rfl #[.pointer (some ⟨gf, 0, none⟩), .slice A1 l1.length c1, .int .i64 a2] rfl (by (try simp only [List.map_toArray, List.map_cons, List.map_nil]); first | done | rfl) ?_; refine (advance_calls k w _ _ _ _ _ A0_4 c0_4 _ _ _ l0_4 l0_5 l0_6 gf gw ge gl A1 c1 l1 a2 rfl HF.out HR4.out HB3.out (Nat.le_trans HK.out.2.1.1 (by decide)) HK.out.1.1 HK.out.1.2.1 HK.out.1.2.2 (Kd.C_below HR1.out HB3.out) HC1.out HZ.out.1 HZ.out.2 seen HSN.out HKS.out.2.2.1 HKS.out.2.2.2 s0 r HADV.out HCL.out).mono ?_; rintro e_ w4 ⟨rfl, hb⟩; refine ⟨_, rfl, ?_⟩; have HB4 := Aside0.mk (below_step HB3.out hb); clear hb HB3 HF)))
      go_ret
      exact ⟨rfl, HB4.out⟩
  | false =>
    rw [if_neg (by simp)] at h
    obtain rfl := Option.some.inj h
    clear h
    go_enter Try.func17, Try.ntmps17
    go_wp2_with (first
      | ((with_reducible refine gate_dst (N := 3) rfl ?_); refine box_event ?hg (N := 3) ?hd (cs := #[.int .i64 a0_0, .int .i64 a0_1, .int .i64 a0_2, .int .i64 a0_3, .slice A0_4 l0_4.length c0_4, .slice A0_5 l0_5.length c0_5, .slice A0_6 l0_6.length c0_6]) (t := 34) ?hr ?_; (case hd => rfl); (case hg => rfl); (case hr => first | (go_simp; done) | (go_simp; rfl)); intro gb hg w1 hbox hb; have z0 : w1.cell? ⟨gb, 0, none⟩ = some (.int .i64 a0_0) := (blk_cell hbox 0).trans rfl; have z1 : w1.cell? ⟨gb, 1, none⟩ = some (.int .i64 a0_1) := (blk_cell hbox 1).trans rfl; have z2 : w1.cell? ⟨gb, 2, none⟩ = some (.int .i64 a0_2) := (blk_cell hbox 2).trans rfl; have z3 : w1.cell? ⟨gb, 3, none⟩ = some (.int .i64 a0_3) := (blk_cell hbox 3).trans rfl; have z4 : w1.cell? ⟨gb, 4, none⟩ = some (.slice A0_4 l0_4.length c0_4) := (blk_cell hbox 4).trans rfl; have z5 : w1.cell? ⟨gb, 5, none⟩ = some (.slice A0_5 l0_5.length c0_5) := (blk_cell hbox 5).trans rfl; have z6 : w1.cell? ⟨gb, 6, none⟩ = some (.slice A0_6 l0_6.length c0_6) := (blk_cell hbox 6).trans rfl; have HBX := Aside0.mk hbox; have HB := Aside0.mk hb; clear hg hbox hb)
      | ((with_reducible refine gate_dst (N := 8) rfl ?_); (refine goesL_ (some 8) rfl rfl Try.func31 (by kernel_rfl) rfl #[.agg #[.int .i64 a0_0, .int .i64 a0_1, .int .i64 a0_2, .int .i64 a0_3, .slice A0_4 l0_4.length c0_4, .slice A0_5 l0_5.length c0_5, .slice A0_6 l0_6.length c0_6]] rfl (by (try simp only [List.map_toArray, List.map_cons, List.map_nil]); first | done | rfl) ?_; refine (impl_FontOk.calls k _ _ _ _ _ _ l0_4 _ _ l0_5 _ _ l0_6 false _ (Kd.C_below HR4.out HB.out) HC4.out (Kd.C_below HR5.out HB.out) HC5.out (Kd.C_below HR6.out HB.out) HC6.out A1_.out).mono ?_; rintro e_ w2 ⟨rfl, hb⟩; refine ⟨_, rfl, ?_⟩; have HB2 := Aside0.mk (below_step HB.out hb); have HBX2 := Aside0.mk (blk_below HBX.out hb); clear hb z0 z1 z2 z3 z4 z5 z6 HB HBX)))
    go_ret
    exact ⟨rfl, HB2.out⟩
end Go.Proofs.Ytiinihponcojkaa.QFnExactAdvance
