/- impl.Shape, walked: a font that is none; or its face, and what the face makes of the row. -/
import Derived.Test.YtiinihponcojkaaQFnExactShapex12
import Derived.Test.YtiinihponcojkaaQFnExactShapex8
import Derived.Test.YtiinihponcojkaaShapeW
namespace Go.Proofs.Ytiinihponcojkaa.QFnExactShape
open Go Go.RowKit Go.Proofs.YtiinihponcojkaaV.PrintWords Go.Proofs.YtiinihponcojkaaV.PrintLast Go.Proofs.YtiinihponcojkaaV.PrintMore Go.Proofs.Ytiinihponcojkaa.MapObj Go.Proofs.Ytiinihponcojkaa.MapKey
set_option linter.unusedVariables false
set_option linter.unusedSimpArgs false

/-! ### impl_Shape: function 10 -/
def okFont (l4 : List S79) (l5 : List S81) (l6 : List S84) (l1 : List Int) : Prop := (okKern l5 ∧ okLig l6 ∧ okRune l6) ∧ (l4.length ≤ 1000 ∧ l5.length ≤ 1000 ∧ l6.length ≤ 1000) ∧ l1.length ≤ 1048576 ∧ ∀ x ∈ l1, ok64 x
noncomputable section
open Classical in
def shapeI (l4 : List S79) (l5 : List S81) (l6 : List S84) (l1 : List Int) : Option (List Int) := if okFont l4 l5 l6 l1 then some (shapeL (ligOf l6) l1) else none
def impl_Shape.f (k : Nat) (a0_0 : Int) (a0_1 : Int) (a0_2 : Int) (a0_3 : Int) (l0_4 : List (S79)) (l0_5 : List (S81)) (l0_6 : List (S84)) (l1 : List Int) : Option (List Int) := (impl_FontOk.f k a0_0 a0_1 a0_2 a0_3 l0_4 l0_5 l0_6).bind fun t1 => (if t1 = true then (shapeI l0_4 l0_5 l0_6 l1) else (some []))
end
theorem impl_Shape.mono : ∀ a0 a1 a2 a3 a4 a5 a6 a7 k, LeO (impl_Shape.f k a0 a1 a2 a3 a4 a5 a6 a7) (impl_Shape.f (k + 1) a0 a1 a2 a3 a4 a5 a6 a7) := fun a0 a1 a2 a3 a4 a5 a6 a7 k => LeO.bind (impl_FontOk.mono _ _ _ _ _ _ _ _) (fun _ => LeO.refl _)
set_option maxHeartbeats 8000000 in
set_option maxRecDepth 100000 in
theorem impl_Shape.calls (k : Nat) (a0_0 : Int) (a0_1 : Int) (a0_2 : Int) (a0_3 : Int) (A0_4 : Option Addr) (c0_4 : Nat) (l0_4 : List (S79)) (A0_5 : Option Addr) (c0_5 : Nat) (l0_5 : List (S81)) (A0_6 : Option Addr) (c0_6 : Nat) (l0_6 : List (S84)) (A1 : Option Addr) (c1 : Nat) (l1 : List Int) (r : List Int) (w : World) (hr0_4 : Kd.C k79 w A0_4 l0_4.length l0_4) (hc0_4 : l0_4.length ≤ c0_4) (hr0_5 : Kd.C k81 w A0_5 l0_5.length l0_5) (hc0_5 : l0_5.length ≤ c0_5) (hr0_6 : Kd.C k84 w A0_6 l0_6.length l0_6) (hc0_6 : l0_6.length ≤ c0_6) (hr1 : Kd.C (Kd.int .i64) w A1 l1.length l1) (hc1 : l1.length ≤ c1) (h : impl_Shape.f k a0_0 a0_1 a0_2 a0_3 l0_4 l0_5 l0_6 l1 = some r) :
    Calls Try.prog 10 #[.agg #[.int .i64 a0_0, .int .i64 a0_1, .int .i64 a0_2, .int .i64 a0_3, .slice A0_4 l0_4.length c0_4, .slice A0_5 l0_5.length c0_5, .slice A0_6 l0_6.length c0_6], .slice A1 l1.length c1] w fun e w' => ∃ v0_ : Value, e = .returned (v0_) ∧ Kd.R (Kd.int .i64) 3 w' w.heap.size (fun _ => True) v0_ r ∧ Below w.heap.size w w' := by
  have HR4 := Aside0.mk hr0_4
  have HC4 := Aside0.mk hc0_4
  have HR5 := Aside0.mk hr0_5
  have HC5 := Aside0.mk hc0_5
  have HR6 := Aside0.mk hr0_6
  have HC6 := Aside0.mk hc0_6
  have HR1 := Aside0.mk hr1
  have HC1 := Aside0.mk hc1
  have hu34 := Try.underlying34
  clear hr0_4 hc0_4 hr0_5 hc0_5 hr0_6 hc0_6 hr1 hc1
  unfold impl_Shape.f at h
  obtain ⟨t1, h1, h⟩ := Option.bind_eq_some_iff.mp h
  cases t1 with
  | true =>
    rw [if_pos rfl] at h
    unfold shapeI at h
    split at h
    · rename_i hK
      obtain rfl := Option.some.inj h
      have HK := Aside0.mk hK
      have A1_ := Aside0.mk h1
      clear h h1 hK
      go_enter Try.func10, Try.ntmps10
      go_wp2_with (first
        | ((with_reducible refine gate_dst (N := 2) rfl ?_); refine box_event ?hg (N := 2) ?hd (cs := #[.int .i64 a0_0, .int .i64 a0_1, .int .i64 a0_2, .int .i64 a0_3, .slice A0_4 l0_4.length c0_4, .slice A0_5 l0_5.length c0_5, .slice A0_6 l0_6.length c0_6]) (t := 34) ?hr ?_; (case hd => rfl); (case hg => rfl); (case hr => first | (go_simp; done) | (go_simp; rfl)); intro gb hg w1 hbox hb; have z0 : w1.cell? ⟨gb, 0, none⟩ = some (.int .i64 a0_0) := (blk_cell hbox 0).trans rfl; have z1 : w1.cell? ⟨gb, 1, none⟩ = some (.int .i64 a0_1) := (blk_cell hbox 1).trans rfl; have z2 : w1.cell? ⟨gb, 2, none⟩ = some (.int .i64 a0_2) := (blk_cell hbox 2).trans rfl; have z3 : w1.cell? ⟨gb, 3, none⟩ = some (.int .i64 a0_3) := (blk_cell hbox 3).trans rfl; have z4 : w1.cell? ⟨gb, 4, none⟩ = some (.slice A0_4 l0_4.length c0_4) := (blk_cell hbox 4).trans rfl; have z5 : w1.cell? ⟨gb, 5, none⟩ = some (.slice A0_5 l0_5.length c0_5) := (blk_cell hbox 5).trans rfl; have z6 : w1.cell? ⟨gb, 6, none⟩ = some (.slice A0_6 l0_6.length c0_6) := (blk_cell hbox 6).trans rfl; have HBX := Aside0.mk hbox; have HB := Aside0.mk hb; clear hg hbox hb)
        | ((with_reducible refine gate_dst (N := 6) rfl ?_); (refine goesL_ (some 6) rfl rfl Try.func31 (by kernel_rfl) rfl #[.agg #[.int .i64 a0_0, .int .i64 a0_1, .int .i64 a0_2, .int .i64 a0_3, .slice A0_4 l0_4.length c0_4, .slice A0_5 l0_5.length c0_5, .slice A0_6 l0_6.length c0_6]] rfl (by (try simp only [List.map_toArray, List.map_cons, List.map_nil]); first | done | rfl) ?_; refine (impl_FontOk.calls k _ _ _ _ _ _ l0_4 _ _ l0_5 _ _ l0_6 true _ (Kd.C_below HR4.out HB.out) HC4.out (Kd.C_below HR5.out HB.out) HC5.out (Kd.C_below HR6.out HB.out) HC6.out A1_.out).mono ?_; rintro e_ w2 ⟨rfl, hb⟩; refine ⟨_, rfl, ?_⟩; have HB2 := Aside0.mk (below_step HB.out hb); have HBX2 := Aside0.mk (blk_below HBX.out hb); clear hb z0 z1 z2 z3 z4 z5 z6 HB HBX; have z0 : w2.cell? ⟨gb, 0, none⟩ = some (.int .i64 a0_0) := (blk_cell HBX2.out 0).trans rfl; have z1 : w2.cell? ⟨gb, 1, none⟩ = some (.int .i64 a0_1) := (blk_cell HBX2.out 1).trans rfl; have z2 : w2.cell? ⟨gb, 2, none⟩ = some (.int .i64 a0_2) := (blk_cell HBX2.out 2).trans rfl; have z3 : w2.cell? ⟨gb, 3, none⟩ = some (.int .i64 a0_3) := (blk_cell HBX2.out 3).trans rfl; have z4 : w2.cell? ⟨gb, 4, none⟩ = some (.slice A0_4 l0_4.length c0_4) := (blk_cell HBX2.out 4).trans rfl; have z5 : w2.cell? ⟨gb, 5, none⟩ = some (.slice A0_5 l0_5.length c0_5) := (blk_cell HBX2.out 5).trans rfl; have z6 : w2.cell? ⟨gb, 6, none⟩ = some (.slice A0_6 l0_6.length c0_6) := (blk_cell HBX2.out 6).trans rfl))
        | ((with_reducible refine gate_dst (N := 9) rfl ?_); (refine goesL_ (some 9) rfl rfl Try.func32 (by kernel_rfl) rfl #[.agg #[.int .i64 a0_0, .int .i64 a0_1, .int .i64 a0_2, .int .i64 a0_3, .slice A0_4 l0_4.length c0_4, .slice A0_5 l0_5.length c0_5, .slice A0_6 l0_6.length c0_6]] rfl (by (try simp only [List.map_toArray, List.map_cons, List.map_nil]); first | done | rfl) ?_; refine (newFace_calls _ _ _ _ _ _ _ _ _ _ _ l0_4 l0_5 l0_6 (Kd.C_below HR4.out HB2.out) HC4.out (Kd.C_below HR5.out HB2.out) HC5.out (Kd.C_below HR6.out HB2.out) HC6.out HK.out.1.1 HK.out.1.2.1 HK.out.2.1).mono ?_; rintro e_ w3 ⟨gf, gw, ge, gl, rfl, hb, hF⟩; refine ⟨_, rfl, ?_⟩; have HB3 := Aside0.mk (below_step HB2.out hb); have HF := Aside0.mk hF; clear hb hF z0 z1 z2 z3 z4 z5 z6 HB2 HBX2))
        | ((with_reducible refine gate_dst (N := 11) rfl ?_); (refine goesL_ (some 11) rfl rfl Try.func33 (by kernel_rfl) rfl #[.pointer (some ⟨gf, 0, none⟩), .slice A1 l1.length c1] rfl (by (try simp only [List.map_toArray, List.map_cons, List.map_nil]); first | done | rfl) ?_; refine (shape_calls _ _ _ _ _ _ _ _ l0_4 l0_5 l0_6 gf gw ge gl A1 c1 l1 HF.out HK.out.1.2.1 HK.out.1.2.2 (Kd.C_below HR1.out HB3.out) HC1.out HK.out.2.2.1 HK.out.2.2.2).mono ?_; rintro e_ w4 ⟨v, rfl, hv, hb⟩; refine ⟨_, rfl, ?_⟩; have HB4 := Aside0.mk (below_step HB3.out hb); have HV := Aside0.mk (Kd.R_lower hv HB3.out.size); clear hb hv HB3 HF)))
      go_ret
      exact ⟨_, rfl, HV.out, HB4.out⟩
    · cases h
  | false =>
    rw [if_neg (by simp)] at h
    obtain rfl := Option.some.inj h
    have A1_ := Aside0.mk h1
    clear h h1
    go_enter Try.func10, Try.ntmps10
    go_wp2_with (first
      | ((with_reducible refine gate_dst (N := 2) rfl ?_); refine box_event ?hg (N := 2) ?hd (cs := #[.int .i64 a0_0, .int .i64 a0_1, .int .i64 a0_2, .int .i64 a0_3, .slice A0_4 l0_4.length c0_4, .slice A0_5 l0_5.length c0_5, .slice A0_6 l0_6.length c0_6]) (t := 34) ?hr ?_; (case hd => rfl); (case hg => rfl); (case hr => first | (go_simp; done) | (go_simp; rfl)); intro gb hg w1 hbox hb; have z0 : w1.cell? ⟨gb, 0, none⟩ = some (.int .i64 a0_0) := (blk_cell hbox 0).trans rfl; have z1 : w1.cell? ⟨gb, 1, none⟩ = some (.int .i64 a0_1) := (blk_cell hbox 1).trans rfl; have z2 : w1.cell? ⟨gb, 2, none⟩ = some (.int .i64 a0_2) := (blk_cell hbox 2).trans rfl; have z3 : w1.cell? ⟨gb, 3, none⟩ = some (.int .i64 a0_3) := (blk_cell hbox 3).trans rfl; have z4 : w1.cell? ⟨gb, 4, none⟩ = some (.slice A0_4 l0_4.length c0_4) := (blk_cell hbox 4).trans rfl; have z5 : w1.cell? ⟨gb, 5, none⟩ = some (.slice A0_5 l0_5.length c0_5) := (blk_cell hbox 5).trans rfl; have z6 : w1.cell? ⟨gb, 6, none⟩ = some (.slice A0_6 l0_6.length c0_6) := (blk_cell hbox 6).trans rfl; have HB := Aside0.mk hb; clear hg hbox hb)
      | ((with_reducible refine gate_dst (N := 6) rfl ?_); (refine goesL_ (some 6) rfl rfl Try.func31 (by kernel_rfl) rfl #[.agg #[.int .i64 a0_0, .int .i64 a0_1, .int .i64 a0_2, .int .i64 a0_3, .slice A0_4 l0_4.length c0_4, .slice A0_5 l0_5.length c0_5, .slice A0_6 l0_6.length c0_6]] rfl (by (try simp only [List.map_toArray, List.map_cons, List.map_nil]); first | done | rfl) ?_; refine (impl_FontOk.calls k _ _ _ _ _ _ l0_4 _ _ l0_5 _ _ l0_6 false _ (Kd.C_below HR4.out HB.out) HC4.out (Kd.C_below HR5.out HB.out) HC5.out (Kd.C_below HR6.out HB.out) HC6.out A1_.out).mono ?_; rintro e_ w2 ⟨rfl, hb⟩; refine ⟨_, rfl, ?_⟩; have HB2 := Aside0.mk (below_step HB.out hb); clear hb z0 z1 z2 z3 z4 z5 z6 HB)))
    go_ret
    exact ⟨_, rfl, Kd.R_nil _ _ _ _ _, HB2.out⟩
end Go.Proofs.Ytiinihponcojkaa.QFnExactShape
