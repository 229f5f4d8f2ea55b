/- impl.SpotLess, walked. -/
import Derived.Test.YtbogfagafdokeaaQFnExactSpotLessx9
import Derived.Test.YtbogfagafdokeaaLessW
namespace Go.Proofs.Ytbogfagafdokeaa.QFnExactSpotLess
open Go Go.RowKit Go.Proofs.YtbogfagafdokeaaV.PrintWords Go.Proofs.YtbogfagafdokeaaV.PrintLast Go.Proofs.YtbogfagafdokeaaV.PrintMore Go.Proofs.Ytbogfagafdokeaa.TreeIx
set_option linter.unusedVariables false
set_option linter.unusedSimpArgs false

/-! ### impl_SpotLess: function 9 -/
open Classical in
noncomputable def rightO (l : List S59) : Option Unit := if Right l then some () else none
noncomputable def impl_pathR.f (k : Nat) (l0_0 : List (S59)) (a1 : Int) (a2 : Int) : Option (List Int) := (atI l0_0 a1).bind fun t1 => (slices_Reverse_int_int.f k (wrap64 (2 * a2) :: chain l0_0 t1))
theorem impl_pathR.mono : ∀ a0 a1 a2 k, LeO (impl_pathR.f k a0 a1 a2) (impl_pathR.f (k + 1) a0 a1 a2) := fun a0 a1 a2 k => LeO.bind (LeO.refl _) (fun _ => slices_Reverse_int_int.mono _ _)
noncomputable def impl_lessR.f (k : Nat) (l0_0 : List (S59)) (a1 : Int) (a2 : Int) (a3 : Int) (a4 : Int) : Option (Bool) := (impl_pathR.f k l0_0 a1 a2).bind fun t1 => ((impl_pathR.f k l0_0 a3 a4).bind fun t2 => ((slices_Compare_int_int.f k t1 t2).bind fun t3 => (some (decide (t3 < 0)))))
theorem impl_lessR.mono : ∀ a0 a1 a2 a3 a4 k, LeO (impl_lessR.f k a0 a1 a2 a3 a4) (impl_lessR.f (k + 1) a0 a1 a2 a3 a4) := fun a0 a1 a2 a3 a4 k => LeO.bind (impl_pathR.mono _ _ _ _) (fun _ => LeO.bind (impl_pathR.mono _ _ _ _) (fun _ => LeO.bind (slices_Compare_int_int.mono _ _ _) (fun _ => LeO.refl _)))
noncomputable def impl_SpotLess.f (k : Nat) (l0_0 : List (S59)) (a1_0 : Int) (a1_1 : Int) (a2_0 : Int) (a2_1 : Int) : Option (Bool) := (impl_TreeOk.f k l0_0).bind fun t1 => (if t1 = true then ((rightO l0_0).bind fun t2 => (if spotB l0_0 a1_0 a1_1 = true then (if spotB l0_0 a2_0 a2_1 = true then (impl_lessR.f k l0_0 a1_0 a1_1 a2_0 a2_1) else (some false)) else (some false))) else (some false))
theorem impl_SpotLess.mono : ∀ a0 a1 a2 a3 a4 k, LeO (impl_SpotLess.f k a0 a1 a2 a3 a4) (impl_SpotLess.f (k + 1) a0 a1 a2 a3 a4) := fun a0 a1 a2 a3 a4 k => LeO.bind (impl_TreeOk.mono _ _) (fun _ => LeO.ite (LeO.bind (LeO.refl _) (fun _ => LeO.ite (LeO.ite (impl_lessR.mono _ _ _ _ _ _) (LeO.refl _)) (LeO.refl _))) (LeO.refl _))
theorem rightO_some {l : List S59} {u : Unit} (h : rightO l = some u) : Right l := by
 unfold rightO at h
 split at h
 ·rename_i hR
  exact hR
 ·cases h
set_option maxHeartbeats 8000000 in
set_option maxRecDepth 100000 in
theorem impl_SpotLess.calls (k : Nat) (A0_0 : Option Addr) (c0_0 : Nat) (l0_0 : List (S59)) (a0 : Int) (a1 : Int) (x0 : Int) (x1 : Int) (r : Bool) (w : World) (hr0_0 : Kd.C k59 w A0_0 l0_0.length l0_0) (hc0_0 : l0_0.length ≤ c0_0) (h : impl_SpotLess.f k l0_0 a0 a1 x0 x1 = some r) :
  Calls Try.prog 9 #[.agg #[.slice A0_0 l0_0.length c0_0], .agg #[.int .i64 a0, .int .i64 a1], .agg #[.int .i64 x0, .int .i64 x1]] w fun e w' => e = .returned (.bool r) ∧ Below w.heap.size w w' := by
 have HR := Aside0.mk hr0_0
 have HC := Aside0.mk hc0_0
 have hu57 := Try.underlying31
 have hu70 := Try.underlying33
 clear hr0_0 hc0_0
 unfold impl_SpotLess.f at h
 obtain ⟨t1, h1, h⟩ := Option.bind_eq_some_iff.mp h
 cases t1 with
 | true =>
  rw [if_pos rfl] at h
  obtain ⟨u, hu, h⟩ := Option.bind_eq_some_iff.mp h
  have HRT := Aside0.mk (rightO_some hu)
  have A1 := Aside0.mk h1
  clear h1 hu
  by_cases sa : spotB l0_0 a0 a1 = true
  ·rw [if_pos sa] at h
   have HSA := Aside0.mk sa
   clear sa
   by_cases sx : spotB l0_0 x0 x1 = true
   ·rw [if_pos sx] at h
    have HSX := Aside0.mk sx
    clear sx
    obtain ⟨ra, hra, h⟩ := Option.bind_eq_some_iff.mp (show ((impl_pathR.f k l0_0 a0 a1).bind _) = some r from h)
    obtain ⟨rb, hrb, h⟩ := Option.bind_eq_some_iff.mp h
    obtain ⟨c, hc, h⟩ := Option.bind_eq_some_iff.mp h
    obtain rfl := Option.some.inj h
    obtain ⟨ja, hja, hra⟩ := Option.bind_eq_some_iff.mp hra
    obtain ⟨jb, hjb, hrb⟩ := Option.bind_eq_some_iff.mp hrb
    have HRA := Aside0.mk hra
    have HRB := Aside0.mk hrb
    have HJA := Aside0.mk hja
    have HJB := Aside0.mk hjb
    have HCC := Aside0.mk hc
    clear h hra hrb hja hjb hc
    go_enter Try.func9, Try.ntmps9
    go_wp2_with (first
    |((with_reducible refine gate_dst (N := 3) rfl ?_);refine box_event ?hg (N := 3) ?hd (cs := #[.slice A0_0 l0_0.length c0_0]) (t := 31) ?hr ?_;(case hd => rfl);(case hg => rfl);(case hr => first|(go_simp;done)|(go_simp;rfl));intro gt hg w3 hbox hb;have HB := Aside0.mk hb;have BT := Aside0.mk hbox;clear hg hbox hb)
    |((with_reducible refine gate_dst (N := 4) rfl ?_);refine box_event ?hg (N := 4) ?hd (cs := #[.int .i64 a0, .int .i64 a1]) (t := 33) ?hr ?_;(case hd => rfl);(case hg => rfl);(case hr => first|(go_simp;done)|(go_simp;rfl));intro ga hg w4 hbox hb;have n0_ := Aside0.mk (below_step HB.out hb);have n1_ := Aside0.mk (blk_below BT.out hb);have BA := Aside0.mk hbox;clear HB BT hg hbox hb;have HB := n0_;have BT := n1_;clear n0_ n1_)
    |((with_reducible refine gate_dst (N := 5) rfl ?_);refine box_event ?hg (N := 5) ?hd (cs := #[.int .i64 x0, .int .i64 x1]) (t := 33) ?hr ?_;(case hd => rfl);(case hg => rfl);(case hr => first|(go_simp;done)|(go_simp;rfl));intro gx hg w5 hbox hb;have n0_ := Aside0.mk (below_step HB.out hb);have n1_ := Aside0.mk (blk_below BT.out hb);have n2_ := Aside0.mk (blk_below BA.out hb);have BX := Aside0.mk hbox;clear HB BT BA hg hbox hb;have HB := n0_;have BT := n1_;have BA := n2_;clear n0_ n1_ n2_;have hcz : w5.cell? ⟨gt, 0, none⟩ = some (.slice A0_0 l0_0.length c0_0) := (blk_cell BT.out 0).trans rfl)
    |((with_reducible refine gate_dst (N := 9) rfl ?_);refine goesL_ (some 9) rfl rfl Try.func18 (by kernel_rfl) rfl #[.agg #[.slice A0_0 l0_0.length c0_0]] rfl (by (try simp only [List.map_toArray, List.map_cons, List.map_nil]);first|done|rfl) ?_;refine (impl_TreeOk.calls k _ _ l0_0 true _ (Kd.C_below HR.out HB.out) HC.out A1.out).mono ?_;rintro e w6 ⟨rfl, hb⟩;refine ⟨_, rfl, ?_⟩;have n0_ := Aside0.mk (below_step HB.out hb);have n1_ := Aside0.mk (blk_below BT.out hb);have n2_ := Aside0.mk (blk_below BA.out hb);have n3_ := Aside0.mk (blk_below BX.out hb);clear HB BT BA BX hb;have HB := n0_;have BT := n1_;have BA := n2_;have BX := n3_;clear n0_ n1_ n2_ n3_;clear hcz;have hcz6 : w6.cell? ⟨gt, 0, none⟩ = some (.slice A0_0 l0_0.length c0_0) := (blk_cell BT.out 0).trans rfl)
    |((with_reducible refine gate_dst (N := 12) rfl ?_);refine goesL_ (some 12) rfl rfl Try.func19 (by kernel_rfl) rfl #[.agg #[.slice A0_0 l0_0.length c0_0]] rfl (by (try simp only [List.map_toArray, List.map_cons, List.map_nil]);first|done|rfl) ?_;refine (newGarden_calls _ A0_0 c0_0 l0_0 (Kd.C_below HR.out HB.out) HC.out HRT.out).mono ?_;rintro e w7 ⟨wb, ad, va, G, gg, gm, rfl, hwb, hA, hG⟩;refine ⟨_, rfl, ?_⟩;have hb := below_then hwb hwb.size hG.bel;have HG := Aside0.mk hG;have HWB := Aside0.mk (show wb.heap.size ≤ w7.heap.size from hG.bel.size);clear hwb hA hG hcz6;have n0_ := Aside0.mk (below_step HB.out hb);have n1_ := Aside0.mk (blk_below BA.out hb);have n2_ := Aside0.mk (blk_below BX.out hb);clear HB BA BX hb;have HB := n0_;have BA := n1_;have BX := n2_;clear n0_ n1_ n2_;have za0 : w7.cell? ⟨ga, 0, none⟩ = some (.int .i64 a0) := (blk_cell BA.out 0).trans rfl;have za1 : w7.cell? ⟨ga, 1, none⟩ = some (.int .i64 a1) := (blk_cell BA.out 1).trans rfl)
    |((with_reducible refine gate_dst (N := 15) rfl ?_);(refine goesL_ (some 15) rfl rfl Try.func20 (by kernel_rfl) rfl #[.pointer (some ⟨gg, 0, none⟩), .agg #[.int .i64 a0, .int .i64 a1]] rfl (by (try simp only [List.map_toArray, List.map_cons, List.map_nil]);first|done|rfl) ?_;refine (spotIn_calls wb _ l0_0 va G gg gm a0 a1 HG.out).mono ?_;rintro e w8 ⟨rfl, hb⟩;refine ⟨_, rfl, ?_⟩;rw [HSA.out];have n0_ := Aside0.mk (HG.out.below HWB.out hb);have n1_ := Aside0.mk (Nat.le_trans HWB.out hb.size);have n2_ := Aside0.mk (below_step HB.out hb);have n3_ := Aside0.mk (blk_below BA.out hb);have n4_ := Aside0.mk (blk_below BX.out hb);clear HG HWB HB BA BX hb;have HG := n0_;have HWB := n1_;have HB := n2_;have BA := n3_;have BX := n4_;clear n0_ n1_ n2_ n3_ n4_;clear za0 za1;have zx0 : w8.cell? ⟨gx, 0, none⟩ = some (.int .i64 x0) := (blk_cell BX.out 0).trans rfl;have zx1 : w8.cell? ⟨gx, 1, none⟩ = some (.int .i64 x1) := (blk_cell BX.out 1).trans rfl))
    |((with_reducible refine gate_dst (N := 19) rfl ?_);(try (refine gate_guard (by rfl) ?_;dsimp only));(refine goesL_ (some 19) rfl rfl Try.func20 (by kernel_rfl) rfl #[.pointer (some ⟨gg, 0, none⟩), .agg #[.int .i64 x0, .int .i64 x1]] rfl (by (try simp only [List.map_toArray, List.map_cons, List.map_nil]);first|done|rfl) ?_;refine (spotIn_calls wb _ l0_0 va G gg gm x0 x1 HG.out).mono ?_;rintro e w9 ⟨rfl, hb⟩;refine ⟨_, rfl, ?_⟩;rw [HSX.out];have n0_ := Aside0.mk (HG.out.below HWB.out hb);have n1_ := Aside0.mk (Nat.le_trans HWB.out hb.size);have n2_ := Aside0.mk (below_step HB.out hb);have n3_ := Aside0.mk (blk_below BA.out hb);have n4_ := Aside0.mk (blk_below BX.out hb);clear HG HWB HB BA BX hb;have HG := n0_;have HWB := n1_;have HB := n2_;have BA := n3_;have BX := n4_;clear n0_ n1_ n2_ n3_ n4_;clear zx0 zx1;have za0 : w9.cell? ⟨ga, 0, none⟩ = some (.int .i64 a0) := (blk_cell BA.out 0).trans rfl;have za1 : w9.cell? ⟨ga, 1, none⟩ = some (.int .i64 a1) := (blk_cell BA.out 1).trans rfl;have zx0 : w9.cell? ⟨gx, 0, none⟩ = some (.int .i64 x0) := (blk_cell BX.out 0).trans rfl;have zx1 : w9.cell? ⟨gx, 1, none⟩ = some (.int .i64 x1) := (blk_cell BX.out 1).trans rfl))
    |((with_reducible refine gate_dst (N := 25) rfl ?_);(try (refine gate_guard (by rfl) ?_;dsimp only));(refine goesL_ (some 25) rfl rfl Try.func21 (by kernel_rfl) rfl #[.pointer (some ⟨gg, 0, none⟩), .agg #[.int .i64 a0, .int .i64 a1], .agg #[.int .i64 x0, .int .i64 x1]] rfl (by (try simp only [List.map_toArray, List.map_cons, List.map_nil]);first|done|rfl) ?_;refine (less_calls k wb _ l0_0 va G gg gm a0 a1 x0 x1 ja jb ra rb c HRT.out HJA.out HJB.out HG.out HWB.out HRA.out HRB.out HCC.out).mono ?_;rintro e w10 ⟨rfl, hb⟩;refine ⟨_, rfl, ?_⟩;clear za0 za1 zx0 zx1;have n0_ := Aside0.mk (below_step HB.out hb);clear HB hb;have HB := n0_;clear n0_)))
    go_ret
    exact ⟨rfl, HB.out⟩
   ·rw [if_neg sx] at h
    have HSX := Aside0.mk (Bool.eq_false_iff.mpr sx)
    obtain rfl := Option.some.inj h
    clear h sx
    go_enter Try.func9, Try.ntmps9
    go_wp2_with (first
    |((with_reducible refine gate_dst (N := 3) rfl ?_);refine box_event ?hg (N := 3) ?hd (cs := #[.slice A0_0 l0_0.length c0_0]) (t := 31) ?hr ?_;(case hd => rfl);(case hg => rfl);(case hr => first|(go_simp;done)|(go_simp;rfl));intro gt hg w3 hbox hb;have HB := Aside0.mk hb;have BT := Aside0.mk hbox;clear hg hbox hb)
    |((with_reducible refine gate_dst (N := 4) rfl ?_);refine box_event ?hg (N := 4) ?hd (cs := #[.int .i64 a0, .int .i64 a1]) (t := 33) ?hr ?_;(case hd => rfl);(case hg => rfl);(case hr => first|(go_simp;done)|(go_simp;rfl));intro ga hg w4 hbox hb;have n0_ := Aside0.mk (below_step HB.out hb);have n1_ := Aside0.mk (blk_below BT.out hb);have BA := Aside0.mk hbox;clear HB BT hg hbox hb;have HB := n0_;have BT := n1_;clear n0_ n1_)
    |((with_reducible refine gate_dst (N := 5) rfl ?_);refine box_event ?hg (N := 5) ?hd (cs := #[.int .i64 x0, .int .i64 x1]) (t := 33) ?hr ?_;(case hd => rfl);(case hg => rfl);(case hr => first|(go_simp;done)|(go_simp;rfl));intro gx hg w5 hbox hb;have n0_ := Aside0.mk (below_step HB.out hb);have n1_ := Aside0.mk (blk_below BT.out hb);have n2_ := Aside0.mk (blk_below BA.out hb);have BX := Aside0.mk hbox;clear HB BT BA hg hbox hb;have HB := n0_;have BT := n1_;have BA := n2_;clear n0_ n1_ n2_;have hcz : w5.cell? ⟨gt, 0, none⟩ = some (.slice A0_0 l0_0.length c0_0) := (blk_cell BT.out 0).trans rfl)
    |((with_reducible refine gate_dst (N := 9) rfl ?_);refine goesL_ (some 9) rfl rfl Try.func18 (by kernel_rfl) rfl #[.agg #[.slice A0_0 l0_0.length c0_0]] rfl (by (try simp only [List.map_toArray, List.map_cons, List.map_nil]);first|done|rfl) ?_;refine (impl_TreeOk.calls k _ _ l0_0 true _ (Kd.C_below HR.out HB.out) HC.out A1.out).mono ?_;rintro e w6 ⟨rfl, hb⟩;refine ⟨_, rfl, ?_⟩;have n0_ := Aside0.mk (below_step HB.out hb);have n1_ := Aside0.mk (blk_below BT.out hb);have n2_ := Aside0.mk (blk_below BA.out hb);have n3_ := Aside0.mk (blk_below BX.out hb);clear HB BT BA BX hb;have HB := n0_;have BT := n1_;have BA := n2_;have BX := n3_;clear n0_ n1_ n2_ n3_;clear hcz;have hcz6 : w6.cell? ⟨gt, 0, none⟩ = some (.slice A0_0 l0_0.length c0_0) := (blk_cell BT.out 0).trans rfl)
    |((with_reducible refine gate_dst (N := 12) rfl ?_);refine goesL_ (some 12) rfl rfl Try.func19 (by kernel_rfl) rfl #[.agg #[.slice A0_0 l0_0.length c0_0]] rfl (by (try simp only [List.map_toArray, List.map_cons, List.map_nil]);first|done|rfl) ?_;refine (newGarden_calls _ A0_0 c0_0 l0_0 (Kd.C_below HR.out HB.out) HC.out HRT.out).mono ?_;rintro e w7 ⟨wb, ad, va, G, gg, gm, rfl, hwb, hA, hG⟩;refine ⟨_, rfl, ?_⟩;have hb := below_then hwb hwb.size hG.bel;have HG := Aside0.mk hG;have HWB := Aside0.mk (show wb.heap.size ≤ w7.heap.size from hG.bel.size);clear hwb hA hG hcz6;have n0_ := Aside0.mk (below_step HB.out hb);have n1_ := Aside0.mk (blk_below BA.out hb);have n2_ := Aside0.mk (blk_below BX.out hb);clear HB BA BX hb;have HB := n0_;have BA := n1_;have BX := n2_;clear n0_ n1_ n2_;have za0 : w7.cell? ⟨ga, 0, none⟩ = some (.int .i64 a0) := (blk_cell BA.out 0).trans rfl;have za1 : w7.cell? ⟨ga, 1, none⟩ = some (.int .i64 a1) := (blk_cell BA.out 1).trans rfl)
    |((with_reducible refine gate_dst (N := 15) rfl ?_);(refine goesL_ (some 15) rfl rfl Try.func20 (by kernel_rfl) rfl #[.pointer (some ⟨gg, 0, none⟩), .agg #[.int .i64 a0, .int .i64 a1]] rfl (by (try simp only [List.map_toArray, List.map_cons, List.map_nil]);first|done|rfl) ?_;refine (spotIn_calls wb _ l0_0 va G gg gm a0 a1 HG.out).mono ?_;rintro e w8 ⟨rfl, hb⟩;refine ⟨_, rfl, ?_⟩;rw [HSA.out];have n0_ := Aside0.mk (HG.out.below HWB.out hb);have n1_ := Aside0.mk (Nat.le_trans HWB.out hb.size);have n2_ := Aside0.mk (below_step HB.out hb);have n3_ := Aside0.mk (blk_below BA.out hb);have n4_ := Aside0.mk (blk_below BX.out hb);clear HG HWB HB BA BX hb;have HG := n0_;have HWB := n1_;have HB := n2_;have BA := n3_;have BX := n4_;clear n0_ n1_ n2_ n3_ n4_;clear za0 za1;have zx0 : w8.cell? ⟨gx, 0, none⟩ = some (.int .i64 x0) := (blk_cell BX.out 0).trans rfl;have zx1 : w8.cell? ⟨gx, 1, none⟩ = some (.int .i64 x1) := (blk_cell BX.out 1).trans rfl))
    |((with_reducible refine gate_dst (N := 19) rfl ?_);(try (refine gate_guard (by rfl) ?_;dsimp only));(refine goesL_ (some 19) rfl rfl Try.func20 (by kernel_rfl) rfl #[.pointer (some ⟨gg, 0, none⟩), .agg #[.int .i64 x0, .int .i64 x1]] rfl (by (try simp only [List.map_toArray, List.map_cons, List.map_nil]);first|done|rfl) ?_;refine (spotIn_calls wb _ l0_0 va G gg gm x0 x1 HG.out).mono ?_;rintro e w9 ⟨rfl, hb⟩;refine ⟨_, rfl, ?_⟩;rw [HSX.out];have n0_ := Aside0.mk (HG.out.below HWB.out hb);have n1_ := Aside0.mk (Nat.le_trans HWB.out hb.size);have n2_ := Aside0.mk (below_step HB.out hb);have n3_ := Aside0.mk (blk_below BA.out hb);have n4_ := Aside0.mk (blk_below BX.out hb);clear HG HWB HB BA BX hb;have HG := n0_;have HWB := n1_;have HB := n2_;have BA := n3_;have BX := n4_;clear n0_ n1_ n2_ n3_ n4_;clear zx0 zx1)))
    go_ret
    exact ⟨rfl, HB.out⟩
  ·rw [if_neg sa] at h
   have HSA := Aside0.mk (Bool.eq_false_iff.mpr sa)
   obtain rfl := Option.some.inj h
   clear h sa
   go_enter Try.func9, Try.ntmps9
   go_wp2_with (first
   |((with_reducible refine gate_dst (N := 3) rfl ?_);refine box_event ?hg (N := 3) ?hd (cs := #[.slice A0_0 l0_0.length c0_0]) (t := 31) ?hr ?_;(case hd => rfl);(case hg => rfl);(case hr => first|(go_simp;done)|(go_simp;rfl));intro gt hg w3 hbox hb;have HB := Aside0.mk hb;have BT := Aside0.mk hbox;clear hg hbox hb)
   |((with_reducible refine gate_dst (N := 4) rfl ?_);refine box_event ?hg (N := 4) ?hd (cs := #[.int .i64 a0, .int .i64 a1]) (t := 33) ?hr ?_;(case hd => rfl);(case hg => rfl);(case hr => first|(go_simp;done)|(go_simp;rfl));intro ga hg w4 hbox hb;have n0_ := Aside0.mk (below_step HB.out hb);have n1_ := Aside0.mk (blk_below BT.out hb);have BA := Aside0.mk hbox;clear HB BT hg hbox hb;have HB := n0_;have BT := n1_;clear n0_ n1_)
   |((with_reducible refine gate_dst (N := 5) rfl ?_);refine box_event ?hg (N := 5) ?hd (cs := #[.int .i64 x0, .int .i64 x1]) (t := 33) ?hr ?_;(case hd => rfl);(case hg => rfl);(case hr => first|(go_simp;done)|(go_simp;rfl));intro gx hg w5 hbox hb;have n0_ := Aside0.mk (below_step HB.out hb);have n1_ := Aside0.mk (blk_below BT.out hb);have n2_ := Aside0.mk (blk_below BA.out hb);have BX := Aside0.mk hbox;clear HB BT BA hg hbox hb;have HB := n0_;have BT := n1_;have BA := n2_;clear n0_ n1_ n2_;have hcz : w5.cell? ⟨gt, 0, none⟩ = some (.slice A0_0 l0_0.length c0_0) := (blk_cell BT.out 0).trans rfl)
   |((with_reducible refine gate_dst (N := 9) rfl ?_);refine goesL_ (some 9) rfl rfl Try.func18 (by kernel_rfl) rfl #[.agg #[.slice A0_0 l0_0.length c0_0]] rfl (by (try simp only [List.map_toArray, List.map_cons, List.map_nil]);first|done|rfl) ?_;refine (impl_TreeOk.calls k _ _ l0_0 true _ (Kd.C_below HR.out HB.out) HC.out A1.out).mono ?_;rintro e w6 ⟨rfl, hb⟩;refine ⟨_, rfl, ?_⟩;have n0_ := Aside0.mk (below_step HB.out hb);have n1_ := Aside0.mk (blk_below BT.out hb);have n2_ := Aside0.mk (blk_below BA.out hb);have n3_ := Aside0.mk (blk_below BX.out hb);clear HB BT BA BX hb;have HB := n0_;have BT := n1_;have BA := n2_;have BX := n3_;clear n0_ n1_ n2_ n3_;clear hcz;have hcz6 : w6.cell? ⟨gt, 0, none⟩ = some (.slice A0_0 l0_0.length c0_0) := (blk_cell BT.out 0).trans rfl)
   |((with_reducible refine gate_dst (N := 12) rfl ?_);refine goesL_ (some 12) rfl rfl Try.func19 (by kernel_rfl) rfl #[.agg #[.slice A0_0 l0_0.length c0_0]] rfl (by (try simp only [List.map_toArray, List.map_cons, List.map_nil]);first|done|rfl) ?_;refine (newGarden_calls _ A0_0 c0_0 l0_0 (Kd.C_below HR.out HB.out) HC.out HRT.out).mono ?_;rintro e w7 ⟨wb, ad, va, G, gg, gm, rfl, hwb, hA, hG⟩;refine ⟨_, rfl, ?_⟩;have hb := below_then hwb hwb.size hG.bel;have HG := Aside0.mk hG;have HWB := Aside0.mk (show wb.heap.size ≤ w7.heap.size from hG.bel.size);clear hwb hA hG hcz6;have n0_ := Aside0.mk (below_step HB.out hb);have n1_ := Aside0.mk (blk_below BA.out hb);have n2_ := Aside0.mk (blk_below BX.out hb);clear HB BA BX hb;have HB := n0_;have BA := n1_;have BX := n2_;clear n0_ n1_ n2_;have za0 : w7.cell? ⟨ga, 0, none⟩ = some (.int .i64 a0) := (blk_cell BA.out 0).trans rfl;have za1 : w7.cell? ⟨ga, 1, none⟩ = some (.int .i64 a1) := (blk_cell BA.out 1).trans rfl)
   |((with_reducible refine gate_dst (N := 15) rfl ?_);(refine goesL_ (some 15) rfl rfl Try.func20 (by kernel_rfl) rfl #[.pointer (some ⟨gg, 0, none⟩), .agg #[.int .i64 a0, .int .i64 a1]] rfl (by (try simp only [List.map_toArray, List.map_cons, List.map_nil]);first|done|rfl) ?_;refine (spotIn_calls wb _ l0_0 va G gg gm a0 a1 HG.out).mono ?_;rintro e w8 ⟨rfl, hb⟩;refine ⟨_, rfl, ?_⟩;rw [HSA.out];have n0_ := Aside0.mk (HG.out.below HWB.out hb);have n1_ := Aside0.mk (Nat.le_trans HWB.out hb.size);have n2_ := Aside0.mk (below_step HB.out hb);have n3_ := Aside0.mk (blk_below BA.out hb);have n4_ := Aside0.mk (blk_below BX.out hb);clear HG HWB HB BA BX hb;have HG := n0_;have HWB := n1_;have HB := n2_;have BA := n3_;have BX := n4_;clear n0_ n1_ n2_ n3_ n4_;clear za0 za1)))
   go_ret
   exact ⟨rfl, HB.out⟩
 | false =>
  rw [if_neg (by simp)] at h
  obtain rfl := Option.some.inj h
  have A1 := Aside0.mk h1
  clear h h1
  go_enter Try.func9, Try.ntmps9
  go_wp2_with (first
  |((with_reducible refine gate_dst (N := 3) rfl ?_);refine box_event ?hg (N := 3) ?hd (cs := #[.slice A0_0 l0_0.length c0_0]) (t := 31) ?hr ?_;(case hd => rfl);(case hg => rfl);(case hr => first|(go_simp;done)|(go_simp;rfl));intro gt hg w3 hbox hb;have HB := Aside0.mk hb;have BT := Aside0.mk hbox;clear hg hbox hb)
  |((with_reducible refine gate_dst (N := 4) rfl ?_);refine box_event ?hg (N := 4) ?hd (cs := #[.int .i64 a0, .int .i64 a1]) (t := 33) ?hr ?_;(case hd => rfl);(case hg => rfl);(case hr => first|(go_simp;done)|(go_simp;rfl));intro ga hg w4 hbox hb;have n0_ := Aside0.mk (below_step HB.out hb);have n1_ := Aside0.mk (blk_below BT.out hb);have BA := Aside0.mk hbox;clear HB BT hg hbox hb;have HB := n0_;have BT := n1_;clear n0_ n1_)
  |((with_reducible refine gate_dst (N := 5) rfl ?_);refine box_event ?hg (N := 5) ?hd (cs := #[.int .i64 x0, .int .i64 x1]) (t := 33) ?hr ?_;(case hd => rfl);(case hg => rfl);(case hr => first|(go_simp;done)|(go_simp;rfl));intro gx hg w5 hbox hb;have n0_ := Aside0.mk (below_step HB.out hb);have n1_ := Aside0.mk (blk_below BT.out hb);have n2_ := Aside0.mk (blk_below BA.out hb);have BX := Aside0.mk hbox;clear HB BT BA hg hbox hb;have HB := n0_;have BT := n1_;have BA := n2_;clear n0_ n1_ n2_;have hcz : w5.cell? ⟨gt, 0, none⟩ = some (.slice A0_0 l0_0.length c0_0) := (blk_cell BT.out 0).trans rfl)
  |((with_reducible refine gate_dst (N := 9) rfl ?_);refine goesL_ (some 9) rfl rfl Try.func18 (by kernel_rfl) rfl #[.agg #[.slice A0_0 l0_0.length c0_0]] rfl (by (try simp only [List.map_toArray, List.map_cons, List.map_nil]);first|done|rfl) ?_;refine (impl_TreeOk.calls k _ _ l0_0 false _ (Kd.C_below HR.out HB.out) HC.out A1.out).mono ?_;rintro e w6 ⟨rfl, hb⟩;refine ⟨_, rfl, ?_⟩;have n0_ := Aside0.mk (below_step HB.out hb);have n1_ := Aside0.mk (blk_below BT.out hb);have n2_ := Aside0.mk (blk_below BA.out hb);have n3_ := Aside0.mk (blk_below BX.out hb);clear HB BT BA BX hb;have HB := n0_;have BT := n1_;have BA := n2_;have BX := n3_;clear n0_ n1_ n2_ n3_;clear hcz;have hcz6 : w6.cell? ⟨gt, 0, none⟩ = some (.slice A0_0 l0_0.length c0_0) := (blk_cell BT.out 0).trans rfl))
  go_ret
  exact ⟨rfl, HB.out⟩
end Go.Proofs.Ytbogfagafdokeaa.QFnExactSpotLess
