/- The writer's methods, walked: attr, node, kids. -/
import Derived.Test.YtjojmfhgfeflnaaGreatDoorOneW
namespace Go.Proofs.YtjojmfhgfeflnaaGreatDoor.QFnExactInner
open Go Go.RowKit Go.Proofs.YtjojmfhgfeflnaaGreatDoorV.PrintWords Go.Proofs.YtjojmfhgfeflnaaGreatDoorV.PrintLast Go.Proofs.YtjojmfhgfeflnaaGreatDoorV.PrintMore Go.Proofs.YtjojmfhgfeflnaaGreatDoor.Val Go.Proofs.YtjojmfhgfeflnaaGreatDoor.TreeIx Go.Proofs.YtjojmfhgfeflnaaGreatDoor.Trie
set_option linter.unusedVariables false
set_option linter.unusedSimpArgs false

theorem eT_calls (w : World) (s : ByteArray) (hs : s.size ≤ 1048576) : Calls Tryz.prog 41 #[.string s] w fun e w' => e = .returned (.string (eT s)) ∧ Below w.heap.size w w' :=
  escapeText_calls w s.data.toList (by rw [Array.length_toList]; exact hs)
theorem eV_calls (w : World) (s : ByteArray) (hs : s.size ≤ 1048576) : Calls Tryz.prog 52 #[.string s] w fun e w' => e = .returned (.string (eV s)) ∧ Below w.heap.size w w' :=
  escapeValue_calls w s.data.toList (by rw [Array.length_toList]; exact hs)
/-- A call that writes u at the writer in block b; what lay in wg stays. -/
def WrC (wg : World) (b : Nat) (f : FuncId) (args : Array Value) (u : ByteArray) : Prop :=
  ∀ (W : World) (s : ByteArray), Below wg.heap.size wg W → WB W wg.heap.size b s → s.size + u.size ≤ 3000000000000 →
    Calls Tryz.prog f args W fun e W' => e = .returned (.tuple #[]) ∧ WB W' wg.heap.size b (s ++ u) ∧ Below wg.heap.size wg W' ∧ KeptB b W W'
theorem WB.drew {W : World} {base b : Nat} {s : ByteArray} (h : WB W base b s) : WB W.drew base b s := h.below ((Below.refl _ _).drew)
theorem WB.lt {W : World} {base b : Nat} {s : ByteArray} (h : WB W base b s) : b < W.heap.size := by
  obtain ⟨_, p, v, h1, _⟩ := h
  exact blk_lt h1
set_option maxHeartbeats 8000000 in
set_option maxRecDepth 100000 in
theorem attr_calls (wg : World) (b : Nat) (a : S77) (h0 : a.f0.size ≤ 1048576) (h1 : a.f1.size ≤ 1048576) : WrC wg b 42 #[bp b, .agg #[.string a.f0, .string a.f1]] (attE a) := by
  intro W s hb hw hl
  have vs := eV_size a.f1
  obtain ⟨z, ez⟩ : ∃ z, z = eV a.f1 := ⟨_, rfl⟩
  rw [← ez] at vs
  have EZ := Aside0.mk ez.symm
  have EE := Aside0.mk (show attE a = (((⟨#[32]⟩ : ByteArray) ++ a.f0 ++ (⟨#[61, 34]⟩ : ByteArray)) ++ z) ++ (⟨#[34]⟩ : ByteArray) from by rw [ez]; rfl)
  have s1 : (9223372036854775807 < 1 + a.f0.size) = False := eq_false (by omega)
  have s2 : (9223372036854775807 < 1 + a.f0.size + 2) = False := eq_false (by omega)
  have s3 : (9223372036854775807 < 1 + a.f0.size + 2 + z.size) = False := eq_false (by omega)
  have s4 : (9223372036854775807 < 1 + a.f0.size + 2 + z.size + 1) = False := eq_false (by omega)
  have A1 := Aside0.mk h1
  have HB0 := Aside0.mk hb
  have HW0 := Aside0.mk hw
  have HL := Aside0.mk hl
  clear hb hw hl h0 h1 ez vs
  go_enter Tryz.func42, Tryz.ntmps42
  go_wp2_with (first
    | ((with_reducible refine gate_dst (N := 3) rfl ?_); refine box_event ?hg (N := 3) ?hd (cs := #[.string a.f0, .string a.f1]) (t := 77) ?hr ?_; (case hd => rfl); (case hg => rfl); (case hr => first | (go_simp; done) | (go_simp; rfl)); intro gx hg w1 hbox hb; have GN := Aside0.mk (show gx ≠ b from by rw [hg]; have := HW0.out.lt; omega); have HX1 := Aside0.mk hbox; have HB1 := Aside0.mk (below_step HB0.out hb); have HW1 := Aside0.mk (HW0.out.below hb); have HK1 := Aside0.mk (keptB_below b hb); clear hg hbox hb HB0 HW0))
  refine start_ (n := 13) (S := fun w' => w'.cell? ⟨gx, 0, none⟩ = some (.string a.f0) ∧ w'.cell? ⟨gx, 1, none⟩ = some (.string a.f1)) (ds := []) #[false, false, false, false, false, false, false, false, false, false, false, false, false] (by kernel_rfl) rfl rfl ⟨(blk_cell HX1.out 0).trans rfl, (blk_cell HX1.out 1).trans rfl⟩ (fun hHeld => ?_)
  have HB2 := Aside0.mk (HB1.out.drew)
  have HX2 := Aside0.mk (show w1.drew.heap[gx]? = _ from HX1.out)
  have HW2 := Aside0.mk (HW1.out.drew)
  have HK2 := Aside0.mk (show KeptB b W w1.drew from HK1.out.drew)
  clear HB1 HX1 HW1 HK1
  generalize w1.drew = w2 at HB2 HX2 HW2 HK2 hHeld ⊢
  refine pure_ (i := 0) (N := (some 4)) (v := ?_) (a' := ?_) #[true, false, false, false, false, false, false, false, false, false, false, false, false] rfl rfl (by kernel_rfl) (fun _ _ _ h => h) (Or.inl ⟨by rfl, ?_⟩) ?_ ?_
  rotate_left
  · intro w'
    go_simp
    with_reducible rfl
  rotate_left
  · simp only [Act.put, List.setIfInBounds_toArray, List.set_cons_zero, List.set_cons_succ, i64_w, i32_w]
    rfl
  refine pure_ (i := 1) (N := (some 5)) (v := ?_) (a' := ?_) #[true, true, false, false, false, false, false, false, false, false, false, false, false] rfl rfl (by kernel_rfl) (fun _ _ _ h => h) (Or.inl ⟨by rfl, ?_⟩) ?_ ?_
  rotate_left
  · intro w'
    go_simp
    with_reducible rfl
  rotate_left
  · simp only [Act.put, List.setIfInBounds_toArray, List.set_cons_zero, List.set_cons_succ, i64_w, i32_w]
    rfl
  refine pure_ (i := 2) (N := (some 6)) (v := ?_) (a' := ?_) #[true, true, true, false, false, false, false, false, false, false, false, false, false] rfl rfl (by kernel_rfl) (fun _ _ _ h => h) (Or.inl ⟨by rfl, ?_⟩) ?_ ?_
  rotate_left
  · intro w'
    go_simp
    with_reducible rfl
  rotate_left
  · simp only [Act.put, List.setIfInBounds_toArray, List.set_cons_zero, List.set_cons_succ, i64_w, i32_w]
    rfl
  refine pure_ (i := 3) (N := (some 7)) (v := ?_) (a' := ?_) #[true, true, true, true, false, false, false, false, false, false, false, false, false] rfl rfl (by kernel_rfl) (fun _ _ _ h => h) (Or.inl ⟨by rfl, ?_⟩) ?_ ?_
  rotate_left
  · intro w'
    go_simp
    with_reducible rfl
  rotate_left
  · simp only [Act.put, List.setIfInBounds_toArray, List.set_cons_zero, List.set_cons_succ, i64_w, i32_w]
    rfl
  refine take_ (i := 4) (N := (some 8)) (v := ?_) (a' := ?_) #[true, true, true, true, true, false, false, false, false, false, false, false, false] rfl rfl (by kernel_rfl) (fun _ _ _ h => h) (Or.inl ⟨by rfl, ?_⟩) hHeld ?_ ?_
  rotate_left
  · rintro w' ⟨h1, h2⟩
    go_simp
    with_reducible rfl
  rotate_left
  · simp only [Act.put, List.setIfInBounds_toArray, List.set_cons_zero, List.set_cons_succ, i64_w, i32_w]
    rfl
  refine pure_ (i := 5) (N := (some 9)) (v := ?_) (a' := ?_) #[true, true, true, true, true, true, false, false, false, false, false, false, false] rfl rfl (by kernel_rfl) (fun _ _ _ h => h) (Or.inl ⟨by rfl, ?_⟩) ?_ ?_
  rotate_left
  · intro w'
    go_simp
    with_reducible rfl
  rotate_left
  · simp only [Act.put, List.setIfInBounds_toArray, List.set_cons_zero, List.set_cons_succ, i64_w, i32_w]
    rfl
  refine pure_ (i := 6) (N := (some 10)) (v := ?_) (a' := ?_) #[true, true, true, true, true, true, true, false, false, false, false, false, false] rfl rfl (by kernel_rfl) (fun _ _ _ h => h) (Or.inl ⟨by rfl, ?_⟩) ?_ ?_
  rotate_left
  · intro w'
    go_simp
    with_reducible rfl
  rotate_left
  · simp only [Act.put, List.setIfInBounds_toArray, List.set_cons_zero, List.set_cons_succ, i64_w, i32_w]
    rfl
  refine pure_ (i := 7) (N := (some 11)) (v := ?_) (a' := ?_) #[true, true, true, true, true, true, true, true, false, false, false, false, false] rfl rfl (by kernel_rfl) (fun _ _ _ h => h) (Or.inl ⟨by rfl, ?_⟩) ?_ ?_
  rotate_left
  · intro w'
    go_simp
    with_reducible rfl
  rotate_left
  · simp only [Act.put, List.setIfInBounds_toArray, List.set_cons_zero, List.set_cons_succ, i64_w, i32_w]
    rfl
  refine take_ (i := 8) (N := (some 12)) (v := ?_) (a' := ?_) #[true, true, true, true, true, true, true, true, true, false, false, false, false] rfl rfl (by kernel_rfl) (fun _ _ _ h => h) (Or.inl ⟨by rfl, ?_⟩) hHeld ?_ ?_
  rotate_left
  · rintro w' ⟨h1, h2⟩
    go_simp
    with_reducible rfl
  rotate_left
  · simp only [Act.put, List.setIfInBounds_toArray, List.set_cons_zero, List.set_cons_succ, i64_w, i32_w]
    rfl
  refine one_ (i := 9) (N := (some 13)) #[true, true, true, true, true, true, true, true, true, true, false, false, false] rfl rfl (by kernel_rfl) (by decide) (fun K hK => ?_)
  refine call_ (52) #[.string a.f1] (by rfl) rfl (by first | (go_simp; done) | (go_simp; rfl)) ?_
  refine (eV_calls _ a.f1 A1.out).mono ?_
  rintro e w3 ⟨rfl, hb⟩
  rw [EZ.out]
  refine ⟨_, rfl, ?_⟩
  have HB3 := Aside0.mk (show Below wg.heap.size wg w3 from below_step HB2.out hb)
  have HW3 := Aside0.mk (HW2.out.below hb)
  have HK3 := Aside0.mk (HK2.out.trans (keptB_below b hb))
  have HX3 := Aside0.mk (blk_below HX2.out hb)
  have hS3 : (fun w' => w'.cell? ⟨gx, 0, none⟩ = some (.string a.f0) ∧ w'.cell? ⟨gx, 1, none⟩ = some (.string a.f1)) w3 := ⟨(blk_cell HX3.out 0).trans rfl, (blk_cell HX3.out 1).trans rfl⟩
  clear hb
  refine hK.out _ _ hS3 (fun hHeld => ?_)
  clear hK K
  refine norm_ (a' := ?_) ?_ ?_
  rotate_left
  · show Act.put _ (some 13) _ = _
    simp only [Act.put, List.setIfInBounds_toArray, List.set_cons_zero, List.set_cons_succ, i64_w, i32_w]
    rfl
  refine pure_ (i := 10) (N := (some 14)) (v := ?_) (a' := ?_) #[true, true, true, true, true, true, true, true, true, true, true, false, false] rfl rfl (by kernel_rfl) (fun _ _ _ h => h) (Or.inl ⟨by rfl, ?_⟩) ?_ ?_
  rotate_left
  · intro w'
    go_simp
    with_reducible rfl
  rotate_left
  · simp only [Act.put, List.setIfInBounds_toArray, List.set_cons_zero, List.set_cons_succ, i64_w, i32_w]
    rfl
  refine pure_ (i := 11) (N := (some 15)) (v := ?_) (a' := ?_) #[true, true, true, true, true, true, true, true, true, true, true, true, false] rfl rfl (by kernel_rfl) (fun _ _ _ h => h) (Or.inl ⟨by rfl, ?_⟩) ?_ ?_
  rotate_left
  · intro w'
    go_simp
    with_reducible rfl
  rotate_left
  · simp only [Act.put, List.setIfInBounds_toArray, List.set_cons_zero, List.set_cons_succ, i64_w, i32_w]
    rfl
  refine one_ (i := 12) (N := (some 16)) #[true, true, true, true, true, true, true, true, true, true, true, true, true] rfl rfl (by kernel_rfl) (by decide) (fun K hK => ?_)
  refine call_ (40) #[bp b, .string ((((⟨#[32]⟩ : ByteArray) ++ a.f0 ++ (⟨#[61, 34]⟩ : ByteArray)) ++ z) ++ (⟨#[34]⟩ : ByteArray))] (by rfl) rfl (by first | (go_simp; done) | (go_simp; rfl)) ?_
  refine (ws_calls wg w3 wg.heap.size b s _ HW3.out HB3.out HB3.out.size (by rw [← EE.out]; exact Nat.le_trans HL.out (by decide))).mono ?_
  rintro e w4 ⟨rfl, hw, hb, hk⟩
  refine ⟨_, rfl, ?_⟩
  have HB4 := Aside0.mk hb
  have HW4 := Aside0.mk hw
  have HK4 := Aside0.mk (HK3.out.trans hk)
  have HX4 := Aside0.mk (hk.blk HX3.out (by decide) GN.out)
  have hS4 : (fun w' => w'.cell? ⟨gx, 0, none⟩ = some (.string a.f0) ∧ w'.cell? ⟨gx, 1, none⟩ = some (.string a.f1)) w4 := ⟨(blk_cell HX4.out 0).trans rfl, (blk_cell HX4.out 1).trans rfl⟩
  clear hw hb hk
  refine hK.out _ _ hS4 (fun hHeld => ?_)
  clear hK K
  refine norm_ (a' := ?_) ?_ ?_
  rotate_left
  · show Act.put _ (some 16) _ = _
    simp only [Act.put, List.setIfInBounds_toArray, List.set_cons_zero, List.set_cons_succ, i64_w, i32_w]
    rfl
  refine done_ (by kernel_rfl) ?_
  go_wp2_with (fail)
  go_end0
  exact ⟨rfl, by rw [EE.out]; exact HW4.out, HB4.out, HK4.out⟩
/-- The twigs of a right tree, grown; the library's table. -/
structure IC (wa wg : World) (ad : Addr) (l : List S57) (va : Nat → Value) (G : Gh) : Prop where
  bel : Below wa.heap.size wa wg
  args : Args wa ad l va
  gar : Gar wa wg l va G
  tab : STab wg
  right : Right l
  fine : Fine l
set_option maxHeartbeats 8000000 in
set_option maxRecDepth 100000 in
theorem nodeI_calls (wa wg : World) (ad : Addr) (l : List S57) (va : Nat → Value) (G : Gh) (hI : IC wa wg ad l va G) (b j i : Nat) (t : ByteArray) (hj : j < l.length) (h0 : 0 < i) (hi : i < l.length) (hup : G.up i = .pointer (some ⟨G.b j, 0, none⟩))
    (hK : WrC wg b 18 #[bp b, .pointer (some ⟨G.b i, 0, none⟩)] t) : WrC wg b 29 #[bp b, .pointer (some ⟨G.b i, 0, none⟩)] (nodeS (rd_T57 l (i : Nat)) (rd_T57 l (j : Nat)).f2 t) := by
  intro W s hb hw hl
  have htw := blk_below (hI.gar.tw i hi) hb
  have htj := blk_below (hI.gar.tw j hj) hb
  obtain ⟨A3, c3, ev, hc3, hC3⟩ := hI.args.sl i hi
  have f4 := hI.fine.t4 i hi
  have f2 := hI.fine.t2 i hi
  have f3 := hI.fine.len i hi
  have fa := hI.fine.at_ i hi
  have fk := hI.fine.kind i h0 hi
  obtain ⟨ab, eab⟩ : ∃ ab, ab = (rd_T57 l (j : Nat)).f2 := ⟨_, rfl⟩
  have z2 : W.cell? ⟨G.b j, 2, none⟩ = some (.string ab) := (blk_cell htj 2).trans (by rw [eab]; rfl)
  rw [← eab] at hl ⊢
  obtain ⟨x, ex⟩ : ∃ x, x = rd_T57 l (i : Nat) := ⟨_, rfl⟩
  rw [← ex] at hl f4 f2 f3 fa fk htw ev hc3 hC3 ⊢
  have y0 : W.cell? ⟨G.b i, 0, none⟩ = some (.int .i64 x.f0) := (blk_cell htw 0).trans rfl
  have y1 : W.cell? ⟨G.b i, 1, none⟩ = some (.int .i64 x.f1) := (blk_cell htw 1).trans rfl
  have y2 : W.cell? ⟨G.b i, 2, none⟩ = some (.string x.f2) := (blk_cell htw 2).trans rfl
  have y3 : W.cell? ⟨G.b i, 3, none⟩ = some (.slice A3 x.f3.length c3) := (blk_cell htw 3).trans (by rw [← ev]; rfl)
  have y4 : W.cell? ⟨G.b i, 4, none⟩ = some (.string x.f4) := (blk_cell htw 4).trans rfl
  have y5 : W.cell? ⟨G.b i, 5, none⟩ = some (.int .i64 x.f5) := (blk_cell htw 5).trans rfl
  have y7 : W.cell? ⟨G.b i, 7, none⟩ = some (.pointer (some ⟨G.b j, 0, none⟩)) := (blk_cell htw 7).trans (by rw [← hup]; rfl)
  have BA := Aside0.mk hI.bel
  have TT := Aside0.mk hI.tab
  have C3 := Aside0.mk hC3
  have FA := Aside0.mk fa
  have FK := Aside0.mk fk
  have F4 := Aside0.mk f4
  have F3 := Aside0.mk f3
  have HB0 := Aside0.mk hb
  have HW0 := Aside0.mk hw
  have HL := Aside0.mk hl
  have KC := Aside0.mk hK
  have Y7 := Aside0.mk y7
  have Z2 := Aside0.mk z2
  have s1 : (9223372036854775807 < 4 + x.f4.size) = False := eq_false (by omega)
  have s2 : (9223372036854775807 < 4 + x.f4.size + 3) = False := eq_false (by omega)
  have s3 : (9223372036854775807 < 10 + x.f2.size) = False := eq_false (by omega)
  have s4 : (9223372036854775807 < 10 + x.f2.size + 1) = False := eq_false (by omega)
  have s5 : (9223372036854775807 < 1 + x.f2.size) = False := eq_false (by omega)
  have s6 : (9223372036854775807 < 2 + x.f2.size) = False := eq_false (by omega)
  have s7 : (9223372036854775807 < 2 + x.f2.size + 1) = False := eq_false (by omega)
  clear hb hw hl hK f4 f2 f3 fa fk hC3 hc3 htw htj hI ex ev eab hup y7 z2
  go_enter Tryz.func29, Tryz.ntmps29
  go_upto_region 1 with (fail)
  have HX := Aside0.mk (blk_new W (.cells #[.int .i64 x.f0, .int .i64 x.f1, .string x.f2, .slice A3 x.f3.length c3, .string x.f4, .int .i64 x.f5] 57))
  have nb0 := below_alloc (Below.refl W.heap.size W) (.cells #[.int .i64 x.f0, .int .i64 x.f1, .string x.f2, .slice A3 x.f3.length c3, .string x.f4, .int .i64 x.f5] 57)
  have HB := Aside0.mk (below_step HB0.out nb0)
  have HW := Aside0.mk (HW0.out.below nb0)
  have HK := Aside0.mk (keptB_below b nb0)
  obtain ⟨gx, egx⟩ : ∃ gx, gx = W.heap.size := ⟨_, rfl⟩
  have GN := Aside0.mk (show gx ≠ b from by rw [egx]; have := HW0.out.lt; omega)
  have y7 := (nb0.cell (World.block_lt_of_cell? W _ Y7.out)).trans Y7.out
  have z2 := (nb0.cell (World.block_lt_of_cell? W _ Z2.out)).trans Z2.out
  rw [← egx] at HX ⊢
  clear egx nb0 y0 y1 y2 y3 y4 y5 HB0 HW0
  generalize W.alloc (.cells #[.int .i64 x.f0, .int .i64 x.f1, .string x.f2, .slice A3 x.f3.length c3, .string x.f4, .int .i64 x.f5] 57) = w1 at HX HB HW HK y7 z2 ⊢
  have k0 : w1.cell? ⟨gx, 0, none⟩ = some (.int .i64 x.f0) := (blk_cell HX.out 0).trans rfl
  have k1 : w1.cell? ⟨gx, 1, none⟩ = some (.int .i64 x.f1) := (blk_cell HX.out 1).trans rfl
  have k2 : w1.cell? ⟨gx, 2, none⟩ = some (.string x.f2) := (blk_cell HX.out 2).trans rfl
  have k3 : w1.cell? ⟨gx, 3, none⟩ = some (.slice A3 x.f3.length c3) := (blk_cell HX.out 3).trans rfl
  have k4 : w1.cell? ⟨gx, 4, none⟩ = some (.string x.f4) := (blk_cell HX.out 4).trans rfl
  have k5 : w1.cell? ⟨gx, 5, none⟩ = some (.int .i64 x.f5) := (blk_cell HX.out 5).trans rfl
  by_cases b3 : x.f1 = 3
  · have d3 : (x.f1 == 3) = true := by rw [b3]; rfl
    obtain ⟨z, hz, hz1⟩ := raw_impl ab
    obtain ⟨k, hk⟩ := val_rounds (g := fun k => impl_RawKind.f k ab) hz
    have HKR := Aside0.mk hk
    have HLN := Aside0.mk (show nodeS x ab t = if raw1 ab = true then x.f4 else eT x.f4 from by unfold nodeS; rw [if_pos b3])
    clear hz hk b3
    cases hraw : raw1 ab with
    | true =>
      rw [hraw] at hz1
      have HLN2 := Aside0.mk (show nodeS x ab t = x.f4 from by rw [HLN.out, if_pos hraw])
      have HL2 := Aside0.mk (show s.size + x.f4.size ≤ 3000000000000 from by rw [← HLN2.out]; exact HL.out)
      go_upto_region 4 with (first
        | ((with_reducible refine gate_dst (N := 29) rfl ?_); (try (refine gate_guard (by rfl) ?_; dsimp only)); refine goesL_ (some 29) rfl rfl Tryz.func39 (by kernel_rfl) rfl #[.string ab] rfl (by (try simp only [List.map_toArray, List.map_cons, List.map_nil]); first | done | rfl) ?_; refine (impl_RawKind.calls k ab z _ HKR.out).mono ?_; rintro e_ w2 ⟨rfl, hd⟩; have hb := hd.below; refine ⟨_, rfl, ?_⟩; have nb := Aside0.mk (below_step HB.out hb); have nw := Aside0.mk (HW.out.below hb); have nk := Aside0.mk (HK.out.trans (keptB_below b hb)); have nx := Aside0.mk (blk_below HX.out hb); clear k0 k1 k2 k3 k4 k5; clear HB HW HK HX; have HB := nb; have HW := nw; have HK := nk; have HX := nx; clear nb nw nk nx; have k0 : w2.cell? ⟨gx, 0, none⟩ = some (.int .i64 x.f0) := (blk_cell HX.out 0).trans rfl; have k1 : w2.cell? ⟨gx, 1, none⟩ = some (.int .i64 x.f1) := (blk_cell HX.out 1).trans rfl; have k2 : w2.cell? ⟨gx, 2, none⟩ = some (.string x.f2) := (blk_cell HX.out 2).trans rfl; have k3 : w2.cell? ⟨gx, 3, none⟩ = some (.slice A3 x.f3.length c3) := (blk_cell HX.out 3).trans rfl; have k4 : w2.cell? ⟨gx, 4, none⟩ = some (.string x.f4) := (blk_cell HX.out 4).trans rfl; have k5 : w2.cell? ⟨gx, 5, none⟩ = some (.int .i64 x.f5) := (blk_cell HX.out 5).trans rfl; clear hb hd))
      go_still_tail 5, (by kernel_rfl)
      change wpList _ _ _ _ _ w2.drew
      have nb := Aside0.mk (HB.out.drew)
      have nw := Aside0.mk (HW.out.drew)
      have nk := Aside0.mk (show KeptB b W w2.drew from HK.out.drew)
      have nx := Aside0.mk (show w2.drew.heap[gx]? = _ from HX.out)
      clear k0 k1 k2 k3 k4 k5 HB HW HK HX
      have HB := nb
      have HW := nw
      have HK := nk
      have HX := nx
      clear nb nw nk nx
      generalize w2.drew = w3 at HB HW HK HX ⊢
      have k0 : w3.cell? ⟨gx, 0, none⟩ = some (.int .i64 x.f0) := (blk_cell HX.out 0).trans rfl
      have k1 : w3.cell? ⟨gx, 1, none⟩ = some (.int .i64 x.f1) := (blk_cell HX.out 1).trans rfl
      have k2 : w3.cell? ⟨gx, 2, none⟩ = some (.string x.f2) := (blk_cell HX.out 2).trans rfl
      have k3 : w3.cell? ⟨gx, 3, none⟩ = some (.slice A3 x.f3.length c3) := (blk_cell HX.out 3).trans rfl
      have k4 : w3.cell? ⟨gx, 4, none⟩ = some (.string x.f4) := (blk_cell HX.out 4).trans rfl
      have k5 : w3.cell? ⟨gx, 5, none⟩ = some (.int .i64 x.f5) := (blk_cell HX.out 5).trans rfl
      go_wp2_with (first
        | ((with_reducible refine gate_dst (N := 37) rfl ?_); refine goesL_ (some 37) rfl rfl Tryz.func40 (by kernel_rfl) rfl #[bp b, .string x.f4] rfl (by (try simp only [List.map_toArray, List.map_cons, List.map_nil]); first | done | rfl) ?_; refine (ws_calls wg _ wg.heap.size b s x.f4 HW.out HB.out HB.out.size (Nat.le_trans HL2.out (by decide))).mono ?_; rintro e_ w4 ⟨rfl, hw, hb, hk⟩; refine ⟨_, rfl, ?_⟩; have nb := Aside0.mk hb; have nw := Aside0.mk hw; have nk := Aside0.mk (HK.out.trans hk); have nx := Aside0.mk (hk.blk HX.out (by decide) GN.out); clear k0 k1 k2 k3 k4 k5; clear HB HW HK HX; have HB := nb; have HW := nw; have HK := nk; have HX := nx; clear nb nw nk nx; have k0 : w4.cell? ⟨gx, 0, none⟩ = some (.int .i64 x.f0) := (blk_cell HX.out 0).trans rfl; have k1 : w4.cell? ⟨gx, 1, none⟩ = some (.int .i64 x.f1) := (blk_cell HX.out 1).trans rfl; have k2 : w4.cell? ⟨gx, 2, none⟩ = some (.string x.f2) := (blk_cell HX.out 2).trans rfl; have k3 : w4.cell? ⟨gx, 3, none⟩ = some (.slice A3 x.f3.length c3) := (blk_cell HX.out 3).trans rfl; have k4 : w4.cell? ⟨gx, 4, none⟩ = some (.string x.f4) := (blk_cell HX.out 4).trans rfl; have k5 : w4.cell? ⟨gx, 5, none⟩ = some (.int .i64 x.f5) := (blk_cell HX.out 5).trans rfl; clear hw hb hk))
      go_end0
      rw [HLN2.out]
      exact ⟨rfl, HW.out, HB.out, HK.out⟩
    | false =>
      rw [hraw] at hz1
      have HLN2 := Aside0.mk (show nodeS x ab t = eT x.f4 from by rw [HLN.out, if_neg (by rw [hraw]; decide)])
      have HL2 := Aside0.mk (show s.size + (eT x.f4).size ≤ 3000000000000 from by rw [← HLN2.out]; exact HL.out)
      go_upto_region 5 with (first
        | ((with_reducible refine gate_dst (N := 29) rfl ?_); (try (refine gate_guard (by rfl) ?_; dsimp only)); refine goesL_ (some 29) rfl rfl Tryz.func39 (by kernel_rfl) rfl #[.string ab] rfl (by (try simp only [List.map_toArray, List.map_cons, List.map_nil]); first | done | rfl) ?_; refine (impl_RawKind.calls k ab z _ HKR.out).mono ?_; rintro e_ w2 ⟨rfl, hd⟩; have hb := hd.below; refine ⟨_, rfl, ?_⟩; have nb := Aside0.mk (below_step HB.out hb); have nw := Aside0.mk (HW.out.below hb); have nk := Aside0.mk (HK.out.trans (keptB_below b hb)); have nx := Aside0.mk (blk_below HX.out hb); clear k0 k1 k2 k3 k4 k5; clear HB HW HK HX; have HB := nb; have HW := nw; have HK := nk; have HX := nx; clear nb nw nk nx; have k0 : w2.cell? ⟨gx, 0, none⟩ = some (.int .i64 x.f0) := (blk_cell HX.out 0).trans rfl; have k1 : w2.cell? ⟨gx, 1, none⟩ = some (.int .i64 x.f1) := (blk_cell HX.out 1).trans rfl; have k2 : w2.cell? ⟨gx, 2, none⟩ = some (.string x.f2) := (blk_cell HX.out 2).trans rfl; have k3 : w2.cell? ⟨gx, 3, none⟩ = some (.slice A3 x.f3.length c3) := (blk_cell HX.out 3).trans rfl; have k4 : w2.cell? ⟨gx, 4, none⟩ = some (.string x.f4) := (blk_cell HX.out 4).trans rfl; have k5 : w2.cell? ⟨gx, 5, none⟩ = some (.int .i64 x.f5) := (blk_cell HX.out 5).trans rfl; clear hb hd))
      refine start_ (n := 7) (S := fun w' => w'.cell? ⟨gx, 4, none⟩ = some (.string x.f4)) (ds := []) #[false, false, false, false, false, false, false] (by kernel_rfl) rfl rfl k4 (fun hHeld => ?_)
      have HB3 := Aside0.mk (HB.out.drew)
      have HX3 := Aside0.mk (show w2.drew.heap[gx]? = _ from HX.out)
      have HW3 := Aside0.mk (HW.out.drew)
      have HK3 := Aside0.mk (show KeptB b W w2.drew from HK.out.drew)
      clear HB HX HW HK k0 k1 k2 k3 k4 k5 y7 z2
      generalize w2.drew = w3 at HB3 HX3 HW3 HK3 hHeld ⊢
      refine pure_ (i := 0) (N := (some 38)) (v := ?_) (a' := ?_) #[true, false, false, false, false, false, false] rfl rfl (by kernel_rfl) (fun _ _ _ h => h) (Or.inl ⟨by rfl, ?_⟩) ?_ ?_
      rotate_left
      · intro w'
        go_simp
        with_reducible rfl
      rotate_left
      · simp only [Act.put, List.setIfInBounds_toArray, List.set_cons_zero, List.set_cons_succ, i64_w, i32_w]
        rfl
      refine pure_ (i := 1) (N := (some 39)) (v := ?_) (a' := ?_) #[true, true, false, false, false, false, false] rfl rfl (by kernel_rfl) (fun _ _ _ h => h) (Or.inl ⟨by rfl, ?_⟩) ?_ ?_
      rotate_left
      · intro w'
        go_simp
        with_reducible rfl
      rotate_left
      · simp only [Act.put, List.setIfInBounds_toArray, List.set_cons_zero, List.set_cons_succ, i64_w, i32_w]
        rfl
      refine pure_ (i := 2) (N := (some 40)) (v := ?_) (a' := ?_) #[true, true, true, false, false, false, false] rfl rfl (by kernel_rfl) (fun _ _ _ h => h) (Or.inl ⟨by rfl, ?_⟩) ?_ ?_
      rotate_left
      · intro w'
        go_simp
        with_reducible rfl
      rotate_left
      · simp only [Act.put, List.setIfInBounds_toArray, List.set_cons_zero, List.set_cons_succ, i64_w, i32_w]
        rfl
      refine pure_ (i := 3) (N := (some 41)) (v := ?_) (a' := ?_) #[true, true, true, true, false, false, false] rfl rfl (by kernel_rfl) (fun _ _ _ h => h) (Or.inl ⟨by rfl, ?_⟩) ?_ ?_
      rotate_left
      · intro w'
        go_simp
        with_reducible rfl
      rotate_left
      · simp only [Act.put, List.setIfInBounds_toArray, List.set_cons_zero, List.set_cons_succ, i64_w, i32_w]
        rfl
      refine take_ (i := 4) (N := (some 42)) (v := ?_) (a' := ?_) #[true, true, true, true, true, false, false] rfl rfl (by kernel_rfl) (fun _ _ _ h => h) (Or.inl ⟨by rfl, ?_⟩) hHeld ?_ ?_
      rotate_left
      · rintro w' h1
        go_simp
        with_reducible rfl
      rotate_left
      · simp only [Act.put, List.setIfInBounds_toArray, List.set_cons_zero, List.set_cons_succ, i64_w, i32_w]
        rfl
      refine one_ (i := 5) (N := (some 43)) #[true, true, true, true, true, true, false] rfl rfl (by kernel_rfl) (by decide) (fun K hK => ?_)
      refine call_ (41) #[.string x.f4] (by rfl) rfl (by first | (go_simp; done) | (go_simp; rfl)) ?_
      refine (eT_calls _ x.f4 F4.out).mono ?_
      rintro e w4 ⟨rfl, hb⟩
      refine ⟨_, rfl, ?_⟩
      have HB4 := Aside0.mk (show Below wg.heap.size wg w4 from below_step HB3.out hb)
      have HW4 := Aside0.mk (HW3.out.below hb)
      have HK4 := Aside0.mk (HK3.out.trans (keptB_below b hb))
      have HX4 := Aside0.mk (blk_below HX3.out hb)
      have hS4 : (fun w' => w'.cell? ⟨gx, 4, none⟩ = some (.string x.f4)) w4 := (blk_cell HX4.out 4).trans rfl
      clear hb
      refine hK.out _ _ hS4 (fun hHeld => ?_)
      clear hK K
      refine norm_ (a' := ?_) ?_ ?_
      rotate_left
      · show Act.put _ (some 43) _ = _
        simp only [Act.put, List.setIfInBounds_toArray, List.set_cons_zero, List.set_cons_succ, i64_w, i32_w]
        rfl
      refine one_ (i := 6) (N := (some 44)) #[true, true, true, true, true, true, true] rfl rfl (by kernel_rfl) (by decide) (fun K hK => ?_)
      refine call_ (40) #[bp b, .string (eT x.f4)] (by rfl) rfl (by first | (go_simp; done) | (go_simp; rfl)) ?_
      refine (ws_calls wg w4 wg.heap.size b s _ HW4.out HB4.out HB4.out.size (Nat.le_trans HL2.out (by decide))).mono ?_
      rintro e w5 ⟨rfl, hw, hb, hk⟩
      refine ⟨_, rfl, ?_⟩
      have HB5 := Aside0.mk hb
      have HW5 := Aside0.mk hw
      have HK5 := Aside0.mk (HK4.out.trans hk)
      have HX5 := Aside0.mk (hk.blk HX4.out (by decide) GN.out)
      have hS5 : (fun w' => w'.cell? ⟨gx, 4, none⟩ = some (.string x.f4)) w5 := (blk_cell HX5.out 4).trans rfl
      clear hw hb hk
      refine hK.out _ _ hS5 (fun hHeld => ?_)
      clear hK K
      refine norm_ (a' := ?_) ?_ ?_
      rotate_left
      · show Act.put _ (some 44) _ = _
        simp only [Act.put, List.setIfInBounds_toArray, List.set_cons_zero, List.set_cons_succ, i64_w, i32_w]
        rfl
      refine done_ (by kernel_rfl) ?_
      go_wp2_with (fail)
      go_end0
      rw [HLN2.out]
      exact ⟨rfl, HW5.out, HB5.out, HK5.out⟩
  have d3 : (x.f1 == 3) = false := beq_eq_false_iff_ne.mpr b3
  by_cases b4 : x.f1 = 4
  · have d4 : (x.f1 == 4) = true := by rw [b4]; rfl
    have HLN := Aside0.mk (show nodeS x ab t = (((⟨#[60, 33, 45, 45]⟩ : ByteArray) ++ x.f4) ++ (⟨#[45, 45, 62]⟩ : ByteArray)) from by unfold nodeS; rw [if_neg b3, if_pos b4])
    have HL2 := Aside0.mk (show s.size + (((⟨#[60, 33, 45, 45]⟩ : ByteArray) ++ x.f4) ++ (⟨#[45, 45, 62]⟩ : ByteArray)).size ≤ 3000000000000 from by rw [← HLN.out]; exact HL.out)
    clear b3 b4
    go_upto_region 7 with (fail)
    go_still_tail 7, (by kernel_rfl)
    change wpList _ _ _ _ _ w1.drew
    have nb := Aside0.mk (HB.out.drew)
    have nw := Aside0.mk (HW.out.drew)
    have nk := Aside0.mk (show KeptB b W w1.drew from HK.out.drew)
    have nx := Aside0.mk (show w1.drew.heap[gx]? = _ from HX.out)
    clear k0 k1 k2 k3 k4 k5 HB HW HK HX
    have HB := nb
    have HW := nw
    have HK := nk
    have HX := nx
    clear nb nw nk nx
    generalize w1.drew = w2 at HB HW HK HX ⊢
    have k0 : w2.cell? ⟨gx, 0, none⟩ = some (.int .i64 x.f0) := (blk_cell HX.out 0).trans rfl
    have k1 : w2.cell? ⟨gx, 1, none⟩ = some (.int .i64 x.f1) := (blk_cell HX.out 1).trans rfl
    have k2 : w2.cell? ⟨gx, 2, none⟩ = some (.string x.f2) := (blk_cell HX.out 2).trans rfl
    have k3 : w2.cell? ⟨gx, 3, none⟩ = some (.slice A3 x.f3.length c3) := (blk_cell HX.out 3).trans rfl
    have k4 : w2.cell? ⟨gx, 4, none⟩ = some (.string x.f4) := (blk_cell HX.out 4).trans rfl
    have k5 : w2.cell? ⟨gx, 5, none⟩ = some (.int .i64 x.f5) := (blk_cell HX.out 5).trans rfl
    go_wp2_with (first
      | ((with_reducible refine gate_dst (N := 54) rfl ?_); refine goesL_ (some 54) rfl rfl Tryz.func40 (by kernel_rfl) rfl #[bp b, .string (((⟨#[60, 33, 45, 45]⟩ : ByteArray) ++ x.f4) ++ (⟨#[45, 45, 62]⟩ : ByteArray))] rfl (by (try simp only [List.map_toArray, List.map_cons, List.map_nil]); first | done | rfl) ?_; refine (ws_calls wg _ wg.heap.size b s (((⟨#[60, 33, 45, 45]⟩ : ByteArray) ++ x.f4) ++ (⟨#[45, 45, 62]⟩ : ByteArray)) HW.out HB.out HB.out.size (Nat.le_trans HL2.out (by decide))).mono ?_; rintro e_ w3 ⟨rfl, hw, hb, hk⟩; refine ⟨_, rfl, ?_⟩; have nb := Aside0.mk hb; have nw := Aside0.mk hw; have nk := Aside0.mk (HK.out.trans hk); have nx := Aside0.mk (hk.blk HX.out (by decide) GN.out); clear k0 k1 k2 k3 k4 k5; clear HB HW HK HX; have HB := nb; have HW := nw; have HK := nk; have HX := nx; clear nb nw nk nx; have k0 : w3.cell? ⟨gx, 0, none⟩ = some (.int .i64 x.f0) := (blk_cell HX.out 0).trans rfl; have k1 : w3.cell? ⟨gx, 1, none⟩ = some (.int .i64 x.f1) := (blk_cell HX.out 1).trans rfl; have k2 : w3.cell? ⟨gx, 2, none⟩ = some (.string x.f2) := (blk_cell HX.out 2).trans rfl; have k3 : w3.cell? ⟨gx, 3, none⟩ = some (.slice A3 x.f3.length c3) := (blk_cell HX.out 3).trans rfl; have k4 : w3.cell? ⟨gx, 4, none⟩ = some (.string x.f4) := (blk_cell HX.out 4).trans rfl; have k5 : w3.cell? ⟨gx, 5, none⟩ = some (.int .i64 x.f5) := (blk_cell HX.out 5).trans rfl; clear hw hb hk))
    go_end0
    rw [HLN.out]
    exact ⟨rfl, HW.out, HB.out, HK.out⟩
  have d4 : (x.f1 == 4) = false := beq_eq_false_iff_ne.mpr b4
  by_cases b5 : x.f1 = 5
  · have d5 : (x.f1 == 5) = true := by rw [b5]; rfl
    have HLN := Aside0.mk (show nodeS x ab t = (((⟨#[60, 33, 100, 111, 99, 116, 121, 112, 101, 32]⟩ : ByteArray) ++ x.f2) ++ (⟨#[62]⟩ : ByteArray)) from by unfold nodeS; rw [if_neg b3, if_neg b4, if_pos b5])
    have HL2 := Aside0.mk (show s.size + (((⟨#[60, 33, 100, 111, 99, 116, 121, 112, 101, 32]⟩ : ByteArray) ++ x.f2) ++ (⟨#[62]⟩ : ByteArray)).size ≤ 3000000000000 from by rw [← HLN.out]; exact HL.out)
    clear b3 b4 b5
    go_upto_region 9 with (fail)
    go_still_tail 7, (by kernel_rfl)
    change wpList _ _ _ _ _ w1.drew
    have nb := Aside0.mk (HB.out.drew)
    have nw := Aside0.mk (HW.out.drew)
    have nk := Aside0.mk (show KeptB b W w1.drew from HK.out.drew)
    have nx := Aside0.mk (show w1.drew.heap[gx]? = _ from HX.out)
    clear k0 k1 k2 k3 k4 k5 HB HW HK HX
    have HB := nb
    have HW := nw
    have HK := nk
    have HX := nx
    clear nb nw nk nx
    generalize w1.drew = w2 at HB HW HK HX ⊢
    have k0 : w2.cell? ⟨gx, 0, none⟩ = some (.int .i64 x.f0) := (blk_cell HX.out 0).trans rfl
    have k1 : w2.cell? ⟨gx, 1, none⟩ = some (.int .i64 x.f1) := (blk_cell HX.out 1).trans rfl
    have k2 : w2.cell? ⟨gx, 2, none⟩ = some (.string x.f2) := (blk_cell HX.out 2).trans rfl
    have k3 : w2.cell? ⟨gx, 3, none⟩ = some (.slice A3 x.f3.length c3) := (blk_cell HX.out 3).trans rfl
    have k4 : w2.cell? ⟨gx, 4, none⟩ = some (.string x.f4) := (blk_cell HX.out 4).trans rfl
    have k5 : w2.cell? ⟨gx, 5, none⟩ = some (.int .i64 x.f5) := (blk_cell HX.out 5).trans rfl
    go_wp2_with (first
      | ((with_reducible refine gate_dst (N := 64) rfl ?_); refine goesL_ (some 64) rfl rfl Tryz.func40 (by kernel_rfl) rfl #[bp b, .string (((⟨#[60, 33, 100, 111, 99, 116, 121, 112, 101, 32]⟩ : ByteArray) ++ x.f2) ++ (⟨#[62]⟩ : ByteArray))] rfl (by (try simp only [List.map_toArray, List.map_cons, List.map_nil]); first | done | rfl) ?_; refine (ws_calls wg _ wg.heap.size b s (((⟨#[60, 33, 100, 111, 99, 116, 121, 112, 101, 32]⟩ : ByteArray) ++ x.f2) ++ (⟨#[62]⟩ : ByteArray)) HW.out HB.out HB.out.size (Nat.le_trans HL2.out (by decide))).mono ?_; rintro e_ w3 ⟨rfl, hw, hb, hk⟩; refine ⟨_, rfl, ?_⟩; have nb := Aside0.mk hb; have nw := Aside0.mk hw; have nk := Aside0.mk (HK.out.trans hk); have nx := Aside0.mk (hk.blk HX.out (by decide) GN.out); clear k0 k1 k2 k3 k4 k5; clear HB HW HK HX; have HB := nb; have HW := nw; have HK := nk; have HX := nx; clear nb nw nk nx; have k0 : w3.cell? ⟨gx, 0, none⟩ = some (.int .i64 x.f0) := (blk_cell HX.out 0).trans rfl; have k1 : w3.cell? ⟨gx, 1, none⟩ = some (.int .i64 x.f1) := (blk_cell HX.out 1).trans rfl; have k2 : w3.cell? ⟨gx, 2, none⟩ = some (.string x.f2) := (blk_cell HX.out 2).trans rfl; have k3 : w3.cell? ⟨gx, 3, none⟩ = some (.slice A3 x.f3.length c3) := (blk_cell HX.out 3).trans rfl; have k4 : w3.cell? ⟨gx, 4, none⟩ = some (.string x.f4) := (blk_cell HX.out 4).trans rfl; have k5 : w3.cell? ⟨gx, 5, none⟩ = some (.int .i64 x.f5) := (blk_cell HX.out 5).trans rfl; clear hw hb hk))
    go_end0
    rw [HLN.out]
    exact ⟨rfl, HW.out, HB.out, HK.out⟩
  have d5 : (x.f1 == 5) = false := beq_eq_false_iff_ne.mpr b5
  have b2 : x.f1 = 2 := by
    rcases FK.out with h | ⟨h | h | h, _⟩
    · exact h
    · exact absurd h b3
    · exact absurd h b4
    · exact absurd h b5
  have d2 : (x.f1 == 2) = true := by rw [b2]; rfl
  have HLN := Aside0.mk (show nodeS x ab t = if voidB x.f2 = true then headS x else (headS x ++ t) ++ tailS x from by unfold nodeS; rw [if_neg b3, if_neg b4, if_neg b5])
  clear b3 b4 b5 b2
  have HHS := Aside0.mk (show s.size + (headS x).size ≤ 3000000000000 from by
    have h := HL.out
    rw [HLN.out] at h
    split at h
    · exact h
    · rw [ByteArray.size_append, ByteArray.size_append] at h; omega)
  have HH1 := Aside0.mk (show (headS x).size = 1 + x.f2.size + (attN x.f3 x.f3.length).size + 1 from by
    unfold headS
    simp only [ByteArray.size_append]
    rfl)
  go_upto_region 11 with (fail)
  clear y7 z2
  go_still_tail 6, (by kernel_rfl)
  change wpList _ _ _ _ _ w1.drew
  have nb := Aside0.mk (HB.out.drew)
  have nw := Aside0.mk (HW.out.drew)
  have nk := Aside0.mk (show KeptB b W w1.drew from HK.out.drew)
  have nx := Aside0.mk (show w1.drew.heap[gx]? = _ from HX.out)
  clear k0 k1 k2 k3 k4 k5 HB HW HK HX
  have HB := nb
  have HW := nw
  have HK := nk
  have HX := nx
  clear nb nw nk nx
  generalize w1.drew = w2 at HB HW HK HX ⊢
  have k0 : w2.cell? ⟨gx, 0, none⟩ = some (.int .i64 x.f0) := (blk_cell HX.out 0).trans rfl
  have k1 : w2.cell? ⟨gx, 1, none⟩ = some (.int .i64 x.f1) := (blk_cell HX.out 1).trans rfl
  have k2 : w2.cell? ⟨gx, 2, none⟩ = some (.string x.f2) := (blk_cell HX.out 2).trans rfl
  have k3 : w2.cell? ⟨gx, 3, none⟩ = some (.slice A3 x.f3.length c3) := (blk_cell HX.out 3).trans rfl
  have k4 : w2.cell? ⟨gx, 4, none⟩ = some (.string x.f4) := (blk_cell HX.out 4).trans rfl
  have k5 : w2.cell? ⟨gx, 5, none⟩ = some (.int .i64 x.f5) := (blk_cell HX.out 5).trans rfl
  go_wp2_with (first
    | ((with_reducible refine gate_dst (N := 73) rfl ?_); refine goesL_ (some 73) rfl rfl Tryz.func40 (by kernel_rfl) rfl #[bp b, .string ((⟨#[60]⟩ : ByteArray) ++ x.f2)] rfl (by (try simp only [List.map_toArray, List.map_cons, List.map_nil]); first | done | rfl) ?_; refine (ws_calls wg _ wg.heap.size b s ((⟨#[60]⟩ : ByteArray) ++ x.f2) HW.out HB.out HB.out.size (by have := HHS.out; have := HH1.out; rw [ByteArray.size_append]; show s.size + (1 + x.f2.size) ≤ _; omega)).mono ?_; rintro e_ w3 ⟨rfl, hw, hb, hk⟩; refine ⟨_, rfl, ?_⟩; have nb := Aside0.mk hb; have nw := Aside0.mk hw; have nk := Aside0.mk (HK.out.trans hk); have nx := Aside0.mk (hk.blk HX.out (by decide) GN.out); clear k0 k1 k2 k3 k4 k5; clear HB HW HK HX; have HB := nb; have HW := nw; have HK := nk; have HX := nx; clear nb nw nk nx; have k0 : w3.cell? ⟨gx, 0, none⟩ = some (.int .i64 x.f0) := (blk_cell HX.out 0).trans rfl; have k1 : w3.cell? ⟨gx, 1, none⟩ = some (.int .i64 x.f1) := (blk_cell HX.out 1).trans rfl; have k2 : w3.cell? ⟨gx, 2, none⟩ = some (.string x.f2) := (blk_cell HX.out 2).trans rfl; have k3 : w3.cell? ⟨gx, 3, none⟩ = some (.slice A3 x.f3.length c3) := (blk_cell HX.out 3).trans rfl; have k4 : w3.cell? ⟨gx, 4, none⟩ = some (.string x.f4) := (blk_cell HX.out 4).trans rfl; have k5 : w3.cell? ⟨gx, 5, none⟩ = some (.int .i64 x.f5) := (blk_cell HX.out 5).trans rfl; clear hw hb hk))
  clear k0 k1 k2 k3 k4 k5 s1 s2 s3 s4
  go_loopg [77] x.f3.length (fun kq v77 w' => ∃ (m : Nat), v77 = .int .i64 (m : Int) ∧ Aside0 (m + kq = x.f3.length) ∧ Aside0 (WB w' wg.heap.size b (s ++ (((⟨#[60]⟩ : ByteArray) ++ x.f2) ++ attN x.f3 m))) ∧ Aside0 (Below wg.heap.size wg w') ∧ Aside0 (KeptB b W w') ∧ Aside0 (w'.heap[gx]? = some (.cells #[.int .i64 x.f0, .int .i64 x.f1, .string x.f2, .slice A3 x.f3.length c3, .string x.f4, .int .i64 x.f5] 57 (0, 0))))
  case atStart => exact ⟨0, rfl, ⟨Nat.zero_add _⟩, ⟨by rw [show attN x.f3 0 = ByteArray.empty from rfl, ByteArray.append_empty]; exact HW.out⟩, HB, HK, HX⟩
  case round =>
    clear HW HB HK HX
    obtain ⟨m, rfl, HJ, HW, HB, HK, HX⟩ := hrel
    have k0 : wr.cell? ⟨gx, 0, none⟩ = some (.int .i64 x.f0) := (blk_cell HX.out 0).trans rfl
    have k1 : wr.cell? ⟨gx, 1, none⟩ = some (.int .i64 x.f1) := (blk_cell HX.out 1).trans rfl
    have k2 : wr.cell? ⟨gx, 2, none⟩ = some (.string x.f2) := (blk_cell HX.out 2).trans rfl
    have k3 : wr.cell? ⟨gx, 3, none⟩ = some (.slice A3 x.f3.length c3) := (blk_cell HX.out 3).trans rfl
    have k4 : wr.cell? ⟨gx, 4, none⟩ = some (.string x.f4) := (blk_cell HX.out 4).trans rfl
    have k5 : wr.cell? ⟨gx, 5, none⟩ = some (.int .i64 x.f5) := (blk_cell HX.out 5).trans rfl
    cases gk with
    | zero =>
      have hm : m = x.f3.length := HJ.out
      subst hm
      have dj : decide ((x.f3.length : Int) < (x.f3.length : Int)) = false := decide_eq_false (by omega)
      have dj2 : decide (x.f3.length < x.f3.length) = false := decide_eq_false (by omega)
      have EH := Aside0.mk (show (s ++ (((⟨#[60]⟩ : ByteArray) ++ x.f2) ++ attN x.f3 x.f3.length)) ++ (⟨#[62]⟩ : ByteArray) = s ++ headS x from by rw [ByteArray.append_assoc]; rfl)
      cases hv : voidB x.f2 with
      | true =>
        have HL2 := Aside0.mk (show nodeS x ab t = headS x from by rw [HLN.out, if_pos hv])
        go_wp2_with (first
          | ((with_reducible refine gate_dst (N := 88) rfl ?_); refine goesL_ (some 88) rfl rfl Tryz.func40 (by kernel_rfl) rfl #[bp b, .string (⟨#[62]⟩ : ByteArray)] rfl (by (try simp only [List.map_toArray, List.map_cons, List.map_nil]); first | done | rfl) ?_; refine (ws_calls wg _ wg.heap.size b (s ++ (((⟨#[60]⟩ : ByteArray) ++ x.f2) ++ attN x.f3 x.f3.length)) (⟨#[62]⟩ : ByteArray) HW.out HB.out HB.out.size (by have := HHS.out; have := HH1.out; rw [ByteArray.size_append, ByteArray.size_append, ByteArray.size_append]; have z1 : (⟨#[60]⟩ : ByteArray).size = 1 := rfl; have z2 : (⟨#[62]⟩ : ByteArray).size = 1 := rfl; omega)).mono ?_; rintro e_ w4 ⟨rfl, hw, hb, hk⟩; rw [EH.out] at hw; refine ⟨_, rfl, ?_⟩; have nb := Aside0.mk hb; have nw := Aside0.mk hw; have nk := Aside0.mk (HK.out.trans hk); have nx := Aside0.mk (hk.blk HX.out (by decide) GN.out); clear k0 k1 k2 k3 k4 k5; clear HB HW HK HX; have HB := nb; have HW := nw; have HK := nk; have HX := nx; clear nb nw nk nx; have k0 : w4.cell? ⟨gx, 0, none⟩ = some (.int .i64 x.f0) := (blk_cell HX.out 0).trans rfl; have k1 : w4.cell? ⟨gx, 1, none⟩ = some (.int .i64 x.f1) := (blk_cell HX.out 1).trans rfl; have k2 : w4.cell? ⟨gx, 2, none⟩ = some (.string x.f2) := (blk_cell HX.out 2).trans rfl; have k3 : w4.cell? ⟨gx, 3, none⟩ = some (.slice A3 x.f3.length c3) := (blk_cell HX.out 3).trans rfl; have k4 : w4.cell? ⟨gx, 4, none⟩ = some (.string x.f4) := (blk_cell HX.out 4).trans rfl; have k5 : w4.cell? ⟨gx, 5, none⟩ = some (.int .i64 x.f5) := (blk_cell HX.out 5).trans rfl; clear hw hb hk)
          | ((with_reducible refine gate_dst (N := 91) rfl ?_); refine goesL_ (some 91) rfl rfl Tryz.func43 (by kernel_rfl) rfl #[.string x.f2] rfl (by (try simp only [List.map_toArray, List.map_cons, List.map_nil]); first | done | rfl) ?_; refine (isVoid_calls _ x.f2 (TT.out.below HB.out)).mono ?_; rintro e_ w5 ⟨rfl, hb⟩; rw [hv]; refine ⟨_, rfl, ?_⟩; have nb := Aside0.mk (below_step HB.out hb); have nw := Aside0.mk (HW.out.below hb); have nk := Aside0.mk (HK.out.trans (keptB_below b hb)); have nx := Aside0.mk (blk_below HX.out hb); clear k0 k1 k2 k3 k4 k5; clear HB HW HK HX; have HB := nb; have HW := nw; have HK := nk; have HX := nx; clear nb nw nk nx; have k0 : w5.cell? ⟨gx, 0, none⟩ = some (.int .i64 x.f0) := (blk_cell HX.out 0).trans rfl; have k1 : w5.cell? ⟨gx, 1, none⟩ = some (.int .i64 x.f1) := (blk_cell HX.out 1).trans rfl; have k2 : w5.cell? ⟨gx, 2, none⟩ = some (.string x.f2) := (blk_cell HX.out 2).trans rfl; have k3 : w5.cell? ⟨gx, 3, none⟩ = some (.slice A3 x.f3.length c3) := (blk_cell HX.out 3).trans rfl; have k4 : w5.cell? ⟨gx, 4, none⟩ = some (.string x.f4) := (blk_cell HX.out 4).trans rfl; have k5 : w5.cell? ⟨gx, 5, none⟩ = some (.int .i64 x.f5) := (blk_cell HX.out 5).trans rfl; clear hb))
        go_end0
        rw [HL2.out]
        exact ⟨rfl, HW.out, HB.out, HK.out⟩
      | false =>
        have HL2 := Aside0.mk (show nodeS x ab t = (headS x ++ t) ++ tailS x from by rw [HLN.out, if_neg (by rw [hv]; decide)])
        have HL3 := Aside0.mk (show s.size + ((headS x).size + t.size + (tailS x).size) ≤ 3000000000000 from by
          have h := HL.out
          rw [HL2.out, ByteArray.size_append, ByteArray.size_append] at h
          exact h)
        go_upto_region 20 with (first
          | ((with_reducible refine gate_dst (N := 88) rfl ?_); refine goesL_ (some 88) rfl rfl Tryz.func40 (by kernel_rfl) rfl #[bp b, .string (⟨#[62]⟩ : ByteArray)] rfl (by (try simp only [List.map_toArray, List.map_cons, List.map_nil]); first | done | rfl) ?_; refine (ws_calls wg _ wg.heap.size b (s ++ (((⟨#[60]⟩ : ByteArray) ++ x.f2) ++ attN x.f3 x.f3.length)) (⟨#[62]⟩ : ByteArray) HW.out HB.out HB.out.size (by have := HHS.out; have := HH1.out; rw [ByteArray.size_append, ByteArray.size_append, ByteArray.size_append]; have z1 : (⟨#[60]⟩ : ByteArray).size = 1 := rfl; have z2 : (⟨#[62]⟩ : ByteArray).size = 1 := rfl; omega)).mono ?_; rintro e_ w4 ⟨rfl, hw, hb, hk⟩; rw [EH.out] at hw; refine ⟨_, rfl, ?_⟩; have nb := Aside0.mk hb; have nw := Aside0.mk hw; have nk := Aside0.mk (HK.out.trans hk); have nx := Aside0.mk (hk.blk HX.out (by decide) GN.out); clear k0 k1 k2 k3 k4 k5; clear HB HW HK HX; have HB := nb; have HW := nw; have HK := nk; have HX := nx; clear nb nw nk nx; have k0 : w4.cell? ⟨gx, 0, none⟩ = some (.int .i64 x.f0) := (blk_cell HX.out 0).trans rfl; have k1 : w4.cell? ⟨gx, 1, none⟩ = some (.int .i64 x.f1) := (blk_cell HX.out 1).trans rfl; have k2 : w4.cell? ⟨gx, 2, none⟩ = some (.string x.f2) := (blk_cell HX.out 2).trans rfl; have k3 : w4.cell? ⟨gx, 3, none⟩ = some (.slice A3 x.f3.length c3) := (blk_cell HX.out 3).trans rfl; have k4 : w4.cell? ⟨gx, 4, none⟩ = some (.string x.f4) := (blk_cell HX.out 4).trans rfl; have k5 : w4.cell? ⟨gx, 5, none⟩ = some (.int .i64 x.f5) := (blk_cell HX.out 5).trans rfl; clear hw hb hk)
          | ((with_reducible refine gate_dst (N := 91) rfl ?_); refine goesL_ (some 91) rfl rfl Tryz.func43 (by kernel_rfl) rfl #[.string x.f2] rfl (by (try simp only [List.map_toArray, List.map_cons, List.map_nil]); first | done | rfl) ?_; refine (isVoid_calls _ x.f2 (TT.out.below HB.out)).mono ?_; rintro e_ w5 ⟨rfl, hb⟩; rw [hv]; refine ⟨_, rfl, ?_⟩; have nb := Aside0.mk (below_step HB.out hb); have nw := Aside0.mk (HW.out.below hb); have nk := Aside0.mk (HK.out.trans (keptB_below b hb)); have nx := Aside0.mk (blk_below HX.out hb); clear k0 k1 k2 k3 k4 k5; clear HB HW HK HX; have HB := nb; have HW := nw; have HK := nk; have HX := nx; clear nb nw nk nx; have k0 : w5.cell? ⟨gx, 0, none⟩ = some (.int .i64 x.f0) := (blk_cell HX.out 0).trans rfl; have k1 : w5.cell? ⟨gx, 1, none⟩ = some (.int .i64 x.f1) := (blk_cell HX.out 1).trans rfl; have k2 : w5.cell? ⟨gx, 2, none⟩ = some (.string x.f2) := (blk_cell HX.out 2).trans rfl; have k3 : w5.cell? ⟨gx, 3, none⟩ = some (.slice A3 x.f3.length c3) := (blk_cell HX.out 3).trans rfl; have k4 : w5.cell? ⟨gx, 4, none⟩ = some (.string x.f4) := (blk_cell HX.out 4).trans rfl; have k5 : w5.cell? ⟨gx, 5, none⟩ = some (.int .i64 x.f5) := (blk_cell HX.out 5).trans rfl; clear hb)
          | ((with_reducible refine gate_dst (N := 95) rfl ?_); refine goesL_ (some 95) rfl rfl Tryz.func18 (by kernel_rfl) rfl #[bp b, .pointer (some ⟨G.b i, 0, none⟩)] rfl (by (try simp only [List.map_toArray, List.map_cons, List.map_nil]); first | done | rfl) ?_; refine (KC.out _ (s ++ headS x) HB.out HW.out (by have := HL3.out; rw [ByteArray.size_append]; omega)).mono ?_; rintro e_ w6 ⟨rfl, hw, hb, hk⟩; refine ⟨_, rfl, ?_⟩; have nb := Aside0.mk hb; have nw := Aside0.mk hw; have nk := Aside0.mk (HK.out.trans hk); have nx := Aside0.mk (hk.blk HX.out (by decide) GN.out); clear k0 k1 k2 k3 k4 k5; clear HB HW HK HX; have HB := nb; have HW := nw; have HK := nk; have HX := nx; clear nb nw nk nx; have k0 : w6.cell? ⟨gx, 0, none⟩ = some (.int .i64 x.f0) := (blk_cell HX.out 0).trans rfl; have k1 : w6.cell? ⟨gx, 1, none⟩ = some (.int .i64 x.f1) := (blk_cell HX.out 1).trans rfl; have k2 : w6.cell? ⟨gx, 2, none⟩ = some (.string x.f2) := (blk_cell HX.out 2).trans rfl; have k3 : w6.cell? ⟨gx, 3, none⟩ = some (.slice A3 x.f3.length c3) := (blk_cell HX.out 3).trans rfl; have k4 : w6.cell? ⟨gx, 4, none⟩ = some (.string x.f4) := (blk_cell HX.out 4).trans rfl; have k5 : w6.cell? ⟨gx, 5, none⟩ = some (.int .i64 x.f5) := (blk_cell HX.out 5).trans rfl; clear hw hb hk))
        go_still_tail 7, (by kernel_rfl)
        change wpList _ _ _ _ _ w6.drew
        have nb := Aside0.mk (HB.out.drew)
        have nw := Aside0.mk (HW.out.drew)
        have nk := Aside0.mk (show KeptB b W w6.drew from HK.out.drew)
        have nx := Aside0.mk (show w6.drew.heap[gx]? = _ from HX.out)
        clear k0 k1 k2 k3 k4 k5 HB HW HK HX
        have HB := nb
        have HW := nw
        have HK := nk
        have HX := nx
        clear nb nw nk nx
        generalize w6.drew = w7 at HB HW HK HX ⊢
        have k0 : w7.cell? ⟨gx, 0, none⟩ = some (.int .i64 x.f0) := (blk_cell HX.out 0).trans rfl
        have k1 : w7.cell? ⟨gx, 1, none⟩ = some (.int .i64 x.f1) := (blk_cell HX.out 1).trans rfl
        have k2 : w7.cell? ⟨gx, 2, none⟩ = some (.string x.f2) := (blk_cell HX.out 2).trans rfl
        have k3 : w7.cell? ⟨gx, 3, none⟩ = some (.slice A3 x.f3.length c3) := (blk_cell HX.out 3).trans rfl
        have k4 : w7.cell? ⟨gx, 4, none⟩ = some (.string x.f4) := (blk_cell HX.out 4).trans rfl
        have k5 : w7.cell? ⟨gx, 5, none⟩ = some (.int .i64 x.f5) := (blk_cell HX.out 5).trans rfl
        go_wp2_with (first
          | ((with_reducible refine gate_dst (N := 103) rfl ?_); refine goesL_ (some 103) rfl rfl Tryz.func40 (by kernel_rfl) rfl #[bp b, .string (((⟨#[60, 47]⟩ : ByteArray) ++ x.f2) ++ (⟨#[62]⟩ : ByteArray))] rfl (by (try simp only [List.map_toArray, List.map_cons, List.map_nil]); first | done | rfl) ?_; refine (ws_calls wg _ wg.heap.size b (s ++ headS x ++ t) (((⟨#[60, 47]⟩ : ByteArray) ++ x.f2) ++ (⟨#[62]⟩ : ByteArray)) HW.out HB.out HB.out.size (by have := HL3.out; rw [ByteArray.size_append, ByteArray.size_append]; show s.size + (headS x).size + t.size + (tailS x).size ≤ _; omega)).mono ?_; rintro e_ w8 ⟨rfl, hw, hb, hk⟩; refine ⟨_, rfl, ?_⟩; have nb := Aside0.mk hb; have nw := Aside0.mk hw; have nk := Aside0.mk (HK.out.trans hk); have nx := Aside0.mk (hk.blk HX.out (by decide) GN.out); clear k0 k1 k2 k3 k4 k5; clear HB HW HK HX; have HB := nb; have HW := nw; have HK := nk; have HX := nx; clear nb nw nk nx; have k0 : w8.cell? ⟨gx, 0, none⟩ = some (.int .i64 x.f0) := (blk_cell HX.out 0).trans rfl; have k1 : w8.cell? ⟨gx, 1, none⟩ = some (.int .i64 x.f1) := (blk_cell HX.out 1).trans rfl; have k2 : w8.cell? ⟨gx, 2, none⟩ = some (.string x.f2) := (blk_cell HX.out 2).trans rfl; have k3 : w8.cell? ⟨gx, 3, none⟩ = some (.slice A3 x.f3.length c3) := (blk_cell HX.out 3).trans rfl; have k4 : w8.cell? ⟨gx, 4, none⟩ = some (.string x.f4) := (blk_cell HX.out 4).trans rfl; have k5 : w8.cell? ⟨gx, 5, none⟩ = some (.int .i64 x.f5) := (blk_cell HX.out 5).trans rfl; clear hw hb hk))
        go_end0
        rw [HL2.out]
        exact ⟨rfl, by rw [← ByteArray.append_assoc, ← ByteArray.append_assoc]; exact HW.out, HB.out, HK.out⟩
    | succ d =>
      have hj : m < x.f3.length := by have := HJ.out; omega
      have dj : decide ((m : Int) < (x.f3.length : Int)) = true := decide_eq_true (by omega)
      have dj2 : decide (m < x.f3.length) = true := decide_eq_true hj
      have pj : (0 ≤ (m : Int)) = True := eq_true (by omega)
      have qj : ((m : Int) < (x.f3.length : Int)) = True := eq_true (by omega)
      obtain ⟨adA, eA, y0, y1⟩ := at_T77 C3.out (m : Int) (by omega) (by omega)
      subst eA
      rw [Int.toNat_natCast] at y0 y1
      have HBA := below_step BA.out HB.out
      replace y0 := (HBA.cell (World.block_lt_of_cell? wa _ y0)).trans y0
      replace y1 := (HBA.cell (World.block_lt_of_cell? wa _ y1)).trans y1
      have hwj := tj m (by have := F3.out; omega)
      have ea : rd_T77 x.f3 (m : Int) ∈ x.f3 := by
        unfold rd_T77
        rw [Int.toNat_natCast, List.getD_eq_getElem?_getD, List.getElem?_eq_getElem hj]
        exact List.getElem_mem hj
      obtain ⟨a0, a1⟩ := FA.out _ ea
      obtain ⟨y, ey⟩ : ∃ y, y = rd_T77 x.f3 (m : Int) := ⟨_, rfl⟩
      have HS := Aside0.mk (show attN x.f3 (m + 1) = attN x.f3 m ++ attE y from by rw [ey]; rfl)
      rw [← ey] at y0 y1 a0 a1
      have AC := Aside0.mk (attr_calls wg b y a0 a1)
      have HL4 := Aside0.mk (show (s ++ (((⟨#[60]⟩ : ByteArray) ++ x.f2) ++ attN x.f3 m)).size + (attE y).size ≤ 3000000000000 from by
        have e1 := HH1.out
        have e2 := HHS.out
        have e3 := attN_mono x.f3 (m + 1) x.f3.length hj
        rw [HS.out, ByteArray.size_append] at e3
        rw [ByteArray.size_append, ByteArray.size_append, ByteArray.size_append]
        have h3 : (⟨#[60]⟩ : ByteArray).size = 1 := rfl
        omega)
      clear ea ey a0 a1 hj HBA
      go_upto_region 15 with (fail)
      have HX6 := Aside0.mk (blk_new wr (.cells #[.string y.f0, .string y.f1] 77))
      have nb0 := below_alloc (Below.refl wr.heap.size wr) (.cells #[.string y.f0, .string y.f1] 77)
      have nb := Aside0.mk (below_step HB.out nb0)
      have nw := Aside0.mk (HW.out.below nb0)
      have nk := Aside0.mk (HK.out.trans (keptB_below b nb0))
      have nx := Aside0.mk (blk_below HX.out nb0)
      obtain ⟨gy, egy⟩ : ∃ gy, gy = wr.heap.size := ⟨_, rfl⟩
      rw [← egy] at HX6 ⊢
      clear egy nb0 k0 k1 k2 k3 k4 k5 y0 y1 HB HW HK HX
      have HB := nb
      have HW := nw
      have HK := nk
      have HX := nx
      clear nb nw nk nx
      generalize wr.alloc (.cells #[.string y.f0, .string y.f1] 77) = w4 at HX6 HB HW HK HX ⊢
      have q0 : w4.cell? ⟨gy, 0, none⟩ = some (.string y.f0) := (blk_cell HX6.out 0).trans rfl
      have q1 : w4.cell? ⟨gy, 1, none⟩ = some (.string y.f1) := (blk_cell HX6.out 1).trans rfl
      go_wp2_with (first
        | ((with_reducible refine gate_dst (N := 83) rfl ?_); refine goesL_ (some 83) rfl rfl Tryz.func42 (by kernel_rfl) rfl #[bp b, .agg #[.string y.f0, .string y.f1]] rfl (by (try simp only [List.map_toArray, List.map_cons, List.map_nil]); first | done | rfl) ?_; refine (AC.out _ _ HB.out HW.out HL4.out).mono ?_; rintro e_ w6 ⟨rfl, hw, hb, hk⟩; refine ⟨_, rfl, ?_⟩; have HB6 := Aside0.mk hb; have HW6 := Aside0.mk hw; have HK6 := Aside0.mk (HK.out.trans hk); have HX7 := Aside0.mk (hk.blk HX.out (by decide) GN.out); clear hw hb hk HB HW HK HX))
      go_roundg d
      case measure => omega
      case rel => exact ⟨m + 1, congrArg (Value.int .i64) hwj, ⟨by have := HJ.out; omega⟩, ⟨by rw [HS.out, ← ByteArray.append_assoc, ← ByteArray.append_assoc]; rw [← ByteArray.append_assoc] at HW6; exact HW6.out⟩, HB6, HK6, HX7⟩
end Go.Proofs.YtjojmfhgfeflnaaGreatDoor.QFnExactInner
