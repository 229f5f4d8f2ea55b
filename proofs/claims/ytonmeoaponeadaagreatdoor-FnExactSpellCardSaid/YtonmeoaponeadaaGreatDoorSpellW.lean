/- impl.spell, walked. -/
import Derived.Test.YtonmeoaponeadaaGreatDoorNumW
namespace Go.Proofs.YtonmeoaponeadaaGreatDoor.Repl
open Go Go.RowKit Go.Proofs.YtonmeoaponeadaaGreatDoorV.PrintWords Go.Proofs.YtonmeoaponeadaaGreatDoorV.PrintLast Go.Proofs.YtonmeoaponeadaaGreatDoorV.PrintMore Go.Proofs.YtonmeoaponeadaaGreatDoor.Once
set_option linter.unusedVariables false
set_option linter.unusedSimpArgs false

/-- What a word says. -/
def spellS (kd : Int) (t : ByteArray) (n : Int) (u : ByteArray) : ByteArray :=
  if kd = 2 then t ++ ⟨#[40]⟩ else if kd = 3 then ⟨#[64]⟩ ++ t else if kd = 4 then ⟨#[35]⟩ ++ t else if kd = 5 then ((⟨#[34]⟩ : ByteArray) ++ strOfNums (escI (bytesOf t))) ++ ⟨#[34]⟩ else if kd = 6 then numS n u else if kd = 8 then ⟨#[32]⟩ else t
theorem esc_size (t : ByteArray) (h : t.size ≤ 1048576) : (strOfNums (escI (bytesOf t))).size ≤ 2097152 := by
  have h1 : (strOfNums (escI (bytesOf t))).size = (escI (bytesOf t)).length := by
    show ((escI (bytesOf t)).map _).toArray.size = _
    rw [List.size_toArray, List.length_map]
  rw [h1, escI_length, bytesOf_length]
  have := spn_le (bytesOf t)
  rw [bytesOf_length] at this
  omega
set_option maxRecDepth 100000 in
set_option maxHeartbeats 8000000 in
theorem spell_calls (w : World) (kd n : Int) (t u : ByteArray) (h0 : kd = 6 → -1000000000 ≤ n ∧ n ≤ 1000000000) (ht : t.size ≤ 1048576) (hu : u.size ≤ 1048576) (hg : GTab w) :
    Calls Tryz.prog 15 #[.agg #[.int .i64 kd, .string t, .int .i64 n, .string u]] w fun e w' => e = .returned (.string (spellS kd t n u)) ∧ Below w.heap.size w w' := by
  have HG := Aside0.mk hg
  have HU := Aside0.mk hu
  have HT := Aside0.mk ht
  have H0 := Aside0.mk h0
  have s1 : (9223372036854775807 < t.size + 1) = False := eq_false (by omega)
  have s2 : (9223372036854775807 < 1 + t.size) = False := eq_false (by omega)
  have es := esc_size t ht
  have s3 : (9223372036854775807 < 1 + (strOfNums (escI (bytesOf t))).size) = False := eq_false (by omega)
  have s4 : (9223372036854775807 < 1 + (strOfNums (escI (bytesOf t))).size + 1) = False := eq_false (by omega)
  clear hg hu ht h0 es
  go_enter Tryz.func15, Tryz.ntmps15
  by_cases h2 : kd = 2
  · subst h2
    go_wp2_with (first
      | ((with_reducible refine gate_dst (N := 1) rfl ?_); refine box_event ?hg (N := 1) ?hd (cs := #[.int .i64 2, .string t, .int .i64 n, .string u]) (t := 34) ?hr ?_; (case hd => rfl); (case hg => rfl); (case hr => first | (go_simp; done) | (go_simp; rfl)); intro gb hgb w1 hbox hbel; have HX1 := Aside0.mk hbox; have HB1 := Aside0.mk hbel; have k0 : w1.cell? ⟨gb, 0, none⟩ = some (.int .i64 2) := (blk_cell hbox 0).trans rfl; have k1 : w1.cell? ⟨gb, 1, none⟩ = some (.string t) := (blk_cell hbox 1).trans rfl; have k2 : w1.cell? ⟨gb, 2, none⟩ = some (.int .i64 n) := (blk_cell hbox 2).trans rfl; have k3 : w1.cell? ⟨gb, 3, none⟩ = some (.string u) := (blk_cell hbox 3).trans rfl; clear hgb hbox hbel))
    go_ret
    exact ⟨by unfold spellS; rw [if_pos rfl]; rfl, HB1.out⟩
  by_cases h3 : kd = 3
  · subst h3
    go_wp2_with (first
      | ((with_reducible refine gate_dst (N := 1) rfl ?_); refine box_event ?hg (N := 1) ?hd (cs := #[.int .i64 3, .string t, .int .i64 n, .string u]) (t := 34) ?hr ?_; (case hd => rfl); (case hg => rfl); (case hr => first | (go_simp; done) | (go_simp; rfl)); intro gb hgb w1 hbox hbel; have HX1 := Aside0.mk hbox; have HB1 := Aside0.mk hbel; have k0 : w1.cell? ⟨gb, 0, none⟩ = some (.int .i64 3) := (blk_cell hbox 0).trans rfl; have k1 : w1.cell? ⟨gb, 1, none⟩ = some (.string t) := (blk_cell hbox 1).trans rfl; have k2 : w1.cell? ⟨gb, 2, none⟩ = some (.int .i64 n) := (blk_cell hbox 2).trans rfl; have k3 : w1.cell? ⟨gb, 3, none⟩ = some (.string u) := (blk_cell hbox 3).trans rfl; clear hgb hbox hbel))
    go_ret
    exact ⟨by unfold spellS; rw [if_neg (show ¬ (3 : Int) = 2 by decide), if_pos rfl]; rfl, HB1.out⟩
  by_cases h4 : kd = 4
  · subst h4
    go_wp2_with (first
      | ((with_reducible refine gate_dst (N := 1) rfl ?_); refine box_event ?hg (N := 1) ?hd (cs := #[.int .i64 4, .string t, .int .i64 n, .string u]) (t := 34) ?hr ?_; (case hd => rfl); (case hg => rfl); (case hr => first | (go_simp; done) | (go_simp; rfl)); intro gb hgb w1 hbox hbel; have HX1 := Aside0.mk hbox; have HB1 := Aside0.mk hbel; have k0 : w1.cell? ⟨gb, 0, none⟩ = some (.int .i64 4) := (blk_cell hbox 0).trans rfl; have k1 : w1.cell? ⟨gb, 1, none⟩ = some (.string t) := (blk_cell hbox 1).trans rfl; have k2 : w1.cell? ⟨gb, 2, none⟩ = some (.int .i64 n) := (blk_cell hbox 2).trans rfl; have k3 : w1.cell? ⟨gb, 3, none⟩ = some (.string u) := (blk_cell hbox 3).trans rfl; clear hgb hbox hbel))
    go_ret
    exact ⟨by unfold spellS; rw [if_neg (show ¬ (4 : Int) = 2 by decide), if_neg (show ¬ (4 : Int) = 3 by decide), if_pos rfl]; rfl, HB1.out⟩
  by_cases h5 : kd = 5
  · subst h5
    go_wp2_with (first
      | ((with_reducible refine gate_dst (N := 1) rfl ?_); refine box_event ?hg (N := 1) ?hd (cs := #[.int .i64 5, .string t, .int .i64 n, .string u]) (t := 34) ?hr ?_; (case hd => rfl); (case hg => rfl); (case hr => first | (go_simp; done) | (go_simp; rfl)); intro gb hgb w1 hbox hbel; have HX1 := Aside0.mk hbox; have HB1 := Aside0.mk hbel; have k0 : w1.cell? ⟨gb, 0, none⟩ = some (.int .i64 5) := (blk_cell hbox 0).trans rfl; have k1 : w1.cell? ⟨gb, 1, none⟩ = some (.string t) := (blk_cell hbox 1).trans rfl; have k2 : w1.cell? ⟨gb, 2, none⟩ = some (.int .i64 n) := (blk_cell hbox 2).trans rfl; have k3 : w1.cell? ⟨gb, 3, none⟩ = some (.string u) := (blk_cell hbox 3).trans rfl; clear hgb hbox hbel))
    refine start_ (n := 8) (S := fun w' => w'.cell? ⟨gb, 1, none⟩ = some (.string t)) (ds := []) #[false, false, false, false, false, false, false, false] (by kernel_rfl) rfl rfl k1 (fun hHeld => ?_)
    have HB2 := Aside0.mk (HB1.out.drew)
    have HX2 := Aside0.mk (show w1.drew.heap[gb]? = _ from HX1.out)
    clear HX1 HB1 k0 k1 k2 k3
    generalize w1.drew = w2 at HB2 HX2 hHeld ⊢
    refine pure_ (i := 2) (N := (some 24)) (v := ?_) (a' := ?_) #[false, false, true, false, false, false, false, false] rfl rfl (by kernel_rfl) (fun _ _ _ h => h) (Or.inl ⟨by rfl, ?_⟩) ?_ ?_
    rotate_left
    · intro w'
      go_simp
      with_reducible rfl
    rotate_left
    · simp only [Act.put, List.setIfInBounds_toArray, List.set_cons_zero, List.set_cons_succ, i64_w, i32_w]
      rfl
    refine take_ (i := 3) (N := (some 25)) (v := ?_) (a' := ?_) #[false, false, true, true, false, false, false, false] rfl rfl (by kernel_rfl) (fun _ _ _ h => h) (Or.inl ⟨by rfl, ?_⟩) hHeld ?_ ?_
    rotate_left
    · rintro w' hS
      go_simp
      with_reducible rfl
    rotate_left
    · simp only [Act.put, List.setIfInBounds_toArray, List.set_cons_zero, List.set_cons_succ, i64_w, i32_w]
      rfl
    refine one_ (i := 0) (N := (some 22)) #[true, false, true, true, false, false, false, false] rfl rfl (by kernel_rfl) (by decide) (fun K hK => ?_)
    refine Kd.R_lit_step Kd.string (w0 := w2) w2.heap.size 9 (by rfl) (N := 22) rfl (xs := lS) (inner := lS.map Value.string) (ok := fun _ => True) (okp := fun _ => True) ?hr22 (Kd.reps_scalar _) (fun _ hk => hk) trivial (Below.refl _ _) (Nat.le_refl _) (by show 6 ≤ 9223372036854775807; omega) ?_
    case hr22 => first | (go_simp; done) | (go_simp; rfl) | (go_simp; exact ⟨rfl, rfl⟩)
    intro v3 w3 ho3 hb3 hg3 hat3
    obtain ⟨A3, c3, ev3⟩ := Kd.R_slice ho3
    subst ev3
    obtain ⟨_, hc3, hC3⟩ := Kd.R_reads' ho3
    have HC3 := Aside0.mk hC3
    have HL3 := Aside0.mk hc3
    have HB3 := Aside0.mk (below_step HB2.out hb3)
    have HX3 := Aside0.mk (blk_below HX2.out hb3)
    have S03 := Aside0.mk HB3.out.size
    have L3 := Aside0.mk (blk_lt HX3.out)
    clear ho3 hb3 hg3 hat3 hc3 hC3 HB2 HX2
    refine hK.out _ _ ((blk_cell HX3.out 1).trans rfl) (fun hHeld => ?_)
    clear hK K
    refine norm_ (a' := ?_) ?_ ?_
    rotate_left
    · show Act.put _ (some 22) _ = _
      simp only [Act.put, List.setIfInBounds_toArray, List.set_cons_zero, List.set_cons_succ, i64_w, i32_w]
      rfl
    refine one_ (i := 1) (N := (some 23)) #[true, true, true, true, false, false, false, false] rfl rfl (by kernel_rfl) (by decide) (fun K hK => ?_)
    refine call_ (30) #[.slice A3 6 c3] (by rfl) rfl (by first | (go_simp; done) | (go_simp; rfl)) ?_
    refine (newReplacer_calls w3 A3 c3 lS 3 HC3.out HL3.out rfl (by decide)).mono ?_
    rintro e w4 ⟨b, A', c', rfl, h1, h2, h3, h4, h5⟩
    refine ⟨_, rfl, ?_⟩
    have GB := Aside0.mk h1
    have S34 := Aside0.mk h2.size
    have HB4 := Aside0.mk (below_step HB3.out h2)
    have HX4 := Aside0.mk (blk_below HX3.out h2)
    have HO4 := Aside0.mk h3
    have HC4 := Aside0.mk h4
    have HL4 := Aside0.mk h5
    clear h1 h2 h3 h4 h5 HC3 HL3 HB3 HX3
    refine hK.out _ _ ((blk_cell HX4.out 1).trans rfl) (fun hHeld => ?_)
    clear hK K
    refine norm_ (a' := ?_) ?_ ?_
    rotate_left
    · show Act.put _ (some 23) _ = _
      simp only [Act.put, List.setIfInBounds_toArray, List.set_cons_zero, List.set_cons_succ, i64_w, i32_w]
      rfl
    refine one_ (i := 4) (N := (some 26)) #[true, true, true, true, true, false, false, false] rfl rfl (by kernel_rfl) (by decide) (fun K hK => ?_)
    refine call_ (31) #[.pointer (some ⟨b, 0, none⟩), .string t] (by rfl) rfl (by first | (go_simp; done) | (go_simp; rfl)) ?_
    refine (replacer_calls w4 b A' c' t HO4.out HC4.out HL4.out HT.out w4 w3.heap.size (Below.refl _ _) GB.out S34.out).mono ?_
    rintro e w5 ⟨rfl, hb5⟩
    refine ⟨_, rfl, ?_⟩
    have HB5 := Aside0.mk (show Below w.heap.size w w5 from HB4.out.trans (hb5.mono S03.out))
    have hX5 : w5.cell? ⟨gb, 1, none⟩ = some (.string t) := (blk_cell ((hb5.block gb L3.out).trans HX4.out) 1).trans rfl
    clear hb5 HO4 HC4 HL4
    refine hK.out _ _ hX5 (fun hHeld => ?_)
    clear hK K
    refine norm_ (a' := ?_) ?_ ?_
    rotate_left
    · show Act.put _ (some 26) _ = _
      simp only [Act.put, List.setIfInBounds_toArray, List.set_cons_zero, List.set_cons_succ, i64_w, i32_w]
      rfl
    refine pure_ (i := 5) (N := (some 27)) (v := ?_) (a' := ?_) #[true, true, true, true, true, true, false, false] rfl rfl (by kernel_rfl) (fun _ _ _ h => h) (Or.inl ⟨by rfl, ?_⟩) ?_ ?_
    rotate_left
    · intro w'
      go_simp
      with_reducible rfl
    rotate_left
    · simp only [Act.put, List.setIfInBounds_toArray, List.set_cons_zero, List.set_cons_succ, i64_w, i32_w]
      rfl
    refine pure_ (i := 6) (N := (some 28)) (v := ?_) (a' := ?_) #[true, true, true, true, true, true, true, false] rfl rfl (by kernel_rfl) (fun _ _ _ h => h) (Or.inl ⟨by rfl, ?_⟩) ?_ ?_
    rotate_left
    · intro w'
      go_simp
      with_reducible rfl
    rotate_left
    · simp only [Act.put, List.setIfInBounds_toArray, List.set_cons_zero, List.set_cons_succ, i64_w, i32_w]
      rfl
    refine pure_ (i := 7) (N := (some 2)) (v := ?_) (a' := ?_) #[true, true, true, true, true, true, true, true] rfl rfl (by kernel_rfl) (fun _ _ _ h => h) (Or.inl ⟨by rfl, ?_⟩) ?_ ?_
    rotate_left
    · intro w'
      go_simp
      with_reducible rfl
    rotate_left
    · simp only [Act.put, List.setIfInBounds_toArray, List.set_cons_zero, List.set_cons_succ, i64_w, i32_w]
      rfl
    refine done_ (by kernel_rfl) ?_
    go_wp2_with (fail)
    go_ret
    exact ⟨by unfold spellS; rw [if_neg (show ¬ (5 : Int) = 2 by decide), if_neg (show ¬ (5 : Int) = 3 by decide), if_neg (show ¬ (5 : Int) = 4 by decide), if_pos rfl]; rfl, HB5.out⟩
  by_cases h6 : kd = 6
  · subst h6
    go_wp2_with (first
      | ((with_reducible refine gate_dst (N := 1) rfl ?_); refine box_event ?hg (N := 1) ?hd (cs := #[.int .i64 6, .string t, .int .i64 n, .string u]) (t := 34) ?hr ?_; (case hd => rfl); (case hg => rfl); (case hr => first | (go_simp; done) | (go_simp; rfl)); intro gb hgb w1 hbox hbel; have HX1 := Aside0.mk hbox; have HB1 := Aside0.mk hbel; have k0 : w1.cell? ⟨gb, 0, none⟩ = some (.int .i64 6) := (blk_cell hbox 0).trans rfl; have k1 : w1.cell? ⟨gb, 1, none⟩ = some (.string t) := (blk_cell hbox 1).trans rfl; have k2 : w1.cell? ⟨gb, 2, none⟩ = some (.int .i64 n) := (blk_cell hbox 2).trans rfl; have k3 : w1.cell? ⟨gb, 3, none⟩ = some (.string u) := (blk_cell hbox 3).trans rfl; clear hgb hbox hbel)
      | ((with_reducible refine gate_callee (f := 32) rfl ?_); refine goesL_ (some 32) rfl rfl Tryz.func32 (by kernel_rfl) rfl #[.agg #[.int .i64 6, .string t, .int .i64 n, .string u]] rfl (by (try simp only [List.map_toArray, List.map_cons, List.map_nil]); first | done | rfl) ?_; (with_reducible refine (number_calls _ 6 n t u (H0.out rfl).1 (H0.out rfl).2 HU.out (HG.out.below HB1.out)).mono ?_); rintro e w2 ⟨rfl, hb⟩; refine ⟨_, rfl, ?_⟩; have HB2 := Aside0.mk (below_step HB1.out hb); clear hb HB1))
    go_ret
    exact ⟨by unfold spellS; rw [if_neg (show ¬ (6 : Int) = 2 by decide), if_neg (show ¬ (6 : Int) = 3 by decide), if_neg (show ¬ (6 : Int) = 4 by decide), if_neg (show ¬ (6 : Int) = 5 by decide), if_pos rfl]; rfl, HB2.out⟩
  by_cases h8 : kd = 8
  · subst h8
    go_wp2_with (first
      | ((with_reducible refine gate_dst (N := 1) rfl ?_); refine box_event ?hg (N := 1) ?hd (cs := #[.int .i64 8, .string t, .int .i64 n, .string u]) (t := 34) ?hr ?_; (case hd => rfl); (case hg => rfl); (case hr => first | (go_simp; done) | (go_simp; rfl)); intro gb hgb w1 hbox hbel; have HX1 := Aside0.mk hbox; have HB1 := Aside0.mk hbel; have k0 : w1.cell? ⟨gb, 0, none⟩ = some (.int .i64 8) := (blk_cell hbox 0).trans rfl; have k1 : w1.cell? ⟨gb, 1, none⟩ = some (.string t) := (blk_cell hbox 1).trans rfl; have k2 : w1.cell? ⟨gb, 2, none⟩ = some (.int .i64 n) := (blk_cell hbox 2).trans rfl; have k3 : w1.cell? ⟨gb, 3, none⟩ = some (.string u) := (blk_cell hbox 3).trans rfl; clear hgb hbox hbel))
    go_ret
    exact ⟨by unfold spellS; rw [if_neg (show ¬ (8 : Int) = 2 by decide), if_neg (show ¬ (8 : Int) = 3 by decide), if_neg (show ¬ (8 : Int) = 4 by decide), if_neg (show ¬ (8 : Int) = 5 by decide), if_neg (show ¬ (8 : Int) = 6 by decide), if_pos rfl]; rfl, HB1.out⟩
  have n2 : (kd == 2) = false := beq_eq_false_iff_ne.mpr h2
  have n3 : (kd == 3) = false := beq_eq_false_iff_ne.mpr h3
  have n4 : (kd == 4) = false := beq_eq_false_iff_ne.mpr h4
  have n5 : (kd == 5) = false := beq_eq_false_iff_ne.mpr h5
  have n6 : (kd == 6) = false := beq_eq_false_iff_ne.mpr h6
  have n8 : (kd == 8) = false := beq_eq_false_iff_ne.mpr h8
  go_wp2_with (first
    | ((with_reducible refine gate_dst (N := 1) rfl ?_); refine box_event ?hg (N := 1) ?hd (cs := #[.int .i64 kd, .string t, .int .i64 n, .string u]) (t := 34) ?hr ?_; (case hd => rfl); (case hg => rfl); (case hr => first | (go_simp; done) | (go_simp; rfl)); intro gb hgb w1 hbox hbel; have HX1 := Aside0.mk hbox; have HB1 := Aside0.mk hbel; have k0 : w1.cell? ⟨gb, 0, none⟩ = some (.int .i64 kd) := (blk_cell hbox 0).trans rfl; have k1 : w1.cell? ⟨gb, 1, none⟩ = some (.string t) := (blk_cell hbox 1).trans rfl; have k2 : w1.cell? ⟨gb, 2, none⟩ = some (.int .i64 n) := (blk_cell hbox 2).trans rfl; have k3 : w1.cell? ⟨gb, 3, none⟩ = some (.string u) := (blk_cell hbox 3).trans rfl; clear hgb hbox hbel))
  go_ret
  exact ⟨by unfold spellS; rw [if_neg h2, if_neg h3, if_neg h4, if_neg h5, if_neg h6, if_neg h8]; rfl, HB1.out⟩
end Go.Proofs.YtonmeoaponeadaaGreatDoor.Repl
