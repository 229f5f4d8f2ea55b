/- spec.Inner and impl.Inner, walked. -/
import Derived.Test.YtjojmfhgfeflnaaGreatDoorImplK
import Derived.Test.YtjojmfhgfeflnaaGreatDoorOkAll
namespace Go.Proofs.YtjojmfhgfeflnaaGreatDoor.QFnExactInner
open Go Go.RowKit Go.Proofs.YtjojmfhgfeflnaaGreatDoorV.PrintWords Go.Proofs.YtjojmfhgfeflnaaGreatDoorV.PrintLast Go.Proofs.YtjojmfhgfeflnaaGreatDoorV.PrintMore Go.Proofs.YtjojmfhgfeflnaaGreatDoor.Val Go.Proofs.YtjojmfhgfeflnaaGreatDoor.TreeIx Go.Proofs.YtjojmfhgfeflnaaGreatDoor.Trie
set_option linter.unusedVariables false
set_option linter.unusedSimpArgs false

theorem em_zero {l : List S57} {i q e : Nat} {ab s : ByteArray} (h : Em l i q ab e s) (hq : q = 0) : s = ⟨#[]⟩ := by
  cases h with
  | nil _ => rfl
  | cons _ _ _ => cases hq
theorem em_in {l : List S57} (R : Right l) {j : Nat} (hj : j < l.length) : ∃ p : Nat × ByteArray, Em l (j + 1) (kdOf l j) (rd_T57 l (j : Nat)).f2 p.1 p.2 := by
  obtain ⟨m, h, _⟩ := R.fits.inner (Nat.zero_le j) hj
  obtain ⟨t, ht⟩ := em_of h (rd_T57 l (j : Nat)).f2
  exact ⟨(m, t), ht⟩
noncomputable def innT (l : List S57) (j : Nat) : ByteArray := @dite _ (Right l ∧ j < l.length) (Classical.propDecidable _) (fun h => (Classical.choose (em_in h.1 h.2)).2) (fun _ => ⟨#[]⟩)
theorem innT_em {l : List S57} (R : Right l) {j : Nat} (hj : j < l.length) : ∃ e, Em l (j + 1) (kdOf l j) (rd_T57 l (j : Nat)).f2 e (innT l j) := by
  unfold innT
  rw [dif_pos (⟨R, hj⟩ : Right l ∧ j < l.length)]
  exact ⟨_, Classical.choose_spec (em_in R hj)⟩
/-- What has been written when the first q twigs have been looked at. -/
noncomputable def preI (l : List S57) (id : Int) (q : Nat) : ByteArray := match at_ l id q with
  | none => ⟨#[]⟩
  | some j => innT l j
noncomputable def outI (l : List S57) (id : Int) : ByteArray := preI l id l.length
theorem pre_hit {l : List S57} (R : Right l) {id : Int} {q : Nat} (hq : q < l.length) (h : (rd_T57 l (q : Nat)).f0 = id) : preI l id q ++ innT l q = preI l id (q + 1) := by
  have e1 : at_ l id (q + 1) = some q := by
    show (if (rd_T57 l (q : Nat)).f0 = id then some q else at_ l id q) = _
    rw [if_pos h]
  have e0 : at_ l id q = none := by
    cases e : at_ l id q with
    | none => rfl
    | some j =>
      have := at__lt e
      exact absurd (this.2.trans h.symm) (R.ids j q this.1 hq)
  unfold preI
  rw [e1, e0]
  exact ByteArray.empty_append
theorem pre_miss {l : List S57} {id : Int} {q : Nat} (h : ¬ (rd_T57 l (q : Nat)).f0 = id) : preI l id q = preI l id (q + 1) := by
  have e1 : at_ l id (q + 1) = at_ l id q := by
    show (if (rd_T57 l (q : Nat)).f0 = id then some q else at_ l id q) = _
    rw [if_neg h]
  unfold preI
  rw [e1]
theorem inn_small {l : List S57} (R : Right l) (F : Fine l) {j : Nat} (hj : j < l.length) : (innT l j).size ≤ 1000000000000 := by
  obtain ⟨e, h⟩ := innT_em R hj
  exact h.small F
theorem pre_small {l : List S57} (R : Right l) (F : Fine l) (id : Int) {q : Nat} (hq : q ≤ l.length) : (preI l id q).size ≤ 1000000000000 := by
  unfold preI
  cases e : at_ l id q with
  | none => exact Nat.zero_le _
  | some j => exact inn_small R F (by have := (at__lt e).1; omega)
noncomputable def outJ (l : List S57) (id : Int) : Option ByteArray := @ite _ (Right l ∧ Fine l) (Classical.propDecidable _) (some (outI l id)) none
theorem outJ_some {l : List S57} {id : Int} {r : ByteArray} (h : outJ l id = some r) : Right l ∧ Fine l ∧ r = outI l id := by
  unfold outJ at h
  by_cases c : Right l ∧ Fine l
  · rw [if_pos c] at h
    exact ⟨c.1, c.2, (Option.some.inj h).symm⟩
  · rw [if_neg c] at h
    cases h
theorem outJ_is {l : List S57} (R : Right l) (F : Fine l) (id : Int) : outJ l id = some (outI l id) := by
  unfold outJ
  rw [if_pos ⟨R, F⟩]
/-! ### spec_Inner: function 10 -/
noncomputable def spec_Inner.f (k : Nat) (l : List S57) (id : Int) : Option ByteArray := (spec_TreeOk.f k l).bind fun t => if t = true then outJ l id else some ⟨#[]⟩
theorem spec_Inner.mono : ∀ l id k, LeO (spec_Inner.f k l id) (spec_Inner.f (k + 1) l id) := by
  intro l id k
  unfold spec_Inner.f
  exact LeO.bind (spec_TreeOk.mono _ _) (fun _ => LeO.refl _)
set_option maxHeartbeats 8000000 in
set_option maxRecDepth 100000 in
theorem spec_Inner.calls (k : Nat) (A0 : Option Addr) (c0 : Nat) (l : List S57) (id : Int) (r : ByteArray) (w : World) (hr : Kd.C k57 w A0 l.length l) (hc : l.length ≤ c0) (h : spec_Inner.f k l id = some r) :
    Calls Tryz.prog 10 #[.agg #[.slice A0 l.length c0], .int .i64 id] w fun e w' => e = .returned (.string r) ∧ Below w.heap.size w w' := by
  have hu := Tryz.underlying29
  obtain ⟨t, ht, h⟩ := Option.bind_eq_some_iff.1 h
  have A2 := Aside0.mk ht
  clear ht
  cases t with
  | false =>
    rw [if_neg (by decide)] at h
    obtain rfl := Option.some.inj h
    have HR := Aside0.mk hr
    have HC := Aside0.mk hc
    clear hr hc h
    go_enter Tryz.func10, Tryz.ntmps10
    go_wp2_with (first
      | ((with_reducible refine gate_dst (N := 2) rfl ?_); refine box_event ?hg1 (N := 2) ?hd1 (cs := #[.slice A0 l.length c0]) (t := 29) ?hr1 ?_; (case hd1 => rfl); (case hg1 => rfl); (case hr1 => first | (go_simp; done) | (go_simp; rfl)); intro gx hg w2 hbox hb; have HB := Aside0.mk hb; have HX := Aside0.mk hbox; clear hb hbox hg; have k0 : w2.cell? ⟨gx, 0, none⟩ = some (.slice A0 l.length c0) := (blk_cell HX.out 0).trans rfl)
      | ((with_reducible refine gate_dst (N := 9) rfl ?_); refine goesL_ (some 9) rfl rfl Tryz.func13 (by kernel_rfl) rfl #[.agg #[.slice A0 l.length c0]] rfl (by (try simp only [List.map_toArray, List.map_cons, List.map_nil]); first | done | rfl) ?_; (with_reducible refine (spec_TreeOk.calls k _ _ l false _ ?side1 ?side2 A2.out).mono ?_); (case side1 => exact Kd.C_below HR.out HB.out); (case side2 => exact HC.out); rintro e w3 ⟨rfl, hb⟩; refine ⟨_, rfl, ?_⟩; have nb := Aside0.mk (below_step HB.out hb); have nx := Aside0.mk (blk_below HX.out hb); clear k0 HB HX; have HB := nb; have HX := nx; clear nb nx hb; have k0 : w3.cell? ⟨gx, 0, none⟩ = some (.slice A0 l.length c0) := (blk_cell HX.out 0).trans rfl))
    go_ret
    exact ⟨rfl, HB.out⟩
  | true =>
    rw [if_pos rfl] at h
    obtain ⟨R, Fi, rfl⟩ := outJ_some h
    have l1 := R.len1
    have l4 := R.len4
    obtain ⟨ad, _, _, rfl, _⟩ := at_T57 hr 0 (by omega) (by omega)
    obtain ⟨kA, hkA⟩ := val_rounds (g := fun k => spec_l4At.f k l id) (l4At_is l R id)
    have AT := Aside0.mk hkA
    have HR := Aside0.mk hr
    have HC := Aside0.mk hc
    have HOI := Aside0.mk (show outI l id = match atI l id with | none => (⟨#[]⟩ : ByteArray) | some j => innT l j from rfl)
    clear hkA h
    cases ha : atI l id with
    | none =>
      rw [placeOf_none ha] at AT
      have hoi : outI l id = ⟨#[]⟩ := by rw [HOI.out, ha]
      rw [hoi]
      clear hr hc R Fi ha hoi
      go_enter Tryz.func10, Tryz.ntmps10
      go_wp2_with (first
        | ((with_reducible refine gate_dst (N := 2) rfl ?_); refine box_event ?hg1 (N := 2) ?hd1 (cs := #[.slice (some ad) l.length c0]) (t := 29) ?hr1 ?_; (case hd1 => rfl); (case hg1 => rfl); (case hr1 => first | (go_simp; done) | (go_simp; rfl)); intro gx hg w2 hbox hb; have HB := Aside0.mk hb; have HX := Aside0.mk hbox; clear hb hbox hg; have k0 : w2.cell? ⟨gx, 0, none⟩ = some (.slice (some ad) l.length c0) := (blk_cell HX.out 0).trans rfl)
        | ((with_reducible refine gate_dst (N := 9) rfl ?_); refine goesL_ (some 9) rfl rfl Tryz.func13 (by kernel_rfl) rfl #[.agg #[.slice (some ad) l.length c0]] rfl (by (try simp only [List.map_toArray, List.map_cons, List.map_nil]); first | done | rfl) ?_; (with_reducible refine (spec_TreeOk.calls k _ _ l true _ ?side1 ?side2 A2.out).mono ?_); (case side1 => exact Kd.C_below HR.out HB.out); (case side2 => exact HC.out); rintro e w3 ⟨rfl, hb⟩; refine ⟨_, rfl, ?_⟩; have nb := Aside0.mk (below_step HB.out hb); have nx := Aside0.mk (blk_below HX.out hb); clear k0 HB HX; have HB := nb; have HX := nx; clear nb nx hb; have k0 : w3.cell? ⟨gx, 0, none⟩ = some (.slice (some ad) l.length c0) := (blk_cell HX.out 0).trans rfl)
        | ((with_reducible refine gate_dst (N := 13) rfl ?_); refine goesL_ (some 13) rfl rfl Tryz.func21 (by kernel_rfl) rfl #[.agg #[.slice (some ad) l.length c0], .int .i64 id] rfl (by (try simp only [List.map_toArray, List.map_cons, List.map_nil]); first | done | rfl) ?_; (with_reducible refine (spec_l4At.calls kA _ _ l id _ _ ?side3 ?side4 AT.out).mono ?_); (case side3 => exact Kd.C_below HR.out HB.out); (case side4 => exact HC.out); rintro e w4 ⟨rfl, hb⟩; refine ⟨_, rfl, ?_⟩; have nb := Aside0.mk (below_step HB.out hb); have nx := Aside0.mk (blk_below HX.out hb); clear k0 HB HX; have HB := nb; have HX := nx; clear nb nx hb; have k0 : w4.cell? ⟨gx, 0, none⟩ = some (.slice (some ad) l.length c0) := (blk_cell HX.out 0).trans rfl))
      go_ret
      exact ⟨rfl, HB.out⟩
    | some j =>
      rw [placeOf_some ha] at AT
      have hoi : outI l id = innT l j := by rw [HOI.out, ha]
      rw [hoi]
      have hj := (at__lt ha).1
      obtain ⟨e, em⟩ := innT_em R hj
      obtain ⟨ad2, A3, c3, e0, x0, x1, x2, x3, x4, x5, _⟩ := at_T57 hr (j : Int) (by omega) (by omega)
      cases e0
      rw [Int.toNat_natCast] at x5
      have e5 : (rd_T57 l (j : Int)).f5 = ((kdOf l j : Nat) : Int) := by have := R.kids j hj; show (rd_T57 l (j : Nat)).f5 = _; unfold kdOf; omega
      rw [e5] at x5
      have X5 := Aside0.mk x5
      have SM := Aside0.mk (show (innT l j).size ≤ 3000000000000 from Nat.le_trans (em.small Fi) (by decide))
      have KC := Aside0.mk (show KidsC w ad c0 l j e (innT l j) from kids_calls w ad c0 l hr l4 j e _ hj (R.kids j hj) (kd_le R em.fits) (seq_calls w ad c0 l hr hc R Fi em (Nat.succ_pos _)))
      have EZ := Aside0.mk (show kdOf l j = 0 → innT l j = ⟨#[]⟩ from fun h0 => by
        rw [h0] at em
        exact em_zero em rfl)
      have dj : decide ((j : Int) < 0) = false := decide_eq_false (by omega)
      have p5 : (0 ≤ (j : Int)) = True := eq_true (by omega)
      have q5 : ((j : Int) < (l.length : Int)) = True := eq_true (by omega)
      generalize kdOf l j = K at X5 EZ
      clear hr hc R Fi ha hoi em e5 x0 x1 x2 x3 x4 x5 hj l1 l4
      go_enter Tryz.func10, Tryz.ntmps10
      go_upto_region 4 with (first
        | ((with_reducible refine gate_dst (N := 2) rfl ?_); refine box_event ?hg1 (N := 2) ?hd1 (cs := #[.slice (some ad) l.length c0]) (t := 29) ?hr1 ?_; (case hd1 => rfl); (case hg1 => rfl); (case hr1 => first | (go_simp; done) | (go_simp; rfl)); intro gx hg w2 hbox hb; have HB := Aside0.mk hb; have HX := Aside0.mk hbox; clear hb hbox hg; have k0 : w2.cell? ⟨gx, 0, none⟩ = some (.slice (some ad) l.length c0) := (blk_cell HX.out 0).trans rfl)
        | ((with_reducible refine gate_dst (N := 9) rfl ?_); refine goesL_ (some 9) rfl rfl Tryz.func13 (by kernel_rfl) rfl #[.agg #[.slice (some ad) l.length c0]] rfl (by (try simp only [List.map_toArray, List.map_cons, List.map_nil]); first | done | rfl) ?_; (with_reducible refine (spec_TreeOk.calls k _ _ l true _ ?side1 ?side2 A2.out).mono ?_); (case side1 => exact Kd.C_below HR.out HB.out); (case side2 => exact HC.out); rintro e w3 ⟨rfl, hb⟩; refine ⟨_, rfl, ?_⟩; have nb := Aside0.mk (below_step HB.out hb); have nx := Aside0.mk (blk_below HX.out hb); clear k0 HB HX; have HB := nb; have HX := nx; clear nb nx hb; have k0 : w3.cell? ⟨gx, 0, none⟩ = some (.slice (some ad) l.length c0) := (blk_cell HX.out 0).trans rfl)
        | ((with_reducible refine gate_dst (N := 13) rfl ?_); refine goesL_ (some 13) rfl rfl Tryz.func21 (by kernel_rfl) rfl #[.agg #[.slice (some ad) l.length c0], .int .i64 id] rfl (by (try simp only [List.map_toArray, List.map_cons, List.map_nil]); first | done | rfl) ?_; (with_reducible refine (spec_l4At.calls kA _ _ l id _ _ ?side3 ?side4 AT.out).mono ?_); (case side3 => exact Kd.C_below HR.out HB.out); (case side4 => exact HC.out); rintro e w4 ⟨rfl, hb⟩; refine ⟨_, rfl, ?_⟩; have nb := Aside0.mk (below_step HB.out hb); have nx := Aside0.mk (blk_below HX.out hb); clear k0 HB HX; have HB := nb; have HX := nx; clear nb nx hb; have k0 : w4.cell? ⟨gx, 0, none⟩ = some (.slice (some ad) l.length c0) := (blk_cell HX.out 0).trans rfl))
      have y5 := (HB.out.cell (World.block_lt_of_cell? w _ X5.out)).trans X5.out
      by_cases hK : K = 0
      · have d0 : ((K : Int) == 0) = true := by rw [hK]; rfl
        have EE := Aside0.mk (EZ.out hK)
        clear hK
        go_wp2_with (fail)
        go_ret
        exact ⟨congrArg (fun s => Ending.returned (Value.string s)) EE.out.symm, HB.out⟩
      · have d0 : ((K : Int) == 0) = false := beq_eq_false_iff_ne.mpr (by omega)
        clear hK
        go_wp2_with (first
          | ((with_reducible refine gate_dst (N := 29) rfl ?_); refine Kd.R_lit (Kd.int .u8) _ 5 ?hg11 (N := 29) ?hd11 (xs := ([] : List Int)) (inner := []) (ok := fun _ => True) (okp := fun _ => True) ?hr11 ?hp11 (fun _ hk => hk) trivial (Below.refl _ _) (Nat.le_refl _) (by simp) ?_; (case hd11 => rfl); (case hg11 => rfl); (case hr11 => first | (go_simp; done) | (go_simp; rfl)); (case hp11 => exact (Reps.none _ _)); intro v5 w5 ho9 hb hg_ hnew_; clear hg_ hnew_; have HO := Aside0.mk (show OwnB w5 w.heap.size v5 [] from Kd.own_of_R (Kd.R_lower ho9 HB.out.size)); have nb := Aside0.mk (below_step HB.out hb); clear k0 HB HX; have HB := nb; clear nb hb ho9)
          | ((with_reducible refine gate_dst (N := 30) rfl ?_); refine goesL_ (some 30) rfl rfl Tryz.func14 (by kernel_rfl) rfl #[.slice (some ad) l.length c0, .int .i64 (j : Int), v5] rfl (by (try simp only [List.map_toArray, List.map_cons, List.map_nil]); first | done | rfl) ?_; refine (KC.out _ v5 [] HB.out HO.out (by rw [List.length_nil, Nat.zero_add]; exact SM.out)).mono ?_; rintro e_ w6 ⟨v6, rfl, ho, hb, _⟩; refine ⟨_, rfl, ?_⟩; rw [List.nil_append] at ho; have HB6 := Aside0.mk hb; have hcv := own_string (P := Tryz.prog) Tryz.underlying37 Tryz.underlying5 Tryz.underlying9 ho; clear ho hb HB HO))
        go_ret
        exact ⟨congrArg (fun s => Ending.returned (Value.string s)) (str_bytes _), HB6.out⟩
/-! ### impl_Inner: function 11 -/
noncomputable def impl_Inner.f (k : Nat) (l : List S57) (id : Int) : Option ByteArray := (impl_TreeOk.f k l).bind fun t => if t = true then outJ l id else some ⟨#[]⟩
theorem impl_Inner.mono : ∀ l id k, LeO (impl_Inner.f k l id) (impl_Inner.f (k + 1) l id) := by
  intro l id k
  unfold impl_Inner.f
  exact LeO.bind (impl_TreeOk.mono _ _) (fun _ => LeO.refl _)
set_option maxHeartbeats 8000000 in
set_option maxRecDepth 100000 in
theorem impl_Inner.calls (k : Nat) (A0 : Option Addr) (c0 : Nat) (l : List S57) (id : Int) (r : ByteArray) (w : World) (hr : Kd.C k57 w A0 l.length l) (hc : l.length ≤ c0) (hg : STab w) (h : impl_Inner.f k l id = some r) :
    Calls Tryz.prog 11 #[.agg #[.slice A0 l.length c0], .int .i64 id] w fun e w' => e = .returned (.string r) ∧ Below w.heap.size w w' := by
  have hu := Tryz.underlying29
  have hu2 := Tryz.underlying50
  have hu3 := Tryz.underlying48
  obtain ⟨t, ht, h⟩ := Option.bind_eq_some_iff.1 h
  have A2 := Aside0.mk ht
  have HR := Aside0.mk hr
  have HC := Aside0.mk hc
  have HT := Aside0.mk hg
  clear ht hr hc hg
  cases t with
  | false =>
    rw [if_neg (by decide)] at h
    obtain rfl := Option.some.inj h
    clear h
    go_enter Tryz.func11, Tryz.ntmps11
    go_wp2_with (first
      | ((with_reducible refine gate_dst (N := 2) rfl ?_); refine box_event ?hg1 (N := 2) ?hd1 (cs := #[.slice A0 l.length c0]) (t := 29) ?hr1 ?_; (case hd1 => rfl); (case hg1 => rfl); (case hr1 => first | (go_simp; done) | (go_simp; rfl)); intro gx hg w2 hbox hb; have HB := Aside0.mk hb; have HX := Aside0.mk hbox; clear hb hbox hg; have k0 : w2.cell? ⟨gx, 0, none⟩ = some (.slice A0 l.length c0) := (blk_cell HX.out 0).trans rfl)
      | ((with_reducible refine gate_dst (N := 11) rfl ?_); refine goesL_ (some 11) rfl rfl Tryz.func16 (by kernel_rfl) rfl #[.agg #[.slice A0 l.length c0]] rfl (by (try simp only [List.map_toArray, List.map_cons, List.map_nil]); first | done | rfl) ?_; (with_reducible refine (impl_TreeOk.calls k _ _ l false _ ?side1 ?side2 A2.out).mono ?_); (case side1 => exact Kd.C_below HR.out HB.out); (case side2 => exact HC.out); rintro e w3 ⟨rfl, hb⟩; refine ⟨_, rfl, ?_⟩; have nb := Aside0.mk (below_step HB.out hb); have nx := Aside0.mk (blk_below HX.out hb); clear k0 HB HX; have HB := nb; have HX := nx; clear nb nx hb; have k0 : w3.cell? ⟨gx, 0, none⟩ = some (.slice A0 l.length c0) := (blk_cell HX.out 0).trans rfl))
    go_ret
    exact ⟨rfl, HB.out⟩
  | true =>
    rw [if_pos rfl] at h
    obtain ⟨R, Fi, rfl⟩ := outJ_some h
    have RR := Aside0.mk R
    have FF := Aside0.mk Fi
    clear h R Fi
    go_enter Tryz.func11, Tryz.ntmps11
    go_wp2_with (first
      | ((with_reducible refine gate_dst (N := 2) rfl ?_); refine box_event ?hg1 (N := 2) ?hd1 (cs := #[.slice A0 l.length c0]) (t := 29) ?hr1 ?_; (case hd1 => rfl); (case hg1 => rfl); (case hr1 => first | (go_simp; done) | (go_simp; rfl)); intro gx hg w2 hbox hb; have HB := Aside0.mk hb; have HX := Aside0.mk hbox; clear hb hbox hg; have k0 : w2.cell? ⟨gx, 0, none⟩ = some (.slice A0 l.length c0) := (blk_cell HX.out 0).trans rfl)
      | ((with_reducible refine gate_dst (N := 11) rfl ?_); refine goesL_ (some 11) rfl rfl Tryz.func16 (by kernel_rfl) rfl #[.agg #[.slice A0 l.length c0]] rfl (by (try simp only [List.map_toArray, List.map_cons, List.map_nil]); first | done | rfl) ?_; (with_reducible refine (impl_TreeOk.calls k _ _ l true _ ?side1 ?side2 A2.out).mono ?_); (case side1 => exact Kd.C_below HR.out HB.out); (case side2 => exact HC.out); rintro e w3 ⟨rfl, hb⟩; refine ⟨_, rfl, ?_⟩; have nb := Aside0.mk (below_step HB.out hb); have nx := Aside0.mk (blk_below HX.out hb); clear k0 HB HX; have HB := nb; have HX := nx; clear nb nx hb; have k0 : w3.cell? ⟨gx, 0, none⟩ = some (.slice A0 l.length c0) := (blk_cell HX.out 0).trans rfl)
      | ((with_reducible refine gate_dst (N := 15) rfl ?_); refine goesL_ (some 15) rfl rfl Tryz.func17 (by kernel_rfl) rfl #[.agg #[.slice A0 l.length c0]] rfl (by (try simp only [List.map_toArray, List.map_cons, List.map_nil]); first | done | rfl) ?_; refine (grown_calls _ A0 c0 l (Kd.C_below HR.out HB.out) HC.out RR.out).mono ?_; rintro e_ wg ⟨ad, va, G, lv, rfl, hb2, hA2, hG2, hrow⟩; obtain ⟨Al, cl, el⟩ := Kd.R_slice (show kp.R 41 wg w3.heap.size _ lv _ from hrow); rw [List.length_map, List.length_range] at el; subst el; refine ⟨_, rfl, ?_⟩; have nb := Aside0.mk (below_step HB.out hb2); have IC1 := Aside0.mk (show IC w3 wg ad l va G from ⟨hb2, hA2, hG2, (HT.out.below HB.out).below hb2, RR.out, FF.out⟩); have RW := Aside0.mk (show PRow wg w3.heap.size (fun _ => True) (.slice Al l.length cl) ((List.range l.length).map G.b) from hrow); clear k0 HB HX hb2 hA2 hG2 hrow; have HB := nb; clear nb)
      | ((with_reducible refine gate_dst (N := 19) rfl ?_); refine box_event ?hg15 (N := 19) ?hd15 (cs := #[.pointer none, .slice none 0 0]) (t := 50) ?hr15 ?_; (case hd15 => rfl); (case hg15 => rfl); (case hr15 => first | (go_simp; done) | (go_simp; rfl)); intro gb hg w5 hbox hb; have HB5 := Aside0.mk hb; have HW5 := Aside0.mk (show WB w5 wg.heap.size gb (⟨#[]⟩ : ByteArray) from ⟨by rw [hg]; exact Nat.le_refl _, .pointer none, .slice none 0 0, hbox, .inl rfl, World.ownsRow_nil _ _ _ _, fun _ => rfl⟩); clear hb hbox hg))
    go_loopg [22] l.length (fun kq v22 w' => ∃ (q : Nat), v22 = .int .i64 (q : Int) ∧ Aside0 (q + kq = l.length) ∧ Aside0 (WB w' wg.heap.size gb (preI l id q)) ∧ Aside0 (Below wg.heap.size wg w'))
    case atStart => exact ⟨0, rfl, ⟨Nat.zero_add _⟩, HW5, HB5⟩
    case round =>
      clear HW5 HB5
      obtain ⟨q, rfl, HQ, HW, HB6⟩ := hrel
      cases gk with
      | zero =>
        have hq : q = l.length := HQ.out
        have dq : decide ((q : Int) < (l.length : Int)) = false := decide_eq_false (by omega)
        have dq2 : decide (q < l.length) = false := decide_eq_false (by omega)
        subst hq
        go_wp2_with (first
          | ((with_reducible refine gate_dst (N := 40) rfl ?_); refine goesL_ (some 40) rfl rfl Tryz.func19 (by kernel_rfl) rfl #[bp gb] rfl (by (try simp only [List.map_toArray, List.map_cons, List.map_nil]); first | done | rfl) ?_; refine (st_calls wg.heap.size gb _ _ HW.out).mono ?_; rintro e_ w7 ⟨rfl, hb⟩; refine ⟨_, rfl, ?_⟩; have HB7 := Aside0.mk (below_step HB.out (HB6.out.trans hb)); clear hb))
        go_ret
        exact ⟨rfl, HB7.out⟩
      | succ d =>
        have hq : q < l.length := by have := HQ.out; omega
        have dq : decide ((q : Int) < (l.length : Int)) = true := decide_eq_true (by omega)
        have dq2 : decide (q < l.length) = true := decide_eq_true hq
        have p5 : (0 ≤ (q : Int)) = True := eq_true (by omega)
        have q5 : ((q : Int) < (l.length : Int)) = True := eq_true (by omega)
        obtain ⟨g, cap, e1, _⟩ := Kd.R_form (show kp.R 41 wg w3.heap.size _ (.slice Al l.length cl) _ from RW.out) (by rw [List.length_map, List.length_range]; omega)
        injection e1 with e1 e2 e3
        subst e1
        clear e2 e3
        have hcl : wr.cell? ⟨g, q, none⟩ = some (.pointer (some ⟨G.b q, 0, none⟩)) := by
          have h := (Kd.R_celln (0 : Nat) (show kp.R 41 wr w3.heap.size _ (.slice (some ⟨g, 0, none⟩) l.length cl) _ from RW.out.below HB6.out) (q : Int) (by omega) (by omega)).1
          rw [Int.toNat_natCast] at h
          refine h.trans ?_
          unfold rdOf
          rw [Int.toNat_natCast, List.getD_eq_getElem?_getD, List.getElem?_map, List.getElem?_range hq]
          rfl
        have hid : wr.cell? ⟨G.b q, 0, none⟩ = some (.int .i64 (rd_T57 l (q : Nat)).f0) := (blk_cell (blk_below (IC1.out.gar.tw q hq) HB6.out) 0).trans rfl
        have hwq := ti q (by have := RR.out.len4; omega)
        obtain ⟨f0, ef⟩ : ∃ f0, f0 = (rd_T57 l (q : Nat)).f0 := ⟨_, rfl⟩
        rw [← ef] at hid
        by_cases c : f0 = id
        · have d3 : (f0 == id) = true := beq_iff_eq.mpr c
          have PH := Aside0.mk (pre_hit RR.out hq (ef.symm.trans c))
          obtain ⟨e, em⟩ := innT_em RR.out hq
          have KQ := Aside0.mk (kidsI_calls w3 wg ad l va G IC1.out gb q e _ (innT l q) hq (kd_le RR.out em.fits) (seqI w3 wg ad l va G IC1.out gb em q 0 hq rfl (.nil (by omega)) (Nat.zero_add _)))
          have SM := Aside0.mk (show (preI l id q).size + (innT l q).size ≤ 3000000000000 from by have := inn_small RR.out FF.out hq; have := pre_small RR.out FF.out id (Nat.le_of_lt hq); omega)
          clear c ef hq em
          go_wp2_with (first
            | ((with_reducible refine gate_dst (N := 35) rfl ?_); refine goesL_ (some 35) rfl rfl Tryz.func18 (by kernel_rfl) rfl #[bp gb, .pointer (some ⟨G.b q, 0, none⟩)] rfl (by (try simp only [List.map_toArray, List.map_cons, List.map_nil]); first | done | rfl) ?_; refine (KQ.out wr _ HB6.out HW.out SM.out).mono ?_; rintro e_ w8 ⟨rfl, hw, hb, _⟩; refine ⟨_, rfl, ?_⟩; have HB8 := Aside0.mk hb; have HW8 := Aside0.mk hw; clear hw hb))
          go_roundg d
          case measure => omega
          case rel => exact ⟨q + 1, congrArg (Value.int .i64) hwq, ⟨by have := HQ.out; omega⟩, ⟨by rw [← PH.out]; exact HW8.out⟩, HB8⟩
        · have d3 : (f0 == id) = false := beq_eq_false_iff_ne.mpr c
          have PM := Aside0.mk (pre_miss (l := l) (id := id) (q := q) (by rw [← ef]; exact c))
          clear c ef hq
          go_wp2_with (fail)
          go_roundg d
          case measure => omega
          case rel => exact ⟨q + 1, congrArg (Value.int .i64) hwq, ⟨by have := HQ.out; omega⟩, ⟨by rw [← PM.out]; exact HW.out⟩, HB6⟩
end Go.Proofs.YtjojmfhgfeflnaaGreatDoor.QFnExactInner
