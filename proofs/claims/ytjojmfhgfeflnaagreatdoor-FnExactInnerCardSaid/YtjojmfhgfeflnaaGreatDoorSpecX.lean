/- spec.Write, walked; what a right tree's text is. -/
import Derived.Test.YtjojmfhgfeflnaaGreatDoorSpecW
namespace Go.Proofs.YtjojmfhgfeflnaaGreatDoor.QFnExactInner
open Go Go.RowKit Go.Proofs.YtjojmfhgfeflnaaGreatDoorV.PrintWords Go.Proofs.YtjojmfhgfeflnaaGreatDoorV.PrintLast Go.Proofs.YtjojmfhgfeflnaaGreatDoorV.PrintMore Go.Proofs.YtjojmfhgfeflnaaGreatDoor.Val Go.Proofs.YtjojmfhgfeflnaaGreatDoor.TreeIx Go.Proofs.YtjojmfhgfeflnaaGreatDoor.Trie
set_option linter.unusedVariables false
set_option linter.unusedSimpArgs false

theorem kd_le {l : List S57} (R : Right l) {i m : Nat} (h : Fits (kdOf l) l.length (i + 1) (kdOf l i) m) : kdOf l i ≤ 4000 := by
  have := h.count
  have := h.le
  have := R.len4
  omega
theorem seq_calls (w0 : World) (ad : Addr) (c0 : Nat) (l : List S57) (hr : Kd.C k57 w0 (some ad) l.length l) (hc : l.length ≤ c0) (R : Right l) (Fi : Fine l) {i q e : Nat} {ab s : ByteArray} (h : Em l i q ab e s) :
    0 < i → SeqC (NodeC w0 ad c0 l) l.length ab q i e s := by
  induction h with
  | nil _ => exact fun _ => ⟨rfl, rfl⟩
  | @cons i q m e ab t s h1 h2 h3 ih1 ih2 =>
    intro h0
    have hm := h2.fits.le
    exact ⟨m, _, s, node_calls w0 ad c0 l hr hc R Fi i m ab t h0 h1 h2.fits (kids_calls w0 ad c0 l hr R.len4 i m t h1 (R.kids i h1) (kd_le R h2.fits) (ih1 (by omega))), h1, ih2 (by omega), rfl⟩
theorem em_root {l : List S57} (R : Right l) : ∃ t, Em l 1 (kdOf l 0) (rd_T57 l (0 : Nat)).f2 l.length t := by
  obtain ⟨_, h⟩ := R.fits.one
  exact em_of h _
noncomputable def treeT (l : List S57) : ByteArray := @dite _ (Right l) (Classical.propDecidable _) (fun h => Classical.choose (em_root h)) (fun _ => ⟨#[]⟩)
theorem treeT_em {l : List S57} (R : Right l) : Em l 1 (kdOf l 0) (rd_T57 l (0 : Nat)).f2 l.length (treeT l) := by
  unfold treeT
  rw [dif_pos R]
  exact Classical.choose_spec (em_root R)
noncomputable def outT (l : List S57) : Option ByteArray := @ite _ (Right l ∧ Fine l) (Classical.propDecidable _) (some (treeT l)) none
theorem outT_some {l : List S57} {r : ByteArray} (h : outT l = some r) : Right l ∧ Fine l ∧ r = treeT l := by
  unfold outT at h
  by_cases c : Right l ∧ Fine l
  · rw [if_pos c] at h
    exact ⟨c.1, c.2, (Option.some.inj h).symm⟩
  · rw [if_neg c] at h
    cases h
theorem outT_is {l : List S57} (R : Right l) (F : Fine l) : outT l = some (treeT l) := by
  unfold outT
  rw [if_pos ⟨R, F⟩]
theorem str_bytes (s : ByteArray) : strOfNums (bytesOf s) = s := by
  unfold strOfNums bytesOf
  apply ByteArray.ext
  simp only
  rw [List.map_map]
  have : ∀ x ∈ s.data.toList, ((fun n : Int => UInt8.ofNat n.toNat) ∘ fun b : UInt8 => (b.toNat : Int)) x = x := by
    intro x _
    simp only [Function.comp]
    rw [Int.toNat_natCast, UInt8.ofNat_toNat]
  rw [List.map_congr_left this, List.map_id']
/-! ### spec_Write: function 6 -/
noncomputable def spec_Write.f (k : Nat) (l : List S57) : Option ByteArray := (spec_TreeOk.f k l).bind fun t => if t = true then outT l else some ⟨#[]⟩
theorem spec_Write.mono : ∀ l k, LeO (spec_Write.f k l) (spec_Write.f (k + 1) l) := by
  intro l k
  unfold spec_Write.f
  exact LeO.bind (spec_TreeOk.mono _ _) (fun _ => LeO.refl _)
set_option maxHeartbeats 8000000 in
set_option maxRecDepth 100000 in
theorem spec_Write.calls (k : Nat) (A0 : Option Addr) (c0 : Nat) (l : List S57) (r : ByteArray) (w : World) (hr : Kd.C k57 w A0 l.length l) (hc : l.length ≤ c0) (h : spec_Write.f k l = some r) :
    Calls Tryz.prog 6 #[.agg #[.slice A0 l.length c0]] w fun e w' => e = .returned (.string r) ∧ Below w.heap.size w w' := by
  have hu := Tryz.underlying29
  obtain ⟨t, ht, h⟩ := Option.bind_eq_some_iff.1 h
  have A2 := Aside0.mk ht
  clear ht
  cases t with
  | false =>
    rw [if_neg (by decide)] at h
    obtain rfl := Option.some.inj h
    have HR := Aside0.mk hr
    have HC := Aside0.mk hc
    clear hr hc h
    go_enter Tryz.func6, Tryz.ntmps6
    go_wp2_with (first
      | ((with_reducible refine gate_dst (N := 1) rfl ?_); refine box_event ?hg1 (N := 1) ?hd1 (cs := #[.slice A0 l.length c0]) (t := 29) ?hr1 ?_; (case hd1 => rfl); (case hg1 => rfl); (case hr1 => first | (go_simp; done) | (go_simp; rfl)); intro gx hg w2 hbox hb; have HB := Aside0.mk hb; have HX := Aside0.mk hbox; clear hb hbox hg; have k0 : w2.cell? ⟨gx, 0, none⟩ = some (.slice A0 l.length c0) := (blk_cell HX.out 0).trans rfl)
      | ((with_reducible refine gate_callee (f := 13) rfl ?_); refine goesL_ (some 6) rfl rfl Tryz.func13 (by kernel_rfl) rfl #[.agg #[.slice A0 l.length c0]] rfl (by (try simp only [List.map_toArray, List.map_cons, List.map_nil]); first | done | rfl) ?_; (with_reducible refine (spec_TreeOk.calls k _ _ l false _ ?side1 ?side2 A2.out).mono ?_); (case side1 => exact Kd.C_below HR.out HB.out); (case side2 => exact HC.out); rintro e w3 ⟨rfl, hb⟩; refine ⟨_, rfl, ?_⟩; have nb := Aside0.mk (below_step HB.out hb); have nx := Aside0.mk (blk_below HX.out hb); clear k0 HB HX; have HB := nb; have HX := nx; clear nb nx hb; have k0 : w3.cell? ⟨gx, 0, none⟩ = some (.slice A0 l.length c0) := (blk_cell HX.out 0).trans rfl))
    go_ret
    exact ⟨rfl, HB.out⟩
  | true =>
    rw [if_pos rfl] at h
    obtain ⟨R, Fi, rfl⟩ := outT_some h
    have l1 := R.len1
    obtain ⟨ad, _, _, rfl, _⟩ := at_T57 hr 0 (by omega) (by omega)
    have em := treeT_em R
    have SM := Aside0.mk (show (treeT l).size ≤ 3000000000000 from Nat.le_trans (em.small Fi) (by decide))
    have KC := Aside0.mk (show KidsC w ad c0 l 0 l.length (treeT l) from kids_calls w ad c0 l hr R.len4 0 l.length _ (by omega) (R.kids 0 (by omega)) (kd_le R em.fits) (seq_calls w ad c0 l hr hc R Fi em (by decide)))
    have HR := Aside0.mk hr
    have HC := Aside0.mk hc
    clear hr hc h R Fi l1 em
    go_enter Tryz.func6, Tryz.ntmps6
    go_wp2_with (first
      | ((with_reducible refine gate_dst (N := 1) rfl ?_); refine box_event ?hg1 (N := 1) ?hd1 (cs := #[.slice (some ad) l.length c0]) (t := 29) ?hr1 ?_; (case hd1 => rfl); (case hg1 => rfl); (case hr1 => first | (go_simp; done) | (go_simp; rfl)); intro gx hg w2 hbox hb; have HB := Aside0.mk hb; have HX := Aside0.mk hbox; clear hb hbox hg; have k0 : w2.cell? ⟨gx, 0, none⟩ = some (.slice (some ad) l.length c0) := (blk_cell HX.out 0).trans rfl)
      | ((with_reducible refine gate_callee (f := 13) rfl ?_); refine goesL_ (some 6) rfl rfl Tryz.func13 (by kernel_rfl) rfl #[.agg #[.slice (some ad) l.length c0]] rfl (by (try simp only [List.map_toArray, List.map_cons, List.map_nil]); first | done | rfl) ?_; (with_reducible refine (spec_TreeOk.calls k _ _ l true _ ?side1 ?side2 A2.out).mono ?_); (case side1 => exact Kd.C_below HR.out HB.out); (case side2 => exact HC.out); rintro e w3 ⟨rfl, hb⟩; refine ⟨_, rfl, ?_⟩; have nb := Aside0.mk (below_step HB.out hb); have nx := Aside0.mk (blk_below HX.out hb); clear k0 HB HX; have HB := nb; have HX := nx; clear nb nx hb; have k0 : w3.cell? ⟨gx, 0, none⟩ = some (.slice (some ad) l.length c0) := (blk_cell HX.out 0).trans rfl)
      | ((with_reducible refine gate_dst (N := 11) rfl ?_); refine Kd.R_lit (Kd.int .u8) _ 5 ?hg11 (N := 11) ?hd11 (xs := ([] : List Int)) (inner := []) (ok := fun _ => True) (okp := fun _ => True) ?hr11 ?hp11 (fun _ hk => hk) trivial (Below.refl _ _) (Nat.le_refl _) (by simp) ?_; (case hd11 => rfl); (case hg11 => rfl); (case hr11 => first | (go_simp; done) | (go_simp; rfl)); (case hp11 => exact (Reps.none _ _)); intro v4 w4 ho9 hb hg_ hnew_; clear hg_ hnew_; have HO := Aside0.mk (show OwnB w4 w.heap.size v4 [] from Kd.own_of_R (Kd.R_lower ho9 HB.out.size)); have nb := Aside0.mk (below_step HB.out hb); clear k0 HB HX; have HB := nb; clear nb hb ho9)
      | ((with_reducible refine gate_dst (N := 12) rfl ?_); (refine goesL_ (some 12) rfl rfl Tryz.func14 (by kernel_rfl) rfl #[.slice (some ad) l.length c0, .int .i64 0, v4] rfl (by (try simp only [List.map_toArray, List.map_cons, List.map_nil]); first | done | rfl) ?_; refine (KC.out _ v4 [] HB.out HO.out (by rw [List.length_nil, Nat.zero_add]; exact SM.out)).mono ?_; rintro e_ w5 ⟨v5, rfl, ho, hb, _⟩; refine ⟨_, rfl, ?_⟩; rw [List.nil_append] at ho; have HB5 := Aside0.mk hb; have hcv := own_string (P := Tryz.prog) Tryz.underlying37 Tryz.underlying5 Tryz.underlying9 ho; clear ho hb HB HO)))
    go_ret
    exact ⟨congrArg (fun s => Ending.returned (Value.string s)) (str_bytes _), HB5.out⟩
end Go.Proofs.YtjojmfhgfeflnaaGreatDoor.QFnExactInner
