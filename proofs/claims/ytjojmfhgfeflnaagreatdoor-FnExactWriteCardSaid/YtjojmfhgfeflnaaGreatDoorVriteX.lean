import Derived.Test.YtjojmfhgfeflnaaGreatDoorImplK
/- Words of the printed proofs, as far as these texts use them. -/
namespace Go.Proofs.YtjojmfhgfeflnaaGreatDoor.QFnExactWrite
open Go Go.RowKit Go.Proofs.YtjojmfhgfeflnaaGreatDoorV.PrintWords Go.Proofs.YtjojmfhgfeflnaaGreatDoorV.PrintLast Go.Proofs.YtjojmfhgfeflnaaGreatDoorV.PrintMore Go.Proofs.YtjojmfhgfeflnaaGreatDoor.Val Go.Proofs.YtjojmfhgfeflnaaGreatDoor.TreeIx Go.Proofs.YtjojmfhgfeflnaaGreatDoor.Trie
set_option linter.unusedVariables false
set_option linter.unusedSimpArgs false
noncomputable def impl_Write.f (k : Nat) (l : List S57) : Option ByteArray := (impl_TreeOk.f k l).bind fun t => if t = true then outT l else some ⟨#[]⟩
theorem impl_Write.mono : ∀ l k, LeO (impl_Write.f k l) (impl_Write.f (k + 1) l) := by
  intro l k
  unfold impl_Write.f
  exact LeO.bind (impl_TreeOk.mono _ _) (fun _ => LeO.refl _)
set_option maxHeartbeats 8000000 in
set_option maxRecDepth 100000 in
theorem impl_Write.calls (k : Nat) (A0 : Option Addr) (c0 : Nat) (l : List S57) (r : ByteArray) (w : World) (hr : Kd.C k57 w A0 l.length l) (hc : l.length ≤ c0) (hg : STab w) (h : impl_Write.f k l = some r) :
    Calls Tryz.prog 8 #[.agg #[.slice A0 l.length c0]] w fun e w' => e = .returned (.string r) ∧ Below w.heap.size w w' := by
  have hu := Tryz.underlying29
  have hu2 := Tryz.underlying50
  have hu3 := Tryz.underlying48
  obtain ⟨t, ht, h⟩ := Option.bind_eq_some_iff.1 h
  have A2 := Aside0.mk ht
  have HR := Aside0.mk hr
  have HC := Aside0.mk hc
  have HT := Aside0.mk hg
  clear ht hr hc hg
  cases t with
  | false =>
    rw [if_neg (by decide)] at h
    obtain rfl := Option.some.inj h
    clear h
    go_enter Tryz.func8, Tryz.ntmps8
    go_wp2_with (first
      | ((with_reducible refine gate_dst (N := 1) rfl ?_); refine box_event ?hg1 (N := 1) ?hd1 (cs := #[.slice A0 l.length c0]) (t := 29) ?hr1 ?_; (case hd1 => rfl); (case hg1 => rfl); (case hr1 => first | (go_simp; done) | (go_simp; rfl)); intro gx hg w2 hbox hb; have HB := Aside0.mk hb; have HX := Aside0.mk hbox; clear hb hbox hg; have k0 : w2.cell? ⟨gx, 0, none⟩ = some (.slice A0 l.length c0) := (blk_cell HX.out 0).trans rfl)
      | ((with_reducible refine gate_dst (N := 7) rfl ?_); refine goesL_ (some 7) rfl rfl Tryz.func16 (by kernel_rfl) rfl #[.agg #[.slice A0 l.length c0]] rfl (by (try simp only [List.map_toArray, List.map_cons, List.map_nil]); first | done | rfl) ?_; (with_reducible refine (impl_TreeOk.calls k _ _ l false _ ?side1 ?side2 A2.out).mono ?_); (case side1 => exact Kd.C_below HR.out HB.out); (case side2 => exact HC.out); rintro e w3 ⟨rfl, hb⟩; refine ⟨_, rfl, ?_⟩; have nb := Aside0.mk (below_step HB.out hb); have nx := Aside0.mk (blk_below HX.out hb); clear k0 HB HX; have HB := nb; have HX := nx; clear nb nx hb; have k0 : w3.cell? ⟨gx, 0, none⟩ = some (.slice A0 l.length c0) := (blk_cell HX.out 0).trans rfl))
    go_ret
    exact ⟨rfl, HB.out⟩
  | true =>
    rw [if_pos rfl] at h
    obtain ⟨R, Fi, rfl⟩ := outT_some h
    have em := treeT_em R
    have EM := Aside0.mk em
    have SM := Aside0.mk (show (⟨#[]⟩ : ByteArray).size + (treeT l).size ≤ 3000000000000 from by rw [show (⟨#[]⟩ : ByteArray).size = 0 from rfl, Nat.zero_add]; exact Nat.le_trans (em.small Fi) (by decide))
    have RR := Aside0.mk R
    have FF := Aside0.mk Fi
    have L1 := Aside0.mk (show 0 < l.length from R.len1)
    clear h R Fi em
    go_enter Tryz.func8, Tryz.ntmps8
    go_wp2_with (first
      | ((with_reducible refine gate_dst (N := 1) rfl ?_); refine box_event ?hg1 (N := 1) ?hd1 (cs := #[.slice A0 l.length c0]) (t := 29) ?hr1 ?_; (case hd1 => rfl); (case hg1 => rfl); (case hr1 => first | (go_simp; done) | (go_simp; rfl)); intro gx hg w2 hbox hb; have HB := Aside0.mk hb; have HX := Aside0.mk hbox; clear hb hbox hg; have k0 : w2.cell? ⟨gx, 0, none⟩ = some (.slice A0 l.length c0) := (blk_cell HX.out 0).trans rfl)
      | ((with_reducible refine gate_dst (N := 7) rfl ?_); refine goesL_ (some 7) rfl rfl Tryz.func16 (by kernel_rfl) rfl #[.agg #[.slice A0 l.length c0]] rfl (by (try simp only [List.map_toArray, List.map_cons, List.map_nil]); first | done | rfl) ?_; (with_reducible refine (impl_TreeOk.calls k _ _ l true _ ?side1 ?side2 A2.out).mono ?_); (case side1 => exact Kd.C_below HR.out HB.out); (case side2 => exact HC.out); rintro e w3 ⟨rfl, hb⟩; refine ⟨_, rfl, ?_⟩; have nb := Aside0.mk (below_step HB.out hb); have nx := Aside0.mk (blk_below HX.out hb); clear k0 HB HX; have HB := nb; have HX := nx; clear nb nx hb; have k0 : w3.cell? ⟨gx, 0, none⟩ = some (.slice A0 l.length c0) := (blk_cell HX.out 0).trans rfl)
      | ((with_reducible refine gate_dst (N := 11) rfl ?_); refine goesL_ (some 11) rfl rfl Tryz.func17 (by kernel_rfl) rfl #[.agg #[.slice A0 l.length c0]] rfl (by (try simp only [List.map_toArray, List.map_cons, List.map_nil]); first | done | rfl) ?_; refine (grown_calls _ A0 c0 l (Kd.C_below HR.out HB.out) HC.out RR.out).mono ?_; rintro e_ wg ⟨ad, va, G, lv, rfl, hb2, hA2, hG2, hrow⟩; refine ⟨_, rfl, ?_⟩; have nb := Aside0.mk (below_step HB.out hb2); have IC1 := Aside0.mk (show IC w3 wg ad l va G from ⟨hb2, hA2, hG2, (HT.out.below HB.out).below hb2, RR.out, FF.out⟩); clear k0 HB HX hb2 hA2 hG2 hrow; have HB := nb; clear nb)
      | ((with_reducible refine gate_dst (N := 15) rfl ?_); refine box_event ?hg15 (N := 15) ?hd15 (cs := #[.pointer none, .slice none 0 0]) (t := 50) ?hr15 ?_; (case hd15 => rfl); (case hg15 => rfl); (case hr15 => first | (go_simp; done) | (go_simp; rfl)); intro gb hg w5 hbox hb; have HB5 := Aside0.mk hb; have HW5 := Aside0.mk (show WB w5 wg.heap.size gb (⟨#[]⟩ : ByteArray) from ⟨by rw [hg]; exact Nat.le_refl _, .pointer none, .slice none 0 0, hbox, .inl rfl, World.ownsRow_nil _ _ _ _, fun _ => rfl⟩); clear hb hbox hg)
      | ((with_reducible refine gate_dst (N := 18) rfl ?_); refine goesL_ (some 18) rfl rfl Tryz.func18 (by kernel_rfl) rfl #[bp gb, .pointer (some ⟨G.b 0, 0, none⟩)] rfl (by (try simp only [List.map_toArray, List.map_cons, List.map_nil]); first | done | rfl) ?_; refine (kidsI_calls w3 wg ad l va G IC1.out gb 0 l.length _ (treeT l) (show 0 < l.length from L1.out) (kd_le RR.out EM.out.fits) (seqI w3 wg ad l va G IC1.out gb EM.out 0 0 L1.out rfl (.nil L1.out) (Nat.zero_add _)) w5 (⟨#[]⟩ : ByteArray) HB5.out HW5.out SM.out).mono ?_; rintro e_ w6 ⟨rfl, hw, hb, _⟩; refine ⟨_, rfl, ?_⟩; have HB6 := Aside0.mk hb; have HW6 := Aside0.mk (show WB w6 wg.heap.size gb (treeT l) from by rw [show (⟨#[]⟩ : ByteArray) ++ treeT l = treeT l from ByteArray.empty_append] at hw; exact hw); clear hw hb)
      | ((with_reducible refine gate_dst (N := 22) rfl ?_); refine goesL_ (some 22) rfl rfl Tryz.func19 (by kernel_rfl) rfl #[bp gb] rfl (by (try simp only [List.map_toArray, List.map_cons, List.map_nil]); first | done | rfl) ?_; refine (st_calls wg.heap.size gb (treeT l) w6 HW6.out).mono ?_; rintro e_ w7 ⟨rfl, hb⟩; refine ⟨_, rfl, ?_⟩; have HB7 := Aside0.mk (below_step HB.out (HB6.out.trans hb)); clear hb))
    go_ret
    exact ⟨rfl, HB7.out⟩
end Go.Proofs.YtjojmfhgfeflnaaGreatDoor.QFnExactWrite
