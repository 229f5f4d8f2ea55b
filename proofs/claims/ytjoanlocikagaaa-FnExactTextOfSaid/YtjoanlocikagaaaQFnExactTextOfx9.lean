/- impl.TextOf, walked: a tree that is none; or the texts of the node with the Id. -/
import Derived.Test.YtjoanlocikagaaaQFnExactTextOfx8
import Derived.Test.YtjoanlocikagaaaTextIn
import Derived.Test.YtjoanlocikagaaaAtI
namespace Go.Proofs.Ytjoanlocikagaaa.QFnExactTextOf
open Go Go.RowKit Go.Proofs.YtjoanlocikagaaaV.PrintWords Go.Proofs.YtjoanlocikagaaaV.PrintLast Go.Proofs.YtjoanlocikagaaaV.PrintMore Go.Proofs.Ytjoanlocikagaaa.TreeIx Go.Proofs.Ytjoanlocikagaaa.MapObj
set_option linter.unusedVariables false
set_option linter.unusedSimpArgs false

/-! ### impl_TextOf: function 46 -/
noncomputable section
open Classical in
def endOf (l : List S134) (j : Nat) : Nat := if h : ∃ e, Fits (kdOf l) l.length (j + 1) (kdOf l j) e then h.choose else 0
def textAt (l : List S134) (id : Int) : ByteArray := match atI l id with
  | none => (⟨#[]⟩ : ByteArray)
  | some j => catN l j (endOf l j - j)
open Classical in
def textR (l : List S134) (id : Int) : Option ByteArray := if Right l ∧ (catN l 0 l.length).size ≤ 1048576 then some (textAt l id) else none
def impl_TextOf.f (k : Nat) (l0_0 : List (S134)) (a1 : Int) : Option (ByteArray) := (impl_TreeOk.f k l0_0).bind fun t1 => (if t1 = true then (textR l0_0 a1) else (some (⟨#[]⟩ : ByteArray)))
end
theorem endOf_is {l : List S134} {j e : Nat} (h : Fits (kdOf l) l.length (j + 1) (kdOf l j) e) : endOf l j = e := by
  have hx : ∃ e, Fits (kdOf l) l.length (j + 1) (kdOf l j) e := ⟨e, h⟩
  unfold endOf
  rw [dif_pos hx]
  exact hx.choose_spec.det h
theorem impl_TextOf.mono : ∀ a0 a1 k, LeO (impl_TextOf.f k a0 a1) (impl_TextOf.f (k + 1) a0 a1) := fun a0 a1 k => LeO.bind (impl_TreeOk.mono _ _) (fun _ => LeO.refl _)
set_option maxHeartbeats 8000000 in
set_option maxRecDepth 100000 in
theorem impl_TextOf.calls (k : Nat) (A0_0 : Option Addr) (c0_0 : Nat) (l0_0 : List (S134)) (a1 : Int) (r : ByteArray) (w : World) (hr0_0 : Kd.C k134 w A0_0 l0_0.length l0_0) (hc0_0 : l0_0.length ≤ c0_0) (h : impl_TextOf.f k l0_0 a1 = some r) :
    Calls Try.prog 46 #[.agg #[.slice A0_0 l0_0.length c0_0], .int .i64 a1] w fun e w' => e = .returned (.string r) ∧ Below w.heap.size w w' := by
  have HR := Aside0.mk hr0_0
  have HC := Aside0.mk hc0_0
  have hu57 := Try.underlying57
  clear hr0_0 hc0_0
  unfold impl_TextOf.f at h
  obtain ⟨t1, h1, h⟩ := Option.bind_eq_some_iff.mp h
  cases t1 with
  | true =>
    rw [if_pos rfl] at h
    unfold textR at h
    split at h
    · rename_i hR
      obtain rfl := Option.some.inj h
      have HRT := Aside0.mk hR.1
      have HZ := Aside0.mk hR.2
      have A1 := Aside0.mk h1
      clear h h1 hR
      cases ha : atI l0_0 a1 with
      | none =>
        have hget : ∀ b : Nat → Nat, ((mget (hist l0_0 b l0_0.length) a1).map ptr).getD (.pointer none) = .pointer none := fun b => by rw [mget_at]; show (((atI l0_0 a1).map b).map ptr).getD _ = _; rw [ha]; rfl
        have hs : textAt l0_0 a1 = (⟨#[]⟩ : ByteArray) := by unfold textAt; rw [ha]
        rw [hs]
        have HH := Aside0.mk hget
        clear hget hs ha
        go_enter Try.func46, Try.ntmps46
        go_wp2_with (first
          | ((with_reducible refine gate_dst (N := 2) rfl ?_); refine box_event ?hg (N := 2) ?hd (cs := #[.slice A0_0 l0_0.length c0_0]) (t := 57) ?hr ?_; (case hd => rfl); (case hg => rfl); (case hr => first | (go_simp; done) | (go_simp; rfl)); intro gt hg w4 hbox hb; have HB := Aside0.mk hb; have BT := Aside0.mk hbox; have hcz : w4.cell? ⟨gt, 0, none⟩ = some (.slice A0_0 l0_0.length c0_0) := (blk_cell BT.out 0).trans rfl; clear hg hbox hb)
          | ((with_reducible refine gate_dst (N := 7) rfl ?_); refine goesL_ (some 7) rfl rfl Try.func32 (by kernel_rfl) rfl #[.agg #[.slice A0_0 l0_0.length c0_0]] rfl (by (try simp only [List.map_toArray, List.map_cons, List.map_nil]); first | done | rfl) ?_; refine (impl_TreeOk.calls k _ _ l0_0 true _ (Kd.C_below HR.out HB.out) HC.out A1.out).mono ?_; rintro e w5 ⟨rfl, hb⟩; refine ⟨_, rfl, ?_⟩; have n0_ := Aside0.mk (below_step HB.out hb); have n1_ := Aside0.mk (blk_below BT.out hb); have hcz5 : w5.cell? ⟨gt, 0, none⟩ = some (.slice A0_0 l0_0.length c0_0) := (blk_cell n1_.out 0).trans rfl; clear HB BT hb hcz; have HB := n0_; have BT := n1_; clear n0_ n1_)
          | ((with_reducible refine gate_dst (N := 10) rfl ?_); refine goesL_ (some 10) rfl rfl Try.func99 (by kernel_rfl) rfl #[.agg #[.slice A0_0 l0_0.length c0_0]] rfl (by (try simp only [List.map_toArray, List.map_cons, List.map_nil]); first | done | rfl) ?_; refine (newGarden_calls _ A0_0 c0_0 l0_0 (Kd.C_below HR.out HB.out) HC.out HRT.out).mono ?_; rintro e w7 ⟨wb, ad, va, G, gg, gm, rfl, hwb, hA, hG⟩; refine ⟨_, rfl, ?_⟩; have hb := below_then hwb hwb.size hG.bel; have HG := Aside0.mk hG; have n0_ := Aside0.mk (below_step HB.out hb); have hcg : w7.cell? ⟨gg, 1, none⟩ = some (.map (some gm)) := (blk_cell hG.blk 1).trans rfl; clear HB BT hb hwb hA hG hcz5; have HB := n0_; clear n0_)
          | (at_lookup; refine get_event (kt := 3) (et := 150) (d := .int .i64) (ek := Value.int .i64) (ev := ptr) (g := gm) (hist := hist l0_0 G.b l0_0.length) rfl _ _ rfl rfl a1 rfl Try.underlying151 Try.underlying3 (fun _ => rfl) (vint_inj .i64) (z := .pointer none) ?hz ?hm (.pointer none) (HH.out G.b) ?_; (case hz => kernel_rfl); (case hm => exact HG.out.map)))
        go_ret
        exact ⟨rfl, HB.out⟩
      | some j =>
        obtain ⟨hj, hid⟩ := at__lt ha
        have hget : ∀ b : Nat → Nat, ((mget (hist l0_0 b l0_0.length) a1).map ptr).getD (.pointer none) = .pointer (some ⟨b j, 0, none⟩) := fun b => by rw [mget_at]; show (((atI l0_0 a1).map b).map ptr).getD _ = _; rw [ha]; rfl
        obtain ⟨e, hfit, _⟩ := HRT.out.fits.inner (Nat.zero_le j) hj
        have hs : textAt l0_0 a1 = catN l0_0 j (e - j) := by unfold textAt; rw [ha, ← endOf_is hfit]
        rw [hs]
        have HH := Aside0.mk hget
        have HF := Aside0.mk hfit
        have HJ := Aside0.mk hj
        clear hget hs ha hfit hj hid
        go_enter Try.func46, Try.ntmps46
        go_wp2_with (first
          | ((with_reducible refine gate_dst (N := 2) rfl ?_); refine box_event ?hg (N := 2) ?hd (cs := #[.slice A0_0 l0_0.length c0_0]) (t := 57) ?hr ?_; (case hd => rfl); (case hg => rfl); (case hr => first | (go_simp; done) | (go_simp; rfl)); intro gt hg w4 hbox hb; have HB := Aside0.mk hb; have BT := Aside0.mk hbox; have hcz : w4.cell? ⟨gt, 0, none⟩ = some (.slice A0_0 l0_0.length c0_0) := (blk_cell BT.out 0).trans rfl; clear hg hbox hb)
          | ((with_reducible refine gate_dst (N := 7) rfl ?_); refine goesL_ (some 7) rfl rfl Try.func32 (by kernel_rfl) rfl #[.agg #[.slice A0_0 l0_0.length c0_0]] rfl (by (try simp only [List.map_toArray, List.map_cons, List.map_nil]); first | done | rfl) ?_; refine (impl_TreeOk.calls k _ _ l0_0 true _ (Kd.C_below HR.out HB.out) HC.out A1.out).mono ?_; rintro e w5 ⟨rfl, hb⟩; refine ⟨_, rfl, ?_⟩; have n0_ := Aside0.mk (below_step HB.out hb); have n1_ := Aside0.mk (blk_below BT.out hb); have hcz5 : w5.cell? ⟨gt, 0, none⟩ = some (.slice A0_0 l0_0.length c0_0) := (blk_cell n1_.out 0).trans rfl; clear HB BT hb hcz; have HB := n0_; have BT := n1_; clear n0_ n1_)
          | ((with_reducible refine gate_dst (N := 10) rfl ?_); refine goesL_ (some 10) rfl rfl Try.func99 (by kernel_rfl) rfl #[.agg #[.slice A0_0 l0_0.length c0_0]] rfl (by (try simp only [List.map_toArray, List.map_cons, List.map_nil]); first | done | rfl) ?_; refine (newGarden_calls _ A0_0 c0_0 l0_0 (Kd.C_below HR.out HB.out) HC.out HRT.out).mono ?_; rintro e w7 ⟨wb, ad, va, G, gg, gm, rfl, hwb, hA, hG⟩; refine ⟨_, rfl, ?_⟩; have hb := below_then hwb hwb.size hG.bel; have HG := Aside0.mk hG; have n0_ := Aside0.mk (below_step HB.out hb); have hcg : w7.cell? ⟨gg, 1, none⟩ = some (.map (some gm)) := (blk_cell hG.blk 1).trans rfl; clear HB BT hb hwb hA hG hcz5; have HB := n0_; clear n0_)
          | (at_lookup; refine get_event (kt := 3) (et := 150) (d := .int .i64) (ek := Value.int .i64) (ev := ptr) (g := gm) (hist := hist l0_0 G.b l0_0.length) rfl _ _ rfl rfl a1 rfl Try.underlying151 Try.underlying3 (fun _ => rfl) (vint_inj .i64) (z := .pointer none) ?hz ?hm (.pointer (some ⟨G.b j, 0, none⟩)) (HH.out G.b) ?_; (case hz => kernel_rfl); (case hm => exact HG.out.map))
          | ((with_reducible refine gate_dst (N := 19) rfl ?_); (refine goesL_ (some 19) rfl rfl Try.func101 (by kernel_rfl) rfl #[.pointer (some ⟨G.b j, 0, none⟩)] rfl (by (try simp only [List.map_toArray, List.map_cons, List.map_nil]); first | done | rfl) ?_; refine (textIn_calls wb l0_0 va G HRT.out.len4 HZ.out l0_0.length j e _ (by omega) HJ.out HF.out HG.out.gar).mono ?_; rintro e_ w9 ⟨rfl, hb⟩; refine ⟨_, rfl, ?_⟩; have n0_ := Aside0.mk (below_step HB.out hb); clear HB hb; have HB := n0_; clear n0_)))
        go_ret
        exact ⟨rfl, HB.out⟩
    · cases h
  | false =>
    rw [if_neg (by simp)] at h
    obtain rfl := Option.some.inj h
    have A1 := Aside0.mk h1
    clear h h1
    go_enter Try.func46, Try.ntmps46
    go_wp2_with (first
      | ((with_reducible refine gate_dst (N := 2) rfl ?_); refine box_event ?hg (N := 2) ?hd (cs := #[.slice A0_0 l0_0.length c0_0]) (t := 57) ?hr ?_; (case hd => rfl); (case hg => rfl); (case hr => first | (go_simp; done) | (go_simp; rfl)); intro gt hg w4 hbox hb; have HB := Aside0.mk hb; have BT := Aside0.mk hbox; have hcz : w4.cell? ⟨gt, 0, none⟩ = some (.slice A0_0 l0_0.length c0_0) := (blk_cell BT.out 0).trans rfl; clear hg hbox hb)
      | ((with_reducible refine gate_dst (N := 7) rfl ?_); refine goesL_ (some 7) rfl rfl Try.func32 (by kernel_rfl) rfl #[.agg #[.slice A0_0 l0_0.length c0_0]] rfl (by (try simp only [List.map_toArray, List.map_cons, List.map_nil]); first | done | rfl) ?_; refine (impl_TreeOk.calls k _ _ l0_0 false _ (Kd.C_below HR.out HB.out) HC.out A1.out).mono ?_; rintro e w5 ⟨rfl, hb⟩; refine ⟨_, rfl, ?_⟩; have n0_ := Aside0.mk (below_step HB.out hb); clear HB BT hb hcz; have HB := n0_; clear n0_))
    go_ret
    exact ⟨rfl, HB.out⟩
end Go.Proofs.Ytjoanlocikagaaa.QFnExactTextOf
