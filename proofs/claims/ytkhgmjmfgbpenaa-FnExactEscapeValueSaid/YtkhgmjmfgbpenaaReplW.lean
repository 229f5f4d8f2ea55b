/- (*strings.genericReplacer).Replace, (*strings.Replacer).Replace, walked. -/
import Derived.Test.YtkhgmjmfgbpenaaLoopW
import Derived.Laws.IdiomStrings
import Derived.Lib.BufferRead
namespace Go.Proofs.Ytkhgmjmfgbpenaa.Trie
open Go Go.RowKit Go.Proofs.YtkhgmjmfgbpenaaV.PrintWords Go.Proofs.YtkhgmjmfgbpenaaV.PrintLast Go.Proofs.YtkhgmjmfgbpenaaV.PrintMore Go.Proofs.Ytkhgmjmfgbpenaa.Once
set_option linter.unusedVariables false
set_option linter.unusedSimpArgs false

theorem buf_string {W : World} {base gw : Nat} {v : Value} {l : List UInt8} (h : Buf W base gw v (B l)) : (convert 123 9 v).run Try.prog W = .ok (Value.string (lst l)) W := by
  have hR := Kd.R_of_own (enc := Value.int .u8) (h1 := fun _ => rfl) (ok := fun _ => True) h.2.2 (fun _ _ => trivial)
  obtain ⟨A, c, rfl⟩ := own_slice h.2.2
  obtain ⟨_, _, hC⟩ := Kd.R_reads' hR
  rw [B_length]
  cases A with
  | none =>
    have hl : l = [] := by
      cases l with
      | nil => rfl
      | cons d r =>
        obtain ⟨ad, e, _⟩ := Kd.at_int (k := .u8) hC 0 (by omega) (by simp [B])
        cases e
    subst hl
    exact Lib.run_convert_nil_bytes W 123 9 5 c Try.underlying123 Try.underlying5 Try.underlying9
  | some ad =>
    refine (run_convert_bytes_back W 123 9 5 ad c l Try.underlying123 Try.underlying5 Try.underlying9 (fun j hj => ?_)).trans ?_
    · obtain ⟨ad', e, hc⟩ := Kd.at_int (k := .u8) hC (j : Int) (by omega) (by rw [B_length]; omega)
      cases e
      rw [Int.toNat_natCast] at hc
      rw [hc]
      congr 2
      unfold rd B
      rw [Int.toNat_natCast, List.getD_eq_getElem?_getD, List.getElem?_map, List.getElem?_eq_getElem hj]
      rfl
    · rfl
theorem make_buf (w : World) (n : Nat) (h : n ≤ 1048576) : ∃ w', (Instr.makeSlice 123 (.int .i64 0) (.int .i64 (n : Int))).run Try.prog w = .ok (Value.slice (some ⟨w.heap.size, 0, none⟩) 0 n) w' ∧ w'.ownsRow w.heap.size 5 1 (.slice (some ⟨w.heap.size, 0, none⟩) 0 n) 0 [] ∧ w.grownBy w' none := by
  have hi : (Try.prog.info? 5).map (fun i => (i.zero, i.size, i.bytes)) = some (some (.int .u8 0), 1, 1) := by kernel_rfl
  obtain ⟨i0, h1, h2, h3, h4⟩ := info_parts hi
  exact run_makeSlice_owned (P := Try.prog) w w.heap.size 123 5 i0 (.int .u8 0) 1 Try.underlying123 h1 h2 h3 .i64 .i64 n (by omega) (by rw [h4]; omega) (by simp only [maxLen]; omega) (Nat.le_refl _)
set_option maxRecDepth 100000 in
set_option maxHeartbeats 8000000 in
theorem replace_calls (w : World) (base gr tn np : Nat) (L : List ByteArray) (ps : Ps) (l : List UInt8) (G : Gen w L np tn ps base gr) (PA : ∀ M, M = (numM (mkA L np) (tn : Int) 256).1 → Pairs L M tn np ps) (P : ∀ M, M = (numM (mkA L np) (tn : Int) 256).1 → Places M tn)
    (htl : tn ≤ 256) (h2 : L.length = 2 * np) (hs : l.length ≤ 1048576) (hv : ∀ p, p ∈ ps → p.2.size ≤ 1000) :
    Calls Try.prog 72 #[.pointer (some ⟨gr, 0, none⟩), .string (lst l)] w fun e w' => e = .returned (.string (lst (esc ps (l.length + 1) l))) ∧ Below w.heap.size w w' := by
  obtain ⟨gt, tv, M, _, _, eM, hr, ht, hl, htp⟩ := G
  have HR := Aside0.mk hr
  have HT := Aside0.mk ht
  have HL := Aside0.mk hl
  have HTP := Aside0.mk htp
  have HPA := Aside0.mk (PA M eM)
  have PP := Aside0.mk (P M eM)
  have HTL := Aside0.mk htl
  have H2 := Aside0.mk h2
  have HS := Aside0.mk hs
  have HV := Aside0.mk hv
  have hlen : (lst l).size = l.length := rfl
  clear hr ht hl htp PA P htl h2 hs hv eM
  go_enter Try.func72, Try.ntmps72
  go_wp2_with (first
    | ((with_reducible refine gate_dst (N := 8) rfl ?_); obtain ⟨w1, hm1, hm2, hm3⟩ := make_buf w l.length HS.out; refine Kd.event_run (v := .slice (some ⟨w.heap.size, 0, none⟩) 0 l.length) (w1 := w1) rfl ?hs8 ?_; (case hs8 => show (Instr.makeSlice 123 (.int .i64 0) (.int .i64 (l.length : Int)) >>= fun a => pure (Next.value a)).run Try.prog w = _; rw [Sem.run_bind, hm1]; rfl); have HO1 := Aside0.mk (show w1.ownsRow w.heap.size 5 1 (.slice (some ⟨w.heap.size, 0, none⟩) ([] : List Int).length l.length) ([] : List Int).length (nums .u8 []) from hm2); have HB1 := Aside0.mk ((Below.refl w.heap.size w).grown hm3 (Nat.le_refl _) (fun k hk => by cases hk)); have SF1 := Aside0.mk (show Safe w w1 from Safe.grown hm3 (fun k hk => by cases hk)); obtain ⟨v1, ev1⟩ : ∃ v1, v1 = Value.slice (some ⟨w.heap.size, 0, none⟩) 0 l.length := ⟨_, rfl⟩; have EV := Aside0.mk ev1; have HO2 := Aside0.mk (show w1.ownsRow w.heap.size 5 1 v1 ([] : List Int).length (nums .u8 []) from by rw [ev1]; exact HO1.out); clear hm1 hm2 hm3 ev1 HO1)
    | ((with_reducible refine gate_dst (N := 5) rfl ?_); refine box_event ?hg (N := 5) ?hd (cs := #[nilS]) (t := 123) ?hr ?_; (case hd => rfl); (case hg => rfl); (case hr => first | (go_simp; done) | (go_simp; rfl)); intro gw hgw w2 hbox hbel; have GW := Aside0.mk (show w.heap.size ≤ gw from by rw [hgw]; exact HB1.out.size); have HX2 := Aside0.mk hbox; have HB2 := Aside0.mk (below_step HB1.out hbel); have HO3 := Aside0.mk (own_move HO2.out (fun k hk => hbel.block k (by obtain ⟨cells, hc⟩ := own_typed HO2.out k hk; exact blk_lt hc))); have SF2 := Aside0.mk (SF1.out.then_ (Safe.below hbel)); have k0 : w2.cell? ⟨gw, 0, none⟩ = some nilS := (blk_cell HX2.out 0).trans rfl; have f0 := blk_frozen HX2.out 0; clear hgw hbox hbel HB1 HO2 SF1)
    | ((with_reducible refine gate_store (t := 123) (p := 5) rfl ?_); refine store_event (t := 123) (p := 5) (v := ?vo1) (w1 := w2.setCell ⟨gw, 0, none⟩ v1) ?hg ?ho ?hn ?hr ?_; (case ho => rfl); (case hg => rfl); (case hn => rfl); (case hr => rw [EV.out]; first | (go_simp; done) | (go_simp; rfl)); intro w3 hw3; have HX3 := Aside0.mk (show w3.heap[gw]? = some (.cells #[v1] 123 (0, 0)) from by rw [hw3]; exact blk_put HX2.out 0 _ rfl); have HB3 := Aside0.mk (show Below w.heap.size w w3 from by rw [hw3]; exact below_set HB2.out GW.out); have HBU := Aside0.mk (show Buf w3 w.heap.size gw v1 [] from ⟨GW.out, HX3.out, by rw [hw3]; exact own_move HO3.out (fun k hk => Below.heap_setCell w2 ⟨gw, 0, none⟩ v1 k (fun e => by obtain ⟨cells, hc⟩ := own_typed HO3.out k hk; exact blk_ne HX2.out hc (by decide) e.symm))⟩); have SF3 := Aside0.mk (show Safe w w3 from by rw [hw3]; exact SF2.out.then_ (Safe.set HX2.out _ _)); clear hw3 k0 f0 HX2 HX3 HB2 HO3 SF2)
    | (go_at_call 73; refine (writeString_calls w w3 w.heap.size gr gt tn gw M tv L.length np ps L l v1 (SF3.out _ _ _ (.inl rfl) HR.out) (SF3.out _ _ _ (.inr (.inl rfl)) HT.out) HL.out (HTP.out.safe SF3.out) HPA.out PP.out HTL.out (by have := H2.out; omega) HBU.out HB3.out HB3.out.size HS.out HV.out).mono ?_; rintro e w4 ⟨⟨n, rfl⟩, v4, hbu, hb, hsf⟩; have HBU4 := Aside0.mk hbu; have HB4 := Aside0.mk hb; clear hbu hb hsf HBU HB3 SF3; have k0 : w4.cell? ⟨gw, 0, none⟩ = some v4 := (blk_cell HBU4.out.2.1 0).trans rfl)
    | ((with_reducible refine gate_dst (N := 14) rfl ?_); refine Kd.event_run (v := .string (lst (esc ps (l.length + 1) l))) (w1 := w4) rfl ?hs14 ?_; (case hs14 => show (convert 123 9 v4 >>= fun a => pure (Next.value a)).run Try.prog w4 = _; rw [Sem.run_bind, buf_string HBU4.out]; rfl)))
  go_ret
  exact ⟨rfl, HB4.out⟩
end Go.Proofs.Ytkhgmjmfgbpenaa.Trie
