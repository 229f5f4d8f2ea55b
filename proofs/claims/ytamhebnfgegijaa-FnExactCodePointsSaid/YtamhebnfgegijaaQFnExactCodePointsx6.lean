/- impl.CodePoints, walked: the text that read gives, rune by rune. -/
import Derived.Test.YtamhebnfgegijaaQFnExactCodePointsx5
import Derived.Lib.OthersKept
namespace Go.Proofs.Ytamhebnfgegijaa.QFnExactCodePoints
open Go Go.RowKit Go.Proofs.YtamhebnfgegijaaV.PrintWords Go.Proofs.YtamhebnfgegijaaV.PrintLast Go.Proofs.YtamhebnfgegijaaV.PrintMore Go.Proofs.Ytamhebnfgegijaa.BytesEv Go.Proofs.Ytamhebnfgegijaa.Shelf
set_option linter.unusedVariables false
set_option linter.unusedSimpArgs false

/-! ### impl_CodePoints: function 5 -/
def runesF : Nat → ByteArray → Nat → List Int
  | 0, _, _ => []
  | k + 1, s, pos => if pos < s.size then (wrap64 ((Utf8.decode s pos).1 : Int)) :: runesF k s (pos + (Utf8.decode s pos).2) else []
def impl_CodePoints.f (k : Nat) (a0 : ByteArray) : Option (List Int) := if a0.size ≤ 1048576 then ((impl_read.l0 k a0.data.toList []).bind fun t => (if t.length ≤ 4194304 then (some (runesF t.length ⟨t.toArray⟩ 0)) else (none))) else (none)
theorem impl_CodePoints.mono : ∀ a0 k, LeO (impl_CodePoints.f k a0) (impl_CodePoints.f (k + 1) a0) := by
  intro a0 k
  unfold impl_CodePoints.f
  exact LeO.ite (LeO.bind (impl_read.mono_l k _ _) (fun _ => LeO.refl _)) (LeO.refl _)
theorem width_pos (s : ByteArray) (pos : Nat) (h : pos < s.size) : 1 ≤ (Utf8.decode s pos).2 := by
  by_cases ha : (s[pos]'h).toNat < 128
  · rw [decode_ascii s pos h ha]
    exact Nat.le_refl _
  · exact (decode_high s pos h (by omega)).2
theorem runesF_end (s : ByteArray) (k pos : Nat) (h : ¬ pos < s.size) : runesF k s pos = [] := by
  cases k with
  | zero => rfl
  | succ k => simp [runesF, h]
theorem grown_iter {W W1 : World} {g : Nat} {s : ByteArray} {pos : Nat} (h : W.heap[g]? = some (.stringIter s pos)) {row : Option Nat} (hg : W.grownBy W1 row) (ht : ∀ k, row = some k → ∃ cells, W.heap[k]? = some (.cells cells 3 (0, 0))) : W1.heap[g]? = some (.stringIter s pos) := by
  rw [hg.block g (blk_lt h) (fun e => by
    obtain ⟨cells, hc⟩ := ht g e.symm
    rw [hc] at h
    cases h)]
  exact h
theorem R_iterAt {W : World} {base g : Nat} {s : ByteArray} {pos : Nat} {v : Value} {xs : List Int} (h : Kd.R (Kd.int .i64) 3 W base (fun _ => True) v xs) (hk : W.heap[g]? = some (.stringIter s pos)) (p : Nat) : Kd.R (Kd.int .i64) 3 (W.iterAt g s p) base (fun _ => True) v xs :=
  Kd.R_of_own (own_move (Kd.own_of_R h) (fun k hk' => Lib.iterAt_other W g k s p (fun e => by
    obtain ⟨cells, hc⟩ := Kd.R_typed h k hk'
    rw [e, hk] at hc
    cases hc))) (fun _ _ => trivial)
set_option maxHeartbeats 8000000 in
set_option maxRecDepth 100000 in
theorem impl_CodePoints.calls (k : Nat) (a0 : ByteArray) (r : List Int) (w : World) (h : impl_CodePoints.f k a0 = some r) :
    Calls Try.prog 5 #[.string a0] w fun e w' => ∃ v0_ : Value, e = .returned (v0_) ∧ Kd.R (Kd.int .i64) 3 w' w.heap.size (fun _ => True) v0_ r ∧ Below w.heap.size w w' := by
  unfold impl_CodePoints.f at h
  by_cases hs : a0.size ≤ 1048576
  rotate_left
  · rw [if_neg hs] at h
    cases h
  rw [if_pos hs] at h
  obtain ⟨t, ht, h⟩ := Option.bind_eq_some_iff.mp h
  by_cases hl : t.length ≤ 4194304
  rotate_left
  · rw [if_neg hl] at h
    cases h
  rw [if_pos hl] at h
  obtain rfl := Option.some.inj h
  have HS := Aside0.mk hs
  have HT := Aside0.mk ht
  have HL := Aside0.mk hl
  have hconv := fun w : World => print_bytes (P := Try.prog) 9 27 5 Try.underlying9 Try.underlying27 Try.underlying5 a0 w
  have huc := Try.underlying32
  clear hs ht hl h
  have hlen : a0.data.toList.length = a0.size := data_length a0
  have HLN := Aside0.mk hlen
  clear hlen
  obtain ⟨s, hs⟩ : ∃ s : ByteArray, s = ⟨t.toArray⟩ := ⟨_, rfl⟩
  have HSZ := Aside0.mk (show s.size = t.length from by rw [hs]; simp [ByteArray.size])
  rw [← hs]
  have HSS := Aside0.mk hs
  clear hs
  go_enter Try.func5, Try.ntmps5
  go_wp2_with (first
    | ((with_reducible refine gate_dst (N := 6) rfl ?_); refine Kd.R_lit (Kd.int .i64) _ 3 ?hg (N := 6) ?hd (xs := ([] : List Int)) (inner := []) (ok := fun _ => True) (okp := fun _ => True) ?hr ?hp (fun _ hk => hk) trivial (Below.refl _ _) (Nat.le_refl _) (by simp) ?_; (case hd => rfl); (case hg => rfl); (case hr => first | (go_simp; done) | (go_simp; rfl)); (case hp => exact Reps.none _ _); intro v6 w6 ho hb hg hat; have HO := Aside0.mk ho; have HB := Aside0.mk hb; clear ho hb hg hat)
    | ((with_reducible refine gate_dst (N := 9) rfl ?_); refine bytes_event (N := 9) rfl rfl (e := 5) a0 (Nat.le_trans HS.out (by decide)) ?hr9 ?_; (case hr9 => first | (go_simp; done) | (go_simp; rfl)); intro ad cb w7 hcc hC hb hge; have HB7 := Aside0.mk (below_step HB.out hb); have HO7 := Aside0.mk (Kd.R_below HO.out hb); have HCL := Aside0.mk hcc; have HCB := Aside0.mk hC; clear hcc hC hb hge HB HO)
    | ((with_reducible refine gate_dst (N := 10) rfl ?_); (refine goesL_ (some 10) rfl rfl Try.func11 (by kernel_rfl) rfl #[.agg #[], .slice (some ad) a0.size cb] rfl (by (try simp only [List.map_toArray, List.map_cons, List.map_nil]); first | done | rfl) ?_; rw [← HLN.out]; refine (read_calls k _ _ cb a0.data.toList t (by rw [HLN.out]; exact HCB.out) (by rw [HLN.out]; exact HCL.out) (by rw [HLN.out]; exact HS.out) HT.out).mono ?_; rintro e_ w8 ⟨rfl, hb⟩; refine ⟨_, rfl, ?_⟩; rw [← HSS.out]; have HB8 := Aside0.mk (below_step HB7.out hb); have HO8 := Aside0.mk (Kd.R_below HO7.out hb); clear hb HB7 HO7 HCB HCL))
    | ((with_reducible refine gate_dst (N := 11) rfl ?_); refine Kd.event_run (v := .pointer (some ⟨w8.heap.size, 0, none⟩)) (w1 := w8.iter s 0) rfl ?hs11 ?_; (case hs11 => first | (go_simp; done) | (go_simp; rfl)); obtain ⟨gi, hgi⟩ : ∃ gi, gi = w8.heap.size := ⟨_, rfl⟩; rw [← hgi]; have HIT := Aside0.mk (show (w8.iter s 0).heap[gi]? = some (.stringIter s 0) from by rw [hgi]; exact World.iter_heap w8 s 0); have HGI := Aside0.mk (show w.heap.size ≤ gi from by rw [hgi]; exact HB8.out.size); have HB9 := Aside0.mk (show Below w.heap.size w (w8.iter s 0) from below_step HB8.out (below_alloc (Below.refl _ _) _)); have HO9 := Aside0.mk (show Kd.R (Kd.int .i64) 3 (w8.iter s 0) w.heap.size (fun _ => True) v6 [] from Kd.R_below HO8.out (below_alloc (Below.refl _ _) _)); clear hgi HB8 HO8; generalize w8.iter s 0 = w9 at HIT HB9 HO9 ⊢))
  clear hconv
  (try simp only [Act.put, List.setIfInBounds_toArray, List.set_cons_zero, List.set_cons_succ])
  go_loopg [3] t.length (fun kq v3 w' => ∃ (out : List Int) (pos : Nat), Aside0 (out ++ runesF kq s pos = runesF t.length s 0 ∧ out.length ≤ pos ∧ s.size ≤ pos + kq) ∧ Aside0 (w'.heap[gi]? = some (.stringIter s pos)) ∧ Aside0 (Kd.R (Kd.int .i64) 3 w' w.heap.size (fun _ => True) v3 out) ∧ Aside0 (Below w.heap.size w w'))
  case atStart => exact ⟨[], 0, ⟨by rw [List.nil_append], Nat.le_refl _, by rw [HSZ.out]; omega⟩, HIT, HO9, HB9⟩
  case round =>
    clear HIT HO9 HB9
    obtain ⟨out, pos, HX, HIT, HO, HB⟩ := hrel
    by_cases hp : pos < s.size
    · obtain ⟨kq, hkq⟩ : ∃ kq, gk = kq + 1 := ⟨gk - 1, by have := HX.out.2.2; omega⟩
      have HKQ := Aside0.mk hkq
      have HW := Aside0.mk (width_pos s pos hp)
      have HP := Aside0.mk hp
      have HLO := Aside0.mk (show out.length ≤ 4194304 from by have := HX.out.2.1; have := HSZ.out; have := HL.out; omega)
      have HEQ := Aside0.mk (show runesF gk s pos = wrap64 ((Utf8.decode s pos).1 : Int) :: runesF kq s (pos + (Utf8.decode s pos).2) from by rw [hkq, runesF, if_pos hp])
      have hnx : ∀ ty, (Instr.next (.pointer (some ⟨gi, 0, none⟩)) true ty).run Try.prog wr = _ := fun ty => Lib.run_next_any_at wr gi s pos ty HIT.out hp
      clear hkq hp
      go_wp2_with (first
        | ((with_reducible refine gate_dst (N := 12) rfl ?_); refine Kd.event_run (v := .tuple #[.bool true, .int .i64 pos, .int .i32 (Utf8.decode s pos).1]) (w1 := wr.iterAt gi s (pos + (Utf8.decode s pos).2)) rfl ?hs12 ?_; (case hs12 => first | (go_simp; done) | (go_simp; rfl)); have HIT2 := Aside0.mk (Lib.iterAt_heap wr gi s pos (pos + (Utf8.decode s pos).2) HIT.out); have HB2 := Aside0.mk (Lib.below_iterAt HB.out HGI.out s (pos + (Utf8.decode s pos).2)); have HO2 := Aside0.mk (R_iterAt HO.out HIT.out (pos + (Utf8.decode s pos).2)); clear hnx HIT HB HO; generalize wr.iterAt gi s (pos + (Utf8.decode s pos).2) = w2 at HIT2 HB2 HO2 ⊢)
        | ((with_reducible refine gate_builtin (b := .append) (xs := #[.tmp 15, .tmp 18]) rfl ?_); at_builtin; refine Kd.R_append (Kd.int .i64) (w0 := w) w.heap.size rfl (.tmp 15) (.tmp 18) 22 3 (.int .i64 0) 8 rfl Try.underlying22 info3 rfl (by decide) (by omega) u3 out (wrap64 ((Utf8.decode s pos).1 : Int)) [.int .i64 (wrap64 ((Utf8.decode s pos).1 : Int))] (fun _ => True) (fun _ => False) rfl rfl ?aP (fun _ hk => hk.elim) (fun _ _ => trivial) ?aO ?aB ?aS ?aL ?_; (case aP => exact rfl); (case aB => exact HB2.out); (case aO => exact HO2.out); (case aS => exact HB2.out.size); (case aL => have := HLO.out; omega); intro v9 w9_ ho hb hg hat; have HO9 := Aside0.mk ho; have HB9 := Aside0.mk hb; have HIT9 := Aside0.mk (grown_iter HIT2.out hg (fun k hk => Kd.R_typed HO2.out k hk)); clear ho hb hg hat))
      go_roundg kq
      case measure => have := HKQ.out; omega
      case rel => exact ⟨out ++ [wrap64 ((Utf8.decode s pos).1 : Int)], pos + (Utf8.decode s pos).2, ⟨by rw [← HX.out.1, HEQ.out, List.append_assoc]; rfl, by have := HX.out.2.1; have := HW.out; rw [List.length_append, List.length_singleton]; omega, by have := HX.out.2.2; have := HKQ.out; have := HW.out; omega⟩, HIT9, HO9, HB9⟩
    · have hnx : ∀ ty, (Instr.next (.pointer (some ⟨gi, 0, none⟩)) true ty).run Try.prog wr = _ := fun ty => Lib.run_next_end_at wr gi s pos ty HIT.out hp
      have HE := Aside0.mk (show out = runesF t.length s 0 from by have := HX.out.1; rw [runesF_end s gk pos hp, List.append_nil] at this; exact this)
      clear hp
      go_wp2
      go_ret
      exact ⟨_, rfl, by rw [← HE.out]; exact HO.out, HB.out⟩
end Go.Proofs.Ytamhebnfgegijaa.QFnExactCodePoints
