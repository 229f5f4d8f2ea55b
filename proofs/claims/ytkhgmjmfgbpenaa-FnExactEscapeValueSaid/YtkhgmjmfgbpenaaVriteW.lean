import Derived.Test.YtkhgmjmfgbpenaaLookW
import Derived.Stop.Asserts
/- Words of the printed proofs, as far as these texts use them. -/
namespace Go.Proofs.Ytkhgmjmfgbpenaa.Trie
open Go Go.RowKit Go.Proofs.YtkhgmjmfgbpenaaV.PrintWords Go.Proofs.YtkhgmjmfgbpenaaV.PrintLast Go.Proofs.YtkhgmjmfgbpenaaV.PrintMore Go.Proofs.Ytkhgmjmfgbpenaa.Once
set_option linter.unusedVariables false
set_option linter.unusedSimpArgs false
def Safe (W W1 : World) : Prop := ∀ (g : Nat) (cs : Array Value) (T : TypeId), T = 76 ∨ T = 71 ∨ T = 74 → W.heap[g]? = some (.cells cs T (0, 0)) → W1.heap[g]? = some (.cells cs T (0, 0))
theorem Safe.refl (W : World) : Safe W W := fun _ _ _ _ h => h
theorem Safe.then_ {W W1 W2 : World} (h : Safe W W1) (k : Safe W1 W2) : Safe W W2 := fun g cs T hT hg => k g cs T hT (h g cs T hT hg)
theorem Safe.below {W W1 : World} (h : Below W.heap.size W W1) : Safe W W1 := fun g cs T _ hg => blk_below hg h
theorem Safe.drewN (W : World) (n : Nat) : Safe W (W.drewN n) := fun g cs T _ hg => hg
theorem Safe.grown {W W1 : World} {row : Option Nat} (h : W.grownBy W1 row) (hr : ∀ k, row = some k → ∃ cells, W.heap[k]? = some (.cells cells 5 (0, 0))) : Safe W W1 := fun g cs T hT hg =>
  blk_grown hg h (fun e => by
    obtain ⟨cells, hc⟩ := hr g e.symm
    exact blk_ne hg hc (by rcases hT with rfl | rfl | rfl <;> decide) rfl)
theorem Safe.set {W : World} {gw : Nat} {cs0 : Array Value} (h : W.heap[gw]? = some (.cells cs0 123 (0, 0))) (i : Nat) (u : Value) : Safe W (W.setCell ⟨gw, i, none⟩ u) := fun g cs T hT hg =>
  blk_far' hg (blk_ne hg h (by rcases hT with rfl | rfl | rfl <;> decide)) i u
theorem NodeP.safe {W W1 : World} {k : Option UInt8} {val : ByteArray} {p : Int} {b : Nat} (h : NodeP W k val p b) (hs : Safe W W1) : NodeP W1 k val p b := by
  cases k with
  | some c => exact hs _ _ _ (.inr (.inr rfl)) h
  | none =>
    obtain ⟨b3, h1, h2⟩ := h
    exact ⟨b3, hs _ _ _ (.inr (.inr rfl)) h1, hs _ _ _ (.inr (.inr rfl)) h2⟩
theorem TabP.safe {W W1 : World} {M : List Int} {ps : List (Option UInt8 × ByteArray)} {len q : Nat} {tv : List Value} (h : TabP W M ps len q tv) (hs : Safe W W1) : TabP W1 M ps len q tv := fun m hm => by
  rcases h m hm with h | ⟨j, p, b, h1, h2, h3, h4, h5⟩
  · exact .inl h
  · exact .inr ⟨j, p, b, h1, h2, h3, h4, h5.safe hs⟩
def Buf (W : World) (base gw : Nat) (v : Value) (xs : List Int) : Prop := base ≤ gw ∧ W.heap[gw]? = some (.cells #[v] 123 (0, 0)) ∧ W.ownsRow base 5 1 v xs.length (nums .u8 xs)
theorem own_slice {W : World} {base : Nat} {v : Value} {xs : List Int} (h : W.ownsRow base 5 1 v xs.length (nums .u8 xs)) : ∃ A c, v = .slice A xs.length c :=
  Kd.R_slice (Kd.R_of_own (enc := Value.int .u8) (h1 := fun _ => rfl) (ok := fun _ => True) h (fun _ _ => trivial))
set_option maxRecDepth 100000 in
set_option maxHeartbeats 8000000 in
theorem write_calls (w0 w : World) (base gw : Nat) (v : Value) (xs : List Int) (s : ByteArray) (hb : Buf w base gw v xs) (hB : Below base w0 w) (hbs : base ≤ w.heap.size) (hl : xs.length + s.size ≤ 140737488355328) :
    Calls Try.prog 95 #[.pointer (some ⟨gw, 0, none⟩), .string s] w fun e w' => e = .returned (.tuple #[.int .i64 s.size, .nilIface]) ∧ ∃ v', Buf w' base gw v' (xs ++ bytesOf s) ∧ Below base w0 w' ∧ w.heap.size ≤ w'.heap.size ∧ Safe w w' := by
  have HBU := Aside0.mk hb
  have HB := Aside0.mk hB
  have HS := Aside0.mk hbs
  have HL := Aside0.mk hl
  have k0 : w.cell? ⟨gw, 0, none⟩ = some v := (blk_cell hb.2.1 0).trans rfl
  clear hb hB hbs hl
  go_enter Try.func95, Try.ntmps95
  go_wp2_with (first
    | ((with_reducible refine gate_dst (N := 11) rfl ?_); refine print_append_str (w0 := w0) base ?hg ?so ?xo 123 9 5 ?ho Try.underlying123 Try.underlying9 ?hinfo v xs s ?hs11 ?hx11 HBU.out.2.2 HB.out HS.out HL.out ?_; (case hg => rfl); (case ho => rfl); (case hinfo => kernel_rfl); (case hs11 => rfl); (case hx11 => rfl); intro v1 w1 ho1 hb1 hg1; obtain ⟨A1, c1, ev1⟩ := own_slice ho1; have EV1 := Aside0.mk ev1; have HO1 := Aside0.mk ho1; have HB1 := Aside0.mk hb1; have HTY := Aside0.mk (show ∀ k, v.ownBlock = some k → ∃ cells, w.heap[k]? = some (.cells cells 5 (0, 0)) from own_typed HBU.out.2.2); have HS1 := Aside0.mk (Safe.grown hg1 HTY.out); have HX1 := Aside0.mk (show w1.heap[gw]? = some (.cells #[v] 123 (0, 0)) from blk_grown HBU.out.2.1 hg1 (fun e => by obtain ⟨cells, hc⟩ := HTY.out gw e.symm; exact blk_ne HBU.out.2.1 hc (by decide) rfl)); have SZ1 := Aside0.mk hg1.size; clear ho1 hb1 hg1 k0; rw [ev1]; clear ev1; have k0 : w1.cell? ⟨gw, 0, none⟩ = some v := (blk_cell HX1.out 0).trans rfl; have f0 := blk_frozen HX1.out 0)
    | ((with_reducible refine gate_store (t := 123) (p := 12) rfl ?_); refine store_event (t := 123) (p := 12) (v := ?vo1) (w1 := w1.setCell ⟨gw, 0, none⟩ v1) ?hg ?ho ?hn ?hr ?_; (case ho => rfl); (case hg => rfl); (case hn => rfl); (case hr => rw [EV1.out]; first | (go_simp; done) | (go_simp; rfl)); intro w2 hw2; have HX2 := Aside0.mk (show w2.heap[gw]? = some (.cells #[v1] 123 (0, 0)) from by rw [hw2]; exact blk_put HX1.out 0 _ rfl); have HS2 := Aside0.mk (show Safe w w2 from by rw [hw2]; exact HS1.out.then_ (Safe.set HX1.out _ _)); have HB2 := Aside0.mk (show Below base w0 w2 from by rw [hw2]; exact HB1.out.setCell (p := ⟨gw, 0, none⟩) HBU.out.1 _); have HO2 := Aside0.mk (show w2.ownsRow base 5 1 v1 (xs ++ bytesOf s).length (nums .u8 (xs ++ bytesOf s)) from by rw [hw2]; exact own_move HO1.out (fun k hk => Below.heap_setCell w1 ⟨gw, 0, none⟩ v1 k (fun e => by obtain ⟨cells, hc⟩ := own_typed HO1.out k hk; exact blk_ne HX1.out hc (by decide) e.symm))); have SZ2 := Aside0.mk (show w.heap.size ≤ w2.heap.size from by rw [hw2]; simpa [World.setCell] using SZ1.out); clear hw2 k0 f0))
  go_ret2
  exact ⟨rfl, v1, ⟨HBU.out.1, HX2.out, HO2.out⟩, HB2.out, SZ2.out, HS2.out⟩
set_option maxRecDepth 100000 in
set_option maxHeartbeats 8000000 in
theorem getW (w : World) (gw : Nat) : Calls Try.prog 74 #[.iface 124 (.pointer (some ⟨gw, 0, none⟩))] w fun e w' => e = .returned (.iface 124 (.pointer (some ⟨gw, 0, none⟩))) ∧ w' = w := by
  have hta := run_typeAssert_hasB (P := Try.prog) (t := 124) Try.underlying128 (by kernel_rfl)
  go_enter Try.func74, Try.ntmps74
  go_wp2
  go_ret
  exact ⟨rfl, rfl⟩
end Go.Proofs.Ytkhgmjmfgbpenaa.Trie
