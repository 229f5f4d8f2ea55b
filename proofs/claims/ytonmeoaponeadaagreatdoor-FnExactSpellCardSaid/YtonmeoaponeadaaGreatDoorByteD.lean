/- (*strings.Replacer).buildOnce and NewReplacer, walked. -/
import Derived.Test.YtonmeoaponeadaaGreatDoorByteC
namespace Go.Proofs.YtonmeoaponeadaaGreatDoor.Repl
open Go Go.RowKit Go.Proofs.YtonmeoaponeadaaGreatDoorV.PrintWords Go.Proofs.YtonmeoaponeadaaGreatDoorV.PrintLast Go.Proofs.YtonmeoaponeadaaGreatDoorV.PrintMore Go.Proofs.YtonmeoaponeadaaGreatDoor.Once
set_option linter.unusedVariables false
set_option linter.unusedSimpArgs false

/-- What a stretch may have turned: the blocks of S, and what is new. -/
def Chg (S : Nat → Prop) (w w' : World) : Prop := Below 0 w w' ∧ Kept w w' S
section
variable {S S' : Nat → Prop} {w w1 w2 w0 : World} {g : Nat} {o : Obj} {bs : Nat}
theorem Chg.refl (S : Nat → Prop) (w : World) : Chg S w w := ⟨Below.refl _ _, Kept.refl _ _⟩
theorem Chg.then_ (h : Chg S w w1) (k : Chg S' w1 w2) (hs : ∀ k, S' k → S k ∨ w.heap.size ≤ k) : Chg S w w2 := ⟨h.1.trans k.1, h.2.then_ k.2 hs⟩
theorem Chg.set (h : Chg S w w1) (hg : S g ∨ w.heap.size ≤ g) (i : Nat) (u : Value) : Chg S w (w1.setCell ⟨g, i, none⟩ u) := ⟨h.1.setCell (Nat.zero_le _) u, h.2.setCell (p := ⟨g, i, none⟩) hg u⟩
theorem Chg.below (h : Chg S w w1) (hb : Below w1.heap.size w1 w2) : Chg S w w2 := ⟨h.1.trans (hb.mono (Nat.zero_le _)), h.2.below hb⟩
theorem Chg.blk (h : Chg S w w1) (hb : w.heap[g]? = some o) (hne : ¬ S g) : w1.heap[g]? = some o := blk_kept hb h.2 hne
theorem Chg.size (h : Chg S w w1) : w.heap.size ≤ w1.heap.size := h.2.1
theorem Chg.base (hb : Below bs w0 w) (h : Chg S w w1) (hle : bs ≤ w.heap.size) (hs : ∀ k, S k → bs ≤ k) : Below bs w0 w1 :=
  ⟨h.1.os.trans hb.os, h.1.tape.trans hb.tape, h.1.output.trans hb.output, Nat.le_trans hb.size h.1.size, fun i hi => (h.2.2 i (by omega) (fun e => by have := hs i e; omega)).trans (hb.block i hi)⟩
theorem Chg.drew (h : Chg S w w1) : Chg S w w1.drew := ⟨h.1.drew, h.2⟩
end
theorem Byt.far {W : World} {base gr : Nat} (h : Byt W base gr) {b : Nat} {cs : Array Value} (hb : W.heap[b]? = some (.cells cs 74 (0, 0))) (i : Nat) (u : Value) : Byt (W.setCell ⟨b, i, none⟩ u) base gr := by
  obtain ⟨ps, vt, h1, h2, h3⟩ := h
  exact ⟨ps, vt, h1.far hb i u, h2, own_set h3 hb (by decide) i u⟩
theorem Byt.below {W W1 : World} {base gr : Nat} (h : Byt W base gr) (hb : Below W.heap.size W W1) : Byt W1 base gr := by
  obtain ⟨ps, vt, h1, h2, h3⟩ := h
  exact ⟨ps, vt, h1.below hb, h2, own_below h3 hb⟩
/-- What buildOnce has made. -/
def Made (w : World) (b : Nat) (s : Int) (w2 : World) : Prop :=
  ∃ gr, w2.heap[b]? = some (.cells (onceC 0 1 s (.iface 93 (.pointer (some ⟨gr, 0, none⟩))) nilS) 74 (0, 0)) ∧ Chg (fun k => k = b) w w2 ∧ Byt w2 w.heap.size gr
set_option maxRecDepth 100000 in
set_option maxHeartbeats 8000000 in
theorem buildOnce_calls (w : World) (b : Nat) (A : Option Addr) (c : Nat) (s : Int) (v3 : Value) (hb : w.heap[b]? = some (.cells (onceC 0 1 s v3 (.slice A 6 c)) 74 (0, 0)))
    (hr : Kd.string.C w A 6 lS) (hc : 6 ≤ c) :
    Calls Tryz.prog 43 #[.pointer (some ⟨b, 0, none⟩)] w fun e w' => e = .returned (.tuple #[]) ∧ Made w b s w' := by
  have HB := Aside0.mk hb
  have HR := Aside0.mk hr
  have HC := Aside0.mk hc
  clear hr hc hb
  go_enter Tryz.func43, Tryz.ntmps43
  go_wp2_with (first
    | (go_at_call 48; refine (build_calls w b A c s v3 HB.out HR.out HC.out).mono ?_; rintro e w2 ⟨gr, rfl, hb2, hg2⟩; have HB2 := Aside0.mk (blk_below HB.out hb2); have HG2 := Aside0.mk hg2; have K2 := Aside0.mk ((Chg.refl (fun k => k = b) w).below hb2); clear hb2 hg2; have h3 : w2.cell? ⟨b, 3, none⟩ = some v3 := (blk_cell HB2.out 3).trans rfl; have f3 := blk_frozen HB2.out 3)
    | ((with_reducible refine gate_store (t := 72) (p := 6) rfl ?_); refine store_event (t := 72) (p := 6) (v := ?vo1) (w1 := w2.setCell ⟨b, 3, none⟩ (.iface 93 (.pointer (some ⟨gr, 0, none⟩)))) ?hg ?ho ?hn ?hr ?_; (case ho => rfl); (case hg => rfl); (case hn => rfl); (case hr => first | (go_simp; done) | (go_simp; rfl)); intro w3 hw3; have HB3 := Aside0.mk (show w3.heap[b]? = some (.cells (onceC 0 1 s (.iface 93 (.pointer (some ⟨gr, 0, none⟩))) (.slice A 6 c)) 74 (0, 0)) from by rw [hw3]; exact blk_put HB2.out 3 _ rfl); have HG3 := Aside0.mk (show Byt w3 w.heap.size gr from by rw [hw3]; exact HG2.out.far HB2.out _ _); have K3 := Aside0.mk (show Chg (fun k => k = b) w w3 from by rw [hw3]; exact K2.out.set (g := b) (.inl rfl) _ _); clear hw3 h3 f3 HB2 HG2 K2; have h4 : w3.cell? ⟨b, 4, none⟩ = some (.slice A 6 c) := (blk_cell HB3.out 4).trans rfl; have f4 := blk_frozen HB3.out 4)
    | ((with_reducible refine gate_store (t := 58) (p := 9) rfl ?_); refine store_event (t := 58) (p := 9) (v := ?vo2) (w1 := w3.setCell ⟨b, 4, none⟩ nilS) ?hg ?ho ?hn ?hr ?_; (case ho => rfl); (case hg => rfl); (case hn => rfl); (case hr => first | (go_simp; done) | (go_simp; rfl)); intro w4 hw4; have HB4 := Aside0.mk (show w4.heap[b]? = some (.cells (onceC 0 1 s (.iface 93 (.pointer (some ⟨gr, 0, none⟩))) nilS) 74 (0, 0)) from by rw [hw4]; exact blk_put HB3.out 4 _ rfl); have HG4 := Aside0.mk (show Byt w4 w.heap.size gr from by rw [hw4]; exact HG3.out.far HB3.out _ _); have K4 := Aside0.mk (show Chg (fun k => k = b) w w4 from by rw [hw4]; exact K3.out.set (g := b) (.inl rfl) _ _); clear hw4 h4 f4 HB3 HG3 K3))
  go_end0
  exact ⟨rfl, gr, HB4.out, K4.out, HG4.out⟩
set_option maxRecDepth 100000 in
set_option maxHeartbeats 8000000 in
theorem newReplacer_calls (w : World) (A : Option Addr) (c : Nat) (L : List ByteArray) (np : Nat) (hr : Kd.string.C w A L.length L) (hc : L.length ≤ c) (h2 : L.length = 2 * np) (hs : L.length ≤ 1000) :
    Calls Tryz.prog 30 #[.slice A L.length c] w fun e w' => ∃ b A' c', e = .returned (.pointer (some ⟨b, 0, none⟩)) ∧ w.heap.size ≤ b ∧ Below w.heap.size w w' ∧ w'.heap[b]? = some (.cells (onceC 0 0 0 .nilIface (.slice A' L.length c')) 74 (0, 0)) ∧ Kd.string.C w' A' L.length L ∧ L.length ≤ c' := by
  have HR := Aside0.mk hr
  have HC := Aside0.mk hc
  have H2 := Aside0.mk h2
  have HS := Aside0.mk hs
  have hm : (((L.length : Int) % 2) == 1) = false := beq_eq_false_iff_ne.mpr (by omega)
  clear hr hc h2 hs
  go_enter Tryz.func30, Tryz.ntmps30
  go_wp2_with (first
    | ((with_reducible refine gate_dst (N := 9) rfl ?_); refine Kd.R_append_row (w0 := w) (h1 := fun _ => rfl) Value.string ByteArray.empty w.heap.size ?hg ?so ?xo 58 9 (.string ⟨#[]⟩) 16 ?ho Tryz.underlying58 ?hinfo ?hz ?hb0 (.slice none 0 0) [] L A L.length c (fun _ => True) ?hs9 ?hx9 (fun _ _ => trivial) ?HO ?HRR (Below.refl _ _) (Nat.le_refl _) ?hl ?_; (case hg => rfl); (case ho => rfl); (case hinfo => kernel_rfl); (case hz => rfl); (case hb0 => omega); (case hs9 => rfl); (case hx9 => rfl); (case HO => exact Kd.R_nil Kd.string _ _ _ _); (case HRR => exact HR.out); (case hl => have := HS.out; simp; omega); intro v1 w1 ho1 hb1 hg1 hat1; obtain ⟨A1, c1, ev1⟩ := Kd.R_slice ho1; subst ev1; have HO1 := Aside0.mk ho1; have HB1 := Aside0.mk hb1; clear ho1 hb1 hg1 hat1)
    | ((with_reducible refine gate_dst (N := 11) rfl ?_); refine box_event ?hg (N := 11) ?hd (cs := onceC 0 0 0 .nilIface (.slice A1 ([] ++ L).length c1)) (t := 74) ?hr ?_; (case hd => rfl); (case hg => rfl); (case hr => first | (go_simp; done) | (go_simp; rfl)); intro b hb w2 hbox hbel; have HX2 := Aside0.mk hbox; have HB2 := Aside0.mk (below_step HB1.out hbel); have HO2 := Aside0.mk (Kd.C_below (Kd.R_reads' HO1.out).2.2 hbel); have GB := Aside0.mk (show w.heap.size ≤ b from by rw [hb]; exact HB1.out.size); clear hb hbox hbel))
  go_ret
  exact ⟨b, A1, c1, rfl, GB.out, HB2.out, HX2.out, HO2.out, (Kd.R_reads' HO1.out).2.1⟩
end Go.Proofs.YtonmeoaponeadaaGreatDoor.Repl
