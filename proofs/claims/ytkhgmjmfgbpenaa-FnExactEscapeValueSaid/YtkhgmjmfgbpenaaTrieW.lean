/- strings.genericReplacer, made: the nodes of its tree, walked. -/
import Derived.Test.YtkhgmjmfgbpenaaOnceW
import Derived.Laws.NewBlocks
import Derived.WalkSpells
import Derived.StillTailTactics
namespace Go.Proofs.Ytkhgmjmfgbpenaa.Trie
open Go Go.RowKit Go.Proofs.YtkhgmjmfgbpenaaV.PrintWords Go.Proofs.YtkhgmjmfgbpenaaV.PrintLast Go.Proofs.YtkhgmjmfgbpenaaV.PrintMore
set_option linter.unusedVariables false
set_option linter.unusedSimpArgs false

theorem neq_nil (w : World) (a : Option Addr) (l c : Nat) : (binOp .neq 72 (.slice a l c) (.slice none 0 0)).run Try.prog w = .ok (.bool (!a.isNone)) w := run_neq_slice_nil_any w 72 71 a l c 0 0 Try.underlying72
/-- What a stretch may have turned: the blocks of S, and what is new. -/
def Chg (S : Nat → Prop) (w w' : World) : Prop := Below 0 w w' ∧ Kept w w' S
section
variable {S S' : Nat → Prop} {w w1 w2 w0 : World} {g : Nat} {o : Obj} {bs : Nat}
theorem Chg.refl (S : Nat → Prop) (w : World) : Chg S w w := ⟨Below.refl _ _, Kept.refl _ _⟩
theorem Chg.then_ (h : Chg S w w1) (k : Chg S' w1 w2) (hs : ∀ k, S' k → S k ∨ w.heap.size ≤ k) : Chg S w w2 := ⟨h.1.trans k.1, h.2.then_ k.2 hs⟩
theorem Chg.set (h : Chg S w w1) (hg : S g ∨ w.heap.size ≤ g) (i : Nat) (u : Value) : Chg S w (w1.setCell ⟨g, i, none⟩ u) := ⟨h.1.setCell (Nat.zero_le _) u, h.2.setCell (p := ⟨g, i, none⟩) hg u⟩
theorem Chg.below (h : Chg S w w1) (hb : Below w1.heap.size w1 w2) : Chg S w w2 := ⟨h.1.trans (hb.mono (Nat.zero_le _)), h.2.below hb⟩
theorem Chg.blk (h : Chg S w w1) (hb : w.heap[g]? = some o) (hne : ¬ S g) : w1.heap[g]? = some o := blk_kept hb h.2 hne
theorem Chg.size (h : Chg S w w1) : w.heap.size ≤ w1.heap.size := h.2.1
theorem Chg.base (hb : Below bs w0 w) (h : Chg S w w1) (hle : bs ≤ w.heap.size) (hs : ∀ k, S k → bs ≤ k) : Below bs w0 w1 :=
  ⟨h.1.os.trans hb.os, h.1.tape.trans hb.tape, h.1.output.trans hb.output, Nat.le_trans hb.size h.1.size, fun i hi => (h.2.2 i (by omega) (fun e => by have := hs i e; omega)).trans (hb.block i hi)⟩
theorem Chg.drew (h : Chg S w w1) : Chg S w w1.drew := ⟨h.1.drew, h.2⟩
end
abbrev nilS : Value := .slice none 0 0
abbrev eS : ByteArray := ⟨#[]⟩
abbrev nodeC (v : ByteArray) (p : Int) (x : ByteArray) (nx : Option Addr) (sl : Value) : Array Value := #[.string v, .int .i64 p, .string x, .pointer nx, sl]
set_option maxRecDepth 100000 in
set_option maxHeartbeats 1600000 in
theorem add_leaf (b : Nat) (val : ByteArray) (p : Int) (gr : Option Addr) (w : World) (hb : w.heap[b]? = some (.cells (nodeC eS 0 eS none nilS) 74 (0, 0))) :
    Calls Try.prog 28 #[.pointer (some ⟨b, 0, none⟩), .string eS, .string val, .int .i64 p, .pointer gr] w fun e w' => e = .returned (.tuple #[]) ∧
      w' = (w.setCell ⟨b, 0, none⟩ (.string val)).setCell ⟨b, 1, none⟩ (.int .i64 p) := by
  have h0 : w.cell? ⟨b, 0, none⟩ = some (.string eS) := (blk_cell hb 0).trans rfl
  have h1 : w.cell? ⟨b, 1, none⟩ = some (.int .i64 0) := (blk_cell hb 1).trans rfl
  have f0 := blk_frozen hb 0
  have f1 := blk_frozen hb 1
  go_enter Try.func28, Try.ntmps28
  go_wp2
  first | go_end0 | (simp only [Exit.inBlock, Exit.then]; refine bodyPost_ret (results_none rfl _ _ _) rfl ?_) | refine bodyPost_ret (results_none rfl _ _ _) rfl ?_
  exact ⟨rfl, rfl⟩
theorem blk_far' {w : World} {g : Nat} {t : TypeId} {cs : Array Value} (h : w.heap[g]? = some (.cells cs t (0, 0))) {g2 : Nat} (hp : g ≠ g2) (i : Nat) (u : Value) : (w.setCell ⟨g2, i, none⟩ u).heap[g]? = some (.cells cs t (0, 0)) := blk_far h hp u
set_option maxRecDepth 100000 in
set_option maxHeartbeats 1600000 in
/-- A node that is new takes a key of one byte more: a second node behind it holds the value. -/
theorem add_pre (b : Nat) (val : ByteArray) (p : Int) (gr : Option Addr) (w : World) (hb : w.heap[b]? = some (.cells (nodeC eS 0 eS none nilS) 74 (0, 0))) :
    Calls Try.prog 28 #[.pointer (some ⟨b, 0, none⟩), .string ⟨#[160]⟩, .string val, .int .i64 p, .pointer gr] w fun e w' => e = .returned (.tuple #[]) ∧ ∃ b2 : Nat, w.heap.size ≤ b2 ∧
      w'.heap[b]? = some (.cells (nodeC eS 0 ⟨#[160]⟩ (some ⟨b2, 0, none⟩) nilS) 74 (0, 0)) ∧ w'.heap[b2]? = some (.cells (nodeC val p eS none nilS) 74 (0, 0)) ∧ Chg (fun k => k = b) w w' := by
  have h0 : w.cell? ⟨b, 0, none⟩ = some (.string eS) := (blk_cell hb 0).trans rfl
  have h1 : w.cell? ⟨b, 1, none⟩ = some (.int .i64 0) := (blk_cell hb 1).trans rfl
  have h2 : w.cell? ⟨b, 2, none⟩ = some (.string eS) := (blk_cell hb 2).trans rfl
  have h3 : w.cell? ⟨b, 3, none⟩ = some (.pointer none) := (blk_cell hb 3).trans rfl
  have h4 : w.cell? ⟨b, 4, none⟩ = some nilS := (blk_cell hb 4).trans rfl
  have f2 := blk_frozen hb 2
  have f3 := blk_frozen hb 3
  have HB := Aside0.mk hb
  clear hb
  go_enter Try.func28, Try.ntmps28
  have hnil := neq_nil
  go_wp2_with (first
    | ((with_reducible refine gate_store (t := 9) (p := 228) rfl ?_); refine store_event (t := 9) (p := 228) (v := ?vo1) (w1 := w.setCell ⟨b, 2, none⟩ (.string ⟨#[160]⟩)) ?hg ?ho ?hn ?hr ?_; (case ho => rfl); (case hg => rfl); (case hn => rfl); (case hr => first | (go_simp; done) | (go_simp; rfl)); intro w1 hw1; have HW1 := Aside0.mk hw1; have HB1 := Aside0.mk (show w1.heap[b]? = some (.cells (nodeC eS 0 ⟨#[160]⟩ none nilS) 74 (0, 0)) from by rw [hw1]; exact blk_put HB.out 2 _ rfl); clear hw1)
    | ((with_reducible refine gate_dst (N := 230) rfl ?_); clear h0 h1 h2 h3 h4 f2 f3; refine box_event ?hg (N := 230) ?hd (cs := nodeC eS 0 eS none nilS) (t := 74) ?hr ?_; (case hd => rfl); (case hg => rfl); (case hr => first | (go_simp; done) | (go_simp; rfl)); intro b2 hb2 w2 hbox hbel; have h3 : w2.cell? ⟨b, 3, none⟩ = some (.pointer none) := (blk_cell (blk_below HB1.out hbel) 3).trans rfl; have f3 := blk_frozen (blk_below HB1.out hbel) 3; have HX2 := Aside0.mk hbox; have HL2 := Aside0.mk hbel; have HG2 := Aside0.mk hb2; clear hbox hbel hb2)
    | ((with_reducible refine gate_store (t := 71) (p := 232) rfl ?_); refine store_event (t := 71) (p := 232) (v := ?vo2) (w1 := w2.setCell ⟨b, 3, none⟩ (.pointer (some ⟨b2, 0, none⟩))) ?hg ?ho ?hn ?hr ?_; (case ho => rfl); (case hg => rfl); (case hn => rfl); (case hr => first | (go_simp; done) | (go_simp; rfl)); intro w3 hw3; clear h3 f3; have HW3 := Aside0.mk hw3; have HB3 := Aside0.mk (show w3.heap[b]? = some (.cells (nodeC eS 0 ⟨#[160]⟩ (some ⟨b2, 0, none⟩) nilS) 74 (0, 0)) from by rw [hw3]; exact blk_put (blk_below HB1.out HL2.out) 3 _ rfl); have NE := Aside0.mk (show b2 ≠ b from by rw [HG2.out]; exact fun e => by have := blk_lt HB1.out; omega); have HX3 := Aside0.mk (show w3.heap[b2]? = some (.cells (nodeC eS 0 eS none nilS) 74 (0, 0)) from by rw [hw3]; exact blk_far' HX2.out NE.out _ _); have h3 : w3.cell? ⟨b, 3, none⟩ = some (.pointer (some ⟨b2, 0, none⟩)) := (blk_cell HB3.out 3).trans rfl; clear hw3)
    | (go_at_call 28; refine (add_leaf b2 val p gr _ HX3.out).mono ?_; rintro e w4 ⟨rfl, hw4⟩))
  go_end0
  refine ⟨rfl, b2, by rw [HG2.out, HW1.out]; simp [World.setCell], ?_, ?_, ?_⟩
  · rw [← hw4, hw4]
    exact blk_far' (blk_far' HB3.out NE.out.symm _ _) NE.out.symm _ _
  · exact blk_put (blk_put HX3.out 0 _ rfl) 1 _ rfl
  · have n2 : w.heap.size ≤ b2 := by rw [HG2.out, HW1.out]; simp [World.setCell]
    have c1 : Chg (fun k => k = b) w w1 := by rw [HW1.out]; exact (Chg.refl (fun k => k = b) w).set (g := b) (.inl rfl) _ _
    have c3 : Chg (fun k => k = b) w w3 := by rw [HW3.out]; exact (c1.below HL2.out).set (g := b) (.inl rfl) _ _
    exact (c3.set (.inr n2) _ _).set (.inr n2) _ _
/-- The cells of a replacer: the root (with its table), the table's length, the places of the bytes. -/
def rC (gt ts : Nat) (M : List Int) : Array Value := (([.string eS, .int .i64 0, .string eS, .pointer none, .slice (some ⟨gt, 0, none⟩) ts ts, .int .i64 ts] : List Value) ++ M.map (Value.int .u8)).toArray
theorem rC_map {gt ts : Nat} {M : List Int} {i : Nat} {m : Int} (h : M[i]? = some m) : (rC gt ts M)[6 + i]? = some (.int .u8 m) := by
  unfold rC
  rw [List.getElem?_toArray, List.getElem?_append_right (by simp), show 6 + i - ([.string eS, .int .i64 0, .string eS, .pointer none, .slice (some ⟨gt, 0, none⟩) ts ts, .int .i64 ts] : List Value).length = i by simp, List.getElem?_map, h]
  rfl
set_option maxRecDepth 100000 in
set_option maxHeartbeats 1600000 in
theorem add_root1 (c : UInt8) (val : ByteArray) (p : Int) (gr gt ts m : Nat) (M : List Int) (tv : List Value) (w : World) (hr : w.heap[gr]? = some (.cells (rC gt ts M) 76 (0, 0))) (ht : w.heap[gt]? = some (.cells tv.toArray 71 (0, 0)))
    (hl : tv.length = ts) (hm : M[c.toNat]? = some (m : Int)) (hv : tv[m]? = some (.pointer none)) :
    Calls Try.prog 28 #[.pointer (some ⟨gr, 0, none⟩), .string ⟨#[c]⟩, .string val, .int .i64 p, .pointer (some ⟨gr, 0, none⟩)] w fun e w' => e = .returned (.tuple #[]) ∧ ∃ b2 : Nat, w.heap.size ≤ b2 ∧
      w'.heap[gt]? = some (.cells (tv.set m (.pointer (some ⟨b2, 0, none⟩))).toArray 71 (0, 0)) ∧ w'.heap[b2]? = some (.cells (nodeC val p eS none nilS) 74 (0, 0)) ∧ Chg (fun k => k = gt) w w' := by
  have h1 : w.cell? ⟨gr, 1, none⟩ = some (.int .i64 0) := (blk_cell hr 1).trans rfl
  have h2 : w.cell? ⟨gr, 2, none⟩ = some (.string eS) := (blk_cell hr 2).trans rfl
  have h4 : w.cell? ⟨gr, 4, none⟩ = some (.slice (some ⟨gt, 0, none⟩) ts ts) := (blk_cell hr 4).trans rfl
  have hM : w.cell? ⟨gr, 6 + c.toNat, none⟩ = some (.int .u8 m) := (blk_cell hr _).trans (rC_map hm)
  have hT : w.cell? ⟨gt, m, none⟩ = some (.pointer none) := (blk_cell ht _).trans (by rw [List.getElem?_toArray]; exact hv)
  have hml : m < ts := by rw [← hl]; exact (List.getElem?_eq_some_iff.1 hv).1
  have fT := blk_frozen ht m
  have HR := Aside0.mk hr
  have HT := Aside0.mk ht
  have HV := Aside0.mk hv
  have p1 : (0 ≤ (m : Int)) = True := eq_true (by omega)
  have p2 : ((m : Int) < (ts : Int)) = True := eq_true (by omega)
  have hcl := c.toNat_lt
  have ec : ∀ h, (({ data := #[c] } : ByteArray)[0]'h) = c := fun _ => rfl
  have c0 : (0 ≤ (c.toNat : Int)) = True := eq_true (by omega)
  have c1 : ((c.toNat : Int) < 256) = True := eq_true (by omega)
  have c2 : (c.toNat < 256) = True := eq_true (by omega)
  clear hr ht hm hv hl
  go_enter Try.func28, Try.ntmps28
  have hnil := neq_nil
  go_wp2_with (fail)
  go_still_tail 7, (by kernel_rfl)
  change wpList _ _ _ _ _ w.drew
  have HR1 := Aside0.mk (blk_drew HR.out)
  have HT1 := Aside0.mk (blk_drew HT.out)
  have K1 := Aside0.mk ((Chg.refl (fun k => k = gt) w).drew)
  have SZ := Aside0.mk (show w.heap.size ≤ w.drew.heap.size from Nat.le_refl _)
  replace h4 : w.drew.cell? ⟨gr, 4, none⟩ = some (.slice (some ⟨gt, 0, none⟩) ts ts) := h4
  replace hT : w.drew.cell? ⟨gt, m, none⟩ = some (.pointer none) := hT
  replace fT : w.drew.frozen? ⟨gt, m, none⟩ = false := fT
  clear h1 h2 hM HR HT
  generalize w.drew = w1 at HR1 HT1 K1 SZ h4 hT fT ⊢
  go_wp2_with (first
    | ((with_reducible refine gate_dst (N := 210) rfl ?_); refine box_event ?hg (N := 210) ?hd (cs := nodeC eS 0 eS none nilS) (t := 74) ?hr ?_; (case hd => rfl); (case hg => rfl); (case hr => first | (go_simp; done) | (go_simp; rfl)); intro b2 hb2 w2 hbox hbel; clear h4 hT fT; have HR2 := Aside0.mk (blk_below HR1.out hbel); have HT2 := Aside0.mk (blk_below HT1.out hbel); have h4 : w2.cell? ⟨gr, 4, none⟩ = some (.slice (some ⟨gt, 0, none⟩) ts ts) := (blk_cell HR2.out 4).trans rfl; have hT : w2.cell? ⟨gt, m, none⟩ = some (.pointer none) := (blk_cell HT2.out _).trans (by rw [List.getElem?_toArray]; exact HV.out); have fT := blk_frozen HT2.out m; have HX2 := Aside0.mk hbox; have K2 := Aside0.mk (K1.out.below hbel); have HG2 := Aside0.mk hb2; clear hbox hbel hb2)
    | ((with_reducible refine gate_store (t := 71) (p := 211) rfl ?_); refine store_event (t := 71) (p := 211) (v := ?vo2) (w1 := w2.setCell ⟨gt, m, none⟩ (.pointer (some ⟨b2, 0, none⟩))) ?hg ?ho ?hn ?hr ?_; (case ho => rfl); (case hg => rfl); (case hn => rfl); (case hr => first | (go_simp; done) | (go_simp; rfl)); intro w3 hw3; clear h4 hT fT; have HR3 := Aside0.mk (show w3.heap[gr]? = some (.cells (rC gt ts M) 76 (0, 0)) from by rw [hw3]; exact blk_far' HR2.out (blk_ne HR2.out HT2.out (by decide)) _ _); have HT3 := Aside0.mk (show w3.heap[gt]? = some (.cells (tv.set m (.pointer (some ⟨b2, 0, none⟩))).toArray 71 (0, 0)) from by rw [hw3]; exact blk_put HT2.out m _ (by rw [List.setIfInBounds_toArray])); have HX3 := Aside0.mk (show w3.heap[b2]? = some (.cells (nodeC eS 0 eS none nilS) 74 (0, 0)) from by rw [hw3]; exact blk_far' HX2.out (blk_ne HX2.out HT2.out (by decide)) _ _); have K3 := Aside0.mk (show Chg (fun k => k = gt) w w3 from by rw [hw3]; exact K2.out.set (g := gt) (.inl rfl) _ _); have NT := Aside0.mk (show gt ≠ b2 from (blk_ne HX2.out HT2.out (by decide)).symm); have h4 : w3.cell? ⟨gr, 4, none⟩ = some (.slice (some ⟨gt, 0, none⟩) ts ts) := (blk_cell HR3.out 4).trans rfl; have hT : w3.cell? ⟨gt, m, none⟩ = some (.pointer (some ⟨b2, 0, none⟩)) := (blk_cell HT3.out _).trans (by rw [List.getElem?_toArray, List.getElem?_set_self (by have := (List.getElem?_eq_some_iff.1 HV.out).1; exact this)]); clear hw3))
  go_still_tail 12, (by kernel_rfl)
  change wpList _ _ _ _ _ w3.drew
  have HX4 := Aside0.mk (blk_drew HX3.out)
  have HT4 := Aside0.mk (blk_drew HT3.out)
  have K4 := Aside0.mk K3.out.drew
  have GB := Aside0.mk (show w.heap.size ≤ b2 from by rw [HG2.out]; exact SZ.out)
  clear h4 hT HR1 HR2 HR3 HX2 HX3 HT1 HT2 HT3 K1 K2 K3 HG2 SZ
  generalize w3.drew = w4 at HX4 HT4 K4 ⊢
  go_wp2_with (first
    | (go_at_call 28; refine (add_leaf b2 val p (some ⟨gr, 0, none⟩) _ HX4.out).mono ?_; rintro e w5 ⟨rfl, hw5⟩))
  go_end0
  refine ⟨rfl, b2, GB.out, ?_, ?_, ?_⟩
  · exact blk_far' (blk_far' HT4.out NT.out _ _) NT.out _ _
  · exact blk_put (blk_put HX4.out 0 _ rfl) 1 _ rfl
  · exact (K4.out.set (.inr GB.out) _ _).set (.inr GB.out) _ _
set_option maxRecDepth 100000 in
set_option maxHeartbeats 1600000 in
theorem add_root2 (val : ByteArray) (p : Int) (gr gt ts m : Nat) (M : List Int) (tv : List Value) (w : World) (hr : w.heap[gr]? = some (.cells (rC gt ts M) 76 (0, 0))) (ht : w.heap[gt]? = some (.cells tv.toArray 71 (0, 0)))
    (hl : tv.length = ts) (hm : M[194]? = some (m : Int)) (hv : tv[m]? = some (.pointer none)) :
    Calls Try.prog 28 #[.pointer (some ⟨gr, 0, none⟩), .string ⟨#[194, 160]⟩, .string val, .int .i64 p, .pointer (some ⟨gr, 0, none⟩)] w fun e w' => e = .returned (.tuple #[]) ∧ ∃ b2 b3 : Nat, w.heap.size ≤ b2 ∧ w.heap.size ≤ b3 ∧
      w'.heap[gt]? = some (.cells (tv.set m (.pointer (some ⟨b2, 0, none⟩))).toArray 71 (0, 0)) ∧ w'.heap[b2]? = some (.cells (nodeC eS 0 ⟨#[160]⟩ (some ⟨b3, 0, none⟩) nilS) 74 (0, 0)) ∧ w'.heap[b3]? = some (.cells (nodeC val p eS none nilS) 74 (0, 0)) ∧ Chg (fun k => k = gt) w w' := by
  have h1 : w.cell? ⟨gr, 1, none⟩ = some (.int .i64 0) := (blk_cell hr 1).trans rfl
  have h2 : w.cell? ⟨gr, 2, none⟩ = some (.string eS) := (blk_cell hr 2).trans rfl
  have h4 : w.cell? ⟨gr, 4, none⟩ = some (.slice (some ⟨gt, 0, none⟩) ts ts) := (blk_cell hr 4).trans rfl
  have hM : w.cell? ⟨gr, 200, none⟩ = some (.int .u8 m) := (blk_cell hr (6 + 194)).trans (rC_map hm)
  have hT : w.cell? ⟨gt, m, none⟩ = some (.pointer none) := (blk_cell ht _).trans (by rw [List.getElem?_toArray]; exact hv)
  have hml : m < ts := by rw [← hl]; exact (List.getElem?_eq_some_iff.1 hv).1
  have fT := blk_frozen ht m
  have HR := Aside0.mk hr
  have HT := Aside0.mk ht
  have HV := Aside0.mk hv
  have p1 : (0 ≤ (m : Int)) = True := eq_true (by omega)
  have p2 : ((m : Int) < (ts : Int)) = True := eq_true (by omega)
  clear hr ht hm hv hl
  go_enter Try.func28, Try.ntmps28
  have hnil := neq_nil
  have ec : ∀ h, (({ data := #[194, 160] } : ByteArray)[0]'h) = 194 := fun _ => rfl
  go_wp2_with (fail)
  go_still_tail 7, (by kernel_rfl)
  change wpList _ _ _ _ _ w.drew
  have HR1 := Aside0.mk (blk_drew HR.out)
  have HT1 := Aside0.mk (blk_drew HT.out)
  have K1 := Aside0.mk ((Chg.refl (fun k => k = gt) w).drew)
  have SZ := Aside0.mk (show w.heap.size ≤ w.drew.heap.size from Nat.le_refl _)
  replace h4 : w.drew.cell? ⟨gr, 4, none⟩ = some (.slice (some ⟨gt, 0, none⟩) ts ts) := h4
  replace hT : w.drew.cell? ⟨gt, m, none⟩ = some (.pointer none) := hT
  replace fT : w.drew.frozen? ⟨gt, m, none⟩ = false := fT
  clear h1 h2 hM HR HT
  generalize w.drew = w1 at HR1 HT1 K1 SZ h4 hT fT ⊢
  go_wp2_with (first
    | ((with_reducible refine gate_dst (N := 210) rfl ?_); refine box_event ?hg (N := 210) ?hd (cs := nodeC eS 0 eS none nilS) (t := 74) ?hr ?_; (case hd => rfl); (case hg => rfl); (case hr => first | (go_simp; done) | (go_simp; rfl)); intro b2 hb2 w2 hbox hbel; clear h4 hT fT; have HR2 := Aside0.mk (blk_below HR1.out hbel); have HT2 := Aside0.mk (blk_below HT1.out hbel); have h4 : w2.cell? ⟨gr, 4, none⟩ = some (.slice (some ⟨gt, 0, none⟩) ts ts) := (blk_cell HR2.out 4).trans rfl; have hT : w2.cell? ⟨gt, m, none⟩ = some (.pointer none) := (blk_cell HT2.out _).trans (by rw [List.getElem?_toArray]; exact HV.out); have fT := blk_frozen HT2.out m; have HX2 := Aside0.mk hbox; have K2 := Aside0.mk (K1.out.below hbel); have HG2 := Aside0.mk hb2; clear hbox hbel hb2)
    | ((with_reducible refine gate_store (t := 71) (p := 211) rfl ?_); refine store_event (t := 71) (p := 211) (v := ?vo2) (w1 := w2.setCell ⟨gt, m, none⟩ (.pointer (some ⟨b2, 0, none⟩))) ?hg ?ho ?hn ?hr ?_; (case ho => rfl); (case hg => rfl); (case hn => rfl); (case hr => first | (go_simp; done) | (go_simp; rfl)); intro w3 hw3; clear h4 hT fT; have HR3 := Aside0.mk (show w3.heap[gr]? = some (.cells (rC gt ts M) 76 (0, 0)) from by rw [hw3]; exact blk_far' HR2.out (blk_ne HR2.out HT2.out (by decide)) _ _); have HT3 := Aside0.mk (show w3.heap[gt]? = some (.cells (tv.set m (.pointer (some ⟨b2, 0, none⟩))).toArray 71 (0, 0)) from by rw [hw3]; exact blk_put HT2.out m _ (by rw [List.setIfInBounds_toArray])); have HX3 := Aside0.mk (show w3.heap[b2]? = some (.cells (nodeC eS 0 eS none nilS) 74 (0, 0)) from by rw [hw3]; exact blk_far' HX2.out (blk_ne HX2.out HT2.out (by decide)) _ _); have K3 := Aside0.mk (show Chg (fun k => k = gt) w w3 from by rw [hw3]; exact K2.out.set (g := gt) (.inl rfl) _ _); have NT := Aside0.mk (show gt ≠ b2 from (blk_ne HX2.out HT2.out (by decide)).symm); have h4 : w3.cell? ⟨gr, 4, none⟩ = some (.slice (some ⟨gt, 0, none⟩) ts ts) := (blk_cell HR3.out 4).trans rfl; have hT : w3.cell? ⟨gt, m, none⟩ = some (.pointer (some ⟨b2, 0, none⟩)) := (blk_cell HT3.out _).trans (by rw [List.getElem?_toArray, List.getElem?_set_self (by have := (List.getElem?_eq_some_iff.1 HV.out).1; exact this)]); clear hw3))
  go_still_tail 12, (by kernel_rfl)
  change wpList _ _ _ _ _ w3.drew
  have HX4 := Aside0.mk (blk_drew HX3.out)
  have HT4 := Aside0.mk (blk_drew HT3.out)
  have K4 := Aside0.mk K3.out.drew
  have GB := Aside0.mk (show w.heap.size ≤ b2 from by rw [HG2.out]; exact SZ.out)
  clear h4 hT HR1 HR2 HR3 HX2 HX3 HT1 HT2 HT3 K1 K2 K3 HG2 SZ
  generalize w3.drew = w4 at HX4 HT4 K4 ⊢
  go_wp2_with (first
    | (go_at_call 28; refine (add_pre b2 val p (some ⟨gr, 0, none⟩) _ HX4.out).mono ?_; rintro e w5 ⟨rfl, b3, h3, hb, hb3, hc⟩))
  go_end0
  exact ⟨rfl, b2, b3, GB.out, Nat.le_trans K4.out.size h3, hc.blk HT4.out NT.out, hb, hb3, K4.out.then_ hc (fun k hk => .inr (by rw [hk]; exact GB.out))⟩
end Go.Proofs.Ytkhgmjmfgbpenaa.Trie
