/- (*strings.Replacer).build, buildOnce, NewReplacer, walked where every key is a single byte: three keys, each with a value of two bytes. -/
import Derived.Test.YtonmeoaponeadaaGreatDoorOnceW
import Derived.Test.YtonmeoaponeadaaGreatDoorBytesEv
import Derived.Laws.Tables
namespace Go.Proofs.YtonmeoaponeadaaGreatDoor.Repl
open Go Go.RowKit Go.Proofs.YtonmeoaponeadaaGreatDoorV.PrintWords Go.Proofs.YtonmeoaponeadaaGreatDoorV.PrintLast Go.Proofs.YtonmeoaponeadaaGreatDoorV.PrintMore Go.Proofs.YtonmeoaponeadaaGreatDoor.Once
set_option linter.unusedVariables false
set_option linter.unusedSimpArgs false

abbrev nilS : Value := .slice none 0 0
def ks : List Nat := [10, 92, 34]
def one (c : Nat) : ByteArray := ⟨#[UInt8.ofNat c]⟩
def two (c : Nat) : ByteArray := ⟨#[92, UInt8.ofNat c]⟩
def lS : List ByteArray := [⟨#[34]⟩, ⟨#[92, 34]⟩, ⟨#[92]⟩, ⟨#[92, 92]⟩, ⟨#[10]⟩, ⟨#[92, 10]⟩]
def valAt (ps : List (Nat × Value)) (i : Nat) : Value := match ps with
  | [] => .slice none 0 0
  | p :: r => if p.1 = i then p.2 else valAt r i
def rowOf (ps : List (Nat × Value)) (vt : Value) : Array Value := ((List.range 256).map (valAt ps) ++ [vt]).toArray
section
variable {ps : List (Nat × Value)} {vt : Value}
theorem rowOf_size : (rowOf ps vt).size = 257 := by simp [rowOf]
theorem rowOf_at {i : Nat} (h : i < 256) : (rowOf ps vt)[i]? = some (valAt ps i) := by
  unfold rowOf
  rw [List.getElem?_toArray, List.getElem?_append_left (by simpa using h), List.getElem?_map, List.getElem?_range h]
  rfl
theorem rowOf_last : (rowOf ps vt)[256]? = some vt := by
  unfold rowOf
  rw [List.getElem?_toArray, List.getElem?_append_right (by simp)]
  simp
theorem rowOf_more {i : Nat} (h : 256 < i) : (rowOf ps vt)[i]? = none := Array.getElem?_eq_none (by rw [rowOf_size]; omega)
theorem rowOf_set {i : Nat} (h : i < 256) (v : Value) : (rowOf ps vt).setIfInBounds i v = rowOf ((i, v) :: ps) vt := by
  apply Array.ext_getElem?
  intro j
  rw [Array.getElem?_setIfInBounds]
  by_cases e : i = j
  · subst e
    rw [if_pos rfl, if_pos (by rw [rowOf_size]; omega), rowOf_at h]
    simp [valAt]
  · rw [if_neg e]
    rcases Nat.lt_trichotomy j 256 with h1 | h1 | h1
    · rw [rowOf_at h1, rowOf_at h1]
      simp [valAt, e]
    · subst h1
      rw [rowOf_last, rowOf_last]
    · rw [rowOf_more h1, rowOf_more h1]
theorem rowOf_put (v : Value) : (rowOf ps vt).setIfInBounds 256 v = rowOf ps v := by
  apply Array.ext_getElem?
  intro j
  rw [Array.getElem?_setIfInBounds]
  by_cases e : 256 = j
  · subst e
    rw [if_pos rfl, if_pos (by rw [rowOf_size]; omega), rowOf_last]
  · rw [if_neg e]
    rcases Nat.lt_trichotomy j 256 with h1 | h1 | h1
    · rw [rowOf_at h1, rowOf_at h1]
    · exact absurd h1.symm e
    · rw [rowOf_more h1, rowOf_more h1]
end
/-- A value of two bytes, in memory. -/
def Two (W : World) (base : Nat) (v : Value) (c : Nat) : Prop := ∃ g cap cur fz, v = .slice (some ⟨g, 0, none⟩) 2 cap ∧ base ≤ g ∧ 2 ≤ cap ∧ W.heap[g]? = some (.cells cur 5 fz) ∧ cur[0]? = some (.int .u8 92) ∧ cur[1]? = some (.int .u8 (c : Int))
/-- The replacer's row. -/
def Rep (W : World) (base gr : Nat) (ps : List (Nat × Value)) (vt : Value) : Prop := base ≤ gr ∧ W.heap[gr]? = some (.cells (rowOf ps vt) 92 (0, 0)) ∧ ∀ p, p ∈ ps → Two W base p.2 p.1
section
variable {W W1 : World} {base gr c : Nat} {v vt : Value} {ps : List (Nat × Value)}
theorem Two.move (h : Two W base v c) (hm : ∀ (g : Nat) (cur : Array Value) (fz : Nat × Nat), W.heap[g]? = some (.cells cur 5 fz) → W1.heap[g]? = some (.cells cur 5 fz)) : Two W1 base v c := by
  obtain ⟨g, cap, cur, fz, e, h1, h2, h3, h4, h5⟩ := h
  exact ⟨g, cap, cur, fz, e, h1, h2, hm _ _ _ h3, h4, h5⟩
theorem typed_ne {g g' : Nat} {T T' : TypeId} {cs cs' : Array Value} {f f' : Nat × Nat} (h : W.heap[g]? = some (.cells cs T f)) (h' : W.heap[g']? = some (.cells cs' T' f')) (hne : T ≠ T') : g ≠ g' := by
  rintro rfl
  rw [h] at h'
  injection h' with h'
  injection h' with _ e
  exact hne e
theorem Two.below (h : Two W base v c) (hb : Below W.heap.size W W1) : Two W1 base v c := h.move (fun g cur fz hg => blk_below hg hb)
theorem Two.grown {row : Option Nat} (h : Two W base v c) (hg : W.grownBy W1 row) (hr : ∀ k, row = some k → ∃ cells, W.heap[k]? = some (.cells cells 9 (0, 0))) : Two W1 base v c := h.move (fun g cur fz h0 => blk_grown h0 hg (fun e => by
  obtain ⟨cells, hc⟩ := hr g e.symm
  exact typed_ne h0 hc (by decide) rfl))
theorem Two.set (h : Two W base v c) {cs : Array Value} {T : TypeId} (hr : W.heap[gr]? = some (.cells cs T (0, 0))) (hT : 5 ≠ T) (i : Nat) (u : Value) : Two (W.setCell ⟨gr, i, none⟩ u) base v c := h.move (fun g cur fz h0 => (Below.heap_setCell W ⟨gr, i, none⟩ u g (fun e => typed_ne h0 hr hT e)).trans h0)
theorem Rep.below (h : Rep W base gr ps vt) (hb : Below W.heap.size W W1) : Rep W1 base gr ps vt := ⟨h.1, blk_below h.2.1 hb, fun p hp => (h.2.2 p hp).below hb⟩
theorem Rep.grown {row : Option Nat} (h : Rep W base gr ps vt) (hg : W.grownBy W1 row) (hr : ∀ k, row = some k → ∃ cells, W.heap[k]? = some (.cells cells 9 (0, 0))) : Rep W1 base gr ps vt :=
  ⟨h.1, blk_grown h.2.1 hg (fun e => by obtain ⟨cells, hc⟩ := hr gr e.symm; exact typed_ne h.2.1 hc (by decide) rfl), fun p hp => (h.2.2 p hp).grown hg hr⟩
theorem Rep.last (h : Rep W base gr ps vt) (u : Value) : Rep (W.setCell ⟨gr, 256, none⟩ u) base gr ps u := ⟨h.1, blk_put h.2.1 256 u (rowOf_put u), fun p hp => (h.2.2 p hp).set h.2.1 (by decide) _ _⟩
theorem Rep.put (h : Rep W base gr ps vt) {i : Nat} (hi : i < 256) {u : Value} (hu : Two W base u i) : Rep (W.setCell ⟨gr, i, none⟩ u) base gr ((i, u) :: ps) vt := ⟨h.1, blk_put h.2.1 i u (rowOf_set hi u), fun p hp => by
  rcases List.mem_cons.1 hp with rfl | hp
  · exact hu.set h.2.1 (by decide) _ _
  · exact (h.2.2 p hp).set h.2.1 (by decide) _ _⟩
theorem Rep.far (h : Rep W base gr ps vt) {b : Nat} {cs : Array Value} (hb : W.heap[b]? = some (.cells cs 74 (0, 0))) (i : Nat) (u : Value) : Rep (W.setCell ⟨b, i, none⟩ u) base gr ps vt := ⟨h.1, (Below.heap_setCell W ⟨b, i, none⟩ u gr (fun e => typed_ne h.2.1 hb (by decide) e)).trans h.2.1, fun p hp => (h.2.2 p hp).set hb (by decide) _ _⟩
theorem Rep.drew (h : Rep W base gr ps vt) : Rep W.drew base gr ps vt := h
theorem own_set {vt' : Value} {ss : List Value} {n : Nat} (h : W.ownsRow base 9 1 vt' n ss) {b : Nat} {cs : Array Value} {T : TypeId} (hb : W.heap[b]? = some (.cells cs T (0, 0))) (hT : 9 ≠ T) (i : Nat) (u : Value) : (W.setCell ⟨b, i, none⟩ u).ownsRow base 9 1 vt' n ss :=
  own_move h (fun k hk => Below.heap_setCell W ⟨b, i, none⟩ u k (fun e => by obtain ⟨cells, hc⟩ := own_typed h k hk; exact typed_ne hc hb hT e))
theorem own_below {vt' : Value} {ss : List Value} {n : Nat} (h : W.ownsRow base 9 1 vt' n ss) (hb : Below W.heap.size W W1) : W1.ownsRow base 9 1 vt' n ss :=
  own_move h (fun k hk => by obtain ⟨cells, hc⟩ := own_typed h k hk; exact hb.block k (blk_lt hc))
end
theorem strOf_one (o : Nat) : strOfNums [(o : Int)] = one o := by
  unfold strOfNums one
  simp
theorem make_strs (w : World) : ∃ w', (Instr.makeSlice 58 (.int .i64 0) (.int .i64 3)).run Tryz.prog w = .ok (Value.slice (some ⟨w.heap.size, 0, none⟩) 0 3) w' ∧ w'.ownsRow w.heap.size 9 1 (.slice (some ⟨w.heap.size, 0, none⟩) 0 3) 0 [] ∧ w.grownBy w' none := by
  have hi : (Tryz.prog.info? 9).map (fun i => (i.zero, i.size, i.bytes)) = some (some (.string ⟨#[]⟩), 1, 16) := by kernel_rfl
  obtain ⟨i0, h1, h2, h3, h4⟩ := info_parts hi
  exact run_makeSlice_owned (P := Tryz.prog) w w.heap.size 58 9 i0 (.string ⟨#[]⟩) 1 Tryz.underlying58 h1 h2 h3 .i64 .i64 3 (by omega) (by rw [h4]; omega) (by simp only [maxLen]; omega) (Nat.le_refl _)
section
variable {P : Program} {ops : Array Oper} {o : Oper} {a : Act} {Q : Exit → Act → World → Prop} {rest : List Oper}
theorem store_all {w W : World} (hgd : o.guard = none) (ty : TypeId) (x y : Operand) (ho : o.op = .store ty x y) (hd : o.dst = none) (g : Nat) (cells : Array Value)
    (hx : a.eval x = .pointer (some ⟨g, 0, none⟩)) (hy : a.eval y = .agg cells) (t : TypeId) (old : Array Value) (hg : W.heap[g]? = some (.cells old t (0, 0))) (hi : (P.info? ty).map (·.size) = some cells.size)
    (hold : old.size = cells.size) (h1 : cells.all (·.oneCell') = true) (hb : Below w.heap.size w W) (hge : w.heap.size ≤ g)
    (h : ∀ w1, w1.heap[g]? = some (.cells cells t (0, 0)) → (∀ k, k ≠ g → w1.heap[k]? = W.heap[k]?) → Below w.heap.size w w1 → wpList P ops Q rest a w1) : wpList P ops Q (o :: rest) a W :=
  wpList_store_row hgd ty x y ho g cells hx hy t old hg hi hold h1 (by rw [hd]; exact h _ (setRow_heap W g old cells t _ hg) (fun k hk => setRow_other W g k cells hk) ⟨hb.os, hb.tape, hb.output, by rw [setRow_size]; exact hb.size, fun k hk => (setRow_other W g k cells (by omega)).trans (hb.block k hk)⟩)
theorem build_all {W : World} (hgd : o.guard = none) (t : TypeId) (parts : Array (Nat × Operand)) (ho : o.op = .build t parts) (cells : Array Value)
    (hf : P.built t (parts.map fun (i, x) => (i, a.eval x)).toList = some cells) (h : wpList P ops Q rest (a.put o.dst (.agg cells)) W) : wpList P ops Q (o :: rest) a W := by
  refine wpList_build hgd t parts ho (by rw [hf]; rfl) ?_
  rw [hf]
  exact h
/-- '[]byte(s)' of two bytes. -/
theorem two_event {W : World} (hgd : o.guard = none) {N : Tmp} (_hd : o.dst = some N) (c base : Nat) (hc : c < 256) (hbs : base ≤ W.heap.size)
    (hrun : (execOp a.eval o).run P W = .ok (.value (.slice (some ⟨W.heap.size, 0, none⟩) (two c).size (grownCap W (two c).size 0 5))) (Lib.bytesWorld W 5 (two c)))
    (h : ∀ v w1, Two w1 base v c → Below W.heap.size W w1 → wpList P ops Q rest (a.put o.dst v) w1) : wpList P ops Q (o :: rest) a W := by
  refine Kd.event_run hgd hrun (h _ _ ⟨_, _, Lib.bytesCells W 5 (two c), _, rfl, hbs, grownCap_ge W 2 0 5, Lib.bytesWorld_at_new W 5 (two c), ?_, ?_⟩ (bytes_below (Below.refl _ _) (Nat.le_refl _) 5 (two c)))
  · unfold Lib.bytesCells
    rw [Array.getElem?_append_left (by simp [two])]
    simp [two]
  · unfold Lib.bytesCells
    rw [Array.getElem?_append_left (by simp [two])]
    simp [two]
    omega
end
end Go.Proofs.YtonmeoaponeadaaGreatDoor.Repl
