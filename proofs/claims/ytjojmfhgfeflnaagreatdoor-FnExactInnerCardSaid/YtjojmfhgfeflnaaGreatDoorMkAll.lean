import Derived.Test.YtjojmfhgfeflnaaGreatDoorQFnExactInnerx0
import Derived.Defers
import Derived.Laws.Pointers
import Derived.Laws.LoneSync
import Derived.RegionTactic
import Derived.RegionCalls
import Derived.Laws.NewBlocks
import Derived.WalkSpells
import Derived.StillTailTactics
/- Merged: OnceW TrieW MkW BuildW -/
section
/- sync.Once's slow road, walked in parts: the lock, the two deferred calls, doSlow, Do. -/
namespace Go.Proofs.YtjojmfhgfeflnaaGreatDoor.Once
open Go Go.RowKit Go.Proofs.YtjojmfhgfeflnaaGreatDoorV.PrintWords Go.Proofs.YtjojmfhgfeflnaaGreatDoorV.PrintLast Go.Proofs.YtjojmfhgfeflnaaGreatDoorV.PrintMore
set_option linter.unusedVariables false
set_option linter.unusedSimpArgs false

theorem disable (w : World) : (callFunc 81 #[]).run Tryz.prog w = .ok (.value (.tuple #[])) w := run_call_mark0 Tryz.func81 (by kernel_rfl) (by kernel_rfl) (by kernel_rfl) .disable (by kernel_rfl) w
theorem enable (w : World) : (callFunc 83 #[]).run Tryz.prog w = .ok (.value (.tuple #[])) w := run_call_mark0 Tryz.func83 (by kernel_rfl) (by kernel_rfl) (by kernel_rfl) .enable (by kernel_rfl) w
theorem acquire (a : Addr) (w : World) : (callFunc 84 #[.pointer (some a)]).run Tryz.prog w = .ok (.value (.tuple #[])) w := run_call_marked Tryz.func84 (by kernel_rfl) (by kernel_rfl) (by kernel_rfl) .acquire (by kernel_rfl) a w
theorem releaseMerge (a : Addr) (w : World) : (callFunc 86 #[.pointer (some a)]).run Tryz.prog w = .ok (.value (.tuple #[])) w := run_call_marked Tryz.func86 (by kernel_rfl) (by kernel_rfl) (by kernel_rfl) .releaseMerge (by kernel_rfl) a w

theorem store_deferred (a : Addr) (x : Value) (u : FrameMode) (w : World) (hc : w.cell? a = some x) (hz : w.frozen? a = false) :
    CallsD Tryz.prog 69 #[.pointer (some a), .bool true] u w fun e u' w' => u' = u ∧ (e = .returned (.tuple #[]) ∧ w' = w.drew.setCell a (.int .u32 1)) := by
  have hc' : w.drew.cell? a = some x := by go_simp
  have hz' : w.drew.frozen? a = false := by go_simp
  have hst := run_call_store (P := Tryz.prog) Tryz.func75 (by kernel_rfl) (by kernel_rfl) (by kernel_rfl) (by kernel_rfl) (k := .u32) (y := 1) hc' hz'
  go_enter_d Tryz.func69, Tryz.ntmps69
  go_wp2
  go_region_calls
  all_goals (go_end0; exact ⟨rfl, rfl⟩)
set_option maxRecDepth 100000 in
theorem unlock_deferred (a : Addr) (u : FrameMode) (w : World) (hc : w.cell? a = some (.int .i32 1)) (hz : w.frozen? a = false) :
    CallsD Tryz.prog 68 #[.pointer (some a)] u w fun e u' w' => u' = u ∧ (e = .returned (.tuple #[]) ∧ w' = w.setCell a (.int .i32 0)) := by
  have hd := disable
  have he := enable
  have hr := releaseMerge
  have hadd := run_call_add (P := Tryz.prog) Tryz.func87 (by kernel_rfl) (by kernel_rfl) (by kernel_rfl) .i32 (by kernel_rfl) (y := -1) (s := 0) hc hz (by simp [go_sem]; rfl)
  have hcv := run_convert_to_unsafe (P := Tryz.prog) (src := 172) (dst := 99) Tryz.underlying172 Tryz.underlying99 (by kernel_rfl) hc
  go_enter_d Tryz.func68, Tryz.ntmps68
  go_wp2
  go_end0
  go_wp2
  go_end0
  exact ⟨rfl, rfl⟩
set_option maxRecDepth 100000 in
theorem lock_free (a : Addr) (w : World) (hc : w.cell? a = some (.int .i32 0)) (hz : w.frozen? a = false) :
    Calls Tryz.prog 67 #[.pointer (some a)] w fun e w' => e = .returned (.tuple #[]) ∧ w' = w.setCell a (.int .i32 1) := by
  have hd := disable
  have he := enable
  have ha := acquire
  have hcas := run_call_cas_hit (P := Tryz.prog) Tryz.func82 (by kernel_rfl) (by kernel_rfl) (by kernel_rfl) .i32 (by kernel_rfl) (y := 1) hc hz
  have hc' : (w.setCell a (.int .i32 1)).cell? a = some (.int .i32 1) := World.cell?_setCell_same w a _ hc
  have hcv := run_convert_to_unsafe (P := Tryz.prog) (src := 172) (dst := 99) Tryz.underlying172 Tryz.underlying99 (by kernel_rfl) hc'
  go_enter Tryz.func67, Tryz.ntmps67
  go_wp2
  first | go_end0 | (simp only [Exit.inBlock, Exit.then]; refine bodyPost_ret (results_none rfl _ _ _) rfl ?_) | refine bodyPost_ret (results_none rfl _ _ _) rfl ?_
  go_wp2
  go_end0
  exact ⟨rfl, rfl⟩
abbrev onceC (d m s : Int) (v4 v5 : Value) : Array Value := #[.int .u32 d, .int .i32 m, .int .u32 s, v4, v5]
set_option maxRecDepth 100000 in
set_option maxHeartbeats 1600000 in
/-- doSlow, of a Once that lies at the head of its block: the function that is called turns no cell of the lock. -/
theorem slow_calls (b : Nat) (s : Int) (v3 v4 : Value) (w : World) (hb : w.heap[b]? = some (.cells (onceC 0 0 s v3 v4) 117 (0, 0))) (Post : World → Prop)
    (hpost : ∀ w2, Post w2 → ∃ u3 u4, w2.heap[b]? = some (.cells (onceC 0 1 s u3 u4) 117 (0, 0)))
    (hf : Calls Tryz.prog 57 #[.pointer (some ⟨b, 0, none⟩)] (w.setCell ⟨b, 1, none⟩ (.int .i32 1)) fun e w2 => e = .returned (.tuple #[]) ∧ Post w2) :
    Calls Tryz.prog 61 #[.pointer (some ⟨b, 0, none⟩), .func (.func 57) #[.pointer (some ⟨b, 0, none⟩)] #[]] w fun e w' => e = .returned (.tuple #[]) ∧
      ∃ w2, Post w2 ∧ w' = (w2.drew.setCell ⟨b, 0, none⟩ (.int .u32 1)).setCell ⟨b, 1, none⟩ (.int .i32 0) := by
  have h0 : w.cell? ⟨b, 0, none⟩ = some (.int .u32 0) := (blk_cell hb 0).trans rfl
  have h1 : w.cell? ⟨b, 1, none⟩ = some (.int .i32 0) := (blk_cell hb 1).trans rfl
  have f1 := blk_frozen hb 1
  have hb1 : (w.setCell ⟨b, 1, none⟩ (.int .i32 1)).heap[b]? = some (.cells (onceC 0 1 s v3 v4) 117 (0, 0)) := blk_put hb 1 _ rfl
  have hl := run_call_load (P := Tryz.prog) Tryz.func66 (by kernel_rfl) (by kernel_rfl) (by kernel_rfl) .u32 (by kernel_rfl) (w := w.setCell ⟨b, 1, none⟩ (.int .i32 1)) (a := ⟨b, 0, none⟩) (x := 0) ((blk_cell hb1 0).trans rfl)
  have hnot : ∀ (x : Bool) (w : World), (Op.unary .not (.bool x)).run Tryz.prog w = .ok (.bool (!x)) w := fun _ _ => rfl
  go_enter_defers Tryz.func61, Tryz.ntmps61
  go_wp2_with (first
    | (go_at_call 67; refine (lock_free ⟨b, 1, none⟩ _ (by go_simp) (by go_simp)).mono ?_; rintro e w' ⟨rfl, rfl⟩)
    | (go_at_call 60; go_in)
    | (go_at_call 57; refine hf.mono ?_; rintro e w2 ⟨rfl, hp⟩))
  obtain ⟨u3, u4, hb2⟩ := hpost w2 hp
  first | go_end0 | skip
  refine leaves_cons (f := 69) (args := #[.pointer (some ⟨b, 0, none⟩), .bool true]) (by simp) (by simp [go_sem]) ?_
  refine (store_deferred ⟨b, 0, none⟩ (.int .u32 0) .returning _ ((blk_cell hb2 0).trans rfl) (blk_frozen hb2 0)).mono ?_
  rintro e u' w'' ⟨rfl, rfl, rfl⟩
  refine leaves_cons (f := 68) (args := #[.pointer (some ⟨b, 1, none⟩)]) (by simp [settle]) (by simp [go_sem]) ?_
  have hb3 : (w2.drew.setCell ⟨b, 0, none⟩ (.int .u32 1)).heap[b]? = some (.cells (onceC 1 1 s u3 u4) 117 (0, 0)) := blk_put (blk_drew hb2) 0 _ rfl
  refine (unlock_deferred ⟨b, 1, none⟩ _ _ ((blk_cell hb3 1).trans rfl) (blk_frozen hb3 1)).mono ?_
  rintro e u' w'' ⟨rfl, rfl, rfl⟩
  simp [Leaves, settle, results, Tryz.results61]
  exact ⟨_, hp, rfl⟩
set_option maxRecDepth 100000 in
set_option maxHeartbeats 1600000 in
theorem do_calls (b : Nat) (s : Int) (v3 v4 : Value) (w : World) (hb : w.heap[b]? = some (.cells (onceC 0 0 s v3 v4) 117 (0, 0))) (Post : World → Prop)
    (hpost : ∀ w2, Post w2 → ∃ u3 u4, w2.heap[b]? = some (.cells (onceC 0 1 s u3 u4) 117 (0, 0)))
    (hf : Calls Tryz.prog 57 #[.pointer (some ⟨b, 0, none⟩)] (w.setCell ⟨b, 1, none⟩ (.int .i32 1)) fun e w2 => e = .returned (.tuple #[]) ∧ Post w2) :
    Calls Tryz.prog 56 #[.pointer (some ⟨b, 0, none⟩), .func (.func 57) #[.pointer (some ⟨b, 0, none⟩)] #[]] w fun e w' => e = .returned (.tuple #[]) ∧
      ∃ w2, Post w2 ∧ w' = (w2.drew.setCell ⟨b, 0, none⟩ (.int .u32 1)).setCell ⟨b, 1, none⟩ (.int .i32 0) := by
  have hl := run_call_load (P := Tryz.prog) Tryz.func66 (by kernel_rfl) (by kernel_rfl) (by kernel_rfl) .u32 (by kernel_rfl) (w := w) (a := ⟨b, 0, none⟩) (x := 0) ((blk_cell hb 0).trans rfl)
  have hnot : ∀ (x : Bool) (w : World), (Op.unary .not (.bool x)).run Tryz.prog w = .ok (.bool (!x)) w := fun _ _ => rfl
  go_enter Tryz.func56, Tryz.ntmps56
  go_wp2_with (first
    | (go_at_call 60; go_in)
    | (go_at_call 61; refine (slow_calls b s v3 v4 _ hb Post hpost hf).mono ?_; rintro e w2 ⟨rfl, hp⟩))
  go_end0
  exact ⟨rfl, hp⟩
end Go.Proofs.YtjojmfhgfeflnaaGreatDoor.Once
end
section
/- strings.genericReplacer, made: the nodes of its tree, walked. -/
namespace Go.Proofs.YtjojmfhgfeflnaaGreatDoor.Trie
open Go Go.RowKit Go.Proofs.YtjojmfhgfeflnaaGreatDoorV.PrintWords Go.Proofs.YtjojmfhgfeflnaaGreatDoorV.PrintLast Go.Proofs.YtjojmfhgfeflnaaGreatDoorV.PrintMore
set_option linter.unusedVariables false
set_option linter.unusedSimpArgs false

theorem neq_nil (w : World) (a : Option Addr) (l c : Nat) : (binOp .neq 155 (.slice a l c) (.slice none 0 0)).run Tryz.prog w = .ok (.bool (!a.isNone)) w := run_neq_slice_nil_any w 155 154 a l c 0 0 Tryz.underlying155
/-- What a stretch may have turned: the blocks of S, and what is new. -/
def Chg (S : Nat → Prop) (w w' : World) : Prop := Below 0 w w' ∧ Kept w w' S
section
variable {S S' : Nat → Prop} {w w1 w2 w0 : World} {g : Nat} {o : Obj} {bs : Nat}
theorem Chg.refl (S : Nat → Prop) (w : World) : Chg S w w := ⟨Below.refl _ _, Kept.refl _ _⟩
theorem Chg.then_ (h : Chg S w w1) (k : Chg S' w1 w2) (hs : ∀ k, S' k → S k ∨ w.heap.size ≤ k) : Chg S w w2 := ⟨h.1.trans k.1, h.2.then_ k.2 hs⟩
theorem Chg.set (h : Chg S w w1) (hg : S g ∨ w.heap.size ≤ g) (i : Nat) (u : Value) : Chg S w (w1.setCell ⟨g, i, none⟩ u) := ⟨h.1.setCell (Nat.zero_le _) u, h.2.setCell (p := ⟨g, i, none⟩) hg u⟩
theorem Chg.below (h : Chg S w w1) (hb : Below w1.heap.size w1 w2) : Chg S w w2 := ⟨h.1.trans (hb.mono (Nat.zero_le _)), h.2.below hb⟩
theorem Chg.blk (h : Chg S w w1) (hb : w.heap[g]? = some o) (hne : ¬ S g) : w1.heap[g]? = some o := blk_kept hb h.2 hne
theorem Chg.size (h : Chg S w w1) : w.heap.size ≤ w1.heap.size := h.2.1
theorem Chg.base (hb : Below bs w0 w) (h : Chg S w w1) (hle : bs ≤ w.heap.size) (hs : ∀ k, S k → bs ≤ k) : Below bs w0 w1 :=
  ⟨h.1.os.trans hb.os, h.1.tape.trans hb.tape, h.1.output.trans hb.output, Nat.le_trans hb.size h.1.size, fun i hi => (h.2.2 i (by omega) (fun e => by have := hs i e; omega)).trans (hb.block i hi)⟩
theorem Chg.drew (h : Chg S w w1) : Chg S w w1.drew := ⟨h.1.drew, h.2⟩
end
abbrev nilS : Value := .slice none 0 0
abbrev eS : ByteArray := ⟨#[]⟩
abbrev nodeC (v : ByteArray) (p : Int) (x : ByteArray) (nx : Option Addr) (sl : Value) : Array Value := #[.string v, .int .i64 p, .string x, .pointer nx, sl]
set_option maxRecDepth 100000 in
set_option maxHeartbeats 1600000 in
theorem add_leaf (b : Nat) (val : ByteArray) (p : Int) (gr : Option Addr) (w : World) (hb : w.heap[b]? = some (.cells (nodeC eS 0 eS none nilS) 157 (0, 0))) :
    Calls Tryz.prog 78 #[.pointer (some ⟨b, 0, none⟩), .string eS, .string val, .int .i64 p, .pointer gr] w fun e w' => e = .returned (.tuple #[]) ∧
      w' = (w.setCell ⟨b, 0, none⟩ (.string val)).setCell ⟨b, 1, none⟩ (.int .i64 p) := by
  have h0 : w.cell? ⟨b, 0, none⟩ = some (.string eS) := (blk_cell hb 0).trans rfl
  have h1 : w.cell? ⟨b, 1, none⟩ = some (.int .i64 0) := (blk_cell hb 1).trans rfl
  have f0 := blk_frozen hb 0
  have f1 := blk_frozen hb 1
  go_enter Tryz.func78, Tryz.ntmps78
  go_wp2
  first | go_end0 | (simp only [Exit.inBlock, Exit.then]; refine bodyPost_ret (results_none rfl _ _ _) rfl ?_) | refine bodyPost_ret (results_none rfl _ _ _) rfl ?_
  exact ⟨rfl, rfl⟩
theorem blk_far' {w : World} {g : Nat} {t : TypeId} {cs : Array Value} (h : w.heap[g]? = some (.cells cs t (0, 0))) {g2 : Nat} (hp : g ≠ g2) (i : Nat) (u : Value) : (w.setCell ⟨g2, i, none⟩ u).heap[g]? = some (.cells cs t (0, 0)) := blk_far h hp u
set_option maxRecDepth 100000 in
set_option maxHeartbeats 1600000 in
/-- A node that is new takes a key of one byte more: a second node behind it holds the value. -/
theorem add_pre (b : Nat) (val : ByteArray) (p : Int) (gr : Option Addr) (w : World) (hb : w.heap[b]? = some (.cells (nodeC eS 0 eS none nilS) 157 (0, 0))) :
    Calls Tryz.prog 78 #[.pointer (some ⟨b, 0, none⟩), .string ⟨#[160]⟩, .string val, .int .i64 p, .pointer gr] w fun e w' => e = .returned (.tuple #[]) ∧ ∃ b2 : Nat, w.heap.size ≤ b2 ∧
      w'.heap[b]? = some (.cells (nodeC eS 0 ⟨#[160]⟩ (some ⟨b2, 0, none⟩) nilS) 157 (0, 0)) ∧ w'.heap[b2]? = some (.cells (nodeC val p eS none nilS) 157 (0, 0)) ∧ Chg (fun k => k = b) w w' := by
  have h0 : w.cell? ⟨b, 0, none⟩ = some (.string eS) := (blk_cell hb 0).trans rfl
  have h1 : w.cell? ⟨b, 1, none⟩ = some (.int .i64 0) := (blk_cell hb 1).trans rfl
  have h2 : w.cell? ⟨b, 2, none⟩ = some (.string eS) := (blk_cell hb 2).trans rfl
  have h3 : w.cell? ⟨b, 3, none⟩ = some (.pointer none) := (blk_cell hb 3).trans rfl
  have h4 : w.cell? ⟨b, 4, none⟩ = some nilS := (blk_cell hb 4).trans rfl
  have f2 := blk_frozen hb 2
  have f3 := blk_frozen hb 3
  have HB := Aside0.mk hb
  clear hb
  go_enter Tryz.func78, Tryz.ntmps78
  have hnil := neq_nil
  go_wp2_with (first
    | ((with_reducible refine gate_store (t := 9) (p := 228) rfl ?_); refine store_event (t := 9) (p := 228) (v := ?vo1) (w1 := w.setCell ⟨b, 2, none⟩ (.string ⟨#[160]⟩)) ?hg ?ho ?hn ?hr ?_; (case ho => rfl); (case hg => rfl); (case hn => rfl); (case hr => first | (go_simp; done) | (go_simp; rfl)); intro w1 hw1; have HW1 := Aside0.mk hw1; have HB1 := Aside0.mk (show w1.heap[b]? = some (.cells (nodeC eS 0 ⟨#[160]⟩ none nilS) 157 (0, 0)) from by rw [hw1]; exact blk_put HB.out 2 _ rfl); clear hw1)
    | ((with_reducible refine gate_dst (N := 230) rfl ?_); clear h0 h1 h2 h3 h4 f2 f3; refine box_event ?hg (N := 230) ?hd (cs := nodeC eS 0 eS none nilS) (t := 157) ?hr ?_; (case hd => rfl); (case hg => rfl); (case hr => first | (go_simp; done) | (go_simp; rfl)); intro b2 hb2 w2 hbox hbel; have h3 : w2.cell? ⟨b, 3, none⟩ = some (.pointer none) := (blk_cell (blk_below HB1.out hbel) 3).trans rfl; have f3 := blk_frozen (blk_below HB1.out hbel) 3; have HX2 := Aside0.mk hbox; have HL2 := Aside0.mk hbel; have HG2 := Aside0.mk hb2; clear hbox hbel hb2)
    | ((with_reducible refine gate_store (t := 154) (p := 232) rfl ?_); refine store_event (t := 154) (p := 232) (v := ?vo2) (w1 := w2.setCell ⟨b, 3, none⟩ (.pointer (some ⟨b2, 0, none⟩))) ?hg ?ho ?hn ?hr ?_; (case ho => rfl); (case hg => rfl); (case hn => rfl); (case hr => first | (go_simp; done) | (go_simp; rfl)); intro w3 hw3; clear h3 f3; have HW3 := Aside0.mk hw3; have HB3 := Aside0.mk (show w3.heap[b]? = some (.cells (nodeC eS 0 ⟨#[160]⟩ (some ⟨b2, 0, none⟩) nilS) 157 (0, 0)) from by rw [hw3]; exact blk_put (blk_below HB1.out HL2.out) 3 _ rfl); have NE := Aside0.mk (show b2 ≠ b from by rw [HG2.out]; exact fun e => by have := blk_lt HB1.out; omega); have HX3 := Aside0.mk (show w3.heap[b2]? = some (.cells (nodeC eS 0 eS none nilS) 157 (0, 0)) from by rw [hw3]; exact blk_far' HX2.out NE.out _ _); have h3 : w3.cell? ⟨b, 3, none⟩ = some (.pointer (some ⟨b2, 0, none⟩)) := (blk_cell HB3.out 3).trans rfl; clear hw3)
    | (go_at_call 78; refine (add_leaf b2 val p gr _ HX3.out).mono ?_; rintro e w4 ⟨rfl, hw4⟩))
  go_end0
  refine ⟨rfl, b2, by rw [HG2.out, HW1.out]; simp [World.setCell], ?_, ?_, ?_⟩
  · rw [← hw4, hw4]
    exact blk_far' (blk_far' HB3.out NE.out.symm _ _) NE.out.symm _ _
  · exact blk_put (blk_put HX3.out 0 _ rfl) 1 _ rfl
  · have n2 : w.heap.size ≤ b2 := by rw [HG2.out, HW1.out]; simp [World.setCell]
    have c1 : Chg (fun k => k = b) w w1 := by rw [HW1.out]; exact (Chg.refl (fun k => k = b) w).set (g := b) (.inl rfl) _ _
    have c3 : Chg (fun k => k = b) w w3 := by rw [HW3.out]; exact (c1.below HL2.out).set (g := b) (.inl rfl) _ _
    exact (c3.set (.inr n2) _ _).set (.inr n2) _ _
/-- The cells of a replacer: the root (with its table), the table's length, the places of the bytes. -/
def rC (gt ts : Nat) (M : List Int) : Array Value := (([.string eS, .int .i64 0, .string eS, .pointer none, .slice (some ⟨gt, 0, none⟩) ts ts, .int .i64 ts] : List Value) ++ M.map (Value.int .u8)).toArray
theorem rC_map {gt ts : Nat} {M : List Int} {i : Nat} {m : Int} (h : M[i]? = some m) : (rC gt ts M)[6 + i]? = some (.int .u8 m) := by
  unfold rC
  rw [List.getElem?_toArray, List.getElem?_append_right (by simp), show 6 + i - ([.string eS, .int .i64 0, .string eS, .pointer none, .slice (some ⟨gt, 0, none⟩) ts ts, .int .i64 ts] : List Value).length = i by simp, List.getElem?_map, h]
  rfl
set_option maxRecDepth 100000 in
set_option maxHeartbeats 1600000 in
theorem add_root1 (c : UInt8) (val : ByteArray) (p : Int) (gr gt ts m : Nat) (M : List Int) (tv : List Value) (w : World) (hr : w.heap[gr]? = some (.cells (rC gt ts M) 159 (0, 0))) (ht : w.heap[gt]? = some (.cells tv.toArray 154 (0, 0)))
    (hl : tv.length = ts) (hm : M[c.toNat]? = some (m : Int)) (hv : tv[m]? = some (.pointer none)) :
    Calls Tryz.prog 78 #[.pointer (some ⟨gr, 0, none⟩), .string ⟨#[c]⟩, .string val, .int .i64 p, .pointer (some ⟨gr, 0, none⟩)] w fun e w' => e = .returned (.tuple #[]) ∧ ∃ b2 : Nat, w.heap.size ≤ b2 ∧
      w'.heap[gt]? = some (.cells (tv.set m (.pointer (some ⟨b2, 0, none⟩))).toArray 154 (0, 0)) ∧ w'.heap[b2]? = some (.cells (nodeC val p eS none nilS) 157 (0, 0)) ∧ Chg (fun k => k = gt) w w' := by
  have h1 : w.cell? ⟨gr, 1, none⟩ = some (.int .i64 0) := (blk_cell hr 1).trans rfl
  have h2 : w.cell? ⟨gr, 2, none⟩ = some (.string eS) := (blk_cell hr 2).trans rfl
  have h4 : w.cell? ⟨gr, 4, none⟩ = some (.slice (some ⟨gt, 0, none⟩) ts ts) := (blk_cell hr 4).trans rfl
  have hM : w.cell? ⟨gr, 6 + c.toNat, none⟩ = some (.int .u8 m) := (blk_cell hr _).trans (rC_map hm)
  have hT : w.cell? ⟨gt, m, none⟩ = some (.pointer none) := (blk_cell ht _).trans (by rw [List.getElem?_toArray]; exact hv)
  have hml : m < ts := by rw [← hl]; exact (List.getElem?_eq_some_iff.1 hv).1
  have fT := blk_frozen ht m
  have HR := Aside0.mk hr
  have HT := Aside0.mk ht
  have HV := Aside0.mk hv
  have p1 : (0 ≤ (m : Int)) = True := eq_true (by omega)
  have p2 : ((m : Int) < (ts : Int)) = True := eq_true (by omega)
  have hcl := c.toNat_lt
  have ec : ∀ h, (({ data := #[c] } : ByteArray)[0]'h) = c := fun _ => rfl
  have c0 : (0 ≤ (c.toNat : Int)) = True := eq_true (by omega)
  have c1 : ((c.toNat : Int) < 256) = True := eq_true (by omega)
  have c2 : (c.toNat < 256) = True := eq_true (by omega)
  clear hr ht hm hv hl
  go_enter Tryz.func78, Tryz.ntmps78
  have hnil := neq_nil
  go_wp2_with (fail)
  go_still_tail 7, (by kernel_rfl)
  change wpList _ _ _ _ _ w.drew
  have HR1 := Aside0.mk (blk_drew HR.out)
  have HT1 := Aside0.mk (blk_drew HT.out)
  have K1 := Aside0.mk ((Chg.refl (fun k => k = gt) w).drew)
  have SZ := Aside0.mk (show w.heap.size ≤ w.drew.heap.size from Nat.le_refl _)
  replace h4 : w.drew.cell? ⟨gr, 4, none⟩ = some (.slice (some ⟨gt, 0, none⟩) ts ts) := h4
  replace hT : w.drew.cell? ⟨gt, m, none⟩ = some (.pointer none) := hT
  replace fT : w.drew.frozen? ⟨gt, m, none⟩ = false := fT
  clear h1 h2 hM HR HT
  generalize w.drew = w1 at HR1 HT1 K1 SZ h4 hT fT ⊢
  go_wp2_with (first
    | ((with_reducible refine gate_dst (N := 210) rfl ?_); refine box_event ?hg (N := 210) ?hd (cs := nodeC eS 0 eS none nilS) (t := 157) ?hr ?_; (case hd => rfl); (case hg => rfl); (case hr => first | (go_simp; done) | (go_simp; rfl)); intro b2 hb2 w2 hbox hbel; clear h4 hT fT; have HR2 := Aside0.mk (blk_below HR1.out hbel); have HT2 := Aside0.mk (blk_below HT1.out hbel); have h4 : w2.cell? ⟨gr, 4, none⟩ = some (.slice (some ⟨gt, 0, none⟩) ts ts) := (blk_cell HR2.out 4).trans rfl; have hT : w2.cell? ⟨gt, m, none⟩ = some (.pointer none) := (blk_cell HT2.out _).trans (by rw [List.getElem?_toArray]; exact HV.out); have fT := blk_frozen HT2.out m; have HX2 := Aside0.mk hbox; have K2 := Aside0.mk (K1.out.below hbel); have HG2 := Aside0.mk hb2; clear hbox hbel hb2)
    | ((with_reducible refine gate_store (t := 154) (p := 211) rfl ?_); refine store_event (t := 154) (p := 211) (v := ?vo2) (w1 := w2.setCell ⟨gt, m, none⟩ (.pointer (some ⟨b2, 0, none⟩))) ?hg ?ho ?hn ?hr ?_; (case ho => rfl); (case hg => rfl); (case hn => rfl); (case hr => first | (go_simp; done) | (go_simp; rfl)); intro w3 hw3; clear h4 hT fT; have HR3 := Aside0.mk (show w3.heap[gr]? = some (.cells (rC gt ts M) 159 (0, 0)) from by rw [hw3]; exact blk_far' HR2.out (blk_ne HR2.out HT2.out (by decide)) _ _); have HT3 := Aside0.mk (show w3.heap[gt]? = some (.cells (tv.set m (.pointer (some ⟨b2, 0, none⟩))).toArray 154 (0, 0)) from by rw [hw3]; exact blk_put HT2.out m _ (by rw [List.setIfInBounds_toArray])); have HX3 := Aside0.mk (show w3.heap[b2]? = some (.cells (nodeC eS 0 eS none nilS) 157 (0, 0)) from by rw [hw3]; exact blk_far' HX2.out (blk_ne HX2.out HT2.out (by decide)) _ _); have K3 := Aside0.mk (show Chg (fun k => k = gt) w w3 from by rw [hw3]; exact K2.out.set (g := gt) (.inl rfl) _ _); have NT := Aside0.mk (show gt ≠ b2 from (blk_ne HX2.out HT2.out (by decide)).symm); have h4 : w3.cell? ⟨gr, 4, none⟩ = some (.slice (some ⟨gt, 0, none⟩) ts ts) := (blk_cell HR3.out 4).trans rfl; have hT : w3.cell? ⟨gt, m, none⟩ = some (.pointer (some ⟨b2, 0, none⟩)) := (blk_cell HT3.out _).trans (by rw [List.getElem?_toArray, List.getElem?_set_self (by have := (List.getElem?_eq_some_iff.1 HV.out).1; exact this)]); clear hw3))
  go_still_tail 12, (by kernel_rfl)
  change wpList _ _ _ _ _ w3.drew
  have HX4 := Aside0.mk (blk_drew HX3.out)
  have HT4 := Aside0.mk (blk_drew HT3.out)
  have K4 := Aside0.mk K3.out.drew
  have GB := Aside0.mk (show w.heap.size ≤ b2 from by rw [HG2.out]; exact SZ.out)
  clear h4 hT HR1 HR2 HR3 HX2 HX3 HT1 HT2 HT3 K1 K2 K3 HG2 SZ
  generalize w3.drew = w4 at HX4 HT4 K4 ⊢
  go_wp2_with (first
    | (go_at_call 78; refine (add_leaf b2 val p (some ⟨gr, 0, none⟩) _ HX4.out).mono ?_; rintro e w5 ⟨rfl, hw5⟩))
  go_end0
  refine ⟨rfl, b2, GB.out, ?_, ?_, ?_⟩
  · exact blk_far' (blk_far' HT4.out NT.out _ _) NT.out _ _
  · exact blk_put (blk_put HX4.out 0 _ rfl) 1 _ rfl
  · exact (K4.out.set (.inr GB.out) _ _).set (.inr GB.out) _ _
set_option maxRecDepth 100000 in
set_option maxHeartbeats 1600000 in
theorem add_root2 (val : ByteArray) (p : Int) (gr gt ts m : Nat) (M : List Int) (tv : List Value) (w : World) (hr : w.heap[gr]? = some (.cells (rC gt ts M) 159 (0, 0))) (ht : w.heap[gt]? = some (.cells tv.toArray 154 (0, 0)))
    (hl : tv.length = ts) (hm : M[194]? = some (m : Int)) (hv : tv[m]? = some (.pointer none)) :
    Calls Tryz.prog 78 #[.pointer (some ⟨gr, 0, none⟩), .string ⟨#[194, 160]⟩, .string val, .int .i64 p, .pointer (some ⟨gr, 0, none⟩)] w fun e w' => e = .returned (.tuple #[]) ∧ ∃ b2 b3 : Nat, w.heap.size ≤ b2 ∧ w.heap.size ≤ b3 ∧
      w'.heap[gt]? = some (.cells (tv.set m (.pointer (some ⟨b2, 0, none⟩))).toArray 154 (0, 0)) ∧ w'.heap[b2]? = some (.cells (nodeC eS 0 ⟨#[160]⟩ (some ⟨b3, 0, none⟩) nilS) 157 (0, 0)) ∧ w'.heap[b3]? = some (.cells (nodeC val p eS none nilS) 157 (0, 0)) ∧ Chg (fun k => k = gt) w w' := by
  have h1 : w.cell? ⟨gr, 1, none⟩ = some (.int .i64 0) := (blk_cell hr 1).trans rfl
  have h2 : w.cell? ⟨gr, 2, none⟩ = some (.string eS) := (blk_cell hr 2).trans rfl
  have h4 : w.cell? ⟨gr, 4, none⟩ = some (.slice (some ⟨gt, 0, none⟩) ts ts) := (blk_cell hr 4).trans rfl
  have hM : w.cell? ⟨gr, 200, none⟩ = some (.int .u8 m) := (blk_cell hr (6 + 194)).trans (rC_map hm)
  have hT : w.cell? ⟨gt, m, none⟩ = some (.pointer none) := (blk_cell ht _).trans (by rw [List.getElem?_toArray]; exact hv)
  have hml : m < ts := by rw [← hl]; exact (List.getElem?_eq_some_iff.1 hv).1
  have fT := blk_frozen ht m
  have HR := Aside0.mk hr
  have HT := Aside0.mk ht
  have HV := Aside0.mk hv
  have p1 : (0 ≤ (m : Int)) = True := eq_true (by omega)
  have p2 : ((m : Int) < (ts : Int)) = True := eq_true (by omega)
  clear hr ht hm hv hl
  go_enter Tryz.func78, Tryz.ntmps78
  have hnil := neq_nil
  have ec : ∀ h, (({ data := #[194, 160] } : ByteArray)[0]'h) = 194 := fun _ => rfl
  go_wp2_with (fail)
  go_still_tail 7, (by kernel_rfl)
  change wpList _ _ _ _ _ w.drew
  have HR1 := Aside0.mk (blk_drew HR.out)
  have HT1 := Aside0.mk (blk_drew HT.out)
  have K1 := Aside0.mk ((Chg.refl (fun k => k = gt) w).drew)
  have SZ := Aside0.mk (show w.heap.size ≤ w.drew.heap.size from Nat.le_refl _)
  replace h4 : w.drew.cell? ⟨gr, 4, none⟩ = some (.slice (some ⟨gt, 0, none⟩) ts ts) := h4
  replace hT : w.drew.cell? ⟨gt, m, none⟩ = some (.pointer none) := hT
  replace fT : w.drew.frozen? ⟨gt, m, none⟩ = false := fT
  clear h1 h2 hM HR HT
  generalize w.drew = w1 at HR1 HT1 K1 SZ h4 hT fT ⊢
  go_wp2_with (first
    | ((with_reducible refine gate_dst (N := 210) rfl ?_); refine box_event ?hg (N := 210) ?hd (cs := nodeC eS 0 eS none nilS) (t := 157) ?hr ?_; (case hd => rfl); (case hg => rfl); (case hr => first | (go_simp; done) | (go_simp; rfl)); intro b2 hb2 w2 hbox hbel; clear h4 hT fT; have HR2 := Aside0.mk (blk_below HR1.out hbel); have HT2 := Aside0.mk (blk_below HT1.out hbel); have h4 : w2.cell? ⟨gr, 4, none⟩ = some (.slice (some ⟨gt, 0, none⟩) ts ts) := (blk_cell HR2.out 4).trans rfl; have hT : w2.cell? ⟨gt, m, none⟩ = some (.pointer none) := (blk_cell HT2.out _).trans (by rw [List.getElem?_toArray]; exact HV.out); have fT := blk_frozen HT2.out m; have HX2 := Aside0.mk hbox; have K2 := Aside0.mk (K1.out.below hbel); have HG2 := Aside0.mk hb2; clear hbox hbel hb2)
    | ((with_reducible refine gate_store (t := 154) (p := 211) rfl ?_); refine store_event (t := 154) (p := 211) (v := ?vo2) (w1 := w2.setCell ⟨gt, m, none⟩ (.pointer (some ⟨b2, 0, none⟩))) ?hg ?ho ?hn ?hr ?_; (case ho => rfl); (case hg => rfl); (case hn => rfl); (case hr => first | (go_simp; done) | (go_simp; rfl)); intro w3 hw3; clear h4 hT fT; have HR3 := Aside0.mk (show w3.heap[gr]? = some (.cells (rC gt ts M) 159 (0, 0)) from by rw [hw3]; exact blk_far' HR2.out (blk_ne HR2.out HT2.out (by decide)) _ _); have HT3 := Aside0.mk (show w3.heap[gt]? = some (.cells (tv.set m (.pointer (some ⟨b2, 0, none⟩))).toArray 154 (0, 0)) from by rw [hw3]; exact blk_put HT2.out m _ (by rw [List.setIfInBounds_toArray])); have HX3 := Aside0.mk (show w3.heap[b2]? = some (.cells (nodeC eS 0 eS none nilS) 157 (0, 0)) from by rw [hw3]; exact blk_far' HX2.out (blk_ne HX2.out HT2.out (by decide)) _ _); have K3 := Aside0.mk (show Chg (fun k => k = gt) w w3 from by rw [hw3]; exact K2.out.set (g := gt) (.inl rfl) _ _); have NT := Aside0.mk (show gt ≠ b2 from (blk_ne HX2.out HT2.out (by decide)).symm); have h4 : w3.cell? ⟨gr, 4, none⟩ = some (.slice (some ⟨gt, 0, none⟩) ts ts) := (blk_cell HR3.out 4).trans rfl; have hT : w3.cell? ⟨gt, m, none⟩ = some (.pointer (some ⟨b2, 0, none⟩)) := (blk_cell HT3.out _).trans (by rw [List.getElem?_toArray, List.getElem?_set_self (by have := (List.getElem?_eq_some_iff.1 HV.out).1; exact this)]); clear hw3))
  go_still_tail 12, (by kernel_rfl)
  change wpList _ _ _ _ _ w3.drew
  have HX4 := Aside0.mk (blk_drew HX3.out)
  have HT4 := Aside0.mk (blk_drew HT3.out)
  have K4 := Aside0.mk K3.out.drew
  have GB := Aside0.mk (show w.heap.size ≤ b2 from by rw [HG2.out]; exact SZ.out)
  clear h4 hT HR1 HR2 HR3 HX2 HX3 HT1 HT2 HT3 K1 K2 K3 HG2 SZ
  generalize w3.drew = w4 at HX4 HT4 K4 ⊢
  go_wp2_with (first
    | (go_at_call 78; refine (add_pre b2 val p (some ⟨gr, 0, none⟩) _ HX4.out).mono ?_; rintro e w5 ⟨rfl, b3, h3, hb, hb3, hc⟩))
  go_end0
  exact ⟨rfl, b2, b3, GB.out, Nat.le_trans K4.out.size h3, hc.blk HT4.out NT.out, hb, hb3, K4.out.then_ hc (fun k hk => .inr (by rw [hk]; exact GB.out))⟩
end Go.Proofs.YtjojmfhgfeflnaaGreatDoor.Trie
end
section
/- strings.makeGenericReplacer, walked: the places of the bytes, the table, the keys put in. -/
namespace Go.Proofs.YtjojmfhgfeflnaaGreatDoor.Trie
open Go Go.RowKit Go.Proofs.YtjojmfhgfeflnaaGreatDoorV.PrintWords Go.Proofs.YtjojmfhgfeflnaaGreatDoorV.PrintLast Go.Proofs.YtjojmfhgfeflnaaGreatDoorV.PrintMore
set_option linter.unusedVariables false
set_option linter.unusedSimpArgs false

abbrev strAt (L : List ByteArray) (i : Nat) : ByteArray := rdOf ByteArray.empty L (i : Int)
def byAt (s : ByteArray) (j : Nat) : Nat := (s.data.toList.getD j 0).toNat
/-- The bytes of the keys are marked. -/
def mkB (key : ByteArray) : Nat → List Int → List Int
  | 0, M => M
  | j + 1, M => (mkB key j M).set (byAt key j) 1
def mkA (L : List ByteArray) : Nat → List Int
  | 0 => List.replicate 256 0
  | q + 1 => mkB (strAt L (2 * q)) (strAt L (2 * q)).size (mkA L q)
theorem mkB_len (key : ByteArray) : ∀ j M, (mkB key j M).length = M.length
  | 0, M => rfl
  | j + 1, M => by unfold mkB; rw [List.length_set, mkB_len key j M]
theorem mkA_len (L : List ByteArray) : ∀ q, (mkA L q).length = 256
  | 0 => List.length_replicate
  | q + 1 => by unfold mkA; rw [mkB_len, mkA_len L q]
/-- How many bytes are marked. -/
def sumT (M : List Int) : Nat → Int
  | 0 => 0
  | i + 1 => wrap64 (sumT M i + wrap64 (M.getD i 0))
/-- The places of the marked bytes, in order; the others get the table's length. -/
def numM (M : List Int) (ts : Int) : Nat → List Int × Int
  | 0 => (M, 0)
  | i + 1 => if M.getD i 0 = 0 then ((numM M ts i).1.set i (IntKind.u8.wrap ts), (numM M ts i).2) else ((numM M ts i).1.set i (numM M ts i).2, IntKind.u8.wrap ((numM M ts i).2 + 1))
theorem numM_len (M : List Int) (ts : Int) : ∀ i, (numM M ts i).1.length = M.length
  | 0 => rfl
  | i + 1 => by
    unfold numM
    split
    · show ((numM M ts i).1.set _ _).length = _
      rw [List.length_set, numM_len M ts i]
    · show ((numM M ts i).1.set _ _).length = _
      rw [List.length_set, numM_len M ts i]
/-- The block of a replacer while it is made. -/
def rG (tbl : Value) (ts : Int) (M : List Int) : List Value := [.string eS, .int .i64 0, .string eS, .pointer none, tbl, .int .i64 ts] ++ M.map (Value.int .u8)
theorem rC_eq (gt ts : Nat) (M : List Int) : rC gt ts M = (rG (.slice (some ⟨gt, 0, none⟩) ts ts) ts M).toArray := rfl
theorem rG_map (tbl : Value) (ts : Int) (M : List Int) (i : Nat) (m : Int) : (rG tbl ts M).toArray.setIfInBounds (6 + i) (.int .u8 m) = (rG tbl ts (M.set i m)).toArray := by
  rw [List.setIfInBounds_toArray]
  unfold rG
  rw [List.set_append_right _ _ (by simp), show 6 + i - ([.string eS, .int .i64 0, .string eS, .pointer none, tbl, .int .i64 ts] : List Value).length = i by simp, List.map_set]
theorem rG_ts (tbl : Value) (ts : Int) (M : List Int) (m : Int) : (rG tbl ts M).toArray.setIfInBounds 5 (.int .i64 m) = (rG tbl m M).toArray := rfl
theorem rG_tbl (tbl tbl' : Value) (ts : Int) (M : List Int) : (rG tbl ts M).toArray.setIfInBounds 4 tbl' = (rG tbl' ts M).toArray := rfl
theorem rG_at {tbl : Value} {ts : Int} {M : List Int} {i : Nat} {m : Int} (h : M[i]? = some m) : (rG tbl ts M).toArray[6 + i]? = some (.int .u8 m) := by
  rw [List.getElem?_toArray]
  unfold rG
  rw [List.getElem?_append_right (by simp), show 6 + i - ([.string eS, .int .i64 0, .string eS, .pointer none, tbl, .int .i64 ts] : List Value).length = i by simp, List.getElem?_map, h]
  rfl
/-- The 256 cells behind the sixth are read as a whole. -/
theorem load_mid (w : World) (g off : Nat) (cs : List Value) (hl : cs.length = 256) (h : ∀ j v, cs[j]? = some v → w.cell? ⟨g, off + j, none⟩ = some v) : (loadVar 125 ⟨g, off, none⟩).run Tryz.prog w = .ok (.agg cs.toArray) w := by
  have hu : Tryz.prog.underlying 125 = some (.array 256 5) := Tryz.underlying125
  have hi : (Tryz.prog.info? 125).map (·.size) = some 256 := by kernel_rfl
  have hc : (loadCells ⟨g, off, none⟩ cs.length).run Tryz.prog w = .ok cs.toArray w :=
    run_loadCells_list (P := Tryz.prog) w ⟨g, off, none⟩ cs (fun j v hv => by
      have hadd : (⟨g, off, none⟩ : Addr).add j = ⟨g, off + j, none⟩ := by unfold Addr.add; split <;> simp_all
      rw [hadd]
      exact h j v hv)
  have hagg : (isAgg 125).run Tryz.prog w = .ok true w := by
    unfold isAgg
    rw [Sem.run_bind, run_underlying hu w]
    simp
  cases hq : Tryz.prog.info? 125 with
  | none => simp [hq] at hi
  | some i =>
    have hs : i.size = 256 := by simpa [hq] using hi
    rw [hl] at hc
    simp [loadVar, Sem.run_bind, hagg, sizeOf, typeInfo, hq, hs, hc]
theorem wpList_load_mid {ops : Array Oper} {rest : List Oper} {o : Oper} {a : Act} {w : World} {Q : Exit → Act → World → Prop} (hgd : o.guard = none) (x : Operand) (ho : o.op = .load 125 x)
    (g off : Nat) (hx : a.eval x = .pointer (some ⟨g, off, none⟩)) (cs : List Value) (hl : cs.length = 256) (hc : ∀ j v, cs[j]? = some v → w.cell? ⟨g, off + j, none⟩ = some v)
    (h : wpList Tryz.prog ops Q rest (a.put o.dst (.agg cs.toArray)) w) : wpList Tryz.prog ops Q (o :: rest) a w :=
  wpList_plain hgd fun K hK => by
    unfold Oper.wp execOp
    simp only [ho, hx, Instr.loadAt, Instr.sureAddr, Sem.run_bind, Sem.run_pure, Result.andThen_ok, load_mid w g off cs hl hc]
    exact hK _ _ h
theorem run_index_map (M : List Int) (hl : M.length = 256) (i : Nat) (hi : i < 256) (m : Int) (hm : M[i]? = some m) (w : World) : (Instr.index 125 (Value.agg (M.map (Value.int .u8)).toArray) (Value.int .i64 (i : Int))).run Tryz.prog w = .ok (Value.int .u8 m) w := by
  have hu : Tryz.prog.underlying 125 = some (.array 256 5) := Tryz.underlying125
  have hi5 : (Tryz.prog.info? 5).map (·.size) = some 1 := by kernel_rfl
  have hu5 := Tryz.underlying5
  cases hq : Tryz.prog.info? 5 with
  | none => simp [hq] at hi5
  | some z =>
    have hs : z.size = 1 := by simpa [hq] using hi5
    have h0 : (0 ≤ (i : Int) ∧ (i : Int) < 256) := by omega
    simp [Instr.index, run_underlying hu, asIntOf, Sem.run_bind, h0, part, isAgg, run_underlying hu5, sizeOf, typeInfo, hq, hs, hm, hl, go_sem]
    intro h
    omega
theorem make_tab (w : World) (tn : Nat) (h : tn ≤ 256) : (Instr.makeSlice 155 (.int .i64 (tn : Int)) (.int .i64 (tn : Int))).run Tryz.prog w = .ok (Value.slice (some ⟨w.heap.size, 0, none⟩) tn tn) (w.alloc (.cells (List.replicate tn (Value.pointer none)).toArray 154 (0, 0))) := by
  have hi : (Tryz.prog.info? 154).map (fun i => (i.zero, i.size, i.bytes)) = some (some (.pointer none), 1, 8) := by kernel_rfl
  obtain ⟨i0, h1, h2, h3, h4⟩ := info_parts hi
  have := run_makeSlice (P := Tryz.prog) w 155 154 i0 (.pointer none) Tryz.underlying155 h1 h2 .i64 .i64 (tn : Int) (tn : Int) (by omega) (by omega) (by rw [h3]; omega) (by rw [h4]; omega) (by omega)
  rw [this, h3]
  have e : madeCells (Value.cells (.pointer none)) ((tn : Int).toNat * 1) = (List.replicate tn (Value.pointer none)).toArray := by
    apply Array.ext
    · rw [size_madeCells]; simp
    · intro j _ _
      simp [madeCells, Value.cells, Nat.mod_one]
  rw [e, Int.toNat_natCast]
def keyS : Option UInt8 → ByteArray
  | some c => ⟨#[c]⟩
  | none => ⟨#[194, 160]⟩
def lead : Option UInt8 → Nat
  | some c => c.toNat
  | none => 194
def NodeP (W : World) : Option UInt8 → ByteArray → Int → Nat → Prop
  | some _, val, p, b => W.heap[b]? = some (.cells (nodeC val p eS none nilS) 157 (0, 0))
  | none, val, p, b => ∃ b3, W.heap[b]? = some (.cells (nodeC eS 0 ⟨#[160]⟩ (some ⟨b3, 0, none⟩) nilS) 157 (0, 0)) ∧ W.heap[b3]? = some (.cells (nodeC val p eS none nilS) 157 (0, 0))
theorem NodeP.chg {W W1 : World} {S : Nat → Prop} {k : Option UInt8} {val : ByteArray} {p : Int} {b : Nat} (h : NodeP W k val p b) (hc : Chg S W W1) (hs : ∀ g cs, W.heap[g]? = some (.cells cs 157 (0, 0)) → ¬ S g) : NodeP W1 k val p b := by
  cases k with
  | some c => exact hc.blk h (hs _ _ h)
  | none =>
    obtain ⟨b3, h1, h2⟩ := h
    exact ⟨b3, hc.blk h1 (hs _ _ h1), hc.blk h2 (hs _ _ h2)⟩
/-- What the table holds when the first q keys are in. -/
def TabP (W : World) (M : List Int) (ps : List (Option UInt8 × ByteArray)) (len q : Nat) (tv : List Value) : Prop :=
  ∀ m, m < tv.length → (tv[m]? = some (.pointer none) ∧ ∀ j p, j < q → ps[j]? = some p → M[lead p.1]? ≠ some (m : Int)) ∨
    ∃ j p b, j < q ∧ ps[j]? = some p ∧ M[lead p.1]? = some (m : Int) ∧ tv[m]? = some (.pointer (some ⟨b, 0, none⟩)) ∧ NodeP W p.1 p.2 ((len : Int) - (2 * j : Nat)) b
theorem TabP.chg {W W1 : World} {S : Nat → Prop} {M : List Int} {ps : List (Option UInt8 × ByteArray)} {len q : Nat} {tv : List Value} (h : TabP W M ps len q tv) (hc : Chg S W W1) (hs : ∀ g cs, W.heap[g]? = some (.cells cs 157 (0, 0)) → ¬ S g) : TabP W1 M ps len q tv := fun m hm => by
  rcases h m hm with h | ⟨j, p, b, h1, h2, h3, h4, h5⟩
  · exact .inl h
  · exact .inr ⟨j, p, b, h1, h2, h3, h4, h5.chg hc hs⟩
theorem TabP.put {W : World} {M : List Int} {ps : List (Option UInt8 × ByteArray)} {len q : Nat} {tv : List Value} (h : TabP W M ps len q tv) {p : Option UInt8 × ByteArray} (hp : ps[q]? = some p) {m b : Nat} (hm : M[lead p.1]? = some (m : Int)) (hml : m < tv.length)
    (hn : NodeP W p.1 p.2 ((len : Int) - (2 * q : Nat)) b) (hd : ∀ j p', j < q → ps[j]? = some p' → M[lead p'.1]? ≠ some (m : Int)) : TabP W M ps len (q + 1) (tv.set m (.pointer (some ⟨b, 0, none⟩))) := fun m' hm' => by
  rw [List.length_set] at hm'
  by_cases e : m' = m
  · subst e
    exact .inr ⟨q, p, b, Nat.lt_succ_self _, hp, hm, by rw [List.getElem?_set_self hm'], hn⟩
  · rw [List.getElem?_set_ne (fun x => e x.symm)]
    rcases h m' hm' with ⟨h1, h2⟩ | ⟨j, p', b', h1, h2, h3, h4, h5⟩
    · refine .inl ⟨h1, fun j p' hj hp' => ?_⟩
      by_cases ej : j = q
      · subst ej
        rw [hp] at hp'
        cases hp'
        rw [hm]
        intro x
        injection x with x
        omega
      · exact h2 j p' (by omega) hp'
    · exact .inr ⟨j, p', b', by omega, h2, h3, h4, h5⟩
/-- The pairs, and what must hold of the places of their bytes. -/
structure Pairs (L : List ByteArray) (M : List Int) (tn np : Nat) (ps : List (Option UInt8 × ByteArray)) : Prop where
  len : ps.length = np
  two : L.length = 2 * np
  small : np ≤ 400
  key : ∀ (j : Nat) p, ps[j]? = some p → strAt L (2 * j) = keyS p.1
  val : ∀ (j : Nat) p, ps[j]? = some p → strAt L (2 * j + 1) = p.2
  inn : ∀ (j : Nat) p, ps[j]? = some p → ∃ m : Nat, m < tn ∧ M[lead p.1]? = some (m : Int)
  apart : ∀ (j j' : Nat) p p', ps[j]? = some p → ps[j']? = some p' → M[lead p.1]? = M[lead p'.1]? → j = j'
set_option maxRecDepth 100000 in
set_option maxHeartbeats 8000000 in
theorem mk_calls (w : World) (A : Option Addr) (c : Nat) (L : List ByteArray) (hr : Kd.string.C w A L.length L) (hc : L.length ≤ c) (hl : L.length ≤ 1000) (np : Nat) (h2 : L.length = 2 * np) (hk : ∀ i, i < L.length → (strAt L i).size ≤ 1000) (tn : Nat) (hts : sumT (mkA L np) 256 = (tn : Int)) (htn : tn ≤ 256) (ps : List (Option UInt8 × ByteArray)) (hp : ∀ M, M = (numM (mkA L np) (tn : Int) 256).1 → Pairs L M tn np ps) :
    Calls Tryz.prog 71 #[.slice A L.length c] w fun e w' => ∃ gr gt tv M, e = .returned (.pointer (some ⟨gr, 0, none⟩)) ∧ Below w.heap.size w w' ∧ w.heap.size ≤ gr ∧ w.heap.size ≤ gt ∧ M = (numM (mkA L np) (tn : Int) 256).1 ∧ w'.heap[gr]? = some (.cells (rC gt tn M) 159 (0, 0)) ∧ w'.heap[gt]? = some (.cells tv.toArray 154 (0, 0)) ∧ tv.length = tn ∧ TabP w' M ps L.length np tv := by
  have HR := Aside0.mk hr
  have HC := Aside0.mk hc
  have HL := Aside0.mk hl
  have H2 := Aside0.mk h2
  have HK := Aside0.mk hk
  have HTS0 := Aside0.mk hts
  have HTN := Aside0.mk htn
  have HP0 : ∀ M, M = (numM (mkA L np) (tn : Int) 256).1 → Pairs L M tn np ps := hp
  clear hp
  replace HP0 := Aside0.mk HP0
  clear hr hc hl h2 hk hts htn
  go_enter Tryz.func71, Tryz.ntmps71
  go_wp2_with (first
    | ((with_reducible refine gate_dst (N := 13) rfl ?_); refine box_event ?hg (N := 13) ?hd (cs := (rG nilS 0 (List.replicate 256 0)).toArray) (t := 159) ?hr ?_; (case hd => rfl); (case hg => rfl); (case hr => first | (go_simp; done) | (go_simp; rfl)); intro gr hgr w1 hbox hbel; have HG := Aside0.mk (show w.heap.size ≤ gr from by rw [hgr]; exact Nat.le_refl _); have HB1 := Aside0.mk hbel; have HX1 := Aside0.mk hbox; clear hgr hbox hbel))
  go_loopg [4] np (fun kq v4 w' => ∃ (i q : Nat), v4 = .int .i64 (i : Int) ∧ Aside0 (i = 2 * q) ∧ Aside0 (kq + q = np) ∧ Aside0 (Below w.heap.size w w') ∧ Aside0 (w'.heap[gr]? = some (.cells (rG nilS 0 (mkA L q)).toArray 159 (0, 0))))
  case atStart => exact ⟨0, 0, rfl, ⟨rfl⟩, ⟨by omega⟩, HB1, HX1⟩
  case round =>
    clear HB1 HX1
    obtain ⟨i, q, rfl, HI, HQ, HB, HX⟩ := hrel
    by_cases hq : q < np
    · have dj : decide ((i : Int) < (L.length : Int)) = true := decide_eq_true (by have := H2.out; have := HI.out; omega)
      have dj2 : decide (i < L.length) = true := decide_eq_true (by have := H2.out; have := HI.out; omega)
      have p5 : (0 ≤ (i : Int)) = True := eq_true (by omega)
      have q5 : ((i : Int) < (L.length : Int)) = True := eq_true (by have := H2.out; have := HI.out; omega)
      have hw2 : wrap64 ((i : Int) + 2) = ((i + 2 : Nat) : Int) := by have := H2.out; have := HI.out; have := HL.out; unfold wrap64; omega
      obtain ⟨ad, eA, hx⟩ := Kd.at_string (Kd.C_below HR.out HB.out) (i : Int) (by omega) (by have := H2.out; have := HI.out; omega)
      subst eA
      rw [Int.toNat_natCast] at hx
      obtain ⟨key, ek⟩ : ∃ key, key = strAt L (2 * q) := ⟨_, rfl⟩
      rw [show rdOf ByteArray.empty L (i : Int) = key from by rw [ek, HI.out]] at hx
      have HKS := Aside0.mk (show key.size ≤ 1000 from by rw [ek]; exact HK.out _ (by have := H2.out; omega))
      have EK := Aside0.mk ek
      have QQ := Aside0.mk hq
      clear hq ek
      go_wp2_with (fail)
      clear dj dj2 p5 q5 hx
      go_loopg [6] key.size (fun kq v6 w' => ∃ (j : Nat), v6 = .int .i64 (j : Int) ∧ Aside0 (kq + j = key.size) ∧ Aside0 (Below w.heap.size w w') ∧ Aside0 (w'.heap[gr]? = some (.cells (rG nilS 0 (mkB key j (mkA L q))).toArray 159 (0, 0))))
      case atStart => exact ⟨0, rfl, ⟨by omega⟩, HB, HX⟩
      case round =>
        clear HB HX
        obtain ⟨j, rfl, HJ, HB, HX⟩ := hrel
        by_cases hj : j < key.size
        · have dj : decide ((j : Int) < (key.size : Int)) = true := decide_eq_true (by omega)
          have dj2 : decide (j < key.size) = true := decide_eq_true hj
          have p5 : (0 ≤ (j : Int)) = True := eq_true (by omega)
          have q5 : ((j : Int) < (key.size : Int)) = True := eq_true (by omega)
          have hwj : wrap64 ((j : Int) + 1) = ((j + 1 : Nat) : Int) := by have := HKS.out; unfold wrap64; omega
          obtain ⟨x, ex⟩ : ∃ x : UInt8, x = key[j] := ⟨_, rfl⟩
          have ec : ∀ h, (key[(j : Int).toNat]'h) = x := fun _ => ex.symm
          have ec2 : ∀ h, (key[j]'h) = x := fun _ => ex.symm
          have EB := Aside0.mk (show byAt key j = x.toNat from by rw [ex]; unfold byAt; rw [List.getD_eq_getElem?_getD]; exact congrArg UInt8.toNat (by rw [List.getElem?_eq_getElem (by simpa using hj)]; rfl))
          have hcl := x.toNat_lt
          have c1 : ((x.toNat : Int) < 256) = True := eq_true (by omega)
          have c2 : (x.toNat < 256) = True := eq_true (by omega)
          have hX : ∃ v, wr.cell? ⟨gr, 6 + x.toNat, none⟩ = some v := ⟨_, (blk_cell HX.out _).trans (rG_at (List.getElem?_eq_getElem (by rw [mkB_len, mkA_len]; omega)))⟩
          obtain ⟨v0, hX⟩ := hX
          have fX := blk_frozen HX.out (6 + x.toNat)
          have JJ := Aside0.mk hj
          clear ex hj
          go_wp2_with (fail)
          go_still_tail 7, (by kernel_rfl)
          change wpList _ _ _ _ _ wr.drew
          have HB2 := Aside0.mk (below_drew1 HB.out)
          have HX2 := Aside0.mk (blk_drew HX.out)
          replace hX : wr.drew.cell? ⟨gr, 6 + x.toNat, none⟩ = some v0 := hX
          replace fX : wr.drew.frozen? ⟨gr, 6 + x.toNat, none⟩ = false := fX
          clear HB HX
          generalize wr.drew = w2 at HB2 HX2 hX fX ⊢
          go_wp2_with (first
            | ((with_reducible refine gate_store (t := 5) (p := 36) rfl ?_); refine store_event (t := 5) (p := 36) (v := ?vo3) (w1 := w2.setCell ⟨gr, 6 + x.toNat, none⟩ (.int .u8 1)) ?hg ?ho ?hn ?hr ?_; (case ho => rfl); (case hg => rfl); (case hn => rfl); (case hr => first | (go_simp; done) | (go_simp; rfl)); intro w3 hw3; have HB3 := Aside0.mk (show Below w.heap.size w w3 from by rw [hw3]; exact below_set HB2.out HG.out); have HX3 := Aside0.mk (show w3.heap[gr]? = some (.cells (rG nilS 0 (mkB key (j + 1) (mkA L q))).toArray 159 (0, 0)) from by rw [hw3]; refine blk_put HX2.out _ _ ?_; rw [rG_map]; show _ = (rG nilS 0 ((mkB key j (mkA L q)).set (byAt key j) 1)).toArray; rw [EB.out]); clear hw3 hX fX HB2 HX2))
          go_roundg (key.size - j - 1)
          case measure => have := HJ.out; have := JJ.out; omega
          case rel => exact ⟨j + 1, by rw [hwj], ⟨by have := HJ.out; have := JJ.out; omega⟩, HB3, HX3⟩
        · have dj : decide ((j : Int) < (key.size : Int)) = false := decide_eq_false (by omega)
          have dj2 : decide (j < key.size) = false := decide_eq_false hj
          have ej : j = key.size := by have := HJ.out; omega
          subst ej
          clear dj2
          go_wp2_with (fail)
          go_roundg (np - q - 1)
          case measure => have := HQ.out; have := QQ.out; omega
          case rel => exact ⟨i + 2, q + 1, by rw [hw2], ⟨by have := HI.out; omega⟩, ⟨by have := HQ.out; have := QQ.out; omega⟩, HB, ⟨by have := HX.out; rw [EK.out] at this; exact this⟩⟩
    · have dj : decide ((i : Int) < (L.length : Int)) = false := decide_eq_false (by have := H2.out; have := HI.out; omega)
      have dj2 : decide (i < L.length) = false := decide_eq_false (by have := H2.out; have := HI.out; omega)
      have eq_ : q = np := by have := HQ.out; omega
      have HX1 := Aside0.mk (show wr.heap[gr]? = some (.cells (rG nilS 0 (mkA L np)).toArray 159 (0, 0)) from by rw [← eq_]; exact HX.out)
      obtain ⟨M1, eM⟩ : ∃ M1, M1 = mkA L np := ⟨_, rfl⟩
      rw [← eM] at HX1
      have EM := Aside0.mk eM
      have LM := Aside0.mk (show M1.length = 256 from by rw [eM]; exact mkA_len L np)
      clear eM eq_ HX HI HQ hq
      go_wp2_with (first
        | ((with_reducible refine gate_dst (N := 40) rfl ?_); refine wpList_load_mid rfl (.tmp 39) rfl gr 6 rfl (M1.map (Value.int .u8)) (by rw [List.length_map]; exact LM.out) (fun j v hv => by rw [List.getElem?_map] at hv; cases hm : M1[j]? with | none => rw [hm] at hv; cases hv | some m => rw [hm] at hv; cases hv; exact (blk_cell HX1.out _).trans (rG_at hm)) ?_))
      go_loopg [41] 256 (fun kq v41 w' => ∃ (i : Nat), v41 = .int .i64 (i : Int) ∧ Aside0 (kq + i = 256) ∧ Aside0 (Below w.heap.size w w') ∧ Aside0 (w'.heap[gr]? = some (.cells (rG nilS (sumT M1 i) M1).toArray 159 (0, 0))))
      case atStart => exact ⟨0, rfl, ⟨by omega⟩, HB, HX1⟩
      case round =>
        clear HB HX1
        obtain ⟨i, rfl, HI, HB, HX⟩ := hrel
        by_cases hi : i < 256
        · have dj : decide ((i : Int) < 256) = true := decide_eq_true (by omega)
          have dj2 : decide (i < 256) = true := decide_eq_true hi
          have hwi : wrap64 ((i : Int) + 1) = ((i + 1 : Nat) : Int) := by unfold wrap64; omega
          obtain ⟨m, em⟩ : ∃ m, M1[i]? = some m := ⟨_, List.getElem?_eq_getElem (by rw [LM.out]; exact hi)⟩
          have hix := run_index_map M1 LM.out i hi m em
          have h5 : wr.cell? ⟨gr, 5, none⟩ = some (.int .i64 (sumT M1 i)) := (blk_cell HX.out 5).trans rfl
          have f5 := blk_frozen HX.out 5
          have EM2 := Aside0.mk em
          clear em
          go_wp2_with (first
            | ((with_reducible refine gate_store (t := 3) (p := 52) rfl ?_); refine store_event (t := 3) (p := 52) (v := ?vo4) (w1 := wr.setCell ⟨gr, 5, none⟩ (.int .i64 (wrap64 (sumT M1 i + wrap64 m)))) ?hg ?ho ?hn ?hr ?_; (case ho => rfl); (case hg => rfl); (case hn => rfl); (case hr => first | (go_simp; done) | (go_simp; rfl)); intro w3 hw3; have HB3 := Aside0.mk (show Below w.heap.size w w3 from by rw [hw3]; exact below_set HB.out HG.out); have HX3 := Aside0.mk (show w3.heap[gr]? = some (.cells (rG nilS (sumT M1 (i + 1)) M1).toArray 159 (0, 0)) from by rw [hw3]; refine blk_put HX.out _ _ ?_; rw [rG_ts]; show _ = (rG nilS (wrap64 (sumT M1 i + wrap64 (M1.getD i 0))) M1).toArray; rw [List.getD_eq_getElem?_getD, EM2.out]; rfl); clear hw3 h5 f5 HB HX))
          go_roundg (256 - i - 1)
          case measure => have := HI.out; omega
          case rel => exact ⟨i + 1, congrArg (Value.int .i64) (by omega), ⟨by have := HI.out; omega⟩, HB3, HX3⟩
        · have dj : decide ((i : Int) < 256) = false := decide_eq_false (by omega)
          have dj2 : decide (i < 256) = false := decide_eq_false hi
          have ei : i = 256 := by have := HI.out; omega
          have HX1 := Aside0.mk (show wr.heap[gr]? = some (.cells (rG nilS (sumT M1 256) M1).toArray 159 (0, 0)) from by rw [← ei]; exact HX.out)
          obtain ⟨ts, et⟩ : ∃ ts, ts = sumT M1 256 := ⟨_, rfl⟩
          rw [← et] at HX1
          have ET := Aside0.mk et
          have HTS := Aside0.mk (show sumT M1 256 = (tn : Int) from by rw [EM.out]; exact HTS0.out)
          clear et ei HX HI hi
          go_wp2_with (first
            | ((with_reducible refine gate_dst (N := 57) rfl ?_); refine wpList_load_mid rfl (.tmp 56) rfl gr 6 rfl (M1.map (Value.int .u8)) (by rw [List.length_map]; exact LM.out) (fun j v hv => by rw [List.getElem?_map] at hv; cases hm : M1[j]? with | none => rw [hm] at hv; cases hv | some m => rw [hm] at hv; cases hv; exact (blk_cell HX1.out _).trans (rG_at hm)) ?_))
          clear dj dj2
          go_loopg [58, 9] 256 (fun kq v58 v9 w' => ∃ (i : Nat), v58 = .int .i64 (i : Int) ∧ Aside0 (kq + i = 256) ∧ v9 = .int .u8 (numM M1 ts i).2 ∧ Aside0 (Below w.heap.size w w') ∧ Aside0 (w'.heap[gr]? = some (.cells (rG nilS ts (numM M1 ts i).1).toArray 159 (0, 0))))
          case atStart => exact ⟨0, rfl, ⟨by omega⟩, rfl, HB, HX1⟩
          case round =>
            clear HB HX1
            obtain ⟨i, rfl, HI, rfl, HB, HX⟩ := hrel
            by_cases hi : i < 256
            · have dj : decide ((i : Int) < 256) = true := decide_eq_true (by omega)
              have dj2 : decide (i < 256) = true := decide_eq_true hi
              have hwi : wrap64 ((i : Int) + 1) = ((i + 1 : Nat) : Int) := by unfold wrap64; omega
              obtain ⟨m, em⟩ : ∃ m, M1[i]? = some m := ⟨_, List.getElem?_eq_getElem (by rw [LM.out]; exact hi)⟩
              have hix := run_index_map M1 LM.out i hi m em
              obtain ⟨M, eM⟩ : ∃ M, M = (numM M1 ts i).1 := ⟨_, rfl⟩
              obtain ⟨x, ex⟩ : ∃ x, x = (numM M1 ts i).2 := ⟨_, rfl⟩
              rw [← ex]
              rw [← eM] at HX
              have LM2 := Aside0.mk (show M.length = 256 from by rw [eM, numM_len]; exact LM.out)
              have h5 : wr.cell? ⟨gr, 5, none⟩ = some (.int .i64 ts) := (blk_cell HX.out 5).trans rfl
              obtain ⟨v0, hX⟩ : ∃ v, wr.cell? ⟨gr, 6 + i, none⟩ = some v := ⟨_, (blk_cell HX.out _).trans (rG_at (List.getElem?_eq_getElem (by rw [LM2.out]; exact hi)))⟩
              have fX := blk_frozen HX.out (6 + i)
              have p5 : (0 ≤ (i : Int)) = True := eq_true (by omega)
              have q5 : ((i : Int) < 256) = True := eq_true (by omega)
              have EM2 := Aside0.mk em
              have EE := Aside0.mk (And.intro eM ex)
              have II := Aside0.mk hi
              clear em eM ex hi
              by_cases hm0 : m = 0
              · subst hm0
                go_wp2_with (fail)
                go_still_tail 10, (by kernel_rfl)
                change wpList _ _ _ _ _ wr.drew
                have HB2 := Aside0.mk (below_drew1 HB.out)
                have HX2 := Aside0.mk (blk_drew HX.out)
                replace hX : wr.drew.cell? ⟨gr, 6 + i, none⟩ = some v0 := hX
                replace fX : wr.drew.frozen? ⟨gr, 6 + i, none⟩ = false := fX
                clear HB HX h5
                generalize wr.drew = w2 at HB2 HX2 hX fX ⊢
                go_wp2_with (first
                  | ((with_reducible refine gate_store (t := 5) (p := 73) rfl ?_); refine store_event (t := 5) (p := 73) (v := ?vo5) (w1 := w2.setCell ⟨gr, 6 + i, none⟩ (.int .u8 (IntKind.u8.wrap ts))) ?hg ?ho ?hn ?hr ?_; (case ho => rfl); (case hg => rfl); (case hn => rfl); (case hr => first | (go_simp; done) | (go_simp; rfl)); intro w3 hw3; have HB3 := Aside0.mk (show Below w.heap.size w w3 from by rw [hw3]; exact below_set HB2.out HG.out); have HX3 := Aside0.mk (show w3.heap[gr]? = some (.cells (rG nilS ts (M.set i (IntKind.u8.wrap ts))).toArray 159 (0, 0)) from by rw [hw3]; exact blk_put HX2.out _ _ (rG_map _ _ _ _ _)); clear hw3 hX fX HB2 HX2))
                have NE := Aside0.mk (show numM M1 ts (i + 1) = (M.set i (IntKind.u8.wrap ts), x) from by rw [EE.out.1, EE.out.2]; exact if_pos (by rw [List.getD_eq_getElem?_getD, EM2.out]; rfl))
                go_roundg (256 - i - 1)
                case measure => have := HI.out; have := II.out; omega
                case rel => exact ⟨i + 1, congrArg (Value.int .i64) (by omega), ⟨by have := HI.out; have := II.out; omega⟩, by rw [NE.out], HB3, ⟨by rw [NE.out]; exact HX3.out⟩⟩
              · have hm1 : (m == 0) = false := beq_eq_false_iff_ne.mpr hm0
                go_wp2_with (first
                  | ((with_reducible refine gate_store (t := 5) (p := 79) rfl ?_); refine store_event (t := 5) (p := 79) (v := ?vo6) (w1 := wr.setCell ⟨gr, 6 + i, none⟩ (.int .u8 x)) ?hg ?ho ?hn ?hr ?_; (case ho => rfl); (case hg => rfl); (case hn => rfl); (case hr => first | (go_simp; done) | (go_simp; rfl)); intro w3 hw3; have HB3 := Aside0.mk (show Below w.heap.size w w3 from by rw [hw3]; exact below_set HB.out HG.out); have HX3 := Aside0.mk (show w3.heap[gr]? = some (.cells (rG nilS ts (M.set i x)).toArray 159 (0, 0)) from by rw [hw3]; exact blk_put HX.out _ _ (rG_map _ _ _ _ _)); clear hw3 hX fX h5 HB HX))
                have NE := Aside0.mk (show numM M1 ts (i + 1) = (M.set i x, IntKind.u8.wrap (x + 1)) from by rw [EE.out.1, EE.out.2]; exact if_neg (by rw [List.getD_eq_getElem?_getD, EM2.out]; exact hm0))
                go_roundg (256 - i - 1)
                case measure => have := HI.out; have := II.out; omega
                case rel => exact ⟨i + 1, congrArg (Value.int .i64) (by omega), ⟨by have := HI.out; have := II.out; omega⟩, by rw [NE.out]; exact congrArg (Value.int .u8) (IntKind.wrap_u8 _).symm, HB3, ⟨by rw [NE.out]; exact HX3.out⟩⟩
            · have dj : decide ((i : Int) < 256) = false := decide_eq_false (by omega)
              have dj2 : decide (i < 256) = false := decide_eq_false hi
              have ei : i = 256 := by have := HI.out; omega
              have HX1 := Aside0.mk (show wr.heap[gr]? = some (.cells (rG nilS ts (numM M1 ts 256).1).toArray 159 (0, 0)) from by rw [← ei]; exact HX.out)
              clear ei HX HI hi
              have ETN := ET.out.trans HTS.out
              subst ETN
              clear ET
              have h5 : wr.cell? ⟨gr, 5, none⟩ = some (.int .i64 tn) := (blk_cell HX1.out 5).trans rfl
              obtain ⟨Mf, eMf⟩ : ∃ Mf, Mf = (numM M1 (tn : Int) 256).1 := ⟨_, rfl⟩
              rw [← eMf] at HX1
              have EF := Aside0.mk (show Mf = (numM (mkA L np) (tn : Int) 256).1 from by rw [eMf, EM.out])
              clear eMf
              go_wp2_with (first
                | ((with_reducible refine gate_dst (N := 88) rfl ?_); refine Kd.event_run (v := .slice (some ⟨wr.heap.size, 0, none⟩) tn tn) (w1 := wr.alloc (.cells (List.replicate tn (Value.pointer none)).toArray 154 (0, 0))) rfl ?hs88 ?_; (case hs88 => first | (have := make_tab wr tn HTN.out; unfold execOp; simp [this, Result.andThen]; done) | (show (Instr.makeSlice 155 (.int .i64 (tn : Int)) (.int .i64 (tn : Int)) >>= fun a => pure (Next.value a)).run Tryz.prog wr = _; rw [Sem.run_bind, make_tab wr tn HTN.out]; rfl)); have HT1 := Aside0.mk (blk_new wr (.cells (List.replicate tn (Value.pointer none)).toArray 154 (0, 0))); have HB1 := Aside0.mk (below_alloc HB.out (.cells (List.replicate tn (Value.pointer none)).toArray 154 (0, 0))); have HX2 := Aside0.mk (blk_alloc HX1.out (.cells (List.replicate tn (Value.pointer none)).toArray 154 (0, 0))); obtain ⟨gt, egt⟩ : ∃ gt, gt = wr.heap.size := ⟨_, rfl⟩; have GT := Aside0.mk (show w.heap.size ≤ gt from by rw [egt]; exact HB.out.size); rw [← egt] at HT1 ⊢; clear egt HB h5 HX1; generalize wr.alloc (.cells (List.replicate tn (Value.pointer none)).toArray 154 (0, 0)) = w2 at HB1 HX2 HT1 ⊢; have h4 : w2.cell? ⟨gr, 4, none⟩ = some nilS := (blk_cell HX2.out 4).trans rfl; have f4 := blk_frozen HX2.out 4)
                | ((with_reducible refine gate_store (t := 155) (p := 91) rfl ?_); refine store_event (t := 155) (p := 91) (v := ?vo7) (w1 := w2.setCell ⟨gr, 4, none⟩ (.slice (some ⟨gt, 0, none⟩) tn tn)) ?hg ?ho ?hn ?hr ?_; (case ho => rfl); (case hg => rfl); (case hn => rfl); (case hr => first | (go_simp; done) | (go_simp; rfl)); intro w3 hw3; have HB3 := Aside0.mk (show Below w.heap.size w w3 from by rw [hw3]; exact below_set HB1.out HG.out); have HX3 := Aside0.mk (show w3.heap[gr]? = some (.cells (rC gt tn Mf) 159 (0, 0)) from by rw [hw3]; exact blk_put HX2.out _ _ (rG_tbl _ _ _ _)); have HT3 := Aside0.mk (show w3.heap[gt]? = some (.cells (List.replicate tn (Value.pointer none)).toArray 154 (0, 0)) from by rw [hw3]; exact blk_far' HT1.out (blk_ne HT1.out HX2.out (by decide)) _ _); clear hw3 h4 f4 HB1 HX2 HT1))
              have HP := Aside0.mk (HP0.out Mf EF.out)
              go_loopg [12] np (fun kq v12 w' => ∃ (i q : Nat) (tv : List Value), v12 = .int .i64 (i : Int) ∧ Aside0 (i = 2 * q) ∧ Aside0 (kq + q = np) ∧ Aside0 (tv.length = tn) ∧ Aside0 (Below w.heap.size w w') ∧ Aside0 (w'.heap[gr]? = some (.cells (rC gt tn Mf) 159 (0, 0))) ∧ Aside0 (w'.heap[gt]? = some (.cells tv.toArray 154 (0, 0))) ∧ Aside0 (TabP w' Mf ps L.length q tv))
              case atStart => exact ⟨0, 0, List.replicate tn (Value.pointer none), rfl, ⟨rfl⟩, ⟨by omega⟩, ⟨List.length_replicate⟩, HB3, HX3, HT3, ⟨fun m hm => .inl ⟨by rw [List.getElem?_replicate, if_pos (by rw [List.length_replicate] at hm; exact hm)], fun j p hj => absurd hj (by omega)⟩⟩⟩
              case round =>
                clear HB3 HX3 HT3
                obtain ⟨i, q, tv, rfl, HI, HQ, HL2, HB, HX, HT, HTP⟩ := hrel
                by_cases hq : q < np
                · have dj : decide ((i : Int) < (L.length : Int)) = true := decide_eq_true (by have := H2.out; have := HI.out; omega)
                  have dj2 : decide (i < L.length) = true := decide_eq_true (by have := H2.out; have := HI.out; omega)
                  have p5 : (0 ≤ (i : Int)) = True := eq_true (by omega)
                  have q5 : ((i : Int) < (L.length : Int)) = True := eq_true (by have := H2.out; have := HI.out; omega)
                  have p6 : (0 ≤ (i : Int) + 1) = True := eq_true (by omega)
                  have q6 : ((i : Int) + 1 < (L.length : Int)) = True := eq_true (by have := H2.out; have := HI.out; omega)
                  have e6 : ((i : Int) + 1).toNat = i + 1 := by omega
                  have hw1 : wrap64 ((i : Int) + 1) = (i : Int) + 1 := by have := H2.out; have := HI.out; have := HL.out; unfold wrap64; omega
                  have hv1 : IntKind.i64.wrap ((i : Int) + 1) = (i : Int) + 1 := by have := H2.out; have := HI.out; have := HL.out; rw [IntKind.wrap_i64]; omega
                  have hw2 : wrap64 ((i : Int) + 2) = ((i + 2 : Nat) : Int) := by have := H2.out; have := HI.out; have := HL.out; unfold wrap64; omega
                  have hw3 : wrap64 ((L.length : Int) - (i : Int)) = (L.length : Int) - (i : Int) := by have := H2.out; have := HI.out; have := HL.out; unfold wrap64; omega
                  have hv3 : IntKind.i64.wrap ((L.length : Int) - (i : Int)) = (L.length : Int) - (i : Int) := by have := H2.out; have := HI.out; have := HL.out; rw [IntKind.wrap_i64]; omega
                  obtain ⟨pr, hpr⟩ : ∃ pr, ps[q]? = some pr := ⟨_, List.getElem?_eq_getElem (by rw [HP.out.len]; exact hq)⟩
                  obtain ⟨ad, eA, hx⟩ := Kd.at_string (Kd.C_below HR.out HB.out) (i : Int) (by omega) (by have := H2.out; have := HI.out; omega)
                  obtain ⟨ad2, eA2, hy⟩ := Kd.at_string (Kd.C_below HR.out HB.out) ((i + 1 : Nat) : Int) (by omega) (by have := H2.out; have := HI.out; omega)
                  cases eA
                  cases eA2
                  rw [Int.toNat_natCast] at hx hy
                  have hy0 := hy
                  simp only [go_sem] at hy0
                  rw [show rdOf ByteArray.empty L (i : Int) = keyS pr.1 from by rw [HI.out]; exact HP.out.key q pr hpr] at hx
                  rw [show rdOf ByteArray.empty L ((i + 1 : Nat) : Int) = pr.2 from by rw [HI.out]; exact HP.out.val q pr hpr] at hy hy0
                  have QQ := Aside0.mk hq
                  obtain ⟨m, hml, hmm⟩ := HP.out.inn q pr hpr
                  have hnil : tv[m]? = some (.pointer none) := by
                    rcases HTP.out m (by rw [HL2.out]; exact hml) with ⟨h1, _⟩ | ⟨j, p', b, h1, h2, h3, h4, h5⟩
                    · exact h1
                    · exact absurd (HP.out.apart j q p' pr h2 hpr (h3.trans hmm.symm)) (by omega)
                  have HD := Aside0.mk (show ∀ (j : Nat) p', j < q → ps[j]? = some p' → Mf[lead p'.1]? ≠ some (m : Int) from fun j p' hj hp' e => absurd (HP.out.apart j q p' pr hp' hpr (e.trans hmm.symm)) (by omega))
                  obtain ⟨k, val⟩ := pr
                  have HPR := Aside0.mk hpr
                  have HMM := Aside0.mk hmm
                  have HML := Aside0.mk hml
                  have HN := Aside0.mk hnil
                  clear hq hpr hmm hml hnil
                  cases k with
                  | some c =>
                    replace hx : wr.cell? (ad.add i) = some (.string ⟨#[c]⟩) := hx
                    go_wp2_with (fail)
                    go_still_tail 17, (by kernel_rfl)
                    change wpList _ _ _ _ _ wr.drew
                    have HB2 := Aside0.mk (below_drew1 HB.out)
                    have HX2 := Aside0.mk (blk_drew HX.out)
                    have HT2 := Aside0.mk (blk_drew HT.out)
                    have HTP2 := Aside0.mk (show TabP wr.drew Mf ps L.length q tv from HTP.out)
                    clear HB HX HT HTP hx hy
                    generalize wr.drew = w2 at HB2 HX2 HT2 HTP2 ⊢
                    go_wp2_with (first
                      | (go_at_call 78; refine (add_root1 c val ((L.length : Int) - (i : Int)) gr gt tn m Mf tv _ HX2.out HT2.out HL2.out HMM.out HN.out).mono ?_; rintro e w3 ⟨rfl, b2, hb2, ht3, hn3, hc⟩))
                    have HNT := Aside0.mk (show ∀ g cs, w2.heap[g]? = some (.cells cs 157 (0, 0)) → ¬ g = gt from fun g cs h => blk_ne h HT2.out (by decide))
                    have HB3 := Aside0.mk (hc.base HB2.out HB2.out.size (fun k hk => by rw [hk]; exact GT.out))
                    have HX3 := Aside0.mk (hc.blk HX2.out (blk_ne HX2.out HT2.out (by decide)))
                    have HT3 := Aside0.mk ht3
                    have HTP3 := Aside0.mk (show TabP w3 Mf ps L.length (q + 1) (tv.set m (.pointer (some ⟨b2, 0, none⟩))) from (HTP2.out.chg hc HNT.out).put HPR.out HMM.out (by rw [HL2.out]; exact HML.out) (show NodeP w3 (some c) val ((L.length : Int) - (2 * q : Nat)) b2 from by rw [show ((2 * q : Nat) : Int) = (i : Int) by rw [HI.out]]; exact hn3) HD.out)
                    clear hb2 ht3 hc HNT HB2 HX2 HT2 HTP2 hn3
                    go_roundg (np - q - 1)
                    case measure => have := HQ.out; have := QQ.out; omega
                    case rel => exact ⟨i + 2, q + 1, _, by rw [hw2], ⟨by have := HI.out; omega⟩, ⟨by have := HQ.out; have := QQ.out; omega⟩, ⟨by rw [List.length_set]; exact HL2.out⟩, HB3, HX3, HT3, HTP3⟩
                  | none =>
                    replace hx : wr.cell? (ad.add i) = some (.string ⟨#[194, 160]⟩) := hx
                    go_wp2_with (fail)
                    go_still_tail 17, (by kernel_rfl)
                    change wpList _ _ _ _ _ wr.drew
                    have HB2 := Aside0.mk (below_drew1 HB.out)
                    have HX2 := Aside0.mk (blk_drew HX.out)
                    have HT2 := Aside0.mk (blk_drew HT.out)
                    have HTP2 := Aside0.mk (show TabP wr.drew Mf ps L.length q tv from HTP.out)
                    clear HB HX HT HTP hx hy
                    generalize wr.drew = w2 at HB2 HX2 HT2 HTP2 ⊢
                    go_wp2_with (first
                      | (go_at_call 78; refine (add_root2 val ((L.length : Int) - (i : Int)) gr gt tn m Mf tv _ HX2.out HT2.out HL2.out HMM.out HN.out).mono ?_; rintro e w3 ⟨rfl, b2, b3, hb2, hb3, ht3, hn3, hn4, hc⟩))
                    have HNT := Aside0.mk (show ∀ g cs, w2.heap[g]? = some (.cells cs 157 (0, 0)) → ¬ g = gt from fun g cs h => blk_ne h HT2.out (by decide))
                    have HB3 := Aside0.mk (hc.base HB2.out HB2.out.size (fun k hk => by rw [hk]; exact GT.out))
                    have HX3 := Aside0.mk (hc.blk HX2.out (blk_ne HX2.out HT2.out (by decide)))
                    have HT3 := Aside0.mk ht3
                    have HTP3 := Aside0.mk (show TabP w3 Mf ps L.length (q + 1) (tv.set m (.pointer (some ⟨b2, 0, none⟩))) from (HTP2.out.chg hc HNT.out).put HPR.out HMM.out (by rw [HL2.out]; exact HML.out) (show NodeP w3 none val ((L.length : Int) - (2 * q : Nat)) b2 from by rw [show ((2 * q : Nat) : Int) = (i : Int) by rw [HI.out]]; exact ⟨b3, hn3, hn4⟩) HD.out)
                    clear hb2 ht3 hc HNT HB2 HX2 HT2 HTP2 hn3 hn4 hb3
                    go_roundg (np - q - 1)
                    case measure => have := HQ.out; have := QQ.out; omega
                    case rel => exact ⟨i + 2, q + 1, _, by rw [hw2], ⟨by have := HI.out; omega⟩, ⟨by have := HQ.out; have := QQ.out; omega⟩, ⟨by rw [List.length_set]; exact HL2.out⟩, HB3, HX3, HT3, HTP3⟩
                · have dj : decide ((i : Int) < (L.length : Int)) = false := decide_eq_false (by have := H2.out; have := HI.out; omega)
                  have dj2 : decide (i < L.length) = false := decide_eq_false (by have := H2.out; have := HI.out; omega)
                  have eq_ : q = np := by have := HQ.out; omega
                  have HTP2 := Aside0.mk (show TabP wr Mf ps L.length np tv from by rw [← eq_]; exact HTP.out)
                  clear eq_ HTP hq HI HQ
                  go_wp2_with (fail)
                  go_ret
                  exact ⟨gr, gt, tv, Mf, rfl, HB.out, HG.out, GT.out, EF.out, HX.out, HT.out, HL2.out, HTP2.out⟩
end Go.Proofs.YtjojmfhgfeflnaaGreatDoor.Trie
end
section
/- (*strings.Replacer).build and buildOnce, walked: where a key is of two bytes the replacer is the generic one. -/
namespace Go.Proofs.YtjojmfhgfeflnaaGreatDoor.Trie
open Go Go.RowKit Go.Proofs.YtjojmfhgfeflnaaGreatDoorV.PrintWords Go.Proofs.YtjojmfhgfeflnaaGreatDoorV.PrintLast Go.Proofs.YtjojmfhgfeflnaaGreatDoorV.PrintMore Go.Proofs.YtjojmfhgfeflnaaGreatDoor.Once
set_option linter.unusedVariables false
set_option linter.unusedSimpArgs false

/-- A generic replacer in memory. -/
def Gen (W : World) (L : List ByteArray) (np tn : Nat) (ps : List (Option UInt8 × ByteArray)) (base gr : Nat) : Prop :=
  ∃ gt tv M, base ≤ gr ∧ base ≤ gt ∧ M = (numM (mkA L np) (tn : Int) 256).1 ∧ W.heap[gr]? = some (.cells (rC gt tn M) 159 (0, 0)) ∧ W.heap[gt]? = some (.cells tv.toArray 154 (0, 0)) ∧ tv.length = tn ∧ TabP W M ps L.length np tv
/-- What the pairs must be. -/
structure Fit (L : List ByteArray) (np tn q0 : Nat) (ps : List (Option UInt8 × ByteArray)) : Prop where
  two : L.length = 2 * np
  small : L.length ≤ 1000
  more : 2 < L.length
  keys : ∀ i, i < L.length → (strAt L i).size ≤ 1000
  has : q0 < np
  one : ∀ q, q < q0 → (strAt L (2 * q)).size = 1
  nb : (strAt L (2 * q0)).size ≠ 1
  ts : sumT (mkA L np) 256 = (tn : Int)
  tl : tn ≤ 256
  pairs : ∀ M, M = (numM (mkA L np) (tn : Int) 256).1 → Pairs L M tn np ps
set_option maxRecDepth 100000 in
set_option maxHeartbeats 8000000 in
theorem build_calls (w : World) (b : Nat) (A : Option Addr) (c : Nat) (s : Int) (v3 : Value) (L : List ByteArray) (np tn q0 : Nat) (ps : List (Option UInt8 × ByteArray)) (hb : w.heap[b]? = some (.cells (onceC 0 1 s v3 (.slice A L.length c)) 117 (0, 0)))
    (hr : Kd.string.C w A L.length L) (hc : L.length ≤ c) (F : Fit L np tn q0 ps) :
    Calls Tryz.prog 62 #[.pointer (some ⟨b, 0, none⟩)] w fun e w' => ∃ gr, e = .returned (.iface 134 (.pointer (some ⟨gr, 0, none⟩))) ∧ Below w.heap.size w w' ∧ Gen w' L np tn ps w.heap.size gr := by
  have h4 : w.cell? ⟨b, 4, none⟩ = some (.slice A L.length c) := (blk_cell hb 4).trans rfl
  have HR := Aside0.mk hr
  have HC := Aside0.mk hc
  have FF := Aside0.mk F
  have z1 : ((L.length : Int) == 2) = false := beq_eq_false_iff_ne.mpr (by have := F.more; omega)
  have z2 : (L.length == 2) = false := beq_eq_false_iff_ne.mpr (by have := F.more; omega)
  clear hr hc F hb
  go_enter Tryz.func62, Tryz.ntmps62
  go_wp2_with (fail)
  go_loopg [5] (q0 + 1) (fun kq v5 w' => ∃ (i q : Nat), v5 = .int .i64 (i : Int) ∧ Aside0 (i = 2 * q) ∧ Aside0 (kq + q = q0 + 1 ∧ q ≤ q0) ∧ w' = w)
  case atStart => exact ⟨0, 0, rfl, ⟨rfl⟩, ⟨by omega, by omega⟩, rfl⟩
  case round =>
    obtain ⟨i, q, rfl, HI, HQ, rfl⟩ := hrel
    have hil : i + 1 < L.length := by have := FF.out.two; have := FF.out.has; have := HI.out; have := HQ.out; omega
    have hsm := FF.out.small
    have dj : decide ((i : Int) < (L.length : Int)) = true := decide_eq_true (by omega)
    have dj2 : decide (i < L.length) = true := decide_eq_true (by omega)
    have p5 : (0 ≤ (i : Int)) = True := eq_true (by omega)
    have q5 : ((i : Int) < (L.length : Int)) = True := eq_true (by omega)
    have p6 : (0 ≤ (i : Int) + 1) = True := eq_true (by omega)
    have q6 : ((i : Int) + 1 < (L.length : Int)) = True := eq_true (by omega)
    have e6 : ((i : Int) + 1).toNat = i + 1 := by omega
    have hw1 : wrap64 ((i : Int) + 1) = (i : Int) + 1 := by unfold wrap64; omega
    have hw2 : wrap64 ((i : Int) + 2) = ((i + 2 : Nat) : Int) := by unfold wrap64; omega
    obtain ⟨ad, eA, hx⟩ := Kd.at_string HR.out (i : Int) (by omega) (by omega)
    obtain ⟨ad2, eA2, hy⟩ := Kd.at_string HR.out ((i + 1 : Nat) : Int) (by omega) (by omega)
    cases eA
    cases eA2
    rw [Int.toNat_natCast] at hx hy
    rw [show rdOf ByteArray.empty L (i : Int) = strAt L (2 * q) from by rw [HI.out]] at hx
    have hy0 := hy
    simp only [go_sem] at hy0
    obtain ⟨key, ek⟩ : ∃ key, key = strAt L (2 * q) := ⟨_, rfl⟩
    obtain ⟨val, ev⟩ : ∃ val, val = rdOf ByteArray.empty L ((i + 1 : Nat) : Int) := ⟨_, rfl⟩
    rw [← ek] at hx
    rw [← ev] at hy hy0
    have EK := Aside0.mk ek
    have HIL := Aside0.mk hil
    clear ek ev hil hsm
    by_cases hq : q < q0
    · have hs : key.size = 1 := by rw [EK.out]; exact FF.out.one q hq
      have s1 : ((key.size : Int) != 1) = false := by rw [hs]; rfl
      have s2 : (key.size != 1) = false := by rw [hs]; rfl
      have QQ := Aside0.mk hq
      clear hs hq
      by_cases hv : val.size = 1
      · have s3 : ((val.size : Int) != 1) = false := by rw [hv]; rfl
        have s4 : (val.size != 1) = false := by rw [hv]; rfl
        clear hv
        go_wp2_with (fail)
        go_roundg (q0 - q)
        case measure => have := HQ.out; have := QQ.out; omega
        case rel => exact ⟨i + 2, q + 1, by rw [hw2], ⟨by have := HI.out; omega⟩, ⟨by have := QQ.out; omega, by have := QQ.out; omega⟩, rfl⟩
      · have s3 : ((val.size : Int) != 1) = true := bne_iff_ne.mpr (by omega)
        have s4 : (val.size != 1) = true := bne_iff_ne.mpr hv
        clear hv
        go_wp2_with (fail)
        go_roundg (q0 - q)
        case measure => have := HQ.out; have := QQ.out; omega
        case rel => exact ⟨i + 2, q + 1, by rw [hw2], ⟨by have := HI.out; omega⟩, ⟨by have := QQ.out; omega, by have := QQ.out; omega⟩, rfl⟩
    · have eq_ : q = q0 := by have := HQ.out; omega
      have hs : key.size ≠ 1 := by rw [EK.out, eq_]; exact FF.out.nb
      have s1 : ((key.size : Int) != 1) = true := bne_iff_ne.mpr (by omega)
      have s2 : (key.size != 1) = true := bne_iff_ne.mpr hs
      clear hs hq eq_
      go_wp2_with (first
        | (go_at_call 71; refine (mk_calls wr (some ad) c L HR.out HC.out FF.out.small np FF.out.two FF.out.keys tn FF.out.ts FF.out.tl ps FF.out.pairs).mono ?_; rintro e w2 ⟨gr, gt, tv, M, rfl, hb, h1, h2, h3, h4, h5, h6, h7⟩; have HB2 := Aside0.mk hb; have HG2 := Aside0.mk (show Gen w2 L np tn ps wr.heap.size gr from ⟨gt, tv, M, h1, h2, h3, h4, h5, h6, h7⟩); clear hb h1 h2 h3 h4 h5 h6 h7))
      go_ret
      exact ⟨gr, rfl, HB2.out, HG2.out⟩
section
variable {W W1 : World} {L : List ByteArray} {np tn : Nat} {ps : List (Option UInt8 × ByteArray)} {base gr : Nat} {S : Nat → Prop}
theorem Gen.chg (h : Gen W L np tn ps base gr) (hc : Chg S W W1) (hs : ∀ g cs T, T = 159 ∨ T = 154 ∨ T = 157 → W.heap[g]? = some (.cells cs T (0, 0)) → ¬ S g) : Gen W1 L np tn ps base gr := by
  obtain ⟨gt, tv, M, h1, h2, h3, h4, h5, h6, h7⟩ := h
  exact ⟨gt, tv, M, h1, h2, h3, hc.blk h4 (hs _ _ _ (.inl rfl) h4), hc.blk h5 (hs _ _ _ (.inr (.inl rfl)) h5), h6, h7.chg hc (fun g cs hg => hs _ _ _ (.inr (.inr rfl)) hg)⟩
theorem Gen.mono {base' : Nat} (h : Gen W L np tn ps base gr) (hb : base' ≤ base) : Gen W L np tn ps base' gr := by
  obtain ⟨gt, tv, M, h1, h2, h3, h4, h5, h6, h7⟩ := h
  exact ⟨gt, tv, M, by omega, by omega, h3, h4, h5, h6, h7⟩
theorem Gen.set44 (h : Gen W L np tn ps base gr) {b : Nat} {cs : Array Value} (hb : W.heap[b]? = some (.cells cs 117 (0, 0))) (i : Nat) (u : Value) : Gen (W.setCell ⟨b, i, none⟩ u) L np tn ps base gr :=
  h.chg ((Chg.refl (fun k => k = b) W).set (g := b) (.inl rfl) i u) (fun g cs' T hT hg e => by
    subst e
    exact blk_ne hg hb (by rcases hT with rfl | rfl | rfl <;> decide) rfl)
end
/-- What buildOnce has made. -/
def Made (w : World) (b : Nat) (s : Int) (L : List ByteArray) (np tn : Nat) (ps : List (Option UInt8 × ByteArray)) (w2 : World) : Prop :=
  ∃ gr, w2.heap[b]? = some (.cells (onceC 0 1 s (.iface 134 (.pointer (some ⟨gr, 0, none⟩))) nilS) 117 (0, 0)) ∧ Chg (fun k => k = b) w w2 ∧ Gen w2 L np tn ps w.heap.size gr
set_option maxRecDepth 100000 in
set_option maxHeartbeats 8000000 in
theorem buildOnce_calls (w : World) (b : Nat) (A : Option Addr) (c : Nat) (s : Int) (v3 : Value) (L : List ByteArray) (np tn q0 : Nat) (ps : List (Option UInt8 × ByteArray)) (hb : w.heap[b]? = some (.cells (onceC 0 1 s v3 (.slice A L.length c)) 117 (0, 0)))
    (hr : Kd.string.C w A L.length L) (hc : L.length ≤ c) (F : Fit L np tn q0 ps) :
    Calls Tryz.prog 57 #[.pointer (some ⟨b, 0, none⟩)] w fun e w' => e = .returned (.tuple #[]) ∧ Made w b s L np tn ps w' := by
  have HB := Aside0.mk hb
  have HR := Aside0.mk hr
  have HC := Aside0.mk hc
  have FF := Aside0.mk F
  clear hr hc F hb
  go_enter Tryz.func57, Tryz.ntmps57
  go_wp2_with (first
    | (go_at_call 62; refine (build_calls w b A c s v3 L np tn q0 ps HB.out HR.out HC.out FF.out).mono ?_; rintro e w2 ⟨gr, rfl, hb2, hg2⟩; have HB2 := Aside0.mk (blk_below HB.out hb2); have HG2 := Aside0.mk hg2; have K2 := Aside0.mk ((Chg.refl (fun k => k = b) w).below hb2); clear hb2 hg2; have h3 : w2.cell? ⟨b, 3, none⟩ = some v3 := (blk_cell HB2.out 3).trans rfl; have f3 := blk_frozen HB2.out 3)
    | ((with_reducible refine gate_store (t := 115) (p := 6) rfl ?_); refine store_event (t := 115) (p := 6) (v := ?vo1) (w1 := w2.setCell ⟨b, 3, none⟩ (.iface 134 (.pointer (some ⟨gr, 0, none⟩)))) ?hg ?ho ?hn ?hr ?_; (case ho => rfl); (case hg => rfl); (case hn => rfl); (case hr => first | (go_simp; done) | (go_simp; rfl)); intro w3 hw3; have HB3 := Aside0.mk (show w3.heap[b]? = some (.cells (onceC 0 1 s (.iface 134 (.pointer (some ⟨gr, 0, none⟩))) (.slice A L.length c)) 117 (0, 0)) from by rw [hw3]; exact blk_put HB2.out 3 _ rfl); have HG3 := Aside0.mk (show Gen w3 L np tn ps w.heap.size gr from by rw [hw3]; exact HG2.out.set44 HB2.out _ _); have K3 := Aside0.mk (show Chg (fun k => k = b) w w3 from by rw [hw3]; exact K2.out.set (g := b) (.inl rfl) _ _); clear hw3 h3 f3 HB2 HG2 K2; have h4 : w3.cell? ⟨b, 4, none⟩ = some (.slice A L.length c) := (blk_cell HB3.out 4).trans rfl; have f4 := blk_frozen HB3.out 4)
    | ((with_reducible refine gate_store (t := 101) (p := 9) rfl ?_); refine store_event (t := 101) (p := 9) (v := ?vo2) (w1 := w3.setCell ⟨b, 4, none⟩ nilS) ?hg ?ho ?hn ?hr ?_; (case ho => rfl); (case hg => rfl); (case hn => rfl); (case hr => first | (go_simp; done) | (go_simp; rfl)); intro w4 hw4; have HB4 := Aside0.mk (show w4.heap[b]? = some (.cells (onceC 0 1 s (.iface 134 (.pointer (some ⟨gr, 0, none⟩))) nilS) 117 (0, 0)) from by rw [hw4]; exact blk_put HB3.out 4 _ rfl); have HG4 := Aside0.mk (show Gen w4 L np tn ps w.heap.size gr from by rw [hw4]; exact HG3.out.set44 HB3.out _ _); have K4 := Aside0.mk (show Chg (fun k => k = b) w w4 from by rw [hw4]; exact K3.out.set (g := b) (.inl rfl) _ _); clear hw4 h4 f4 HB3 HG3 K3))
  go_end0
  exact ⟨rfl, gr, HB4.out, K4.out, HG4.out⟩
set_option maxRecDepth 100000 in
set_option maxHeartbeats 8000000 in
theorem newReplacer_calls (w : World) (A : Option Addr) (c : Nat) (L : List ByteArray) (np : Nat) (hr : Kd.string.C w A L.length L) (hc : L.length ≤ c) (h2 : L.length = 2 * np) (hs : L.length ≤ 1000) :
    Calls Tryz.prog 50 #[.slice A L.length c] w fun e w' => ∃ b A' c', e = .returned (.pointer (some ⟨b, 0, none⟩)) ∧ w.heap.size ≤ b ∧ Below w.heap.size w w' ∧ w'.heap[b]? = some (.cells (onceC 0 0 0 .nilIface (.slice A' L.length c')) 117 (0, 0)) ∧ Kd.string.C w' A' L.length L ∧ L.length ≤ c' := by
  have HR := Aside0.mk hr
  have HC := Aside0.mk hc
  have H2 := Aside0.mk h2
  have HS := Aside0.mk hs
  have hm : (((L.length : Int) % 2) == 1) = false := beq_eq_false_iff_ne.mpr (by omega)
  clear hr hc h2 hs
  go_enter Tryz.func50, Tryz.ntmps50
  go_wp2_with (first
    | ((with_reducible refine gate_dst (N := 9) rfl ?_); refine Kd.R_append_row (w0 := w) (h1 := fun _ => rfl) Value.string ByteArray.empty w.heap.size ?hg ?so ?xo 101 9 (.string ⟨#[]⟩) 16 ?ho Tryz.underlying101 ?hinfo ?hz ?hb0 (.slice none 0 0) [] L A L.length c (fun _ => True) ?hs9 ?hx9 (fun _ _ => trivial) ?HO ?HRR (Below.refl _ _) (Nat.le_refl _) ?hl ?_; (case hg => rfl); (case ho => rfl); (case hinfo => kernel_rfl); (case hz => rfl); (case hb0 => omega); (case hs9 => rfl); (case hx9 => rfl); (case HO => exact Kd.R_nil Kd.string _ _ _ _); (case HRR => exact HR.out); (case hl => have := HS.out; simp; omega); intro v1 w1 ho1 hb1 hg1 hat1; obtain ⟨A1, c1, ev1⟩ := Kd.R_slice ho1; subst ev1; have HO1 := Aside0.mk ho1; have HB1 := Aside0.mk hb1; clear ho1 hb1 hg1 hat1)
    | ((with_reducible refine gate_dst (N := 11) rfl ?_); refine box_event ?hg (N := 11) ?hd (cs := onceC 0 0 0 .nilIface (.slice A1 ([] ++ L).length c1)) (t := 117) ?hr ?_; (case hd => rfl); (case hg => rfl); (case hr => first | (go_simp; done) | (go_simp; rfl)); intro b hb w2 hbox hbel; have HX2 := Aside0.mk hbox; have HB2 := Aside0.mk (below_step HB1.out hbel); have HO2 := Aside0.mk (Kd.C_below (Kd.R_reads' HO1.out).2.2 hbel); have GB := Aside0.mk (show w.heap.size ≤ b from by rw [hb]; exact HB1.out.size); clear hb hbox hbel))
  go_ret
  exact ⟨b, A1, c1, rfl, GB.out, HB2.out, HX2.out, HO2.out, (Kd.R_reads' HO1.out).2.1⟩
end Go.Proofs.YtjojmfhgfeflnaaGreatDoor.Trie
end
