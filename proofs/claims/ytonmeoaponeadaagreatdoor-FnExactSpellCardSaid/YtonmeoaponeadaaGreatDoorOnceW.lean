/- sync.Once's slow road, walked in parts: the lock, the two deferred calls, doSlow, Do. -/
import Derived.Test.YtonmeoaponeadaaGreatDoorQFnExactSpellx0
import Derived.Defers
import Derived.Laws.Pointers
import Derived.Laws.LoneSync
import Derived.RegionTactic
import Derived.RegionCalls
namespace Go.Proofs.YtonmeoaponeadaaGreatDoor.Once
open Go Go.RowKit Go.Proofs.YtonmeoaponeadaaGreatDoorV.PrintWords Go.Proofs.YtonmeoaponeadaaGreatDoorV.PrintLast Go.Proofs.YtonmeoaponeadaaGreatDoorV.PrintMore
set_option linter.unusedVariables false
set_option linter.unusedSimpArgs false

theorem disable (w : World) : (callFunc 67 #[]).run Tryz.prog w = .ok (.value (.tuple #[])) w := run_call_mark0 Tryz.func67 (by kernel_rfl) (by kernel_rfl) (by kernel_rfl) .disable (by kernel_rfl) w
theorem enable (w : World) : (callFunc 69 #[]).run Tryz.prog w = .ok (.value (.tuple #[])) w := run_call_mark0 Tryz.func69 (by kernel_rfl) (by kernel_rfl) (by kernel_rfl) .enable (by kernel_rfl) w
theorem acquire (a : Addr) (w : World) : (callFunc 70 #[.pointer (some a)]).run Tryz.prog w = .ok (.value (.tuple #[])) w := run_call_marked Tryz.func70 (by kernel_rfl) (by kernel_rfl) (by kernel_rfl) .acquire (by kernel_rfl) a w
theorem releaseMerge (a : Addr) (w : World) : (callFunc 72 #[.pointer (some a)]).run Tryz.prog w = .ok (.value (.tuple #[])) w := run_call_marked Tryz.func72 (by kernel_rfl) (by kernel_rfl) (by kernel_rfl) .releaseMerge (by kernel_rfl) a w

theorem store_deferred (a : Addr) (x : Value) (u : FrameMode) (w : World) (hc : w.cell? a = some x) (hz : w.frozen? a = false) :
    CallsD Tryz.prog 53 #[.pointer (some a), .bool true] u w fun e u' w' => u' = u ∧ (e = .returned (.tuple #[]) ∧ w' = w.drew.setCell a (.int .u32 1)) := by
  have hc' : w.drew.cell? a = some x := by go_simp
  have hz' : w.drew.frozen? a = false := by go_simp
  have hst := run_call_store (P := Tryz.prog) Tryz.func59 (by kernel_rfl) (by kernel_rfl) (by kernel_rfl) (by kernel_rfl) (k := .u32) (y := 1) hc' hz'
  go_enter_d Tryz.func53, Tryz.ntmps53
  go_wp2
  go_region_calls
  all_goals (go_end0; exact ⟨rfl, rfl⟩)
set_option maxRecDepth 100000 in
theorem unlock_deferred (a : Addr) (u : FrameMode) (w : World) (hc : w.cell? a = some (.int .i32 1)) (hz : w.frozen? a = false) :
    CallsD Tryz.prog 52 #[.pointer (some a)] u w fun e u' w' => u' = u ∧ (e = .returned (.tuple #[]) ∧ w' = w.setCell a (.int .i32 0)) := by
  have hd := disable
  have he := enable
  have hr := releaseMerge
  have hadd := run_call_add (P := Tryz.prog) Tryz.func73 (by kernel_rfl) (by kernel_rfl) (by kernel_rfl) .i32 (by kernel_rfl) (y := -1) (s := 0) hc hz (by simp [go_sem]; rfl)
  have hcv := run_convert_to_unsafe (P := Tryz.prog) (src := 115) (dst := 56) Tryz.underlying115 Tryz.underlying56 (by kernel_rfl) hc
  go_enter_d Tryz.func52, Tryz.ntmps52
  go_wp2
  go_end0
  go_wp2
  go_end0
  exact ⟨rfl, rfl⟩
set_option maxRecDepth 100000 in
theorem lock_free (a : Addr) (w : World) (hc : w.cell? a = some (.int .i32 0)) (hz : w.frozen? a = false) :
    Calls Tryz.prog 51 #[.pointer (some a)] w fun e w' => e = .returned (.tuple #[]) ∧ w' = w.setCell a (.int .i32 1) := by
  have hd := disable
  have he := enable
  have ha := acquire
  have hcas := run_call_cas_hit (P := Tryz.prog) Tryz.func68 (by kernel_rfl) (by kernel_rfl) (by kernel_rfl) .i32 (by kernel_rfl) (y := 1) hc hz
  have hc' : (w.setCell a (.int .i32 1)).cell? a = some (.int .i32 1) := World.cell?_setCell_same w a _ hc
  have hcv := run_convert_to_unsafe (P := Tryz.prog) (src := 115) (dst := 56) Tryz.underlying115 Tryz.underlying56 (by kernel_rfl) hc'
  go_enter Tryz.func51, Tryz.ntmps51
  go_wp2
  first | go_end0 | (simp only [Exit.inBlock, Exit.then]; refine bodyPost_ret (results_none rfl _ _ _) rfl ?_) | refine bodyPost_ret (results_none rfl _ _ _) rfl ?_
  go_wp2
  go_end0
  exact ⟨rfl, rfl⟩
abbrev onceC (d m s : Int) (v4 v5 : Value) : Array Value := #[.int .u32 d, .int .i32 m, .int .u32 s, v4, v5]
set_option maxRecDepth 100000 in
set_option maxHeartbeats 1600000 in
/-- doSlow, of a Once that lies at the head of its block: the function that is called turns no cell of the lock. -/
theorem slow_calls (b : Nat) (s : Int) (v3 v4 : Value) (w : World) (hb : w.heap[b]? = some (.cells (onceC 0 0 s v3 v4) 74 (0, 0))) (Post : World → Prop)
    (hpost : ∀ w2, Post w2 → ∃ u3 u4, w2.heap[b]? = some (.cells (onceC 0 1 s u3 u4) 74 (0, 0)))
    (hf : Calls Tryz.prog 43 #[.pointer (some ⟨b, 0, none⟩)] (w.setCell ⟨b, 1, none⟩ (.int .i32 1)) fun e w2 => e = .returned (.tuple #[]) ∧ Post w2) :
    Calls Tryz.prog 47 #[.pointer (some ⟨b, 0, none⟩), .func (.func 43) #[.pointer (some ⟨b, 0, none⟩)] #[]] w fun e w' => e = .returned (.tuple #[]) ∧
      ∃ w2, Post w2 ∧ w' = (w2.drew.setCell ⟨b, 0, none⟩ (.int .u32 1)).setCell ⟨b, 1, none⟩ (.int .i32 0) := by
  have h0 : w.cell? ⟨b, 0, none⟩ = some (.int .u32 0) := (blk_cell hb 0).trans rfl
  have h1 : w.cell? ⟨b, 1, none⟩ = some (.int .i32 0) := (blk_cell hb 1).trans rfl
  have f1 := blk_frozen hb 1
  have hb1 : (w.setCell ⟨b, 1, none⟩ (.int .i32 1)).heap[b]? = some (.cells (onceC 0 1 s v3 v4) 74 (0, 0)) := blk_put hb 1 _ rfl
  have hl := run_call_load (P := Tryz.prog) Tryz.func50 (by kernel_rfl) (by kernel_rfl) (by kernel_rfl) .u32 (by kernel_rfl) (w := w.setCell ⟨b, 1, none⟩ (.int .i32 1)) (a := ⟨b, 0, none⟩) (x := 0) ((blk_cell hb1 0).trans rfl)
  have hnot : ∀ (x : Bool) (w : World), (Op.unary .not (.bool x)).run Tryz.prog w = .ok (.bool (!x)) w := fun _ _ => rfl
  go_enter_defers Tryz.func47, Tryz.ntmps47
  go_wp2_with (first
    | (go_at_call 51; refine (lock_free ⟨b, 1, none⟩ _ (by go_simp) (by go_simp)).mono ?_; rintro e w' ⟨rfl, rfl⟩)
    | (go_at_call 46; go_in)
    | (go_at_call 43; refine hf.mono ?_; rintro e w2 ⟨rfl, hp⟩))
  obtain ⟨u3, u4, hb2⟩ := hpost w2 hp
  first | go_end0 | skip
  refine leaves_cons (f := 53) (args := #[.pointer (some ⟨b, 0, none⟩), .bool true]) (by simp) (by simp [go_sem]) ?_
  refine (store_deferred ⟨b, 0, none⟩ (.int .u32 0) .returning _ ((blk_cell hb2 0).trans rfl) (blk_frozen hb2 0)).mono ?_
  rintro e u' w'' ⟨rfl, rfl, rfl⟩
  refine leaves_cons (f := 52) (args := #[.pointer (some ⟨b, 1, none⟩)]) (by simp [settle]) (by simp [go_sem]) ?_
  have hb3 : (w2.drew.setCell ⟨b, 0, none⟩ (.int .u32 1)).heap[b]? = some (.cells (onceC 1 1 s u3 u4) 74 (0, 0)) := blk_put (blk_drew hb2) 0 _ rfl
  refine (unlock_deferred ⟨b, 1, none⟩ _ _ ((blk_cell hb3 1).trans rfl) (blk_frozen hb3 1)).mono ?_
  rintro e u' w'' ⟨rfl, rfl, rfl⟩
  simp [Leaves, settle, results, Tryz.results47]
  exact ⟨_, hp, rfl⟩
set_option maxRecDepth 100000 in
set_option maxHeartbeats 1600000 in
theorem do_calls (b : Nat) (s : Int) (v3 v4 : Value) (w : World) (hb : w.heap[b]? = some (.cells (onceC 0 0 s v3 v4) 74 (0, 0))) (Post : World → Prop)
    (hpost : ∀ w2, Post w2 → ∃ u3 u4, w2.heap[b]? = some (.cells (onceC 0 1 s u3 u4) 74 (0, 0)))
    (hf : Calls Tryz.prog 43 #[.pointer (some ⟨b, 0, none⟩)] (w.setCell ⟨b, 1, none⟩ (.int .i32 1)) fun e w2 => e = .returned (.tuple #[]) ∧ Post w2) :
    Calls Tryz.prog 42 #[.pointer (some ⟨b, 0, none⟩), .func (.func 43) #[.pointer (some ⟨b, 0, none⟩)] #[]] w fun e w' => e = .returned (.tuple #[]) ∧
      ∃ w2, Post w2 ∧ w' = (w2.drew.setCell ⟨b, 0, none⟩ (.int .u32 1)).setCell ⟨b, 1, none⟩ (.int .i32 0) := by
  have hl := run_call_load (P := Tryz.prog) Tryz.func50 (by kernel_rfl) (by kernel_rfl) (by kernel_rfl) .u32 (by kernel_rfl) (w := w) (a := ⟨b, 0, none⟩) (x := 0) ((blk_cell hb 0).trans rfl)
  have hnot : ∀ (x : Bool) (w : World), (Op.unary .not (.bool x)).run Tryz.prog w = .ok (.bool (!x)) w := fun _ _ => rfl
  go_enter Tryz.func42, Tryz.ntmps42
  go_wp2_with (first
    | (go_at_call 46; go_in)
    | (go_at_call 47; refine (slow_calls b s v3 v4 _ hb Post hpost hf).mono ?_; rintro e w2 ⟨rfl, hp⟩))
  go_end0
  exact ⟨rfl, hp⟩
end Go.Proofs.YtonmeoaponeadaaGreatDoor.Once
