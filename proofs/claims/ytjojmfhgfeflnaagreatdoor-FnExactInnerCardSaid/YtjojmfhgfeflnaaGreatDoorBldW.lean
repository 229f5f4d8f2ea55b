/- strings.Builder within the writer's block: its copy check, WriteString and String. -/
import Derived.Test.YtjojmfhgfeflnaaGreatDoorSpecX
import Derived.Shelf.Strings.Builder1
namespace Go.Proofs.YtjojmfhgfeflnaaGreatDoor.QFnExactInner
open Go Go.RowKit Go.Proofs.YtjojmfhgfeflnaaGreatDoorV.PrintWords Go.Proofs.YtjojmfhgfeflnaaGreatDoorV.PrintLast Go.Proofs.YtjojmfhgfeflnaaGreatDoorV.PrintMore
set_option linter.unusedVariables false
set_option linter.unusedSimpArgs false

abbrev bp (b : Nat) : Value := .pointer (some ⟨b, 0, none⟩)
theorem mixed_ : Tryz.prog.follows Departure.mixedOrders = true := by kernel_rfl
theorem bSize : (Tryz.prog.info? 48).map (·.size) = some 2 := by kernel_rfl
theorem bLies : liesAt Tryz.prog Tryz.prog.depth 50 (2 / Tryz.prog.cellsOf 50) 0 48 1 = true := by kernel_rfl
set_option maxHeartbeats 4000000 in
set_option maxRecDepth 100000 in
theorem cc_used (b : Nat) (w : World) (h0 : w.cell? ⟨b, 0, none⟩ = some (bp b)) :
    Calls Tryz.prog 49 #[bp b] w fun e w' => e = .returned (.tuple #[]) ∧ w' = w := by
  obtain ⟨j, hj, _⟩ := Option.map_eq_some_iff.1 bSize
  go_enter Tryz.func49, Tryz.ntmps49
  go_wp2
  rw [Lib.run_neq_ptr_same w _ Tryz.underlying46 hj]
  go_wp2
  go_end0
  exact ⟨rfl, rfl⟩
set_option maxHeartbeats 4000000 in
set_option maxRecDepth 100000 in
theorem cc_fresh (b : Nat) (w : World) (h0 : w.cell? ⟨b, 0, none⟩ = some (.pointer none)) (hsh : w.shape? b = some (50, 2)) (hfz : w.frozen? ⟨b, 0, none⟩ = false) :
    Calls Tryz.prog 49 #[bp b] w fun e w' => e = .returned (.tuple #[]) ∧ w' = w.setCell ⟨b, 0, none⟩ (bp b) := by
  obtain ⟨j, hj, hjs⟩ := Option.map_eq_some_iff.1 bSize
  go_enter Tryz.func49, Tryz.ntmps49
  go_wp2
  rw [Lib.run_to_unsafe w ⟨b, 0, none⟩ Tryz.underlying46 Tryz.underlying99 hj (by rw [hjs]; decide) hsh (Nat.zero_lt_succ 1)]
  simp only [Result.andThen]
  rw [Oper.upon_value]
  go_wp2
  rw [run_callFunc_extern Tryz.func55 (by kernel_rfl) (by kernel_rfl) (by kernel_rfl) (e := Extern.AbiNoEscape.same) (by kernel_rfl)]
  rw [Lib.run_noEscape]
  simp only [Result.andThen]
  rw [Oper.upon_value]
  go_wp2
  rw [Lib.run_from_unsafe w ⟨b, 0, none⟩ Tryz.underlying99 Tryz.underlying46 hj hsh bLies]
  simp only [Result.andThen]
  rw [Oper.upon_value]
  go_wp2
  go_end0
  exact ⟨rfl, rfl⟩
/-- The writer in block b: s has been written. -/
structure WB (W : World) (base b : Nat) (s : ByteArray) : Prop where
  le : base ≤ b
  ex : ∃ p v, W.heap[b]? = some (.cells #[p, v] 50 (0, 0)) ∧ (p = .pointer none ∨ p = bp b) ∧ W.ownsRow base 5 1 v s.size (Lib.strCells s) ∧ (s.size = 0 → v = .slice none 0 0)
abbrev KeptB (b : Nat) (W W1 : World) : Prop := Lib.OthersKept 5 (some b) W W1
theorem WB.below {W W1 : World} {base b : Nat} {s : ByteArray} (h : WB W base b s) (hb : Below W.heap.size W W1) : WB W1 base b s := by
  obtain ⟨h0, p, v, h1, h2, h3, h4⟩ := h
  exact ⟨h0, p, v, blk_below h1 hb, h2, own_move h3 (fun k hk => hb.block k (by obtain ⟨cells, hc⟩ := own_typed h3 k hk; exact blk_lt hc)), h4⟩
theorem keptB_below {W W1 : World} (b : Nat) (hb : Below W.heap.size W W1) : KeptB b W W1 := fun k o hk _ _ => (hb.block k (blk_lt hk)).trans hk
theorem KeptB.blk {W W1 : World} {b g t : Nat} {cs : Array Value} {fr : Nat × Nat} (h : KeptB b W W1) (hb : W.heap[g]? = some (.cells cs t fr)) (ht : t ≠ 5) (hg : g ≠ b) : W1.heap[g]? = some (.cells cs t fr) :=
  h g _ hb (fun e => hg (Option.some.inj e)) (fun c fz e => by injection e with _ e2; exact ht e2)
theorem str_app (a b : ByteArray) : Lib.strCells (a ++ b) = Lib.strCells a ++ Lib.strCells b := by
  unfold Lib.strCells
  rw [show (a ++ b).data.toList = a.data.toList ++ b.data.toList from by simp, List.map_append]
theorem cc_calls (w0 w : World) (base b : Nat) (s : ByteArray) (h : WB w base b s) (hB : Below base w0 w) :
    Calls Tryz.prog 49 #[bp b] w fun e w' => e = .returned (.tuple #[]) ∧ Below base w0 w' ∧ KeptB b w w' ∧ w'.heap.size = w.heap.size ∧ ∃ v, w'.heap[b]? = some (.cells #[bp b, v] 50 (0, 0)) ∧ w'.ownsRow base 5 1 v s.size (Lib.strCells s) ∧ (s.size = 0 → v = .slice none 0 0) := by
  obtain ⟨h0, p, v, h1, h2, h3, h4⟩ := h
  rcases h2 with rfl | rfl
  · refine (cc_fresh b w ((blk_cell h1 0).trans rfl) (by simp [World.shape?, h1]) (blk_frozen h1 0)).mono ?_
    rintro e w' ⟨rfl, rfl⟩
    refine ⟨rfl, hB.setCell (p := ⟨b, 0, none⟩) h0 _, (Lib.OthersKept.refl 5 (some b) w).setCell ⟨b, 0, none⟩ rfl _, by simp [World.setCell], v, blk_put h1 0 _ rfl, own_move h3 (fun k hk => Below.heap_setCell w ⟨b, 0, none⟩ _ k (fun e => ?_)), h4⟩
    obtain ⟨cells, hc⟩ := own_typed h3 k hk
    exact blk_ne h1 hc (by decide) e.symm
  · refine (cc_used b w ((blk_cell h1 0).trans rfl)).mono ?_
    rintro e w' ⟨rfl, rfl⟩
    exact ⟨rfl, hB, Lib.OthersKept.refl _ _ _, rfl, v, h1, h3, h4⟩
set_option maxHeartbeats 4000000 in
set_option maxRecDepth 100000 in
theorem ws_calls (w0 w : World) (base b : Nat) (s y : ByteArray) (h : WB w base b s) (hB : Below base w0 w) (hbs : base ≤ w.heap.size) (hl : s.size + y.size ≤ 140737488355328) :
    Calls Tryz.prog 40 #[bp b, .string y] w fun e w' => e = .returned (.tuple #[.int .i64 y.size, .nilIface]) ∧ WB w' base b (s ++ y) ∧ Below base w0 w' ∧ KeptB b w w' := by
  have HH := Aside0.mk h
  have HB0 := Aside0.mk hB
  have HS := Aside0.mk hbs
  have HL := Aside0.mk hl
  have LE := Aside0.mk h.le
  obtain ⟨i0, hi, hzz⟩ := Option.map_eq_some_iff.1 (show (Tryz.prog.info? 5).map (fun i => (i.zero, i.size, i.bytes)) = some (some (.int .u8 0), 1, 1) from by kernel_rfl)
  simp only [Prod.mk.injEq] at hzz
  obtain ⟨hz0, hz1, hz2⟩ := hzz
  clear h hB hbs hl
  go_enter Tryz.func40, Tryz.ntmps40
  go_wp2_with (go_at_call 49; refine (cc_calls w0 _ base b s HH.out HB0.out).mono ?_)
  rintro e w1 ⟨rfl, hb1, hk1, hsz, v, hbk, hown, hnil⟩
  have hblt := blk_lt hbk
  have c0 : w1.cell? ⟨b, 0, none⟩ = some (bp b) := (blk_cell hbk 0).trans rfl
  have c1 : w1.cell? ⟨b, 1, none⟩ = some v := (blk_cell hbk 1).trans rfl
  have hne : v.ownBlock ≠ some b := fun e => by
    obtain ⟨cells, hc⟩ := own_typed hown b e
    exact blk_ne hbk hc (by decide) rfl
  go_wp2_with (at_builtin; refine Lib.wpList_append_own_string _ rfl _ _ 37 9 rfl base 5 i0 Tryz.underlying37 Tryz.underlying9 hi hz0 hz1 hz2 _ _ _ rfl hown y rfl ?c3 ?c4 ?c5 ?_)
  case c3 => unfold maxLen; have := HL.out; omega
  case c4 => exact HL.out
  case c5 => rw [hsz]; exact HS.out
  intro v' w2 hown' hgrow hiff
  have hb2 : w2.heap[b]? = some (.cells #[bp b, v] 50 (0, 0)) := by
    rw [hgrow.block b hblt (fun e => hne e.symm)]
    exact hbk
  have d0 : w2.cell? ⟨b, 0, none⟩ = some (bp b) := (blk_cell hb2 0).trans rfl
  have d1 : w2.cell? ⟨b, 1, none⟩ = some v := (blk_cell hb2 1).trans rfl
  have f1 : w2.frozen? ⟨b, 1, none⟩ = false := blk_frozen hb2 1
  have HO := Aside0.mk hown'
  have HN := Aside0.mk (show (s ++ y).size = 0 → v' = .slice none 0 0 from fun e => by
    have e1 : s.size + y.size = 0 := by rw [← ByteArray.size_append]; exact e
    have e2 : y.size = 0 := (Nat.add_eq_zero_iff.1 e1).2
    exact hiff.2 ⟨hnil (Nat.add_eq_zero_iff.1 e1).1, by first | exact e2 | exact ByteArray.ext (Array.eq_empty_of_size_eq_zero e2)⟩)
  have HK := Aside0.mk (show KeptB b w w2 from hk1.trans ((Lib.OthersKept.refl 5 (some b) w1).grown hgrow (fun g e => by obtain ⟨cells, hc⟩ := own_typed hown g e; exact ⟨cells, _, hc⟩)))
  have HB2 := Aside0.mk (show Below base w0 w2 from hb1.grown hgrow (by rw [hsz]; exact HS.out) (own_base hown))
  have HX2 := Aside0.mk hb2
  obtain ⟨ao, n', cap, rfl⟩ : ∃ ao n' cap, v' = .slice ao n' cap := by
    rcases hown'.2 with ⟨hv, _⟩ | ⟨g, cap, cur, hv, _⟩
    · exact ⟨_, _, _, hv⟩
    · exact ⟨_, _, _, hv⟩
  clear hown' hgrow hiff hb1 hk1 hown hnil hbk hne
  go_wp2
  go_ret2
  refine ⟨rfl, ⟨LE.out, bp b, _, blk_put HX2.out 1 _ rfl, .inr rfl, ?_, HN.out⟩, HB2.out.setCell (p := ⟨b, 1, none⟩) LE.out _, HK.out.setCell ⟨b, 1, none⟩ rfl _⟩
  rw [ByteArray.size_append, str_app]
  exact own_move HO.out (fun k hk => Below.heap_setCell w2 ⟨b, 1, none⟩ _ k (fun e => by
    obtain ⟨cells, hc⟩ := own_typed HO.out k hk
    exact blk_ne HX2.out hc (by decide) e.symm))
set_option maxHeartbeats 4000000 in
set_option maxRecDepth 100000 in
theorem st_calls (base b : Nat) (s : ByteArray) (w : World) (h : WB w base b s) :
    Calls Tryz.prog 19 #[bp b] w fun e w' => e = .returned (.string s) ∧ Below base w w' := by
  obtain ⟨hB, p, v, hbk, hp, hown, hnil⟩ := h
  by_cases h0 : s.size = 0
  · obtain rfl := hnil h0
    have hs : s = ⟨#[]⟩ := by
      apply ByteArray.ext
      apply Array.eq_empty_of_size_eq_zero
      exact h0
    subst hs
    have hUS : ∀ (W : World) (q : Option Addr), (Builtin.unsafeString_ #[73, 3] 9 #[.pointer q, .int .i64 0]).run Tryz.prog W = .ok (.string .empty) W := fun W q => Lib.run_unsafeString_none W _ _ _ q
    have c1 : w.drew.cell? ⟨b, 1, none⟩ = some (.slice none 0 0) := by
      have : w.drew.heap[b]? = some (.cells #[p, .slice none 0 0] 50 (0, 0)) := hbk
      exact (blk_cell this 1).trans rfl
    have hSD : (Builtin.unsafeSliceData_ #[37] 73 #[.slice none 0 0]).run Tryz.prog w.drew = .ok (.pointer none) w.drew := rfl
    clear hbk hown hnil h0 hp
    have mixed := mixed_
    go_enter Tryz.func19, Tryz.ntmps19
    go_wp2
    go_region_o
    all_goals (go_wp2; go_ret; exact ⟨rfl, Below.drew (Below.refl base w)⟩)
  · obtain ⟨l, rfl⟩ : ∃ l : List UInt8, s = ⟨l.toArray⟩ := ⟨s.data.toList, rfl⟩
    have hsz : (⟨l.toArray⟩ : ByteArray).size = l.length := List.size_toArray
    rw [hsz] at hown h0 hnil
    have hl0 : l ≠ [] := fun e => h0 (by rw [e]; rfl)
    obtain ⟨g, cap, cur, rfl, hbg, hg, hnc, hcm, hcs, htake⟩ : ∃ g cap cur, v = .slice (some ⟨g, 0, none⟩) l.length cap ∧ base ≤ g ∧ w.heap[g]? = some (.cells cur 5 (0, 0)) ∧ l.length ≤ cap ∧ cap ≤ maxLen ∧ cur.size = cap * 1 ∧ cur.toList.take (l.length * 1) = Lib.strCells ⟨l.toArray⟩ := by
      rcases hown.2 with ⟨_, hz⟩ | ⟨g, cap, cur, hv, r⟩
      · exact absurd hz h0
      · exact ⟨g, cap, cur, hv, r⟩
    have c1 : w.drew.cell? ⟨b, 1, none⟩ = some (.slice (some ⟨g, 0, none⟩) l.length cap) := by
      have : w.drew.heap[b]? = some (.cells #[p, .slice (some ⟨g, 0, none⟩) l.length cap] 50 (0, 0)) := hbk
      exact (blk_cell this 1).trans rfl
    have hSD : (Builtin.unsafeSliceData_ #[37] 73 #[.slice (some ⟨g, 0, none⟩) l.length cap]).run Tryz.prog w.drew = .ok (.pointer (some ⟨g, 0, none⟩)) w.drew :=
      Lib.run_unsafeSliceData_row _ _ _ _ _ _ (by omega)
    have hUS : (Builtin.unsafeString_ #[73, 3] 9 #[.pointer (some ⟨g, 0, none⟩), .int .i64 l.length]).run Tryz.prog w.drew = .ok (.string ⟨l.toArray⟩) (w.drew.freeze ⟨g, 0, none⟩ l.length) := by
      refine Lib.run_unsafeString_row w.drew 73 3 9 5 Tryz.underlying73 (by kernel_rfl) g cur.size (by have hg' : w.drew.heap[g]? = some (.cells cur 5 (0, 0)) := hg; simp [World.shape?, hg']) l hl0 (by omega) (by unfold maxLen at hcm; omega) ?_
      intro j x hx
      have := hown.cells (g := g) rfl j (.int .u8 x.toNat) (by unfold Lib.strCells; simp [hx])
      exact this
    clear hbk hown hnil h0 hp hg hcs htake hsz
    have mixed := mixed_
    go_enter Tryz.func19, Tryz.ntmps19
    go_wp2
    go_region_o
    all_goals (go_wp2; go_ret; exact ⟨rfl, Lib.below_freeze (Below.drew (Below.refl base w)) (p := ⟨g, 0, none⟩) hbg _⟩)
end Go.Proofs.YtjojmfhgfeflnaaGreatDoor.QFnExactInner
