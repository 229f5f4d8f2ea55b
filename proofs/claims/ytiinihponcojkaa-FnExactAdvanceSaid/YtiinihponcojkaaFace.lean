/- impl.newFace, walked: a face in memory, whose three maps hold what the font's lists say. -/
import Derived.Test.YtiinihponcojkaaQFnExactAdvancex0
import Derived.Test.YtiinihponcojkaaMapKey
import Derived.StillTailTactics
namespace Go.Proofs.Ytiinihponcojkaa.QFnExactAdvance
open Go Go.RowKit Go.Proofs.YtiinihponcojkaaV.PrintWords Go.Proofs.YtiinihponcojkaaV.PrintLast Go.Proofs.YtiinihponcojkaaV.PrintMore Go.Proofs.Ytiinihponcojkaa.MapObj Go.Proofs.Ytiinihponcojkaa.MapKey
set_option linter.unusedVariables false
set_option linter.unusedSimpArgs false

/-- What has been put into the three maps, the newest first. -/
def hWide (l : List S79) : Nat → List (Int × Int)
  | 0 => []
  | k + 1 => if wrap64 (wrap32 (rd_T79 l (k : Nat)).f0) = (rd_T79 l (k : Nat)).f0 then (wrap32 (rd_T79 l (k : Nat)).f0, (rd_T79 l (k : Nat)).f1) :: hWide l k else hWide l k
def hKern (l : List S81) : Nat → List ((Int × Int) × Int)
  | 0 => []
  | k + 1 => (((rd_T81 l (k : Nat)).f0, (rd_T81 l (k : Nat)).f1), (rd_T81 l (k : Nat)).f2) :: hKern l k
def hLig (l : List S84) : Nat → List ((Int × Int) × Int)
  | 0 => []
  | k + 1 => (((rd_T84 l (k : Nat)).f0, (rd_T84 l (k : Nat)).f1), (rd_T84 l (k : Nat)).f2) :: hLig l k
def okP (p : Int × Int) : Prop := ok64 p.1 ∧ ok64 p.2
def ok32 (x : Int) : Prop := (Lit.int .i32 x).wf = true
def okKern (l : List S81) : Prop := ∀ j : Nat, j < l.length → ok64 (rd_T81 l (j : Nat)).f0 ∧ ok64 (rd_T81 l (j : Nat)).f1
def okLig (l : List S84) : Prop := ∀ j : Nat, j < l.length → ok64 (rd_T84 l (j : Nat)).f0 ∧ ok64 (rd_T84 l (j : Nat)).f1
theorem ok32_wrap (x : Int) : ok32 (wrap32 x) := by
  unfold ok32 wrap32
  simp [Lit.wf, IntKind.min, IntKind.max, IntKind.signed, IntKind.bits]
  omega
theorem hWide_ok (l : List S79) : ∀ k, ∀ p ∈ hWide l k, ok32 p.1
  | 0, p, hp => by cases hp
  | k + 1, p, hp => by
    unfold hWide at hp
    split at hp
    · rcases List.mem_cons.1 hp with e | hp
      · rw [e]
        exact ok32_wrap _
      · exact hWide_ok l k p hp
    · exact hWide_ok l k p hp
theorem hKern_ok {l : List S81} (h : okKern l) : ∀ k, k ≤ l.length → ∀ p ∈ hKern l k, okP p.1
  | 0, _, p, hp => by cases hp
  | k + 1, hk, p, hp => by
    unfold hKern at hp
    rcases List.mem_cons.1 hp with e | hp
    · rw [e]
      exact h k hk
    · exact hKern_ok h k (by omega) p hp
theorem hLig_ok {l : List S84} (h : okLig l) : ∀ k, k ≤ l.length → ∀ p ∈ hLig l k, okP p.1
  | 0, _, p, hp => by cases hp
  | k + 1, hk, p, hp => by
    unfold hLig at hp
    rcases List.mem_cons.1 hp with e | hp
    · rw [e]
      exact h k hk
    · exact hLig_ok h k (by omega) p hp
def oWide (l : List S79) (k : Nat) : Obj := mobj (Value.int .i32) (Value.int .i64) (hWide l k)
def oKern (l : List S81) (k : Nat) : Obj := mobj pairV (Value.int .i64) (hKern l k)
def oLig (l : List S84) (k : Nat) : Obj := mobj pairV (Value.int .i64) (hLig l k)
theorem arr_pair : WideMaps.ArrKey Try.prog 103 3 2 where
  hu := Try.underlying103
  plain := by kernel_rfl
  one := by kernel_rfl
  size := by kernel_rfl
theorem keys_pair : Keys Try.prog 103 pairV okP := pair_keys arr_pair Try.underlying3 ⟨Try.prog.types.size - 1, by kernel_rfl⟩
theorem keys_32 : Keys Try.prog 21 (Value.int .i32) ok32 := int_keys Try.underlying21
def faceCells (a b c d : Int) (v4 v5 v6 : Value) (gw ge gl : Nat) : Array Value := #[.int .i64 a, .int .i64 b, .int .i64 c, .int .i64 d, v4, v5, v6, .map (some gw), .map (some ge), .map (some gl)]
/-- The blocks of a face while it is made. -/
structure FaceM (W : World) (a b c d : Int) (v4 v5 v6 : Value) (l4 : List S79) (l5 : List S81) (l6 : List S84) (gf gw ge gl : Nat) (n4 n5 n6 : Nat) : Prop where
  blk : W.heap[gf]? = some (.cells (faceCells a b c d v4 v5 v6 gw ge gl) 101 (0, 0))
  wide : W.heap[gw]? = some (oWide l4 n4)
  kern : W.heap[ge]? = some (oKern l5 n5)
  lig : W.heap[gl]? = some (oLig l6 n6)
  wk : gw ≠ ge
  wl : gw ≠ gl
  kl : ge ≠ gl
section
variable {W W1 : World} {a b c d : Int} {v4 v5 v6 : Value} {l4 : List S79} {l5 : List S81} {l6 : List S84} {gf gw ge gl n4 n5 n6 : Nat}
theorem FaceM.below (h : FaceM W a b c d v4 v5 v6 l4 l5 l6 gf gw ge gl n4 n5 n6) (hb : Below W.heap.size W W1) : FaceM W1 a b c d v4 v5 v6 l4 l5 l6 gf gw ge gl n4 n5 n6 :=
  ⟨blk_below h.blk hb, blk_below h.wide hb, blk_below h.kern hb, blk_below h.lig hb, h.wk, h.wl, h.kl⟩
theorem FaceM.far (h : FaceM W a b c d v4 v5 v6 l4 l5 l6 gf gw ge gl n4 n5 n6) {g : Nat} (n1 : gf ≠ g) (n2 : gw ≠ g) (n3 : ge ≠ g) (n4' : gl ≠ g) (off : Nat) (u : Value) : FaceM (W.setCell ⟨g, off, none⟩ u) a b c d v4 v5 v6 l4 l5 l6 gf gw ge gl n4 n5 n6 :=
  ⟨blk_far h.blk n1 _, obj_far h.wide n2 _, obj_far h.kern n3 _, obj_far h.lig n4' _, h.wk, h.wl, h.kl⟩
theorem FaceM.putW (h : FaceM W a b c d v4 v5 v6 l4 l5 l6 gf gw ge gl n4 n5 n6) (hg : W.grownBy W1 (some gw)) {n : Nat} (hm : W1.heap[gw]? = some (oWide l4 n)) : FaceM W1 a b c d v4 v5 v6 l4 l5 l6 gf gw ge gl n n5 n6 :=
  ⟨blk_grown h.blk hg (cells_ne_map h.blk h.wide), hm, blk_grown h.kern hg (fun e => h.wk (by injection e with e; exact e.symm)), blk_grown h.lig hg (fun e => h.wl (by injection e with e; exact e.symm)), h.wk, h.wl, h.kl⟩
theorem FaceM.putK (h : FaceM W a b c d v4 v5 v6 l4 l5 l6 gf gw ge gl n4 n5 n6) (hg : W.grownBy W1 (some ge)) {n : Nat} (hm : W1.heap[ge]? = some (oKern l5 n)) : FaceM W1 a b c d v4 v5 v6 l4 l5 l6 gf gw ge gl n4 n n6 :=
  ⟨blk_grown h.blk hg (cells_ne_map h.blk h.kern), blk_grown h.wide hg (fun e => h.wk (by injection e with e)), hm, blk_grown h.lig hg (fun e => h.kl (by injection e with e; exact e.symm)), h.wk, h.wl, h.kl⟩
theorem FaceM.putL (h : FaceM W a b c d v4 v5 v6 l4 l5 l6 gf gw ge gl n4 n5 n6) (hg : W.grownBy W1 (some gl)) {n : Nat} (hm : W1.heap[gl]? = some (oLig l6 n)) : FaceM W1 a b c d v4 v5 v6 l4 l5 l6 gf gw ge gl n4 n5 n :=
  ⟨blk_grown h.blk hg (cells_ne_map h.blk h.lig), blk_grown h.wide hg (fun e => h.wl (by injection e with e)), blk_grown h.kern hg (fun e => h.kl (by injection e with e)), hm, h.wk, h.wl, h.kl⟩
end
/-- A face in memory. -/
def Face (W : World) (a b c d : Int) (v4 v5 v6 : Value) (l4 : List S79) (l5 : List S81) (l6 : List S84) (gf gw ge gl : Nat) : Prop := FaceM W a b c d v4 v5 v6 l4 l5 l6 gf gw ge gl l4.length l5.length l6.length
def FacePost (w : World) (a b c d : Int) (v4 v5 v6 : Value) (l4 : List S79) (l5 : List S81) (l6 : List S84) (e : Ending) (w' : World) : Prop :=
  ∃ gf gw ge gl, e = .returned (.pointer (some ⟨gf, 0, none⟩)) ∧ Below w.heap.size w w' ∧ Face w' a b c d v4 v5 v6 l4 l5 l6 gf gw ge gl
set_option maxHeartbeats 8000000 in
set_option maxRecDepth 100000 in
theorem newFace_calls (w : World) (a b c d : Int) (A4 A5 A6 : Option Addr) (c4 c5 c6 : Nat) (l4 : List S79) (l5 : List S81) (l6 : List S84) (hr4 : Kd.C k79 w A4 l4.length l4) (hc4 : l4.length ≤ c4) (hr5 : Kd.C k81 w A5 l5.length l5) (hc5 : l5.length ≤ c5) (hr6 : Kd.C k84 w A6 l6.length l6) (hc6 : l6.length ≤ c6)
    (ok5 : okKern l5) (ok6 : okLig l6) (hs : l4.length ≤ 1000 ∧ l5.length ≤ 1000 ∧ l6.length ≤ 1000) :
    Calls Try.prog 32 #[.agg #[.int .i64 a, .int .i64 b, .int .i64 c, .int .i64 d, .slice A4 l4.length c4, .slice A5 l5.length c5, .slice A6 l6.length c6]] w (FacePost w a b c d (.slice A4 l4.length c4) (.slice A5 l5.length c5) (.slice A6 l6.length c6) l4 l5 l6) := by
  have HR4 := Aside0.mk hr4
  have HR5 := Aside0.mk hr5
  have HR6 := Aside0.mk hr6
  have HC4 := Aside0.mk hc4
  have HC5 := Aside0.mk hc5
  have HC6 := Aside0.mk hc6
  have OK5 := Aside0.mk ok5
  have OK6 := Aside0.mk ok6
  have HS := Aside0.mk hs
  have hu34 := Try.underlying34
  have hu101 := Try.underlying101
  have hmm := @run_makeMap Try.prog
  clear hr4 hr5 hr6 hc4 hc5 hc6 ok5 ok6 hs
  go_enter Try.func32, Try.ntmps32
  go_wp2_with (first
    | ((with_reducible refine gate_dst (N := 1) rfl ?_); refine box_event ?hg (N := 1) ?hd (cs := #[.int .i64 a, .int .i64 b, .int .i64 c, .int .i64 d, .slice A4 l4.length c4, .slice A5 l5.length c5, .slice A6 l6.length c6]) (t := 34) ?hr ?_; (case hd => rfl); (case hg => rfl); (case hr => first | (go_simp; done) | (go_simp; rfl)); intro gb hg w1 hbox hb1; have z0 : w1.cell? ⟨gb, 0, none⟩ = some (.int .i64 a) := (blk_cell hbox 0).trans rfl; have z1 : w1.cell? ⟨gb, 1, none⟩ = some (.int .i64 b) := (blk_cell hbox 1).trans rfl; have z2 : w1.cell? ⟨gb, 2, none⟩ = some (.int .i64 c) := (blk_cell hbox 2).trans rfl; have z3 : w1.cell? ⟨gb, 3, none⟩ = some (.int .i64 d) := (blk_cell hbox 3).trans rfl; have z4 : w1.cell? ⟨gb, 4, none⟩ = some (.slice A4 l4.length c4) := (blk_cell hbox 4).trans rfl; have z5 : w1.cell? ⟨gb, 5, none⟩ = some (.slice A5 l5.length c5) := (blk_cell hbox 5).trans rfl; have z6 : w1.cell? ⟨gb, 6, none⟩ = some (.slice A6 l6.length c6) := (blk_cell hbox 6).trans rfl; have HBX := Aside0.mk hbox; have HB1 := Aside0.mk hb1; clear hg hbox hb1)
    | ((with_reducible refine gate_dst (N := 11) rfl ?_); (refine make_event ?hg (N := 11) ?hd ?hr ?_; (case hd => rfl); (case hg => rfl); (case hr => first | (go_simp; done) | (go_simp; rfl)); intro gw hg w2 hbox hb; have HB2 := Aside0.mk (below_step HB1.out hb); have HBX2 := Aside0.mk (blk_below HBX.out hb); have HMW := Aside0.mk (show w2.heap[gw]? = some (oWide l4 0) from hbox); have GW := Aside0.mk (show w.heap.size ≤ gw from (by rw [hg]; exact HB1.out.size)); clear hg hbox hb z0 z1 z2 z3 z4 z5 z6))
    | ((with_reducible refine gate_dst (N := 12) rfl ?_); (refine make_event ?hg (N := 12) ?hd ?hr ?_; (case hd => rfl); (case hg => rfl); (case hr => first | (go_simp; done) | (go_simp; rfl)); intro ge hg w3 hbox hb; have NWK := Aside0.mk (show gw ≠ ge from (by rw [hg]; exact Nat.ne_of_lt (blk_lt HMW.out))); have HB3 := Aside0.mk (below_step HB2.out hb); have HBX3 := Aside0.mk (blk_below HBX2.out hb); have HMW3 := Aside0.mk (blk_below HMW.out hb); have HMK := Aside0.mk (show w3.heap[ge]? = some (oKern l5 0) from hbox); have GK := Aside0.mk (show w.heap.size ≤ ge from (by rw [hg]; exact HB2.out.size)); clear hg hbox hb))
    | ((with_reducible refine gate_dst (N := 13) rfl ?_); (refine make_event ?hg (N := 13) ?hd ?hr ?_; (case hd => rfl); (case hg => rfl); (case hr => first | (go_simp; done) | (go_simp; rfl)); intro gl hg w4 hbox hb; have NWL := Aside0.mk (show gw ≠ gl from (by rw [hg]; exact Nat.ne_of_lt (blk_lt HMW3.out))); have NKL := Aside0.mk (show ge ≠ gl from (by rw [hg]; exact Nat.ne_of_lt (blk_lt HMK.out))); have HB4 := Aside0.mk (below_step HB3.out hb); have HBX4 := Aside0.mk (blk_below HBX3.out hb); have HMW4 := Aside0.mk (blk_below HMW3.out hb); have HMK4 := Aside0.mk (blk_below HMK.out hb); have HML := Aside0.mk (show w4.heap[gl]? = some (oLig l6 0) from hbox); have GL := Aside0.mk (show w.heap.size ≤ gl from (by rw [hg]; exact HB3.out.size)); clear hg hbox hb))
    | ((with_reducible refine gate_dst (N := 15) rfl ?_); (refine box_event ?hg (N := 15) ?hd (cs := faceCells a b c d (.slice A4 l4.length c4) (.slice A5 l5.length c5) (.slice A6 l6.length c6) gw ge gl) (t := 101) ?hr ?_; (case hd => rfl); (case hg => rfl); (case hr => first | (go_simp; done) | (go_simp; rfl)); intro gf hg w5 hbox hb; have HB5 := Aside0.mk (below_step HB4.out hb); have HBX5 := Aside0.mk (blk_below HBX4.out hb); have HF5 := Aside0.mk (show FaceM w5 a b c d (.slice A4 l4.length c4) (.slice A5 l5.length c5) (.slice A6 l6.length c6) l4 l5 l6 gf gw ge gl 0 0 0 from ⟨hbox, blk_below HMW4.out hb, blk_below HMK4.out hb, blk_below HML.out hb, NWK.out, NWL.out, NKL.out⟩); clear hg hbox hb HB1 HB2 HB3 HB4 HBX HBX2 HBX3 HBX4 HMW HMW3 HMW4 HMK HMK4 HML; have z4 : w5.cell? ⟨gb, 4, none⟩ = some (.slice A4 l4.length c4) := (blk_cell HBX5.out 4).trans rfl)))
  clear z4 hmm
  go_loopg [19] l4.length (fun kq v19 w' => ∃ (j : Nat), v19 = .int .i64 j ∧ Aside0 (kq + j = l4.length) ∧ Aside0 (Below w.heap.size w w') ∧ Aside0 (FaceM w' a b c d (.slice A4 l4.length c4) (.slice A5 l5.length c5) (.slice A6 l6.length c6) l4 l5 l6 gf gw ge gl j 0 0) ∧ Aside0 (w'.heap[gb]? = some (.cells #[.int .i64 a, .int .i64 b, .int .i64 c, .int .i64 d, .slice A4 l4.length c4, .slice A5 l5.length c5, .slice A6 l6.length c6] 34 (0, 0))))
  case atStart => exact ⟨0, rfl, ⟨by omega⟩, HB5, HF5, HBX5⟩
  case round =>
    clear HB5 HF5 HBX5
    obtain ⟨j, rfl, HJ, HB, HF, HBX⟩ := hrel
    by_cases hj : j < l4.length
    · have dj : decide ((j : Int) < (l4.length : Int)) = true := decide_eq_true (by omega)
      have dj2 : decide (j < l4.length) = true := decide_eq_true hj
      have p5 : (0 ≤ (j : Int)) = True := eq_true (by omega)
      have q5 : ((j : Int) < (l4.length : Int)) = True := eq_true (by omega)
      have hwj : wrap64 ((j : Int) + 1) = (j : Int) + 1 := by have := HS.out; unfold wrap64; omega
      obtain ⟨ad, eA, hx0, hx1⟩ := at_T79 HR4.out (j : Int) (by omega) (by omega)
      cases eA
      simp only [Int.toNat_natCast] at hx0 hx1
      replace hx0 := (HB.out.cell (World.block_lt_of_cell? w _ hx0)).trans hx0
      replace hx1 := (HB.out.cell (World.block_lt_of_cell? w _ hx1)).trans hx1
      obtain ⟨x0, ex0⟩ : ∃ x, x = (rd_T79 l4 (j : Nat)).f0 := ⟨_, rfl⟩
      obtain ⟨x1, ex1⟩ : ∃ x, x = (rd_T79 l4 (j : Nat)).f1 := ⟨_, rfl⟩
      rw [← ex0] at hx0
      rw [← ex1] at hx1
      have EX0 := Aside0.mk ex0
      have EX1 := Aside0.mk ex1
      have HJJ := Aside0.mk hj
      clear hj ex0 ex1
      by_cases hcv : wrap64 (wrap32 x0) = x0
      · have hcb : (wrap64 (wrap32 x0) == x0) = true := beq_iff_eq.mpr hcv
        have HCV := Aside0.mk hcv
        clear hcv
        go_wp2_with (first
          | ((with_reducible refine gate_dst (N := 5) rfl ?_); refine box_event ?hg (N := 5) ?hd (cs := #[.int .i64 0, .int .i64 0]) (t := 79) ?hr ?_; (case hd => rfl); (case hg => rfl); (case hr => first | (go_simp; done) | (go_simp; rfl)); intro gx hg w6 hbox hb; have NF := Aside0.mk (show gf ≠ gx from (by rw [hg]; exact Nat.ne_of_lt (blk_lt HF.out.blk))); have NW := Aside0.mk (show gw ≠ gx from (by rw [hg]; exact Nat.ne_of_lt (blk_lt HF.out.wide))); have NK := Aside0.mk (show ge ≠ gx from (by rw [hg]; exact Nat.ne_of_lt (blk_lt HF.out.kern))); have NL := Aside0.mk (show gl ≠ gx from (by rw [hg]; exact Nat.ne_of_lt (blk_lt HF.out.lig))); have NB := Aside0.mk (show gb ≠ gx from (by rw [hg]; exact Nat.ne_of_lt (blk_lt HBX.out))); have GX := Aside0.mk (show w.heap.size ≤ gx from (by rw [hg]; exact HB.out.size)); have HB6 := Aside0.mk (below_step HB.out hb); have HF6 := Aside0.mk (HF.out.below hb); have HBX6 := Aside0.mk (blk_below HBX.out hb); have HBG := Aside0.mk hbox; clear hg hbox hb HB HF HBX hx0 hx1)
          | ((with_reducible refine gate_store (t := 79) (p := 5) rfl ?_); have y0 : w6.cell? ⟨gx, 0, none⟩ = some (.int .i64 0) := (blk_cell HBG.out 0).trans rfl; have y1 : w6.cell? ⟨gx, 1, none⟩ = some (.int .i64 0) := (blk_cell HBG.out 1).trans rfl; have u0 := blk_frozen HBG.out 0; have u1 := blk_frozen HBG.out 1; refine store_event (t := 79) (p := 5) (v := ?vo0t) (w1 := ((w6.setCell ⟨gx, 0, none⟩ (.int .i64 x0)).setCell ⟨gx, 1, none⟩ (.int .i64 x1))) ?hg ?ho ?hn ?hr ?_; (case ho => rfl); (case hg => rfl); (case hn => rfl); (case hr => first | (go_simp; done) | (go_simp; rfl)); intro w7 hw; have HB7 := Aside0.mk (show Below w.heap.size w w7 from (by rw [hw]; exact (below_set (below_set HB6.out GX.out) GX.out))); have HF7 := Aside0.mk (show FaceM w7 a b c d (.slice (some ad) l4.length c4) (.slice A5 l5.length c5) (.slice A6 l6.length c6) l4 l5 l6 gf gw ge gl j 0 0 from (by rw [hw]; exact ((HF6.out.far NF.out NW.out NK.out NL.out _ _).far NF.out NW.out NK.out NL.out _ _))); have HBX7 := Aside0.mk (show w7.heap[gb]? = some (.cells #[.int .i64 a, .int .i64 b, .int .i64 c, .int .i64 d, .slice (some ad) l4.length c4, .slice A5 l5.length c5, .slice A6 l6.length c6] 34 (0, 0)) from (by rw [hw]; exact (blk_far (blk_far HBX6.out NB.out _) NB.out _))); have HBG7 := Aside0.mk (show w7.heap[gx]? = some (.cells #[.int .i64 x0, .int .i64 x1] 79 (0, 0)) from (by rw [hw]; exact (blk_put (blk_put HBG.out 0 _ rfl) 1 _ rfl))); clear hw HB6 HF6 HBX6 HBG y0 y1 u0 u1; have t0 : w7.cell? ⟨gx, 0, none⟩ = some (.int .i64 x0) := (blk_cell HBG7.out 0).trans rfl; have t1 : w7.cell? ⟨gx, 1, none⟩ = some (.int .i64 x1) := (blk_cell HBG7.out 1).trans rfl; have zm : w7.cell? ⟨gf, 7, none⟩ = some (.map (some gw)) := (blk_cell HF7.out.blk 7).trans rfl))
        go_still_tail 9, (by kernel_rfl)
        change wpList _ _ _ _ _ w7.drew
        have HB8 := Aside0.mk (below_drew1 HB7.out)
        have HF8 := Aside0.mk (HF7.out.below (below_drew1 (Below.refl _ _)))
        have HBX8 := Aside0.mk (blk_drew HBX7.out)
        clear t0 t1 zm HB7 HF7 HBX7 HBG7
        generalize w7.drew = w8 at HB8 HF8 HBX8 ⊢
        have HN := Aside0.mk (show hWide l4 (j + 1) = (wrap32 x0, x1) :: hWide l4 j from by show (if _ then _ else _) = _; rw [← EX0.out, ← EX1.out, if_pos HCV.out])
        go_wp2_with (first
          | (at_mapUpdate; (refine kput_event (kt := 21) (et := 3) (ek := Value.int .i32) (ev := Value.int .i64) (ok := ok32) (g := gw) (hist := hWide l4 j) keys_32 rfl _ _ _ rfl rfl rfl (wrap32 x0) x1 (ok32_wrap x0) ?hx ?hv Try.underlying98 (hWide_ok l4 j) ?hm ?_; (case hx => exact congrArg (Value.int .i32) (i32_w x0)); (case hv => rfl); (case hm => exact HF8.out.wide); intro w9 hm9 hg9; have HF9 := Aside0.mk (HF8.out.putW hg9 (n := j + 1) (by unfold oWide; rw [HN.out]; exact hm9)); have HB9 := Aside0.mk (HB8.out.grown hg9 HB8.out.size (fun k hk => (by injection hk with hk; rw [← hk]; exact GW.out))); have HBX9 := Aside0.mk (blk_grown HBX8.out hg9 (cells_ne_map HBX8.out HF8.out.wide)); clear hm9 hg9)))
        go_roundg (gk - 1)
        case measure => have := HJ.out; have := HJJ.out; omega
        case rel => exact ⟨j + 1, by rw [hwj]; rfl, ⟨by have := HJ.out; have := HJJ.out; omega⟩, HB9, HF9, HBX9⟩
      · have hcb : (wrap64 (wrap32 x0) == x0) = false := beq_eq_false_iff_ne.mpr hcv
        have HCV := Aside0.mk hcv
        clear hcv
        go_wp2_with (first
          | ((with_reducible refine gate_dst (N := 5) rfl ?_); refine box_event ?hg (N := 5) ?hd (cs := #[.int .i64 0, .int .i64 0]) (t := 79) ?hr ?_; (case hd => rfl); (case hg => rfl); (case hr => first | (go_simp; done) | (go_simp; rfl)); intro gx hg w6 hbox hb; have NF := Aside0.mk (show gf ≠ gx from (by rw [hg]; exact Nat.ne_of_lt (blk_lt HF.out.blk))); have NW := Aside0.mk (show gw ≠ gx from (by rw [hg]; exact Nat.ne_of_lt (blk_lt HF.out.wide))); have NK := Aside0.mk (show ge ≠ gx from (by rw [hg]; exact Nat.ne_of_lt (blk_lt HF.out.kern))); have NL := Aside0.mk (show gl ≠ gx from (by rw [hg]; exact Nat.ne_of_lt (blk_lt HF.out.lig))); have NB := Aside0.mk (show gb ≠ gx from (by rw [hg]; exact Nat.ne_of_lt (blk_lt HBX.out))); have GX := Aside0.mk (show w.heap.size ≤ gx from (by rw [hg]; exact HB.out.size)); have HB6 := Aside0.mk (below_step HB.out hb); have HF6 := Aside0.mk (HF.out.below hb); have HBX6 := Aside0.mk (blk_below HBX.out hb); have HBG := Aside0.mk hbox; clear hg hbox hb HB HF HBX hx0 hx1)
          | ((with_reducible refine gate_store (t := 79) (p := 5) rfl ?_); have y0 : w6.cell? ⟨gx, 0, none⟩ = some (.int .i64 0) := (blk_cell HBG.out 0).trans rfl; have y1 : w6.cell? ⟨gx, 1, none⟩ = some (.int .i64 0) := (blk_cell HBG.out 1).trans rfl; have u0 := blk_frozen HBG.out 0; have u1 := blk_frozen HBG.out 1; refine store_event (t := 79) (p := 5) (v := ?vo0f) (w1 := ((w6.setCell ⟨gx, 0, none⟩ (.int .i64 x0)).setCell ⟨gx, 1, none⟩ (.int .i64 x1))) ?hg ?ho ?hn ?hr ?_; (case ho => rfl); (case hg => rfl); (case hn => rfl); (case hr => first | (go_simp; done) | (go_simp; rfl)); intro w7 hw; have HB7 := Aside0.mk (show Below w.heap.size w w7 from (by rw [hw]; exact (below_set (below_set HB6.out GX.out) GX.out))); have HF7 := Aside0.mk (show FaceM w7 a b c d (.slice (some ad) l4.length c4) (.slice A5 l5.length c5) (.slice A6 l6.length c6) l4 l5 l6 gf gw ge gl j 0 0 from (by rw [hw]; exact ((HF6.out.far NF.out NW.out NK.out NL.out _ _).far NF.out NW.out NK.out NL.out _ _))); have HBX7 := Aside0.mk (show w7.heap[gb]? = some (.cells #[.int .i64 a, .int .i64 b, .int .i64 c, .int .i64 d, .slice (some ad) l4.length c4, .slice A5 l5.length c5, .slice A6 l6.length c6] 34 (0, 0)) from (by rw [hw]; exact (blk_far (blk_far HBX6.out NB.out _) NB.out _))); have HBG7 := Aside0.mk (show w7.heap[gx]? = some (.cells #[.int .i64 x0, .int .i64 x1] 79 (0, 0)) from (by rw [hw]; exact (blk_put (blk_put HBG.out 0 _ rfl) 1 _ rfl))); clear hw HB6 HF6 HBX6 HBG y0 y1 u0 u1; have t0 : w7.cell? ⟨gx, 0, none⟩ = some (.int .i64 x0) := (blk_cell HBG7.out 0).trans rfl; have t1 : w7.cell? ⟨gx, 1, none⟩ = some (.int .i64 x1) := (blk_cell HBG7.out 1).trans rfl; have zm : w7.cell? ⟨gf, 7, none⟩ = some (.map (some gw)) := (blk_cell HF7.out.blk 7).trans rfl))
        go_roundg (gk - 1)
        case measure => have := HJ.out; have := HJJ.out; omega
        case rel => exact ⟨j + 1, by rw [hwj]; rfl, ⟨by have := HJ.out; have := HJJ.out; omega⟩, HB7, ⟨(show FaceM w7 a b c d (.slice (some ad) l4.length c4) (.slice A5 l5.length c5) (.slice A6 l6.length c6) l4 l5 l6 gf gw ge gl (j + 1) 0 0 from by have h := HF7.out; have e : hWide l4 (j + 1) = hWide l4 j := (by show (if _ then _ else _) = _; rw [if_neg]; rw [← EX0.out]; exact HCV.out); exact ⟨h.blk, by unfold oWide; rw [e]; exact h.wide, h.kern, h.lig, h.wk, h.wl, h.kl⟩)⟩, HBX7⟩
    · have dj : decide ((j : Int) < (l4.length : Int)) = false := decide_eq_false (by omega)
      have dj2 : decide (j < l4.length) = false := decide_eq_false hj
      have hjl : j = l4.length := by have := HJ.out; omega
      rw [hjl] at HF
      clear hj hjl
      have z5 : wr.cell? ⟨gb, 5, none⟩ = some (.slice A5 l5.length c5) := (blk_cell HBX.out 5).trans rfl
      go_wp2
      clear z5 dj dj2
      go_loopg [43] l5.length (fun kq v43 w' => ∃ (j : Nat), v43 = .int .i64 j ∧ Aside0 (kq + j = l5.length) ∧ Aside0 (Below w.heap.size w w') ∧ Aside0 (FaceM w' a b c d (.slice A4 l4.length c4) (.slice A5 l5.length c5) (.slice A6 l6.length c6) l4 l5 l6 gf gw ge gl l4.length j 0) ∧ Aside0 (w'.heap[gb]? = some (.cells #[.int .i64 a, .int .i64 b, .int .i64 c, .int .i64 d, .slice A4 l4.length c4, .slice A5 l5.length c5, .slice A6 l6.length c6] 34 (0, 0))))
      case atStart => exact ⟨0, rfl, ⟨by omega⟩, HB, HF, HBX⟩
      case round =>
        clear HB HF HBX
        obtain ⟨j, rfl, HJ, HB, HF, HBX⟩ := hrel
        by_cases hj : j < l5.length
        · have dj : decide ((j : Int) < (l5.length : Int)) = true := decide_eq_true (by omega)
          have dj2 : decide (j < l5.length) = true := decide_eq_true hj
          have p5 : (0 ≤ (j : Int)) = True := eq_true (by omega)
          have q5 : ((j : Int) < (l5.length : Int)) = True := eq_true (by omega)
          have hwj : wrap64 ((j : Int) + 1) = (j : Int) + 1 := by have := HS.out; unfold wrap64; omega
          obtain ⟨ad, eA, hx0, hx1, hx2⟩ := at_T81 HR5.out (j : Int) (by omega) (by omega)
          cases eA
          simp only [Int.toNat_natCast] at hx0 hx1 hx2
          replace hx0 := (HB.out.cell (World.block_lt_of_cell? w _ hx0)).trans hx0
          replace hx1 := (HB.out.cell (World.block_lt_of_cell? w _ hx1)).trans hx1
          replace hx2 := (HB.out.cell (World.block_lt_of_cell? w _ hx2)).trans hx2
          obtain ⟨x0, ex0⟩ : ∃ x, x = (rd_T81 l5 (j : Nat)).f0 := ⟨_, rfl⟩
          obtain ⟨x1, ex1⟩ : ∃ x, x = (rd_T81 l5 (j : Nat)).f1 := ⟨_, rfl⟩
          obtain ⟨x2, ex2⟩ : ∃ x, x = (rd_T81 l5 (j : Nat)).f2 := ⟨_, rfl⟩
          rw [← ex0] at hx0
          rw [← ex1] at hx1
          rw [← ex2] at hx2
          have EX0 := Aside0.mk ex0
          have EX1 := Aside0.mk ex1
          have EX2 := Aside0.mk ex2
          have HJJ := Aside0.mk hj
          clear hj ex0 ex1 ex2
          go_wp2_with (first
            | ((with_reducible refine gate_dst (N := 7) rfl ?_); refine box_event ?hg (N := 7) ?hd (cs := #[.int .i64 0, .int .i64 0, .int .i64 0]) (t := 81) ?hr ?_; (case hd => rfl); (case hg => rfl); (case hr => first | (go_simp; done) | (go_simp; rfl)); intro gx hg w6 hbox hb; have NF := Aside0.mk (show gf ≠ gx from (by rw [hg]; exact Nat.ne_of_lt (blk_lt HF.out.blk))); have NW := Aside0.mk (show gw ≠ gx from (by rw [hg]; exact Nat.ne_of_lt (blk_lt HF.out.wide))); have NK := Aside0.mk (show ge ≠ gx from (by rw [hg]; exact Nat.ne_of_lt (blk_lt HF.out.kern))); have NL := Aside0.mk (show gl ≠ gx from (by rw [hg]; exact Nat.ne_of_lt (blk_lt HF.out.lig))); have NB := Aside0.mk (show gb ≠ gx from (by rw [hg]; exact Nat.ne_of_lt (blk_lt HBX.out))); have GX := Aside0.mk (show w.heap.size ≤ gx from (by rw [hg]; exact HB.out.size)); have HB6 := Aside0.mk (below_step HB.out hb); have HF6 := Aside0.mk (HF.out.below hb); have HBX6 := Aside0.mk (blk_below HBX.out hb); have HBG := Aside0.mk hbox; clear hg hbox hb HB HF HBX hx0 hx1 hx2)
            | ((with_reducible refine gate_store (t := 81) (p := 7) rfl ?_); have y0 : w6.cell? ⟨gx, 0, none⟩ = some (.int .i64 0) := (blk_cell HBG.out 0).trans rfl; have y1 : w6.cell? ⟨gx, 1, none⟩ = some (.int .i64 0) := (blk_cell HBG.out 1).trans rfl; have y2 : w6.cell? ⟨gx, 2, none⟩ = some (.int .i64 0) := (blk_cell HBG.out 2).trans rfl; have u0 := blk_frozen HBG.out 0; have u1 := blk_frozen HBG.out 1; have u2 := blk_frozen HBG.out 2; refine store_event (t := 81) (p := 7) (v := ?vo1) (w1 := (((w6.setCell ⟨gx, 0, none⟩ (.int .i64 x0)).setCell ⟨gx, 1, none⟩ (.int .i64 x1)).setCell ⟨gx, 2, none⟩ (.int .i64 x2))) ?hg ?ho ?hn ?hr ?_; (case ho => rfl); (case hg => rfl); (case hn => rfl); (case hr => first | (go_simp; done) | (go_simp; rfl)); intro w7 hw; have HB7 := Aside0.mk (show Below w.heap.size w w7 from (by rw [hw]; exact (below_set (below_set (below_set HB6.out GX.out) GX.out) GX.out))); have HF7 := Aside0.mk (show FaceM w7 a b c d (.slice A4 l4.length c4) (.slice (some ad) l5.length c5) (.slice A6 l6.length c6) l4 l5 l6 gf gw ge gl l4.length j 0 from (by rw [hw]; exact (((HF6.out.far NF.out NW.out NK.out NL.out _ _).far NF.out NW.out NK.out NL.out _ _).far NF.out NW.out NK.out NL.out _ _))); have HBX7 := Aside0.mk (show w7.heap[gb]? = some (.cells #[.int .i64 a, .int .i64 b, .int .i64 c, .int .i64 d, .slice A4 l4.length c4, .slice (some ad) l5.length c5, .slice A6 l6.length c6] 34 (0, 0)) from (by rw [hw]; exact (blk_far (blk_far (blk_far HBX6.out NB.out _) NB.out _) NB.out _))); have HBG7 := Aside0.mk (show w7.heap[gx]? = some (.cells #[.int .i64 x0, .int .i64 x1, .int .i64 x2] 81 (0, 0)) from (by rw [hw]; exact (blk_put (blk_put (blk_put HBG.out 0 _ rfl) 1 _ rfl) 2 _ rfl))); clear hw HB6 HF6 HBX6 HBG y0 y1 y2 u0 u1 u2; have t0 : w7.cell? ⟨gx, 0, none⟩ = some (.int .i64 x0) := (blk_cell HBG7.out 0).trans rfl; have t1 : w7.cell? ⟨gx, 1, none⟩ = some (.int .i64 x1) := (blk_cell HBG7.out 1).trans rfl; have t2 : w7.cell? ⟨gx, 2, none⟩ = some (.int .i64 x2) := (blk_cell HBG7.out 2).trans rfl; have zm : w7.cell? ⟨gf, 8, none⟩ = some (.map (some ge)) := (blk_cell HF7.out.blk 8).trans rfl))
          go_still_tail 11, (by kernel_rfl)
          change wpList _ _ _ _ _ w7.drew
          have HB8 := Aside0.mk (below_drew1 HB7.out)
          have HF8 := Aside0.mk (HF7.out.below (below_drew1 (Below.refl _ _)))
          have HBX8 := Aside0.mk (blk_drew HBX7.out)
          clear t0 t1 t2 zm HB7 HF7 HBX7 HBG7
          generalize w7.drew = w8 at HB8 HF8 HBX8 ⊢
          have HN := Aside0.mk (show hKern l5 (j + 1) = ((x0, x1), x2) :: hKern l5 j from by show (((_, _), _) :: _) = _; rw [← EX0.out, ← EX1.out, ← EX2.out])
          have hok : okP (x0, x1) := by have := OK5.out j HJJ.out; rw [← EX0.out, ← EX1.out] at this; exact this
          have HOK := Aside0.mk hok
          clear hok
          go_wp2_with (first
            | (at_mapUpdate; (refine kput_event (kt := 103) (et := 3) (ek := pairV) (ev := Value.int .i64) (ok := okP) (g := ge) (hist := hKern l5 j) keys_pair rfl _ _ _ rfl rfl rfl (x0, x1) x2 HOK.out ?hx ?hv Try.underlying99 (hKern_ok OK5.out j (Nat.le_of_lt HJJ.out)) ?hm ?_; (case hx => rfl); (case hv => rfl); (case hm => exact HF8.out.kern); intro w9 hm9 hg9; have HF9 := Aside0.mk (HF8.out.putK hg9 (n := j + 1) (by unfold oKern; rw [HN.out]; exact hm9)); have HB9 := Aside0.mk (HB8.out.grown hg9 HB8.out.size (fun k hk => (by injection hk with hk; rw [← hk]; exact GK.out))); have HBX9 := Aside0.mk (blk_grown HBX8.out hg9 (cells_ne_map HBX8.out HF8.out.kern)); clear hm9 hg9)))
          go_roundg (gk - 1)
          case measure => have := HJ.out; have := HJJ.out; omega
          case rel => exact ⟨j + 1, by rw [hwj]; rfl, ⟨by have := HJ.out; have := HJJ.out; omega⟩, HB9, HF9, HBX9⟩
        · have dj : decide ((j : Int) < (l5.length : Int)) = false := decide_eq_false (by omega)
          have dj2 : decide (j < l5.length) = false := decide_eq_false hj
          have hjl : j = l5.length := by have := HJ.out; omega
          rw [hjl] at HF
          clear hj hjl
          have z6 : wr.cell? ⟨gb, 6, none⟩ = some (.slice A6 l6.length c6) := (blk_cell HBX.out 6).trans rfl
          go_wp2
          clear z6 dj dj2
          go_loopg [62] l6.length (fun kq v62 w' => ∃ (j : Nat), v62 = .int .i64 j ∧ Aside0 (kq + j = l6.length) ∧ Aside0 (Below w.heap.size w w') ∧ Aside0 (FaceM w' a b c d (.slice A4 l4.length c4) (.slice A5 l5.length c5) (.slice A6 l6.length c6) l4 l5 l6 gf gw ge gl l4.length l5.length j) ∧ Aside0 (w'.heap[gb]? = some (.cells #[.int .i64 a, .int .i64 b, .int .i64 c, .int .i64 d, .slice A4 l4.length c4, .slice A5 l5.length c5, .slice A6 l6.length c6] 34 (0, 0))))
          case atStart => exact ⟨0, rfl, ⟨by omega⟩, HB, HF, HBX⟩
          case round =>
            clear HB HF HBX
            obtain ⟨j, rfl, HJ, HB, HF, HBX⟩ := hrel
            by_cases hj : j < l6.length
            · have dj : decide ((j : Int) < (l6.length : Int)) = true := decide_eq_true (by omega)
              have dj2 : decide (j < l6.length) = true := decide_eq_true hj
              have p5 : (0 ≤ (j : Int)) = True := eq_true (by omega)
              have q5 : ((j : Int) < (l6.length : Int)) = True := eq_true (by omega)
              have hwj : wrap64 ((j : Int) + 1) = (j : Int) + 1 := by have := HS.out; unfold wrap64; omega
              obtain ⟨ad, eA, hx0, hx1, hx2⟩ := at_T84 HR6.out (j : Int) (by omega) (by omega)
              cases eA
              simp only [Int.toNat_natCast] at hx0 hx1 hx2
              replace hx0 := (HB.out.cell (World.block_lt_of_cell? w _ hx0)).trans hx0
              replace hx1 := (HB.out.cell (World.block_lt_of_cell? w _ hx1)).trans hx1
              replace hx2 := (HB.out.cell (World.block_lt_of_cell? w _ hx2)).trans hx2
              obtain ⟨x0, ex0⟩ : ∃ x, x = (rd_T84 l6 (j : Nat)).f0 := ⟨_, rfl⟩
              obtain ⟨x1, ex1⟩ : ∃ x, x = (rd_T84 l6 (j : Nat)).f1 := ⟨_, rfl⟩
              obtain ⟨x2, ex2⟩ : ∃ x, x = (rd_T84 l6 (j : Nat)).f2 := ⟨_, rfl⟩
              rw [← ex0] at hx0
              rw [← ex1] at hx1
              rw [← ex2] at hx2
              have EX0 := Aside0.mk ex0
              have EX1 := Aside0.mk ex1
              have EX2 := Aside0.mk ex2
              have HJJ := Aside0.mk hj
              clear hj ex0 ex1 ex2
              go_wp2_with (first
                | ((with_reducible refine gate_dst (N := 9) rfl ?_); refine box_event ?hg (N := 9) ?hd (cs := #[.int .i64 0, .int .i64 0, .int .i64 0]) (t := 84) ?hr ?_; (case hd => rfl); (case hg => rfl); (case hr => first | (go_simp; done) | (go_simp; rfl)); intro gx hg w6 hbox hb; have NF := Aside0.mk (show gf ≠ gx from (by rw [hg]; exact Nat.ne_of_lt (blk_lt HF.out.blk))); have NW := Aside0.mk (show gw ≠ gx from (by rw [hg]; exact Nat.ne_of_lt (blk_lt HF.out.wide))); have NK := Aside0.mk (show ge ≠ gx from (by rw [hg]; exact Nat.ne_of_lt (blk_lt HF.out.kern))); have NL := Aside0.mk (show gl ≠ gx from (by rw [hg]; exact Nat.ne_of_lt (blk_lt HF.out.lig))); have NB := Aside0.mk (show gb ≠ gx from (by rw [hg]; exact Nat.ne_of_lt (blk_lt HBX.out))); have GX := Aside0.mk (show w.heap.size ≤ gx from (by rw [hg]; exact HB.out.size)); have HB6 := Aside0.mk (below_step HB.out hb); have HF6 := Aside0.mk (HF.out.below hb); have HBX6 := Aside0.mk (blk_below HBX.out hb); have HBG := Aside0.mk hbox; clear hg hbox hb HB HF HBX hx0 hx1 hx2)
                | ((with_reducible refine gate_store (t := 84) (p := 9) rfl ?_); have y0 : w6.cell? ⟨gx, 0, none⟩ = some (.int .i64 0) := (blk_cell HBG.out 0).trans rfl; have y1 : w6.cell? ⟨gx, 1, none⟩ = some (.int .i64 0) := (blk_cell HBG.out 1).trans rfl; have y2 : w6.cell? ⟨gx, 2, none⟩ = some (.int .i64 0) := (blk_cell HBG.out 2).trans rfl; have u0 := blk_frozen HBG.out 0; have u1 := blk_frozen HBG.out 1; have u2 := blk_frozen HBG.out 2; refine store_event (t := 84) (p := 9) (v := ?vo2) (w1 := (((w6.setCell ⟨gx, 0, none⟩ (.int .i64 x0)).setCell ⟨gx, 1, none⟩ (.int .i64 x1)).setCell ⟨gx, 2, none⟩ (.int .i64 x2))) ?hg ?ho ?hn ?hr ?_; (case ho => rfl); (case hg => rfl); (case hn => rfl); (case hr => first | (go_simp; done) | (go_simp; rfl)); intro w7 hw; have HB7 := Aside0.mk (show Below w.heap.size w w7 from (by rw [hw]; exact (below_set (below_set (below_set HB6.out GX.out) GX.out) GX.out))); have HF7 := Aside0.mk (show FaceM w7 a b c d (.slice A4 l4.length c4) (.slice A5 l5.length c5) (.slice (some ad) l6.length c6) l4 l5 l6 gf gw ge gl l4.length l5.length j from (by rw [hw]; exact (((HF6.out.far NF.out NW.out NK.out NL.out _ _).far NF.out NW.out NK.out NL.out _ _).far NF.out NW.out NK.out NL.out _ _))); have HBX7 := Aside0.mk (show w7.heap[gb]? = some (.cells #[.int .i64 a, .int .i64 b, .int .i64 c, .int .i64 d, .slice A4 l4.length c4, .slice A5 l5.length c5, .slice (some ad) l6.length c6] 34 (0, 0)) from (by rw [hw]; exact (blk_far (blk_far (blk_far HBX6.out NB.out _) NB.out _) NB.out _))); have HBG7 := Aside0.mk (show w7.heap[gx]? = some (.cells #[.int .i64 x0, .int .i64 x1, .int .i64 x2] 84 (0, 0)) from (by rw [hw]; exact (blk_put (blk_put (blk_put HBG.out 0 _ rfl) 1 _ rfl) 2 _ rfl))); clear hw HB6 HF6 HBX6 HBG y0 y1 y2 u0 u1 u2; have t0 : w7.cell? ⟨gx, 0, none⟩ = some (.int .i64 x0) := (blk_cell HBG7.out 0).trans rfl; have t1 : w7.cell? ⟨gx, 1, none⟩ = some (.int .i64 x1) := (blk_cell HBG7.out 1).trans rfl; have t2 : w7.cell? ⟨gx, 2, none⟩ = some (.int .i64 x2) := (blk_cell HBG7.out 2).trans rfl; have zm : w7.cell? ⟨gf, 9, none⟩ = some (.map (some gl)) := (blk_cell HF7.out.blk 9).trans rfl))
              go_still_tail 11, (by kernel_rfl)
              change wpList _ _ _ _ _ w7.drew
              have HB8 := Aside0.mk (below_drew1 HB7.out)
              have HF8 := Aside0.mk (HF7.out.below (below_drew1 (Below.refl _ _)))
              have HBX8 := Aside0.mk (blk_drew HBX7.out)
              clear t0 t1 t2 zm HB7 HF7 HBX7 HBG7
              generalize w7.drew = w8 at HB8 HF8 HBX8 ⊢
              have HN := Aside0.mk (show hLig l6 (j + 1) = ((x0, x1), x2) :: hLig l6 j from by show (((_, _), _) :: _) = _; rw [← EX0.out, ← EX1.out, ← EX2.out])
              have hok : okP (x0, x1) := by have := OK6.out j HJJ.out; rw [← EX0.out, ← EX1.out] at this; exact this
              have HOK := Aside0.mk hok
              clear hok
              go_wp2_with (first
                | (at_mapUpdate; (refine kput_event (kt := 103) (et := 3) (ek := pairV) (ev := Value.int .i64) (ok := okP) (g := gl) (hist := hLig l6 j) keys_pair rfl _ _ _ rfl rfl rfl (x0, x1) x2 HOK.out ?hx ?hv Try.underlying99 (hLig_ok OK6.out j (Nat.le_of_lt HJJ.out)) ?hm ?_; (case hx => rfl); (case hv => rfl); (case hm => exact HF8.out.lig); intro w9 hm9 hg9; have HF9 := Aside0.mk (HF8.out.putL hg9 (n := j + 1) (by unfold oLig; rw [HN.out]; exact hm9)); have HB9 := Aside0.mk (HB8.out.grown hg9 HB8.out.size (fun k hk => (by injection hk with hk; rw [← hk]; exact GL.out))); have HBX9 := Aside0.mk (blk_grown HBX8.out hg9 (cells_ne_map HBX8.out HF8.out.lig)); clear hm9 hg9)))
              go_roundg (gk - 1)
              case measure => have := HJ.out; have := HJJ.out; omega
              case rel => exact ⟨j + 1, by rw [hwj]; rfl, ⟨by have := HJ.out; have := HJJ.out; omega⟩, HB9, HF9, HBX9⟩
            · have dj : decide ((j : Int) < (l6.length : Int)) = false := decide_eq_false (by omega)
              have dj2 : decide (j < l6.length) = false := decide_eq_false hj
              have hjl : j = l6.length := by have := HJ.out; omega
              rw [hjl] at HF
              clear hj hjl
              go_wp2
              go_ret
              exact ⟨gf, gw, ge, gl, rfl, HB.out, HF.out⟩
end Go.Proofs.Ytiinihponcojkaa.QFnExactAdvance
