/- impl.Spell, walked. -/
import Derived.Test.YtonmeoaponeadaaGreatDoorSpellW
import Derived.Test.YtonmeoaponeadaaGreatDoorShelf
import Derived.Test.YtonmeoaponeadaaGreatDoorQFnExactSpellx8
import Derived.Shelf.Strings.BuilderK
namespace Go.Proofs.YtonmeoaponeadaaGreatDoor.QFnExactSpell
open Go Go.RowKit Go.Proofs.YtonmeoaponeadaaGreatDoorV.PrintWords Go.Proofs.YtonmeoaponeadaaGreatDoorV.PrintLast Go.Proofs.YtonmeoaponeadaaGreatDoorV.PrintMore Go.Proofs.YtonmeoaponeadaaGreatDoor.Repl Go.Proofs.YtonmeoaponeadaaGreatDoor.Shelf
set_option linter.unusedVariables false
set_option linter.unusedSimpArgs false

/-! ### impl_Spell: function 7 -/
def sayOk (x : S34) : Bool := decide (x.f1.size ≤ 1048576) && decide (x.f3.size ≤ 1048576) && (x.f0 != 6 || (decide (-1000000000 ≤ x.f2) && decide (x.f2 ≤ 1000000000)))
def gapS (l : List S34) (i : Nat) : List UInt8 := if 0 < i ∧ (rd_T34 l (i : Int)).f0 ≠ 8 ∧ (rd_T34 l ((i : Int) - 1)).f0 ≠ 8 then [47, 42, 42, 47] else []
def wordS (x : S34) : ByteArray := spellS x.f0 x.f1 x.f2 x.f3
def impl_Spell.l0 (k : Nat) (l : List S34) : Nat → Nat → List UInt8 → Option ByteArray
  | 0, _, acc => some ⟨acc.toArray⟩
  | d + 1, i, acc => (impl_WordOk.f k (rd_T34 l (i : Int)).f0 (rd_T34 l (i : Int)).f1 (rd_T34 l (i : Int)).f2 (rd_T34 l (i : Int)).f3).bind fun b => if b = true then (if sayOk (rd_T34 l (i : Int)) = true then (if acc.length + (4 + (wordS (rd_T34 l (i : Int))).size) ≤ 140737488355328 then impl_Spell.l0 k l d (i + 1) (acc ++ gapS l i ++ (wordS (rd_T34 l (i : Int))).data.toList) else none) else none) else some ⟨#[]⟩
def impl_Spell.f (k : Nat) (l : List S34) : Option ByteArray := if (l.length : Int) > 60000 then some ⟨#[]⟩ else impl_Spell.l0 k l l.length 0 []
theorem impl_Spell.mono_l (k : Nat) (l : List S34) : ∀ d i acc, LeO (impl_Spell.l0 k l d i acc) (impl_Spell.l0 (k + 1) l d i acc)
  | 0, _, _ => LeO.refl _
  | d + 1, i, acc => by
    unfold impl_Spell.l0
    exact LeO.bind (impl_WordOk.mono _ _ _ _ k) (fun b => LeO.ite (LeO.ite (LeO.ite (impl_Spell.mono_l k l d _ _) (LeO.refl _)) (LeO.refl _)) (LeO.refl _))
theorem impl_Spell.mono : ∀ l k, LeO (impl_Spell.f k l) (impl_Spell.f (k + 1) l) := by
  intro l k
  unfold impl_Spell.f
  exact LeO.ite (LeO.refl _) (impl_Spell.mono_l k l _ _ _)
theorem own_moveF {w w1 : World} {base : Nat} {e : TypeId} {size n : Nat} {v : Value} {xs : List Value} (h : w.ownsRowF base e size v n xs) (hm : ∀ k, v.ownBlock = some k → w1.heap[k]? = w.heap[k]?) : w1.ownsRowF base e size v n xs := by
  obtain ⟨h1, h2⟩ := h
  refine ⟨h1, ?_⟩
  rcases h2 with h2 | ⟨g, cap, cur, fz, rfl, hg, hh, r⟩
  · exact .inl h2
  · exact .inr ⟨g, cap, cur, fz, rfl, hg, (hm g (by simp [Value.ownBlock])).trans hh, r⟩
theorem isat_below {T e : TypeId} {B b : Nat} {p : Value} {bs : List Value} {w w1 : World} (h : Lib.BuilderAtF T e B b p bs w) (hb : Below w.heap.size w w1) : Lib.BuilderAtF T e B b p bs w1 := by
  obtain ⟨h0, v, h1, h2, h3⟩ := h
  exact ⟨h0, v, blk_below h1 hb, own_moveF h2 (fun k hk => hb.block k (h2.lt k hk).2), h3⟩
theorem isb_below {T e : TypeId} {B b : Nat} {bs : List Value} {w w1 : World} (h : Lib.IsBuilderF T e B b bs w) (hb : Below w.heap.size w w1) : Lib.IsBuilderF T e B b bs w1 := by
  rcases h with h | h
  · exact .inl (isat_below h hb)
  · exact .inr (isat_below h hb)
theorem isb_blk {T e : TypeId} {B b : Nat} {bs : List Value} {w : World} (h : Lib.IsBuilderF T e B b bs w) : ∃ cs fr, w.heap[b]? = some (.cells cs T fr) := by
  rcases h with ⟨_, v, h, _⟩ | ⟨_, v, h, _⟩ <;> exact ⟨_, _, h⟩
theorem builder_ws (B b : Nat) (bs : List Value) (s : ByteArray) (w : World) (h : Lib.IsBuilderF 39 5 B b bs w) (hlen : bs.length + s.size ≤ 140737488355328) (hBw : B ≤ w.heap.size) :
    Calls Tryz.prog 14 #[.pointer (some ⟨b, 0, none⟩), .string s] w fun e w' => e = .returned (.tuple #[.int .i64 s.size, .nilIface]) ∧ (Lib.BuilderAtF 39 5 B b (.pointer (some ⟨b, 0, none⟩)) (bs ++ Lib.strCells s) w' ∧ Below B w w' ∧ Lib.OthersKept 5 (some b) w w') := Any.Builder_WriteString_k lays166 extra166 B b bs s w h hlen hBw
theorem builder_st (B b : Nat) (l : List UInt8) (w : World) (h : Lib.IsBuilderF 39 5 B b (Lib.byteCells l) w) (hBw : B ≤ w.heap.size) :
    Calls Tryz.prog 16 #[.pointer (some ⟨b, 0, none⟩)] w fun e w' => e = .returned (.string ⟨l.toArray⟩) ∧ Below B w w' := (Any.Builder_String_any_k lays169 extra169 B b l w h hBw).mono (fun _ _ h => ⟨h.1, h.2.2.1⟩)
theorem cells_app (l : List UInt8) (s : ByteArray) : Lib.byteCells l ++ Lib.strCells s = Lib.byteCells (l ++ s.data.toList) := by
  unfold Lib.byteCells Lib.strCells
  rw [List.map_append]
theorem t1 (i : Nat) (h0 : 0 < i) (h : i ≤ 60000) : wrap64 ((i : Int) - 1) = (i : Int) - 1 := by unfold wrap64; omega
theorem t2 (i : Nat) (h : i ≤ 60000) : wrap64 ((i : Int) + 1) = ((i + 1 : Nat) : Int) := by unfold wrap64; omega
theorem say1 {x : S34} (h : sayOk x = true) : x.f1.size ≤ 1048576 := by
  unfold sayOk at h
  simp only [Bool.and_eq_true, decide_eq_true_eq] at h
  exact h.1.1
theorem say3 {x : S34} (h : sayOk x = true) : x.f3.size ≤ 1048576 := by
  unfold sayOk at h
  simp only [Bool.and_eq_true, decide_eq_true_eq] at h
  exact h.1.2
theorem say6 {x : S34} (h : sayOk x = true) : x.f0 = 6 → -1000000000 ≤ x.f2 ∧ x.f2 ≤ 1000000000 := by
  intro h6
  unfold sayOk at h
  simp only [Bool.and_eq_true, decide_eq_true_eq, Bool.or_eq_true, bne_iff_ne, ne_eq] at h
  rcases h.2 with h | h
  · exact absurd h6 h
  · exact h
set_option maxHeartbeats 8000000 in
set_option maxRecDepth 100000 in
theorem impl_Spell.calls (k : Nat) (A : Option Addr) (c : Nat) (l : List S34) (r : ByteArray) (w : World) (hr : Kd.C k34 w A l.length l) (hc : l.length ≤ c) (hg : GTab w) (h : impl_Spell.f k l = some r) :
    Calls Tryz.prog 7 #[.slice A l.length c] w fun e w' => e = .returned (.string r) ∧ Below w.heap.size w w' := by
  have hu := Tryz.underlying34
  have HR := Aside0.mk hr
  have HC := Aside0.mk hc
  have HG := Aside0.mk hg
  unfold impl_Spell.f at h
  clear hr hc hg
  by_cases c6 : (l.length : Int) > 60000
  · rw [if_pos c6] at h
    obtain rfl := Option.some.inj h
    have d1 : decide (60000 < (l.length : Int)) = true := decide_eq_true c6
    have d2 : decide (60000 < l.length) = true := decide_eq_true (by omega)
    clear c6 h
    go_enter Tryz.func7, Tryz.ntmps7
    go_wp2
    go_ret
    exact ⟨rfl, Below.refl _ _⟩
  · rw [if_neg c6] at h
    have d1 : decide (60000 < (l.length : Int)) = false := decide_eq_false c6
    have d2 : decide (60000 < l.length) = false := decide_eq_false (by omega)
    have H := Aside0.mk h
    have LL := Aside0.mk (show l.length ≤ 60000 by omega)
    clear c6 h
    go_enter Tryz.func7, Tryz.ntmps7
    go_wp2_with (fail)
    have GB := Aside0.mk (Nat.le_refl w.heap.size)
    have HX1 := Aside0.mk (blk_new w (.cells #[.pointer none, .slice none 0 0] 39))
    have HB1 := Aside0.mk (below_alloc (Below.refl w.heap.size w) (.cells #[.pointer none, .slice none 0 0] 39))
    generalize w.alloc (.cells #[.pointer none, .slice none 0 0] 39) = w1 at HX1 HB1 ⊢
    obtain ⟨gb, egb⟩ : ∃ gb, gb = w.heap.size := ⟨_, rfl⟩
    have GB := Aside0.mk (show w.heap.size ≤ gb by omega)
    rw [← egb] at HX1 ⊢
    clear egb
    have HI := Aside0.mk (show Lib.IsBuilderF 39 5 w.heap.size gb (Lib.byteCells []) w1 from Or.inl ⟨GB.out, .slice none 0 0, HX1.out, World.ownsRowF_nil _ _ _ _, by simp [Value.ownBlock]⟩)
    clear HX1
    go_loopg [12] l.length (fun kq v12 w' => ∃ (i : Nat) (acc : List UInt8), v12 = .int .i64 (i : Int) ∧ Aside0 (i + kq = l.length) ∧ Aside0 (impl_Spell.l0 k l kq i acc = some r) ∧ Aside0 (Lib.IsBuilderF 39 5 w.heap.size gb (Lib.byteCells acc) w') ∧ Aside0 (Below w.heap.size w w'))
    case atStart => exact ⟨0, [], rfl, ⟨Nat.zero_add _⟩, H, HI, HB1⟩
    case round =>
      clear HI HB1 H
      obtain ⟨i, acc, rfl, HN, H, HI, HB⟩ := hrel
      cases gk with
      | zero =>
        have h := H.out
        simp only [impl_Spell.l0] at h
        obtain rfl := Option.some.inj h
        have hi : i = l.length := HN.out
        have dj : decide ((i : Int) < (l.length : Int)) = false := decide_eq_false (by omega)
        have dj2 : decide (i < l.length) = false := decide_eq_false (by omega)
        clear h hi
        go_wp2_with (first
          | ((with_reducible refine gate_dst (N := 41) rfl ?_); (refine goesL_ (some 41) rfl rfl Tryz.func16 (by kernel_rfl) rfl #[.pointer (some ⟨gb, 0, none⟩)] rfl (by (try simp only [List.map_toArray, List.map_cons, List.map_nil]); first | done | rfl) ?_; refine (builder_st w.heap.size gb acc _ HI.out HB.out.size).mono ?_; rintro e_ w5 ⟨rfl, hb⟩; refine ⟨_, rfl, ?_⟩; have HB5 := Aside0.mk (HB.out.trans hb); clear hb)))
        go_ret
        exact ⟨rfl, HB5.out⟩
      | succ d =>
        have hi : i < l.length := by have := HN.out; omega
        have dj : decide ((i : Int) < (l.length : Int)) = true := decide_eq_true (by omega)
        have dj2 : decide (i < l.length) = true := decide_eq_true hi
        have p5 : (0 ≤ (i : Int)) = True := eq_true (by omega)
        have q5 : ((i : Int) < (l.length : Int)) = True := eq_true (by omega)
        have h := H.out
        simp only [impl_Spell.l0] at h
        obtain ⟨b, hb0, h⟩ := Option.bind_eq_some_iff.mp h
        obtain ⟨ad, e0, x0, x1, x2, x3⟩ := at_T34 HR.out (i : Int) (by omega) (by omega)
        cases e0
        replace x0 := (HB.out.cell (World.block_lt_of_cell? w _ x0)).trans x0
        replace x1 := (HB.out.cell (World.block_lt_of_cell? w _ x1)).trans x1
        replace x2 := (HB.out.cell (World.block_lt_of_cell? w _ x2)).trans x2
        replace x3 := (HB.out.cell (World.block_lt_of_cell? w _ x3)).trans x3
        have HB0 := Aside0.mk hb0
        have HH := Aside0.mk h
        have II := Aside0.mk hi
        rw [Int.toNat_natCast] at x0 x1 x2 x3
        obtain ⟨m, em⟩ : ∃ m : Int, m = (i : Int) - 1 := ⟨_, rfl⟩
        have RR := Aside0.mk (show i = 0 ∨ w.cell? (ad.add (m.toNat * 4)) = some (.int .i64 (rd_T34 l m).f0) from by
          by_cases h0 : i = 0
          · exact .inl h0
          · obtain ⟨ad', e', y0, _⟩ := at_T34 HR.out m (by omega) (by omega)
            cases e'
            exact .inr y0)
        obtain ⟨x, ex⟩ : ∃ x, x = rd_T34 l (i : Int) := ⟨_, rfl⟩
        obtain ⟨y, ey⟩ : ∃ y, y = rd_T34 l m := ⟨_, rfl⟩
        have GP := Aside0.mk (show gapS l i = if 0 < i ∧ x.f0 ≠ 8 ∧ y.f0 ≠ 8 then [47, 42, 42, 47] else [] from by rw [ex, ey, em]; rfl)
        have EM := Aside0.mk em
        rw [← ex] at x0 x1 x2 x3 HB0 HH
        rw [← ey] at RR
        clear ex ey em h hb0 hi H
        go_upto_region 7 with (fail)
        have HX3 := Aside0.mk (blk_new wr (.cells #[.int .i64 x.f0, .string x.f1, .int .i64 x.f2, .string x.f3] 34))
        have HB3 := Aside0.mk (below_alloc HB.out (.cells #[.int .i64 x.f0, .string x.f1, .int .i64 x.f2, .string x.f3] 34))
        have HI3 := Aside0.mk (isb_below HI.out (below_alloc (Below.refl wr.heap.size wr) (.cells #[.int .i64 x.f0, .string x.f1, .int .i64 x.f2, .string x.f3] 34)))
        obtain ⟨gx, egx⟩ : ∃ gx, gx = wr.heap.size := ⟨_, rfl⟩
        have GX := Aside0.mk (show w.heap.size ≤ gx by rw [egx]; exact HB.out.size)
        have GN := Aside0.mk (show gx ≠ gb from by
          obtain ⟨cs, fr, hh⟩ := isb_blk HI.out
          have := blk_lt hh
          omega)
        rw [← egx] at HX3 ⊢
        clear egx x0 x1 x2 x3 HB HI
        generalize wr.alloc (.cells #[.int .i64 x.f0, .string x.f1, .int .i64 x.f2, .string x.f3] 34) = w3 at HX3 HB3 HI3 ⊢
        have k0 : w3.cell? ⟨gx, 0, none⟩ = some (.int .i64 x.f0) := (blk_cell HX3.out 0).trans rfl
        have k1 : w3.cell? ⟨gx, 1, none⟩ = some (.string x.f1) := (blk_cell HX3.out 1).trans rfl
        have k2 : w3.cell? ⟨gx, 2, none⟩ = some (.int .i64 x.f2) := (blk_cell HX3.out 2).trans rfl
        have k3 : w3.cell? ⟨gx, 3, none⟩ = some (.string x.f3) := (blk_cell HX3.out 3).trans rfl
        cases b with
        | false =>
          have h := HH.out
          rw [if_neg (by decide)] at h
          obtain rfl := Option.some.inj h
          clear h HH
          go_wp2_with (first
            | ((with_reducible refine gate_callee (f := 13) rfl ?_); refine goesL_ (some 18) rfl rfl Tryz.func13 (by kernel_rfl) rfl #[.agg #[.int .i64 x.f0, .string x.f1, .int .i64 x.f2, .string x.f3]] rfl (by (try simp only [List.map_toArray, List.map_cons, List.map_nil]); first | done | rfl) ?_; refine (impl_WordOk.calls k x.f0 x.f1 x.f2 x.f3 false _ HB0.out).mono ?_; rintro e w4 ⟨rfl, hb⟩; refine ⟨_, rfl, ?_⟩; have HB4 := Aside0.mk (below_step HB3.out hb); clear hb HB3))
          go_ret
          exact ⟨rfl, HB4.out⟩
        | true =>
          have h := HH.out
          rw [if_pos rfl] at h
          by_cases hs : sayOk x = true
          · rw [if_pos hs] at h
            by_cases hl : acc.length + (4 + (wordS x).size) ≤ 140737488355328
            · rw [if_pos hl] at h
              have SY := Aside0.mk hs
              have HL := Aside0.mk hl
              have HZ := Aside0.mk h
              clear h hs hl HH
              go_upto_region 9 with (first
                | ((with_reducible refine gate_callee (f := 13) rfl ?_); refine goesL_ (some 18) rfl rfl Tryz.func13 (by kernel_rfl) rfl #[.agg #[.int .i64 x.f0, .string x.f1, .int .i64 x.f2, .string x.f3]] rfl (by (try simp only [List.map_toArray, List.map_cons, List.map_nil]); first | done | rfl) ?_; refine (impl_WordOk.calls k x.f0 x.f1 x.f2 x.f3 true _ HB0.out).mono ?_; rintro e w4 ⟨rfl, hb⟩; refine ⟨_, rfl, ?_⟩; have HB4 := Aside0.mk (below_step HB3.out hb); have HI4 := Aside0.mk (isb_below HI3.out hb); have HX4 := Aside0.mk (blk_below HX3.out hb); clear hb HB3 HI3 HX3 k0 k1 k2 k3))
              go_cut [35] (fun v35 wc => ∃ g : Bool, v35 = .bool g ∧ Aside0 (gapS l i = if g = true then [47, 42, 42, 47] else []) ∧ wc = w4)
              case first =>
                have k0 : w4.cell? ⟨gx, 0, none⟩ = some (.int .i64 x.f0) := (blk_cell HX4.out 0).trans rfl
                by_cases g1 : 0 < i
                · have d1 : decide ((0 : Int) < (i : Int)) = true := decide_eq_true (by omega)
                  have d2 : decide (0 < i) = true := decide_eq_true g1
                  by_cases g2 : x.f0 = 8
                  · have d3 : (x.f0 != 8) = false := by rw [g2]; rfl
                    have G2 := Aside0.mk g2
                    clear g1 g2
                    go_wp2_with (fail)
                    go_meet
                    case rel => exact ⟨false, rfl, ⟨by rw [GP.out, if_neg (fun h => h.2.1 G2.out)]; rfl⟩, rfl⟩
                  · have d3 : (x.f0 != 8) = true := bne_iff_ne.mpr g2
                    have y0 : w4.cell? (ad.add (m.toNat * 4)) = some (.int .i64 y.f0) := by
                      rcases RR.out with h | h
                      · exact absurd h (by omega)
                      · exact (HB4.out.cell (World.block_lt_of_cell? w _ h)).trans h
                    have hw : wrap64 ((i : Int) - 1) = m := by have := EM.out; have := II.out; have := LL.out; rw [EM.out]; exact t1 i g1 (by omega)
                    have p6 : (0 ≤ m) = True := eq_true (by have := EM.out; omega)
                    have q6 : (m < (l.length : Int)) = True := eq_true (by have := EM.out; have := II.out; omega)
                    by_cases g3 : y.f0 = 8
                    · have d4 : (y.f0 != 8) = false := by rw [g3]; rfl
                      have G3 := Aside0.mk g3
                      clear g1 g2 g3
                      go_wp2_with (fail)
                      go_meet
                      case rel => exact ⟨false, rfl, ⟨by rw [GP.out, if_neg (fun h => h.2.2 G3.out)]; rfl⟩, rfl⟩
                    · have d4 : (y.f0 != 8) = true := bne_iff_ne.mpr g3
                      have G3 := Aside0.mk (show 0 < i ∧ x.f0 ≠ 8 ∧ y.f0 ≠ 8 from ⟨g1, g2, g3⟩)
                      clear g1 g2 g3
                      go_wp2_with (fail)
                      go_meet
                      case rel => exact ⟨true, rfl, ⟨by rw [GP.out, if_pos G3.out]; rfl⟩, rfl⟩
                · have d1 : decide ((0 : Int) < (i : Int)) = false := decide_eq_false (by omega)
                  have d2 : decide (0 < i) = false := decide_eq_false g1
                  have G1 := Aside0.mk g1
                  clear g1
                  go_wp2_with (fail)
                  go_meet
                  case rel => exact ⟨false, rfl, ⟨by rw [GP.out, if_neg (fun h => G1.out h.1)]; rfl⟩, rfl⟩
              case rest =>
              obtain ⟨g, rfl, GG, rfl⟩ := hcut
              go_upto_if 35 with (fail)
              go_cut [] (fun wc => Aside0 (Below w.heap.size w wc) ∧ Aside0 (Lib.IsBuilderF 39 5 w.heap.size gb (Lib.byteCells (acc ++ gapS l i)) wc) ∧ Aside0 (wc.heap[gx]? = some (.cells #[.int .i64 x.f0, .string x.f1, .int .i64 x.f2, .string x.f3] 34 (0, 0))))
              case first =>
                cases g with
                | false =>
                  go_wp2_with (fail)
                  go_meet
                  case rel => exact ⟨HB4, ⟨by rw [show gapS l i = [] from by simpa using GG.out, List.append_nil]; exact HI4.out⟩, HX4⟩
                | true =>
                  go_wp2_with (first
                    | ((with_reducible refine gate_dst (N := 36) rfl ?_); (refine goesL_ (some 36) rfl rfl Tryz.func14 (by kernel_rfl) rfl #[.pointer (some ⟨gb, 0, none⟩), .string ⟨#[47, 42, 42, 47]⟩] rfl (by (try simp only [List.map_toArray, List.map_cons, List.map_nil]); first | done | rfl) ?_; refine (builder_ws w.heap.size gb _ ⟨#[47, 42, 42, 47]⟩ _ HI4.out (by rw [Lib.byteCells_length]; have := HL.out; show acc.length + 4 ≤ _; omega) HB4.out.size).mono ?_; rintro e_ w5 ⟨rfl, hI, hb, hk⟩; refine ⟨_, rfl, ?_⟩; have HB5 := Aside0.mk (HB4.out.trans hb); have HI5 := Aside0.mk (show Lib.IsBuilderF 39 5 w.heap.size gb (Lib.byteCells (acc ++ [47, 42, 42, 47])) w5 from Or.inr (by rw [show Lib.byteCells (acc ++ [47, 42, 42, 47]) = Lib.byteCells acc ++ Lib.strCells ⟨#[47, 42, 42, 47]⟩ from List.map_append]; exact hI)); have HX5 := Aside0.mk (hk gx _ HX4.out (fun h => GN.out (Option.some.inj h)) (fun c fz h => by cases h)); clear hI hb hk)))
                  go_meet
                  case rel => exact ⟨HB5, ⟨by rw [show gapS l i = [47, 42, 42, 47] from by simpa using GG.out]; exact HI5.out⟩, HX5⟩
              case rest =>
                obtain ⟨HB5, HI5, HX5⟩ := hcut
                have k0 : wc.cell? ⟨gx, 0, none⟩ = some (.int .i64 x.f0) := (blk_cell HX5.out 0).trans rfl
                have k1 : wc.cell? ⟨gx, 1, none⟩ = some (.string x.f1) := (blk_cell HX5.out 1).trans rfl
                have k2 : wc.cell? ⟨gx, 2, none⟩ = some (.int .i64 x.f2) := (blk_cell HX5.out 2).trans rfl
                have k3 : wc.cell? ⟨gx, 3, none⟩ = some (.string x.f3) := (blk_cell HX5.out 3).trans rfl
                obtain ⟨z, ez⟩ : ∃ z, z = wordS x := ⟨_, rfl⟩
                have EZ := Aside0.mk (show spellS x.f0 x.f1 x.f2 x.f3 = z from ez.symm)
                have hgl : (gapS l i).length ≤ 4 := by rw [GP.out]; split <;> decide
                have GL := Aside0.mk hgl
                rw [← ez] at HL HZ
                clear ez hgl HI4 HB4 HX4
                go_wp2_with (first
                  | ((with_reducible refine gate_dst (N := 38) rfl ?_); (refine goesL_ (some 38) rfl rfl Tryz.func15 (by kernel_rfl) rfl #[.agg #[.int .i64 x.f0, .string x.f1, .int .i64 x.f2, .string x.f3]] rfl (by (try simp only [List.map_toArray, List.map_cons, List.map_nil]); first | done | rfl) ?_; refine (spell_calls _ x.f0 x.f2 x.f1 x.f3 (say6 SY.out) (say1 SY.out) (say3 SY.out) (HG.out.below HB5.out)).mono ?_; rintro e_ w6 ⟨rfl, hb⟩; rw [EZ.out]; refine ⟨_, rfl, ?_⟩; have HB6 := Aside0.mk (below_step HB5.out hb); have HI6 := Aside0.mk (isb_below HI5.out hb); clear hb HB5 HI5 HX5 k0 k1 k2 k3))
                  | ((with_reducible refine gate_dst (N := 39) rfl ?_); (refine goesL_ (some 39) rfl rfl Tryz.func14 (by kernel_rfl) rfl #[.pointer (some ⟨gb, 0, none⟩), .string z] rfl (by (try simp only [List.map_toArray, List.map_cons, List.map_nil]); first | done | rfl) ?_; refine (builder_ws w.heap.size gb _ z _ HI6.out (by rw [Lib.byteCells_length, List.length_append]; have := HL.out; have := GL.out; omega) HB6.out.size).mono ?_; rintro e_ w7 ⟨rfl, hI, hb, hk⟩; refine ⟨_, rfl, ?_⟩; have HB7 := Aside0.mk (HB6.out.trans hb); have HI7 := Aside0.mk (show Lib.IsBuilderF 39 5 w.heap.size gb (Lib.byteCells (acc ++ gapS l i ++ z.data.toList)) w7 from Or.inr (by rw [← cells_app]; exact hI)); clear hI hb hk HB6 HI6)))
                go_roundg d
                case measure => omega
                case rel => exact ⟨i + 1, acc ++ gapS l i ++ z.data.toList, congrArg (Value.int .i64) (t2 i (by have := II.out; have := LL.out; omega)), ⟨by have := HN.out; omega⟩, HZ, HI7, HB7⟩
            · rw [if_neg hl] at h
              cases h
          · rw [if_neg hs] at h
            cases h
end Go.Proofs.YtonmeoaponeadaaGreatDoor.QFnExactSpell
