/- impl's utf8Coding.read, walked: a strings.Builder into which whole sequences and marks of the bad ones go. -/
import Derived.Test.YtamhebnfgegijaaQFnExactCodePointsx3
import Derived.Test.YtamhebnfgegijaaQFnExactCodePointsx4
import Derived.Test.YtamhebnfgegijaaShelf
import Derived.Test.YtamhebnfgegijaaBytesEv
namespace Go.Proofs.Ytamhebnfgegijaa.QFnExactCodePoints
open Go Go.RowKit Go.Proofs.YtamhebnfgegijaaV.PrintWords Go.Proofs.YtamhebnfgegijaaV.PrintLast Go.Proofs.YtamhebnfgegijaaV.PrintMore Go.Proofs.Ytamhebnfgegijaa.BytesEv Go.Proofs.Ytamhebnfgegijaa.Shelf
set_option linter.unusedVariables false
set_option linter.unusedSimpArgs false

def ints (l : List UInt8) : List Int := l.map fun b => (b.toNat : Int)
def badL : List UInt8 := [239, 191, 189]
def impl_read.l0 : Nat → List UInt8 → List UInt8 → Option (List UInt8)
  | 0, _, _ => none
  | k + 1, b, acc => if 0 < b.length then ((impl_stretch.f k (ints b)).bind fun t => (if acc.length ≤ 35184372088832 then (if 0 ≤ t.1 then (if t.1 ≤ (b.length : Int) then (if t.2.1 = true then (impl_read.l0 k (b.drop t.1.toNat) (acc ++ b.take t.1.toNat)) else (impl_read.l0 k (b.drop t.1.toNat) (acc ++ badL))) else (none)) else (none)) else (none))) else (some acc)
theorem impl_read.mono_l : ∀ k, (∀ y0 y1, LeO (impl_read.l0 k y0 y1) (impl_read.l0 (k + 1) y0 y1))
  | 0 => fun _ _ r h => by simp [impl_read.l0] at h
  | k + 1 => by
    have ih0 := impl_read.mono_l k
    intro y0 y1
    unfold impl_read.l0
    repeat' first
      | (with_reducible exact ih0 _ _)
      | (with_reducible exact impl_stretch.mono _ _)
      | (with_reducible exact LeO.refl _)
      | (with_reducible exact LeO.none _)
      | (with_reducible refine LeO.ite ?_ ?_)
      | (with_reducible refine LeO.bind ?_ (fun _ => ?_))
theorem ints_length (l : List UInt8) : (ints l).length = l.length := List.length_map _
theorem ints_drop (l : List UInt8) (m : Nat) : ints (l.drop m) = (ints l).drop m := List.map_drop
theorem ints_take (l : List UInt8) (m : Nat) : ints (l.take m) = (ints l).take m := List.map_take
theorem cells_ints (l : List UInt8) : Lib.byteCells l = (ints l).map (Value.int .u8) := by
  unfold Lib.byteCells ints
  rw [List.map_map]
  rfl
theorem isb_drewN {T e : TypeId} {B b : Nat} {bs : List Value} {w : World} (h : Lib.IsBuilder T e B b bs w) : ∀ n, Lib.IsBuilder T e B b bs (w.drewN n)
  | 0 => h
  | n + 1 => isb_drewN (w := w.drew) h n
theorem read_cells {W : World} {A : Option Addr} {n : Nat} {l : List UInt8} {ad : Addr} (h : Kd.C (Kd.int .u8) W A n (ints l)) (e : A = some ad) : ∀ j u, (Lib.byteCells l)[j]? = some u → W.cell? (ad.add j) = some u := by
  intro j u hj
  rw [cells_ints, List.getElem?_map] at hj
  cases hx : (ints l)[j]? with
  | none => rw [hx] at hj; cases hj
  | some x =>
    rw [hx] at hj
    have hjl : j < (ints l).length := (List.getElem?_eq_some_iff.1 hx).1
    have hn : (ints l).length = n := h.1
    obtain ⟨ad', e', hc⟩ := Kd.at_int h (j : Int) (by omega) (by omega)
    obtain rfl : ad = ad' := Option.some.inj (e.symm.trans e')
    rw [Int.toNat_natCast] at hc
    rw [hc, ← Option.some.inj hj]
    unfold rd
    rw [Int.toNat_natCast, List.getD_eq_getElem?_getD, hx]
    rfl
theorem execHi {W : World} {a : Operand → Value} {o : Oper} {A : Option Addr} {n c : Nat} {m : Int} (x y : Operand) (hop : o.op = Op.slice 27 x none (some y) none) (hx : a x = .slice A n c) (hy : a y = .int .i64 m) (h0 : 0 ≤ m) (hm : m ≤ n) (hc : n ≤ c) :
    (execOp a o).run Try.prog W = .ok (.value (.slice A m.toNat c)) W := by
  obtain ⟨i0, hi0, _, hsz, _⟩ := info_parts info5
  have h1 := cut_to (P := Try.prog) 27 5 .i64 Try.underlying27 hi0 A n c m h0 hm hc W
  unfold execOp
  simp [hop, hx, hy, run_sliceAt_slice W 27 _ _ _ _ (show Try.prog.underlying 27 = some (.slice (Try.prog.elem 27)) by kernel_rfl), h1, Result.andThen]
theorem execLo {W : World} {a : Operand → Value} {o : Oper} {A : Option Addr} {n c : Nat} {m : Int} (x y : Operand) (hop : o.op = Op.slice 27 x (some y) none none) (hx : a x = .slice A n c) (hy : a y = .int .i64 m) (h0 : 0 ≤ m) (hm : m ≤ n) :
    (execOp a o).run Try.prog W = .ok (.value (.slice (if c = m.toNat then A else A.map (·.add (m.toNat * 1))) (n - m.toNat) (c - m.toNat))) W := by
  obtain ⟨i0, hi0, _, hsz, _⟩ := info_parts info5
  have h1 := cut_from (P := Try.prog) 27 5 .i64 Try.underlying27 hi0 1 hsz A n c m h0 hm W
  unfold execOp
  simp [hop, hx, hy, run_sliceAt_slice W 27 _ _ _ _ (show Try.prog.underlying 27 = some (.slice (Try.prog.elem 27)) by kernel_rfl), h1, Result.andThen]
set_option maxHeartbeats 8000000 in
set_option maxRecDepth 100000 in
theorem read_calls (k : Nat) (w : World) (A0 : Option Addr) (c0 : Nat) (b0 : List UInt8) (r : List UInt8) (hr : Kd.C (Kd.int .u8) w A0 b0.length (ints b0)) (hc : b0.length ≤ c0) (hl : b0.length ≤ 1048576) (h : impl_read.l0 k b0 [] = some r) :
    Calls Try.prog 11 #[.agg #[], .slice A0 b0.length c0] w fun e w' => e = .returned (.string ⟨r.toArray⟩) ∧ Below w.heap.size w w' := by
  have HR0 := Aside0.mk hr
  have HC0 := Aside0.mk hc
  have HL := Aside0.mk hl
  have H0 := Aside0.mk h
  have hub := Try.underlying36
  have huc := Try.underlying32
  clear hr hc hl h
  go_enter Try.func11, Try.ntmps11
  go_wp2_with (first
    | ((with_reducible refine gate_dst (N := 2) rfl ?_); refine box_event ?hg (N := 2) ?hd (cs := #[]) (t := 32) ?hr ?_; (case hd => rfl); (case hg => rfl); (case hr => first | (go_simp; done) | (go_simp; rfl)); intro gz hg w1 hbox hb; have HB1 := Aside0.mk hb; clear hg hbox hb)
    | ((with_reducible refine gate_dst (N := 5) rfl ?_); refine box_event ?hg (N := 5) ?hd (cs := #[.pointer none, .slice none 0 0]) (t := 36) ?hr ?_; (case hd => rfl); (case hg => rfl); (case hr => first | (go_simp; done) | (go_simp; rfl)); intro gb hg w2 hbox hb; have GB := Aside0.mk (show w.heap.size ≤ gb from (by rw [hg]; exact HB1.out.size)); have HB2 := Aside0.mk (below_step HB1.out hb); have HBX := Aside0.mk hbox; clear hg hbox hb HB1)
    | ((with_reducible refine gate_store (t := 36) (p := 5) rfl ?_); have y0 : w2.cell? ⟨gb, 0, none⟩ = some (.pointer none) := (blk_cell HBX.out 0).trans rfl; have y1 : w2.cell? ⟨gb, 1, none⟩ = some (.slice none 0 0) := (blk_cell HBX.out 1).trans rfl; have u0 := blk_frozen HBX.out 0; have u1 := blk_frozen HBX.out 1; refine store_event (t := 36) (p := 5) (v := ?voa) (w1 := ((w2.setCell ⟨gb, 0, none⟩ (.pointer none)).setCell ⟨gb, 1, none⟩ (.slice none 0 0))) ?hg ?ho ?hn ?hr ?_; (case ho => rfl); (case hg => rfl); (case hn => rfl); (case hr => first | (go_simp; done) | (go_simp; rfl)); intro w3 hw; have HB3 := Aside0.mk (show Below w.heap.size w w3 from by rw [hw]; exact below_set (below_set HB2.out GB.out) GB.out); have HBX3 := Aside0.mk (show w3.heap[gb]? = some (.cells #[.pointer none, .slice none 0 0] 36 (0, 0)) from by rw [hw]; exact blk_put (blk_put HBX.out 0 _ rfl) 1 _ rfl); clear hw HB2 HBX y0 y1 u0 u1))
  have HI := Aside0.mk (show Lib.IsBuilder 36 5 w.heap.size gb (Lib.byteCells []) w3 from Or.inl ⟨GB.out, .slice none 0 0, HBX3.out, World.ownsRow_nil _ _ _ _, by simp [Value.ownBlock]⟩)
  (try simp only [Act.put, List.setIfInBounds_toArray, List.set_cons_zero, List.set_cons_succ])
  go_loopg [1] k (fun kq v1 w' => ∃ (b acc : List UInt8) (A : Option Addr) (n c : Nat), v1 = .slice A n c ∧ Aside0 (n = b.length ∧ n ≤ c ∧ n ≤ 1048576 ∧ kq ≤ k) ∧ Aside0 (impl_read.l0 kq b acc = some r) ∧ Aside0 (Kd.C (Kd.int .u8) w A (ints b).length (ints b)) ∧ Aside0 (Lib.IsBuilder 36 5 w.heap.size gb (Lib.byteCells acc) w') ∧ Aside0 (Below w.heap.size w w'))
  case atStart => exact ⟨b0, [], A0, _, c0, rfl, ⟨rfl, HC0.out, HL.out, Nat.le_refl _⟩, H0, ⟨by rw [ints_length]; exact HR0.out⟩, HI, HB3⟩
  case round =>
    clear HI HB3 HBX3 H0
    obtain ⟨b, acc, A, n, c, rfl, HX, HH, HR, HI, HB⟩ := hrel
    cases gk with
    | zero => exact absurd HH.out (by simp [impl_read.l0])
    | succ k1 =>
      have hh := HH.out
      unfold impl_read.l0 at hh
      by_cases hb : 0 < b.length
      · rw [if_pos hb] at hh
        have hn0 : decide ((0 : Int) < (n : Int)) = true := decide_eq_true (by have := HX.out.1; omega)
        have hn1 : decide (0 < n) = true := decide_eq_true (by have := HX.out.1; omega)
        obtain ⟨⟨m, wh, op⟩, hst, hh⟩ := Option.bind_eq_some_iff.mp hh
        dsimp only at hh
        by_cases ha : acc.length ≤ 35184372088832
        · rw [if_pos ha] at hh
          by_cases hm0 : 0 ≤ m
          · rw [if_pos hm0] at hh
            by_cases hm1 : m ≤ (b.length : Int)
            · rw [if_pos hm1] at hh
              obtain ⟨ad, eA⟩ : ∃ ad, A = some ad := by
                obtain ⟨ad, e, _⟩ := HR.out.2.2 (by rw [ints_length]; exact hb)
                exact ⟨ad, e⟩
              subst eA
              have HAD := Aside0.mk (show ad.block < w.heap.size from Kd.C_lt HR.out (by rw [ints_length]; exact hb) (by decide))
              have HST := Aside0.mk hst
              have HA := Aside0.mk ha
              have HM0 := Aside0.mk hm0
              have HM1 := Aside0.mk (show m ≤ (n : Int) from by rw [HX.out.1]; exact hm1)
              have HMB := Aside0.mk (show m.toNat ≤ b.length from by omega)
              have HNI := Aside0.mk (show n = (ints b).length from by rw [ints_length]; exact HX.out.1)
              clear hst ha hm0 hm1 hb
              cases wh with
              | true =>
                rw [if_pos rfl] at hh
                have HN := Aside0.mk hh
                clear hh HH
                go_wp2_with (first
                  | ((with_reducible refine gate_dst (N := 15) rfl ?_); rw [HNI.out]; (refine goesL_ (some 15) rfl rfl Try.func12 (by kernel_rfl) rfl #[.slice (some ad) (ints b).length c] rfl (by (try simp only [List.map_toArray, List.map_cons, List.map_nil]); first | done | rfl) ?_; refine (impl_stretch.calls k1 _ c (ints b) m true op _ (Kd.C_below HR.out HB.out) (by rw [← HNI.out]; exact HX.out.2.1) HST.out).mono ?_; rintro e_ w4 ⟨rfl, ⟨nd, rfl⟩⟩; refine ⟨_, rfl, ?_⟩; have HB4 := Aside0.mk (show Below w.heap.size w (wr.drewN nd) from by apply pw_below_drewN; exact HB.out); have HI4 := Aside0.mk (isb_drewN HI.out nd); clear HB HI; generalize wr.drewN nd = w4 at HB4 HI4 ⊢))
                  | ((with_reducible refine gate_dst (N := 22) rfl ?_); refine Kd.event_run (v := .slice (some ad) m.toNat c) (w1 := w4) rfl ?hs22 ?_; (case hs22 => exact execHi _ _ rfl rfl rfl HM0.out (by rw [← HNI.out]; exact HM1.out) (by rw [← HNI.out]; exact HX.out.2.1)))
                  | ((with_reducible refine gate_dst (N := 23) rfl ?_); (refine goesL_ (some 23) rfl rfl Try.func13 (by kernel_rfl) rfl #[.pointer (some ⟨gb, 0, none⟩), .slice (some ad) m.toNat c] rfl (by (try simp only [List.map_toArray, List.map_cons, List.map_nil]); first | done | rfl) ?_; refine (builder_Write w.heap.size gb _ ad m.toNat c (Lib.byteCells (b.take m.toNat)) _ HI4.out (by rw [Lib.byteCells_length, List.length_take]; have := HMB.out; omega) (read_cells (by rw [ints_take]; exact Kd.C_take (Kd.C_below HR.out HB4.out) (by rw [ints_length]; exact HMB.out)) rfl) HAD.out (fun u hu => by unfold Lib.byteCells at hu; obtain ⟨x, _, rfl⟩ := List.mem_map.1 hu; rfl) (by rw [Lib.byteCells_length]; have := HA.out; have := HMB.out; have := HX.out; omega) HB4.out.size).mono ?_; rintro e_ w5 ⟨rfl, hI, hb⟩; refine ⟨_, rfl, ?_⟩; have HB5 := Aside0.mk (HB4.out.trans hb); have HI5 := Aside0.mk (show Lib.IsBuilder 36 5 w.heap.size gb (Lib.byteCells (acc ++ b.take m.toNat)) w5 from Or.inr (by rw [show Lib.byteCells (acc ++ b.take m.toNat) = Lib.byteCells acc ++ Lib.byteCells (b.take m.toNat) from List.map_append]; exact hI)); clear HB4 HI4 hI hb))
                  | ((with_reducible refine gate_dst (N := 27) rfl ?_); obtain ⟨A2, hA2⟩ : ∃ A2 : Option Addr, A2 = (if c = m.toNat then (some ad) else (some ad : Option Addr).map (·.add (m.toNat * 1))) := ⟨_, rfl⟩; obtain ⟨n2, hn2⟩ : ∃ n2 : Nat, n2 = (ints b).length - m.toNat := ⟨_, rfl⟩; obtain ⟨c2, hc2⟩ : ∃ c2 : Nat, c2 = c - m.toNat := ⟨_, rfl⟩; have HA2 := Aside0.mk hA2; have HN2 := Aside0.mk hn2; have HC2 := Aside0.mk hc2; clear hA2 hn2 hc2; refine Kd.event_run (v := .slice A2 n2 c2) (w1 := w5) rfl ?hs27a ?_; (case hs27a => rw [HA2.out, HN2.out, HC2.out]; exact execLo _ _ rfl rfl rfl HM0.out (by rw [← HNI.out]; exact HM1.out))))
                go_roundg k1
                case measure => omega
                case rel => exact ⟨b.drop m.toNat, acc ++ b.take m.toNat, A2, n2, c2, rfl, ⟨by rw [HN2.out, List.length_drop, ints_length], by have := HX.out; rw [HN2.out, HC2.out, ints_length]; omega, by have := HX.out; rw [HN2.out, ints_length]; omega, by have := HX.out.2.2.2; omega⟩, HN, ⟨by rw [HA2.out, ints_drop]; exact Kd.C_drop (k := Kd.int .u8) HR.out (by rw [ints_length]; exact HMB.out) (by rw [← HNI.out]; exact HX.out.2.1)⟩, HI5, HB5⟩
              | false =>
                rw [if_neg (by simp)] at hh
                have HN := Aside0.mk hh
                clear hh HH
                go_wp2_with (first
                  | ((with_reducible refine gate_dst (N := 15) rfl ?_); rw [HNI.out]; (refine goesL_ (some 15) rfl rfl Try.func12 (by kernel_rfl) rfl #[.slice (some ad) (ints b).length c] rfl (by (try simp only [List.map_toArray, List.map_cons, List.map_nil]); first | done | rfl) ?_; refine (impl_stretch.calls k1 _ c (ints b) m false op _ (Kd.C_below HR.out HB.out) (by rw [← HNI.out]; exact HX.out.2.1) HST.out).mono ?_; rintro e_ w4 ⟨rfl, ⟨nd, rfl⟩⟩; refine ⟨_, rfl, ?_⟩; have HB4 := Aside0.mk (show Below w.heap.size w (wr.drewN nd) from by apply pw_below_drewN; exact HB.out); have HI4 := Aside0.mk (isb_drewN HI.out nd); clear HB HI; generalize wr.drewN nd = w4 at HB4 HI4 ⊢))
                  | ((with_reducible refine gate_dst (N := 24) rfl ?_); (refine goesL_ (some 24) rfl rfl Try.func14 (by kernel_rfl) rfl #[.pointer (some ⟨gb, 0, none⟩), .string ⟨#[239, 191, 189]⟩] rfl (by (try simp only [List.map_toArray, List.map_cons, List.map_nil]); first | done | rfl) ?_; refine (builder_WriteString w.heap.size gb _ ⟨#[239, 191, 189]⟩ _ HI4.out (by rw [Lib.byteCells_length]; have := HA.out; show acc.length + 3 ≤ _; omega) HB4.out.size).mono ?_; rintro e_ w5 ⟨rfl, hI, hb⟩; refine ⟨_, rfl, ?_⟩; have HB5 := Aside0.mk (HB4.out.trans hb); have HI5 := Aside0.mk (show Lib.IsBuilder 36 5 w.heap.size gb (Lib.byteCells (acc ++ badL)) w5 from Or.inr (by rw [show Lib.byteCells (acc ++ badL) = Lib.byteCells acc ++ Lib.strCells ⟨#[239, 191, 189]⟩ from List.map_append]; exact hI)); clear HB4 HI4 hI hb))
                  | ((with_reducible refine gate_dst (N := 27) rfl ?_); obtain ⟨A2, hA2⟩ : ∃ A2 : Option Addr, A2 = (if c = m.toNat then (some ad) else (some ad : Option Addr).map (·.add (m.toNat * 1))) := ⟨_, rfl⟩; obtain ⟨n2, hn2⟩ : ∃ n2 : Nat, n2 = (ints b).length - m.toNat := ⟨_, rfl⟩; obtain ⟨c2, hc2⟩ : ∃ c2 : Nat, c2 = c - m.toNat := ⟨_, rfl⟩; have HA2 := Aside0.mk hA2; have HN2 := Aside0.mk hn2; have HC2 := Aside0.mk hc2; clear hA2 hn2 hc2; refine Kd.event_run (v := .slice A2 n2 c2) (w1 := w5) rfl ?hs27b ?_; (case hs27b => rw [HA2.out, HN2.out, HC2.out]; exact execLo _ _ rfl rfl rfl HM0.out (by rw [← HNI.out]; exact HM1.out))))
                go_roundg k1
                case measure => omega
                case rel => exact ⟨b.drop m.toNat, acc ++ badL, A2, n2, c2, rfl, ⟨by rw [HN2.out, List.length_drop, ints_length], by have := HX.out; rw [HN2.out, HC2.out, ints_length]; omega, by have := HX.out; rw [HN2.out, ints_length]; omega, by have := HX.out.2.2.2; omega⟩, HN, ⟨by rw [HA2.out, ints_drop]; exact Kd.C_drop (k := Kd.int .u8) HR.out (by rw [ints_length]; exact HMB.out) (by rw [← HNI.out]; exact HX.out.2.1)⟩, HI5, HB5⟩
            · rw [if_neg hm1] at hh
              cases hh
          · rw [if_neg hm0] at hh
            cases hh
        · rw [if_neg ha] at hh
          cases hh
      · rw [if_neg hb] at hh
        obtain rfl := Option.some.inj hh
        have hn0 : decide ((0 : Int) < (n : Int)) = false := decide_eq_false (by have := HX.out.1; omega)
        have hn1 : decide (0 < n) = false := decide_eq_false (by have := HX.out.1; omega)
        clear hb hh HH
        go_wp2_with (first
          | ((with_reducible refine gate_dst (N := 28) rfl ?_); (refine goesL_ (some 28) rfl rfl Try.func15 (by kernel_rfl) rfl #[.pointer (some ⟨gb, 0, none⟩)] rfl (by (try simp only [List.map_toArray, List.map_cons, List.map_nil]); first | done | rfl) ?_; refine (builder_String w.heap.size gb acc _ HI.out HB.out.size).mono ?_; rintro e_ w5 ⟨rfl, hb⟩; refine ⟨_, rfl, ?_⟩; have HB5 := Aside0.mk (HB.out.trans hb); clear hb)))
        go_ret
        exact ⟨rfl, HB5.out⟩
end Go.Proofs.Ytamhebnfgegijaa.QFnExactCodePoints
