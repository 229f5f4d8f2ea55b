/- laws.markNodeS: what it writes lies among the blocks of the nodes that it is handed; the number that it returns. -/
import Derived.Test.YtjghahkecglgdaaQFnExactLiveOfx8
namespace Go.Proofs.Ytjghahkecglgdaa.QFnExactLiveOf
open Go Go.RowKit Go.Proofs.YtjghahkecglgdaaV.PrintWords Go.Proofs.YtjghahkecglgdaaV.PrintLast Go.Proofs.YtjghahkecglgdaaV.PrintMore
set_option linter.unusedVariables false
set_option linter.unusedSimpArgs false

/-- The nodes in a row of one's own, from the m-th on: each leads to attributes of its own (f tells whose a block is). -/
structure NS (W : World) (base : Nat) (P : Nat → Prop) (g n m : Nat) (f : Nat → Nat) (l : List S78) : Prop where
  hb : base ≤ g
  hp : P g
  hl : l.length = n
  blk : ∃ cur, W.heap[g]? = some (.cells cur 78 (0, 0)) ∧ n * 6 ≤ cur.size
  el : ∀ i, m ≤ i → i < n → ∃ v, W.cell? ⟨g, i * 6 + 3, none⟩ = some v ∧ k166.R 166 W base (fun k => P k ∧ k ≠ g ∧ f k = i) v (l.getD i z78).f3

section
variable {W W1 : World} {base g n m cap : Nat} {P : Nat → Prop} {f : Nat → Nat} {l : List S78}
theorem ns_of_S (h : Kd.S k78 78 W base P (.slice (some ⟨g, 0, none⟩) n cap) l) : ∃ f, NS W base P g n 0 f l := by
  obtain ⟨f, hR⟩ := h
  have hn := (Kd.R_reads' hR).1
  rw [List.length_zipIdx] at hn
  refine ⟨f, Kd.R_base hR g (by simp [Value.ownBlock]), hR.1 g (by simp [Value.ownBlock]), hn.symm, ?_, fun i _ hi => ?_⟩
  · obtain ⟨_, inner, ho, _⟩ := hR
    rcases ho.2 with ⟨hv, _⟩ | ⟨g', cap', cur, hv, _, hh, hc, _, hs, _⟩
    · cases hv
    · injection hv with ha hn' hc'
      injection ha with ha
      injection ha with ha
      subst ha
      subst hc'
      refine ⟨cur, hh, ?_⟩
      rw [hs, hn']
      exact Nat.mul_le_mul_right _ hc
  · obtain ⟨c, hcl, hM, hcc, _⟩ := Kd.R_elem hR (z78, i) (i : Int) (by omega) (by omega)
    have hil : i < l.length := by omega
    have e : l.zipIdx.getD (i : Int).toNat (z78, i) = (l.getD i z78, i) := by
      rw [Int.toNat_natCast, List.getD_eq_getElem?_getD, Kd.zip_at (List.getElem?_eq_getElem hil), List.getD_eq_getElem?_getD, List.getElem?_eq_getElem hil]
      rfl
    rw [e] at hM
    obtain ⟨v, rfl, hv⟩ := k78_openM (show k78.M W base (fun k => (P k ∧ k ≠ g) ∧ f k = i) (l.getD i z78) c from hM)
    exact ⟨v, hcc 3 v rfl, Kd.R_mono hv (fun k hk => ⟨hk.1.1, hk.1.2, hk.2⟩)⟩
theorem ns_set (h : NS W base P g n m f l) {off : Nat} (ho : ∀ q, off ≠ q * 6 + 3) (u : Value) : NS (W.setCell ⟨g, off, none⟩ u) base P g n m f l := by
  obtain ⟨hb, hp, hl, ⟨cur, h1, h2⟩, el⟩ := h
  refine ⟨hb, hp, hl, ⟨_, blk_put h1 off u rfl, by rw [Array.size_setIfInBounds]; exact h2⟩, fun i hm hi => ?_⟩
  obtain ⟨v, hv, hR⟩ := el i hm hi
  refine ⟨v, ?_, Kd.R_far hR (fun k hk => hk.2.1) u⟩
  have e := World.cell?_setCell_other (w := W) (a := (⟨g, off, none⟩ : Addr)) (b := ⟨g, i * 6 + 3, none⟩) (v := u) (by intro e; injection e with _ e; exact ho i e)
  exact e.trans hv
theorem ns_below (h : NS W base P g n m f l) (hb : Below W.heap.size W W1) : NS W1 base P g n m f l := by
  obtain ⟨h0, hp, hl, ⟨cur, h1, h2⟩, el⟩ := h
  refine ⟨h0, hp, hl, ⟨cur, blk_below h1 hb, h2⟩, fun i hm hi => ?_⟩
  obtain ⟨v, hv, hR⟩ := el i hm hi
  exact ⟨v, pw_cell_below hb hv, Kd.R_below hR hb⟩
theorem ns_mark (h : NS W base P g n m f l) (hk : Kept W W1 (fun k => P k ∧ k ≠ g ∧ f k = m)) : NS W1 base P g n (m + 1) f l := by
  obtain ⟨h0, hp, hl, ⟨cur, h1, h2⟩, el⟩ := h
  have h3 : W1.heap[g]? = some (.cells cur 78 (0, 0)) := (hk.2 g (blk_lt h1) (fun h => h.2.1 rfl)).trans h1
  refine ⟨h0, hp, hl, ⟨cur, h3, h2⟩, fun i hm hi => ?_⟩
  obtain ⟨v, hv, hR⟩ := el i (by omega) hi
  refine ⟨v, by rw [blk_cell h3, ← blk_cell h1]; exact hv, Kd.R_kept hR hk (fun k hk1 hk2 => ?_)⟩
  have := hk1.2.2.symm.trans hk2.2.2
  omega
theorem ns_cell (h : NS W base P g n m f l) {off : Nat} (ho : off < n * 6) : ∃ u, W.cell? ⟨g, off, none⟩ = some u := by
  obtain ⟨cur, h1, h2⟩ := h.blk
  exact ⟨cur[off]'(by omega), by rw [blk_cell h1]; exact Array.getElem?_eq_getElem (by omega)⟩
theorem ns_frozen (h : NS W base P g n m f l) (off : Nat) : W.frozen? ⟨g, off, none⟩ = false := by
  obtain ⟨cur, h1, _⟩ := h.blk
  exact blk_frozen h1 off
end

def markF (k : Nat) : List S78 → Int → Option Int
  | [], a => some a
  | x :: r, a => (laws_markText.f k (wrap64 (wrap64 (a + 1) + 1))).bind fun _ => (laws_markAttrS.f k x.f3 (wrap64 (wrap64 (wrap64 (a + 1) + 1) + 1))).bind fun p => (laws_markText.f k p.1).bind fun _ => markF k r (wrap64 (wrap64 (p.1 + 1) + 1))
theorem markF_drop {k : Nat} {l : List S78} {m : Nat} {a r : Int} (hm : m < l.length) (h : markF k (l.drop m) a = some r) : ∃ t1 p1 p2 t2, laws_markText.f k (wrap64 (wrap64 (a + 1) + 1)) = some t1 ∧ laws_markAttrS.f k (l.getD m z78).f3 (wrap64 (wrap64 (wrap64 (a + 1) + 1) + 1)) = some (p1, p2) ∧ laws_markText.f k p1 = some t2 ∧ markF k (l.drop (m + 1)) (wrap64 (wrap64 (p1 + 1) + 1)) = some r := by
  rw [List.drop_eq_getElem_cons hm] at h
  have e : l.getD m z78 = l[m] := by rw [List.getD_eq_getElem?_getD, List.getElem?_eq_getElem hm]; rfl
  rw [e]
  obtain ⟨t1, h1, h⟩ := Option.bind_eq_some_iff.mp (show ((laws_markText.f k (wrap64 (wrap64 (a + 1) + 1))).bind fun _ => (laws_markAttrS.f k l[m].f3 (wrap64 (wrap64 (wrap64 (a + 1) + 1) + 1))).bind fun p => (laws_markText.f k p.1).bind fun _ => markF k (l.drop (m + 1)) (wrap64 (wrap64 (p.1 + 1) + 1))) = some r from h)
  obtain ⟨⟨p1, p2⟩, h2, h⟩ := Option.bind_eq_some_iff.mp h
  obtain ⟨t2, h3, h⟩ := Option.bind_eq_some_iff.mp h
  exact ⟨t1, p1, p2, t2, h1, h2, h3, h⟩
set_option maxHeartbeats 80000000 in
set_option maxRecDepth 100000 in
theorem laws_markNodeS.calls (k : Nat) (P : Nat → Prop) (u : Value) (l : List S78) (a1 r : Int) (w0 w : World) (hB : Below w0.heap.size w0 w) (ho : Kd.S k78 78 w w0.heap.size P u l) (h : markF k l a1 = some r) :
    Calls Try.prog 38 #[u, .int .i64 a1] w fun e w' => e = .returned (.int .i64 r) ∧ Below w0.heap.size w0 w' ∧ Kept w w' P := by
  obtain ⟨A, cap, hu, hlc, hC⟩ := Kd.S_reads ho
  subst hu
  have HL := Aside0.mk (show l.length ≤ 9223372036854775807 from hC.2.1)
  have HA := Aside0.mk (show 0 < l.length → ∃ g, A = some ⟨g, 0, none⟩ from by
    intro hp
    obtain ⟨g, cap', e, _⟩ := Kd.S_form ho hp
    injection e with e
    exact ⟨g, e⟩)
  have hf : ∃ f, ∀ g, A = some ⟨g, 0, none⟩ → NS w w0.heap.size P g l.length 0 f l := by
    cases A with
    | none => exact ⟨fun _ => 0, fun g e => by cases e⟩
    | some a =>
      obtain ⟨g, rfl⟩ := Kd.R_head (Kd.S_R ho)
      obtain ⟨f, hf⟩ := ns_of_S ho
      exact ⟨f, fun g' e => by injection e with e; injection e with e; subst e; exact hf⟩
  obtain ⟨f, hf⟩ := hf
  have H0 := Aside0.mk h
  have HN0 := Aside0.mk hf
  have HB := Aside0.mk hB
  have HK := Aside0.mk (Kept.refl w P)
  clear h hf hB hC hlc ho
  go_enter Try.func38, Try.ntmps38
  go_wp2
  go_loopg [1, 5] l.length (fun kq v1 v5 w' => ∃ (x1 : Int) (x5 : Int), v1 = .int .i64 x1 ∧ v5 = .int .i64 x5 ∧ Aside0 (0 ≤ x5 ∧ x5 ≤ (l.length : Int) ∧ kq + x5.toNat = l.length) ∧ Aside0 (markF k (l.drop x5.toNat) x1 = some r) ∧ Aside0 (∀ g, A = some ⟨g, 0, none⟩ → NS w' w0.heap.size P g l.length x5.toNat f l) ∧ Aside0 (Kept w w' P) ∧ Aside0 (Below w0.heap.size w0 w'))
  case atStart => exact ⟨a1, 0, rfl, rfl, ⟨by omega, by omega, by simp⟩, ⟨by simpa using H0.out⟩, ⟨fun g e => HN0.out g e⟩, HK, HB⟩
  case round =>
    clear HB HK HN0 H0
    obtain ⟨x1, x5, rfl, rfl, HX, HM, HNo, HK, HB⟩ := hrel
    by_cases c3 : x5 < (l.length : Int)
    · have c3b0 : decide (x5 < (l.length : Int)) = true := decide_eq_true c3
      have c5 : 0 ≤ x5 := HX.out.1
      have c5b0 : decide (0 ≤ x5) = true := decide_eq_true c5
      have hm : x5.toNat < l.length := by omega
      obtain ⟨g, eA⟩ := HA.out (by omega)
      subst eA
      have HN := Aside0.mk (HNo.out g rfl)
      clear HNo
      have GB := Aside0.mk HN.out.hb
      have HP := Aside0.mk HN.out.hp
      obtain ⟨t1, p1, p2, t2, h1, h2, h3, h4⟩ := markF_drop hm HM.out
      obtain ⟨fa, hfa⟩ : ∃ fa, fa = (l.getD x5.toNat z78).f3 := ⟨_, rfl⟩
      rw [← hfa] at h2
      have HF := Aside0.mk hfa
      clear hfa
      have H1 := Aside0.mk h1
      have H2 := Aside0.mk h2
      have H3 := Aside0.mk h3
      have H4 := Aside0.mk h4
      clear h1 h2 h3 h4 HM
      obtain ⟨uc0, hx0⟩ := ns_cell HN.out (off := x5.toNat * 6) (by omega); have hf0 := ns_frozen HN.out (x5.toNat * 6)
      have HX3 := Aside0.mk c3
      have HX5 := Aside0.mk c5
      have HXm := Aside0.mk hm
      have p5 : (0 ≤ x5) = True := eq_true c5
      have q5 : (x5 < (l.length : Int)) = True := eq_true c3
      go_wp2_with (first | ((with_reducible refine gate_store (t := 3) (p := 16) rfl ?_); refine store_event (t := 3) (p := 16) (v := ?vo_w1) (w1 := (wr.setCell ⟨g, x5.toNat * 6, none⟩ (.int .i64 x1))) ?hg ?ho ?hn ?hr ?_; (case ho => rfl); (case hg => rfl); (case hn => rfl); (case hr => first | (go_simp; done) | (go_simp; rfl)); intro w1 hw; have n0_ := Aside0.mk (show NS w1 w0.heap.size P g l.length (x5.toNat) f l from by rw [hw]; exact ns_set HN.out (by intro q; omega) _); have n1_ := Aside0.mk (show Below w0.heap.size w0 w1 from by rw [hw]; exact below_set HB.out GB.out); have n2_ := Aside0.mk (show Kept w w1 P from by rw [hw]; exact Kept.setCell HK.out (.inl HP.out) _); clear HN HB HK; have HN := n0_; have HB := n1_; have HK := n2_; clear n0_ n1_ n2_; clear hw hx0 hf0; obtain ⟨uc1, hx1⟩ := ns_cell HN.out (off := x5.toNat * 6 + 1) (by omega); have hf1 := ns_frozen HN.out (x5.toNat * 6 + 1)) | ((with_reducible refine gate_store (t := 3) (p := 23) rfl ?_); refine store_event (t := 3) (p := 23) (v := ?vo_w2) (w1 := (w1.setCell ⟨g, x5.toNat * 6 + 1, none⟩ (.int .i64 (wrap64 (x1 + 1))))) ?hg ?ho ?hn ?hr ?_; (case ho => rfl); (case hg => rfl); (case hn => rfl); (case hr => first | (go_simp; done) | (go_simp; rfl)); intro w2 hw; have n0_ := Aside0.mk (show NS w2 w0.heap.size P g l.length (x5.toNat) f l from by rw [hw]; exact ns_set HN.out (by intro q; omega) _); have n1_ := Aside0.mk (show Below w0.heap.size w0 w2 from by rw [hw]; exact below_set HB.out GB.out); have n2_ := Aside0.mk (show Kept w w2 P from by rw [hw]; exact Kept.setCell HK.out (.inl HP.out) _); clear HN HB HK; have HN := n0_; have HB := n1_; have HK := n2_; clear n0_ n1_ n2_; clear hw hx1 hf1) | ((with_reducible refine gate_dst (N := 29) rfl ?_); refine goesL_ (some 29) rfl rfl Try.func69 (by kernel_rfl) rfl #[.int .i64 (wrap64 (wrap64 (x1 + 1) + 1))] rfl (by (try simp only [List.map_toArray, List.map_cons, List.map_nil]); first | done | rfl | (simp only [List.length_drop, List.length_take]; rfl)) ?_; (with_reducible refine (laws_markText.calls k (wrap64 (wrap64 (x1 + 1) + 1)) t1 _ H1.out).mono ?_); rintro e w3 ⟨rfl, hb⟩; refine ⟨_, rfl, ?_⟩; have n0_ := Aside0.mk (ns_below HN.out hb); have n1_ := Aside0.mk (below_step HB.out hb); have n2_ := Aside0.mk (Kept.below (S := P) HK.out hb); clear HN HB HK; have HN := n0_; have HB := n1_; have HK := n2_; clear n0_ n1_ n2_; (try clear hb); obtain ⟨uc2, hx2⟩ := ns_cell HN.out (off := x5.toNat * 6 + 2) (by omega); have hf2 := ns_frozen HN.out (x5.toNat * 6 + 2)) | ((with_reducible refine gate_store (t := 9) (p := 31) rfl ?_); refine store_event (t := 9) (p := 31) (v := ?vo_w4) (w1 := (w3.setCell ⟨g, x5.toNat * 6 + 2, none⟩ (.string t1))) ?hg ?ho ?hn ?hr ?_; (case ho => rfl); (case hg => rfl); (case hn => rfl); (case hr => first | (go_simp; done) | (go_simp; rfl)); intro w4 hw; have n0_ := Aside0.mk (show NS w4 w0.heap.size P g l.length (x5.toNat) f l from by rw [hw]; exact ns_set HN.out (by intro q; omega) _); have n1_ := Aside0.mk (show Below w0.heap.size w0 w4 from by rw [hw]; exact below_set HB.out GB.out); have n2_ := Aside0.mk (show Kept w w4 P from by rw [hw]; exact Kept.setCell HK.out (.inl HP.out) _); clear HN HB HK; have HN := n0_; have HB := n1_; have HK := n2_; clear n0_ n1_ n2_; clear hw hx2 hf2; obtain ⟨va, hva, hRa⟩ := HN.out.el x5.toNat (Nat.le_refl _) (by omega); rw [← HF.out] at hRa; obtain ⟨Aa, ca, ea⟩ := Kd.R_slice hRa; subst ea; have HR := Aside0.mk hRa; have hx3 := hva; clear hRa hva) | ((with_reducible refine gate_dst (N := 40) rfl ?_); refine goesL_ (some 40) rfl rfl Try.func70 (by kernel_rfl) rfl #[.slice Aa fa.length ca, .int .i64 (wrap64 (wrap64 (wrap64 (x1 + 1) + 1) + 1))] rfl (by (try simp only [List.map_toArray, List.map_cons, List.map_nil]); first | done | rfl | (simp only [List.length_drop, List.length_take]; rfl)) ?_; refine (laws_markAttrS.calls k (fun k_ => P k_ ∧ k_ ≠ g ∧ f k_ = x5.toNat) _ _ (wrap64 (wrap64 (wrap64 (x1 + 1) + 1) + 1)) p1 p2 w0 _ HB.out HR.out H2.out).mono ?_; rintro e w5 ⟨rfl, _, hb, hk⟩; refine ⟨_, rfl, ?_⟩; have n0_ := Aside0.mk (ns_mark HN.out hk); have n1_ := Aside0.mk hb; have n2_ := Aside0.mk (Kept.then_ HK.out hk (fun k_ h_ => .inl h_.1)); clear HN HB HK; have HN := n0_; have HB := n1_; have HK := n2_; clear n0_ n1_ n2_; clear hb hk HR hx3) | ((with_reducible refine gate_dst (N := 44) rfl ?_); refine goesL_ (some 44) rfl rfl Try.func69 (by kernel_rfl) rfl #[.int .i64 p1] rfl (by (try simp only [List.map_toArray, List.map_cons, List.map_nil]); first | done | rfl | (simp only [List.length_drop, List.length_take]; rfl)) ?_; (with_reducible refine (laws_markText.calls k p1 t2 _ H3.out).mono ?_); rintro e w6 ⟨rfl, hb⟩; refine ⟨_, rfl, ?_⟩; have n0_ := Aside0.mk (ns_below HN.out hb); have n1_ := Aside0.mk (below_step HB.out hb); have n2_ := Aside0.mk (Kept.below (S := P) HK.out hb); clear HN HB HK; have HN := n0_; have HB := n1_; have HK := n2_; clear n0_ n1_ n2_; (try clear hb); obtain ⟨uc4, hx4⟩ := ns_cell HN.out (off := x5.toNat * 6 + 4) (by omega); have hf4 := ns_frozen HN.out (x5.toNat * 6 + 4)) | ((with_reducible refine gate_store (t := 9) (p := 46) rfl ?_); refine store_event (t := 9) (p := 46) (v := ?vo_w7) (w1 := (w6.setCell ⟨g, x5.toNat * 6 + 4, none⟩ (.string t2))) ?hg ?ho ?hn ?hr ?_; (case ho => rfl); (case hg => rfl); (case hn => rfl); (case hr => first | (go_simp; done) | (go_simp; rfl)); intro w7 hw; have n0_ := Aside0.mk (show NS w7 w0.heap.size P g l.length (x5.toNat + 1) f l from by rw [hw]; exact ns_set HN.out (by intro q; omega) _); have n1_ := Aside0.mk (show Below w0.heap.size w0 w7 from by rw [hw]; exact below_set HB.out GB.out); have n2_ := Aside0.mk (show Kept w w7 P from by rw [hw]; exact Kept.setCell HK.out (.inl HP.out) _); clear HN HB HK; have HN := n0_; have HB := n1_; have HK := n2_; clear n0_ n1_ n2_; clear hw hx4 hf4; obtain ⟨uc5, hx5⟩ := ns_cell HN.out (off := x5.toNat * 6 + 5) (by omega); have hf5 := ns_frozen HN.out (x5.toNat * 6 + 5)) | ((with_reducible refine gate_store (t := 3) (p := 53) rfl ?_); refine store_event (t := 3) (p := 53) (v := ?vo_w8) (w1 := (w7.setCell ⟨g, x5.toNat * 6 + 5, none⟩ (.int .i64 (wrap64 (p1 + 1))))) ?hg ?ho ?hn ?hr ?_; (case ho => rfl); (case hg => rfl); (case hn => rfl); (case hr => first | (go_simp; done) | (go_simp; rfl)); intro w8 hw; have n0_ := Aside0.mk (show NS w8 w0.heap.size P g l.length (x5.toNat + 1) f l from by rw [hw]; exact ns_set HN.out (by intro q; omega) _); have n1_ := Aside0.mk (show Below w0.heap.size w0 w8 from by rw [hw]; exact below_set HB.out GB.out); have n2_ := Aside0.mk (show Kept w w8 P from by rw [hw]; exact Kept.setCell HK.out (.inl HP.out) _); clear HN HB HK; have HN := n0_; have HB := n1_; have HK := n2_; clear n0_ n1_ n2_; clear hw hx5 hf5))
      go_roundg (gk - 1)
      case measure => have := HX.out; omega
      case rel =>
        have e : wrap64 (x5 + 1) = x5 + 1 := by have := HL.out; have := HX.out; have := HX3.out; unfold wrap64; omega
        have e2 : (x5 + 1).toNat = x5.toNat + 1 := by have := HX.out; omega
        exact ⟨_, _, rfl, rfl, ⟨by rw [e]; have := HX.out; have := HX3.out; omega⟩, ⟨by rw [e, e2]; exact H4.out⟩, ⟨fun g' eg => by injection eg with eg; injection eg with eg; subst eg; rw [e, e2]; exact HN.out⟩, HK, HB⟩
    · have c3b0 : decide (x5 < (l.length : Int)) = false := decide_eq_false c3
      have e : x5.toNat = l.length := by have := HX.out; omega
      have hr := HM.out
      rw [e, List.drop_length] at hr
      have hr : x1 = r := Option.some.inj hr
      subst hr
      clear c3
      go_wp2
      go_ret
      exact ⟨rfl, HB.out, HK.out⟩

end Go.Proofs.Ytjghahkecglgdaa.QFnExactLiveOf
