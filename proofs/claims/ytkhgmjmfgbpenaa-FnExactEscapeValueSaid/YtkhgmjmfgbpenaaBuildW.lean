/- (*strings.Replacer).build and buildOnce, walked: where a key is of two bytes the replacer is the generic one. -/
import Derived.Test.YtkhgmjmfgbpenaaMkW
namespace Go.Proofs.Ytkhgmjmfgbpenaa.Trie
open Go Go.RowKit Go.Proofs.YtkhgmjmfgbpenaaV.PrintWords Go.Proofs.YtkhgmjmfgbpenaaV.PrintLast Go.Proofs.YtkhgmjmfgbpenaaV.PrintMore Go.Proofs.Ytkhgmjmfgbpenaa.Once
set_option linter.unusedVariables false
set_option linter.unusedSimpArgs false

/-- A generic replacer in memory. -/
def Gen (W : World) (L : List ByteArray) (np tn : Nat) (ps : List (Option UInt8 × ByteArray)) (base gr : Nat) : Prop :=
  ∃ gt tv M, base ≤ gr ∧ base ≤ gt ∧ M = (numM (mkA L np) (tn : Int) 256).1 ∧ W.heap[gr]? = some (.cells (rC gt tn M) 76 (0, 0)) ∧ W.heap[gt]? = some (.cells tv.toArray 71 (0, 0)) ∧ tv.length = tn ∧ TabP W M ps L.length np tv
/-- What the pairs must be. -/
structure Fit (L : List ByteArray) (np tn q0 : Nat) (ps : List (Option UInt8 × ByteArray)) : Prop where
  two : L.length = 2 * np
  small : L.length ≤ 1000
  more : 2 < L.length
  keys : ∀ i, i < L.length → (strAt L i).size ≤ 1000
  has : q0 < np
  one : ∀ q, q < q0 → (strAt L (2 * q)).size = 1
  nb : (strAt L (2 * q0)).size ≠ 1
  ts : sumT (mkA L np) 256 = (tn : Int)
  tl : tn ≤ 256
  pairs : ∀ M, M = (numM (mkA L np) (tn : Int) 256).1 → Pairs L M tn np ps
set_option maxRecDepth 100000 in
set_option maxHeartbeats 8000000 in
theorem build_calls (w : World) (b : Nat) (A : Option Addr) (c : Nat) (s : Int) (v3 : Value) (L : List ByteArray) (np tn q0 : Nat) (ps : List (Option UInt8 × ByteArray)) (hb : w.heap[b]? = some (.cells (onceC 0 1 s v3 (.slice A L.length c)) 44 (0, 0)))
    (hr : Kd.string.C w A L.length L) (hc : L.length ≤ c) (F : Fit L np tn q0 ps) :
    Calls Try.prog 16 #[.pointer (some ⟨b, 0, none⟩)] w fun e w' => ∃ gr, e = .returned (.iface 55 (.pointer (some ⟨gr, 0, none⟩))) ∧ Below w.heap.size w w' ∧ Gen w' L np tn ps w.heap.size gr := by
  have h4 : w.cell? ⟨b, 4, none⟩ = some (.slice A L.length c) := (blk_cell hb 4).trans rfl
  have HR := Aside0.mk hr
  have HC := Aside0.mk hc
  have FF := Aside0.mk F
  have z1 : ((L.length : Int) == 2) = false := beq_eq_false_iff_ne.mpr (by have := F.more; omega)
  have z2 : (L.length == 2) = false := beq_eq_false_iff_ne.mpr (by have := F.more; omega)
  clear hr hc F hb
  go_enter Try.func16, Try.ntmps16
  go_wp2_with (fail)
  go_loopg [5] (q0 + 1) (fun kq v5 w' => ∃ (i q : Nat), v5 = .int .i64 (i : Int) ∧ Aside0 (i = 2 * q) ∧ Aside0 (kq + q = q0 + 1 ∧ q ≤ q0) ∧ w' = w)
  case atStart => exact ⟨0, 0, rfl, ⟨rfl⟩, ⟨by omega, by omega⟩, rfl⟩
  case round =>
    obtain ⟨i, q, rfl, HI, HQ, rfl⟩ := hrel
    have hil : i + 1 < L.length := by have := FF.out.two; have := FF.out.has; have := HI.out; have := HQ.out; omega
    have hsm := FF.out.small
    have dj : decide ((i : Int) < (L.length : Int)) = true := decide_eq_true (by omega)
    have dj2 : decide (i < L.length) = true := decide_eq_true (by omega)
    have p5 : (0 ≤ (i : Int)) = True := eq_true (by omega)
    have q5 : ((i : Int) < (L.length : Int)) = True := eq_true (by omega)
    have p6 : (0 ≤ (i : Int) + 1) = True := eq_true (by omega)
    have q6 : ((i : Int) + 1 < (L.length : Int)) = True := eq_true (by omega)
    have e6 : ((i : Int) + 1).toNat = i + 1 := by omega
    have hw1 : wrap64 ((i : Int) + 1) = (i : Int) + 1 := by unfold wrap64; omega
    have hw2 : wrap64 ((i : Int) + 2) = ((i + 2 : Nat) : Int) := by unfold wrap64; omega
    obtain ⟨ad, eA, hx⟩ := Kd.at_string HR.out (i : Int) (by omega) (by omega)
    obtain ⟨ad2, eA2, hy⟩ := Kd.at_string HR.out ((i + 1 : Nat) : Int) (by omega) (by omega)
    cases eA
    cases eA2
    rw [Int.toNat_natCast] at hx hy
    rw [show rdOf ByteArray.empty L (i : Int) = strAt L (2 * q) from by rw [HI.out]] at hx
    have hy0 := hy
    simp only [go_sem] at hy0
    obtain ⟨key, ek⟩ : ∃ key, key = strAt L (2 * q) := ⟨_, rfl⟩
    obtain ⟨val, ev⟩ : ∃ val, val = rdOf ByteArray.empty L ((i + 1 : Nat) : Int) := ⟨_, rfl⟩
    rw [← ek] at hx
    rw [← ev] at hy hy0
    have EK := Aside0.mk ek
    have HIL := Aside0.mk hil
    clear ek ev hil hsm
    by_cases hq : q < q0
    · have hs : key.size = 1 := by rw [EK.out]; exact FF.out.one q hq
      have s1 : ((key.size : Int) != 1) = false := by rw [hs]; rfl
      have s2 : (key.size != 1) = false := by rw [hs]; rfl
      have QQ := Aside0.mk hq
      clear hs hq
      by_cases hv : val.size = 1
      · have s3 : ((val.size : Int) != 1) = false := by rw [hv]; rfl
        have s4 : (val.size != 1) = false := by rw [hv]; rfl
        clear hv
        go_wp2_with (fail)
        go_roundg (q0 - q)
        case measure => have := HQ.out; have := QQ.out; omega
        case rel => exact ⟨i + 2, q + 1, by rw [hw2], ⟨by have := HI.out; omega⟩, ⟨by have := QQ.out; omega, by have := QQ.out; omega⟩, rfl⟩
      · have s3 : ((val.size : Int) != 1) = true := bne_iff_ne.mpr (by omega)
        have s4 : (val.size != 1) = true := bne_iff_ne.mpr hv
        clear hv
        go_wp2_with (fail)
        go_roundg (q0 - q)
        case measure => have := HQ.out; have := QQ.out; omega
        case rel => exact ⟨i + 2, q + 1, by rw [hw2], ⟨by have := HI.out; omega⟩, ⟨by have := QQ.out; omega, by have := QQ.out; omega⟩, rfl⟩
    · have eq_ : q = q0 := by have := HQ.out; omega
      have hs : key.size ≠ 1 := by rw [EK.out, eq_]; exact FF.out.nb
      have s1 : ((key.size : Int) != 1) = true := bne_iff_ne.mpr (by omega)
      have s2 : (key.size != 1) = true := bne_iff_ne.mpr hs
      clear hs hq eq_
      go_wp2_with (first
        | (go_at_call 22; refine (mk_calls wr (some ad) c L HR.out HC.out FF.out.small np FF.out.two FF.out.keys tn FF.out.ts FF.out.tl ps FF.out.pairs).mono ?_; rintro e w2 ⟨gr, gt, tv, M, rfl, hb, h1, h2, h3, h4, h5, h6, h7⟩; have HB2 := Aside0.mk hb; have HG2 := Aside0.mk (show Gen w2 L np tn ps wr.heap.size gr from ⟨gt, tv, M, h1, h2, h3, h4, h5, h6, h7⟩); clear hb h1 h2 h3 h4 h5 h6 h7))
      go_ret
      exact ⟨gr, rfl, HB2.out, HG2.out⟩
section
variable {W W1 : World} {L : List ByteArray} {np tn : Nat} {ps : List (Option UInt8 × ByteArray)} {base gr : Nat} {S : Nat → Prop}
theorem Gen.chg (h : Gen W L np tn ps base gr) (hc : Chg S W W1) (hs : ∀ g cs T, T = 76 ∨ T = 71 ∨ T = 74 → W.heap[g]? = some (.cells cs T (0, 0)) → ¬ S g) : Gen W1 L np tn ps base gr := by
  obtain ⟨gt, tv, M, h1, h2, h3, h4, h5, h6, h7⟩ := h
  exact ⟨gt, tv, M, h1, h2, h3, hc.blk h4 (hs _ _ _ (.inl rfl) h4), hc.blk h5 (hs _ _ _ (.inr (.inl rfl)) h5), h6, h7.chg hc (fun g cs hg => hs _ _ _ (.inr (.inr rfl)) hg)⟩
theorem Gen.mono {base' : Nat} (h : Gen W L np tn ps base gr) (hb : base' ≤ base) : Gen W L np tn ps base' gr := by
  obtain ⟨gt, tv, M, h1, h2, h3, h4, h5, h6, h7⟩ := h
  exact ⟨gt, tv, M, by omega, by omega, h3, h4, h5, h6, h7⟩
theorem Gen.set44 (h : Gen W L np tn ps base gr) {b : Nat} {cs : Array Value} (hb : W.heap[b]? = some (.cells cs 44 (0, 0))) (i : Nat) (u : Value) : Gen (W.setCell ⟨b, i, none⟩ u) L np tn ps base gr :=
  h.chg ((Chg.refl (fun k => k = b) W).set (g := b) (.inl rfl) i u) (fun g cs' T hT hg e => by
    subst e
    exact blk_ne hg hb (by rcases hT with rfl | rfl | rfl <;> decide) rfl)
end
/-- What buildOnce has made. -/
def Made (w : World) (b : Nat) (s : Int) (L : List ByteArray) (np tn : Nat) (ps : List (Option UInt8 × ByteArray)) (w2 : World) : Prop :=
  ∃ gr, w2.heap[b]? = some (.cells (onceC 0 1 s (.iface 55 (.pointer (some ⟨gr, 0, none⟩))) nilS) 44 (0, 0)) ∧ Chg (fun k => k = b) w w2 ∧ Gen w2 L np tn ps w.heap.size gr
set_option maxRecDepth 100000 in
set_option maxHeartbeats 8000000 in
theorem buildOnce_calls (w : World) (b : Nat) (A : Option Addr) (c : Nat) (s : Int) (v3 : Value) (L : List ByteArray) (np tn q0 : Nat) (ps : List (Option UInt8 × ByteArray)) (hb : w.heap[b]? = some (.cells (onceC 0 1 s v3 (.slice A L.length c)) 44 (0, 0)))
    (hr : Kd.string.C w A L.length L) (hc : L.length ≤ c) (F : Fit L np tn q0 ps) :
    Calls Try.prog 13 #[.pointer (some ⟨b, 0, none⟩)] w fun e w' => e = .returned (.tuple #[]) ∧ Made w b s L np tn ps w' := by
  have HB := Aside0.mk hb
  have HR := Aside0.mk hr
  have HC := Aside0.mk hc
  have FF := Aside0.mk F
  clear hr hc F hb
  go_enter Try.func13, Try.ntmps13
  go_wp2_with (first
    | (go_at_call 16; refine (build_calls w b A c s v3 L np tn q0 ps HB.out HR.out HC.out FF.out).mono ?_; rintro e w2 ⟨gr, rfl, hb2, hg2⟩; have HB2 := Aside0.mk (blk_below HB.out hb2); have HG2 := Aside0.mk hg2; have K2 := Aside0.mk ((Chg.refl (fun k => k = b) w).below hb2); clear hb2 hg2; have h3 : w2.cell? ⟨b, 3, none⟩ = some v3 := (blk_cell HB2.out 3).trans rfl; have f3 := blk_frozen HB2.out 3)
    | ((with_reducible refine gate_store (t := 42) (p := 6) rfl ?_); refine store_event (t := 42) (p := 6) (v := ?vo1) (w1 := w2.setCell ⟨b, 3, none⟩ (.iface 55 (.pointer (some ⟨gr, 0, none⟩)))) ?hg ?ho ?hn ?hr ?_; (case ho => rfl); (case hg => rfl); (case hn => rfl); (case hr => first | (go_simp; done) | (go_simp; rfl)); intro w3 hw3; have HB3 := Aside0.mk (show w3.heap[b]? = some (.cells (onceC 0 1 s (.iface 55 (.pointer (some ⟨gr, 0, none⟩))) (.slice A L.length c)) 44 (0, 0)) from by rw [hw3]; exact blk_put HB2.out 3 _ rfl); have HG3 := Aside0.mk (show Gen w3 L np tn ps w.heap.size gr from by rw [hw3]; exact HG2.out.set44 HB2.out _ _); have K3 := Aside0.mk (show Chg (fun k => k = b) w w3 from by rw [hw3]; exact K2.out.set (g := b) (.inl rfl) _ _); clear hw3 h3 f3 HB2 HG2 K2; have h4 : w3.cell? ⟨b, 4, none⟩ = some (.slice A L.length c) := (blk_cell HB3.out 4).trans rfl; have f4 := blk_frozen HB3.out 4)
    | ((with_reducible refine gate_store (t := 28) (p := 9) rfl ?_); refine store_event (t := 28) (p := 9) (v := ?vo2) (w1 := w3.setCell ⟨b, 4, none⟩ nilS) ?hg ?ho ?hn ?hr ?_; (case ho => rfl); (case hg => rfl); (case hn => rfl); (case hr => first | (go_simp; done) | (go_simp; rfl)); intro w4 hw4; have HB4 := Aside0.mk (show w4.heap[b]? = some (.cells (onceC 0 1 s (.iface 55 (.pointer (some ⟨gr, 0, none⟩))) nilS) 44 (0, 0)) from by rw [hw4]; exact blk_put HB3.out 4 _ rfl); have HG4 := Aside0.mk (show Gen w4 L np tn ps w.heap.size gr from by rw [hw4]; exact HG3.out.set44 HB3.out _ _); have K4 := Aside0.mk (show Chg (fun k => k = b) w w4 from by rw [hw4]; exact K3.out.set (g := b) (.inl rfl) _ _); clear hw4 h4 f4 HB3 HG3 K3))
  go_end0
  exact ⟨rfl, gr, HB4.out, K4.out, HG4.out⟩
set_option maxRecDepth 100000 in
set_option maxHeartbeats 8000000 in
theorem newReplacer_calls (w : World) (A : Option Addr) (c : Nat) (L : List ByteArray) (np : Nat) (hr : Kd.string.C w A L.length L) (hc : L.length ≤ c) (h2 : L.length = 2 * np) (hs : L.length ≤ 1000) :
    Calls Try.prog 10 #[.slice A L.length c] w fun e w' => ∃ b A' c', e = .returned (.pointer (some ⟨b, 0, none⟩)) ∧ w.heap.size ≤ b ∧ Below w.heap.size w w' ∧ w'.heap[b]? = some (.cells (onceC 0 0 0 .nilIface (.slice A' L.length c')) 44 (0, 0)) ∧ Kd.string.C w' A' L.length L ∧ L.length ≤ c' := by
  have HR := Aside0.mk hr
  have HC := Aside0.mk hc
  have H2 := Aside0.mk h2
  have HS := Aside0.mk hs
  have hm : (((L.length : Int) % 2) == 1) = false := beq_eq_false_iff_ne.mpr (by omega)
  clear hr hc h2 hs
  go_enter Try.func10, Try.ntmps10
  go_wp2_with (first
    | ((with_reducible refine gate_dst (N := 9) rfl ?_); refine Kd.R_append_row (w0 := w) (h1 := fun _ => rfl) Value.string ByteArray.empty w.heap.size ?hg ?so ?xo 28 9 (.string ⟨#[]⟩) 16 ?ho Try.underlying28 ?hinfo ?hz ?hb0 (.slice none 0 0) [] L A L.length c (fun _ => True) ?hs9 ?hx9 (fun _ _ => trivial) ?HO ?HRR (Below.refl _ _) (Nat.le_refl _) ?hl ?_; (case hg => rfl); (case ho => rfl); (case hinfo => kernel_rfl); (case hz => rfl); (case hb0 => omega); (case hs9 => rfl); (case hx9 => rfl); (case HO => exact Kd.R_nil Kd.string _ _ _ _); (case HRR => exact HR.out); (case hl => have := HS.out; simp; omega); intro v1 w1 ho1 hb1 hg1 hat1; obtain ⟨A1, c1, ev1⟩ := Kd.R_slice ho1; subst ev1; have HO1 := Aside0.mk ho1; have HB1 := Aside0.mk hb1; clear ho1 hb1 hg1 hat1)
    | ((with_reducible refine gate_dst (N := 11) rfl ?_); refine box_event ?hg (N := 11) ?hd (cs := onceC 0 0 0 .nilIface (.slice A1 ([] ++ L).length c1)) (t := 44) ?hr ?_; (case hd => rfl); (case hg => rfl); (case hr => first | (go_simp; done) | (go_simp; rfl)); intro b hb w2 hbox hbel; have HX2 := Aside0.mk hbox; have HB2 := Aside0.mk (below_step HB1.out hbel); have HO2 := Aside0.mk (Kd.C_below (Kd.R_reads' HO1.out).2.2 hbel); have GB := Aside0.mk (show w.heap.size ≤ b from by rw [hb]; exact HB1.out.size); clear hb hbox hbel))
  go_ret
  exact ⟨b, A1, c1, rfl, GB.out, HB2.out, HX2.out, HO2.out, (Kd.R_reads' HO1.out).2.1⟩
end Go.Proofs.Ytkhgmjmfgbpenaa.Trie
