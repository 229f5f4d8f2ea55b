/- impl.textIn: the texts of a node and of all that is in it. -/
import Derived.Test.YtjoanlocikagaaaGarden
namespace Go.Proofs.Ytjoanlocikagaaa.QFnExactTextOf
open Go Go.RowKit Go.Proofs.YtjoanlocikagaaaV.PrintWords Go.Proofs.YtjoanlocikagaaaV.PrintLast Go.Proofs.YtjoanlocikagaaaV.PrintMore Go.Proofs.Ytjoanlocikagaaa.TreeIx Go.Proofs.Ytjoanlocikagaaa.MapObj
set_option linter.unusedVariables false
set_option linter.unusedSimpArgs false

def txt (l : List S134) (j : Nat) : ByteArray := if (rd_T134 l (j : Nat)).f1 = 3 then (rd_T134 l (j : Nat)).f4 else (⟨#[]⟩ : ByteArray)
/-- The texts of d nodes from i on. -/
def catN (l : List S134) (i : Nat) : Nat → ByteArray
  | 0 => (⟨#[]⟩ : ByteArray)
  | d + 1 => catN l i d ++ txt l (i + d)
theorem cat_add (l : List S134) (i a : Nat) : ∀ b : Nat, catN l i (a + b) = catN l i a ++ catN l (i + a) b
  | 0 => by
    show catN l i a = catN l i a ++ ByteArray.empty
    rw [ByteArray.append_empty]
  | b + 1 => by
    show catN l i (a + b) ++ txt l (i + (a + b)) = catN l i a ++ (catN l (i + a) b ++ txt l (i + a + b))
    rw [cat_add l i a b, ByteArray.append_assoc, Nat.add_assoc]
theorem cat_one (l : List S134) (i : Nat) : catN l i (i + 1 - i) = txt l i := by
  rw [show i + 1 - i = 1 by omega]
  show ByteArray.empty ++ txt l (i + 0) = _
  rw [ByteArray.empty_append, Nat.add_zero]
theorem cat_step (l : List S134) {i m m' : Nat} (h1 : i ≤ m) (h2 : m ≤ m') : catN l i (m - i) ++ catN l m (m' - m) = catN l i (m' - i) := by
  rw [show m' - i = (m - i) + (m' - m) by omega, cat_add, show i + (m - i) = m by omega]
theorem cat_size (l : List S134) (i a b : Nat) : (catN l i (a + b)).size = (catN l i a).size + (catN l (i + a) b).size := by rw [cat_add, ByteArray.size_append]
theorem cat_part {l : List S134} {i e n : Nat} (h1 : i ≤ e) (h2 : e ≤ n) : (catN l i (e - i)).size ≤ (catN l 0 n).size := by
  have a := cat_size l 0 i (n - i)
  have b := cat_size l i (e - i) (n - e)
  rw [show i + (n - i) = n by omega] at a
  rw [show e - i + (n - e) = n - i by omega] at b
  rw [Nat.zero_add] at a
  omega
set_option maxHeartbeats 4000000 in
set_option maxRecDepth 100000 in
theorem textIn_calls (w0 : World) (l : List S134) (va : Nat → Value) (G : Gh) (h4 : l.length ≤ 4000) (hz : (catN l 0 l.length).size ≤ 1048576) :
    ∀ (d i e : Nat) (W : World), l.length - i ≤ d → i < l.length → Fits (kdOf l) l.length (i + 1) (kdOf l i) e → Gar w0 W l va G →
    Calls Try.prog 101 #[.pointer (some ⟨G.b i, 0, none⟩)] W fun ed w' => ed = .returned (.string (catN l i (e - i))) ∧ Below W.heap.size W w' := by
  intro d
  induction d with
  | zero => intro i e W hd hi; omega
  | succ d ih =>
    intro i e W hd hi hfit hG
    have IH := Aside0.mk ih
    have HD := Aside0.mk hd
    have HI := Aside0.mk hi
    have HF := Aside0.mk hfit
    have HG := Aside0.mk hG
    have H4 := Aside0.mk h4
    have HZ := Aside0.mk hz
    have htw := hG.tw i hi
    have hk1 : W.cell? ⟨G.b i, 1, none⟩ = some (.int .i64 (rd_T134 l (i : Nat)).f1) := (blk_cell htw 1).trans rfl
    have hk4 : W.cell? ⟨G.b i, 4, none⟩ = some (.string (rd_T134 l (i : Nat)).f4) := (blk_cell htw 4).trans rfl
    obtain ⟨Ak, ck, ek⟩ := Kd.R_slice (show kp.R 150 W w0.heap.size _ (G.v i) _ from hG.row i hi)
    rw [List.length_map, (hG.done i hi).1] at ek
    have HE := Aside0.mk ek
    have hk6 : W.cell? ⟨G.b i, 6, none⟩ = some (.slice Ak (kdOf l i) ck) := (blk_cell htw 6).trans (show some (G.v i) = _ from by rw [ek])
    have hform : Aside0 (0 < kdOf l i → ∃ g, Ak = some ⟨g, 0, none⟩) := ⟨fun hp => by
      obtain ⟨g, cap, e1, _⟩ := Kd.R_form (show kp.R 150 W w0.heap.size _ (G.v i) _ from hG.row i hi) (by rw [List.length_map, (hG.done i hi).1]; exact hp)
      rw [ek] at e1
      injection e1 with e1
      exact ⟨g, e1⟩⟩
    have hb : ∃ b : Bool, ((rd_T134 l (i : Nat)).f1 != 3) = b ∧ Aside0 (txt l i = if b = true then (⟨#[]⟩ : ByteArray) else (rd_T134 l (i : Nat)).f4) := by
      refine ⟨_, rfl, ⟨?_⟩⟩
      unfold txt
      by_cases h3 : (rd_T134 l (i : Nat)).f1 = 3
      · simp [h3]
      · simp [h3]
    obtain ⟨b, b3, HT⟩ := hb
    have HBB := Aside0.mk (Below.refl W.heap.size W)
    have HT1 := Aside0.mk (cat_one l i)
    clear ih hd hfit hG h4 hz htw ek
    cases b
    all_goals
      go_enter Try.func101, Try.ntmps101
      go_wp2
      clear hk1 hk4 hk6
      go_loopg [3, 22] (kdOf l i) (fun kq v3 v22 w' => ∃ (q m : Nat), v22 = .int .i64 q ∧ v3 = .string (catN l i (m - i)) ∧ Aside0 (kq + q = kdOf l i) ∧ Aside0 (Fits (kdOf l) l.length (i + 1) q m) ∧ Aside0 (Fits (kdOf l) l.length m (kdOf l i - q) e) ∧ Aside0 (Below W.heap.size W w'))
      case atStart => exact ⟨0, i + 1, rfl, by rw [HT1.out, HT.out]; rfl, ⟨by omega⟩, ⟨.nil (by have := HI.out; omega)⟩, HF, HBB⟩
      case round =>
        clear HBB
        obtain ⟨q, m, rfl, rfl, HQ, HF1, HF2, HB⟩ := hrel
        by_cases hq : q < kdOf l i
        · have dq : decide ((q : Int) < (kdOf l i : Int)) = true := decide_eq_true (by omega)
          have dq2 : decide (q < kdOf l i) = true := decide_eq_true hq
          have p5 : (0 ≤ (q : Int)) = True := eq_true (by omega)
          have q5 : ((q : Int) < (kdOf l i : Int)) = True := eq_true (by omega)
          have HQ2 := Aside0.mk hq
          obtain ⟨g, rfl⟩ := hform.out (by omega)
          have hfit2 := HF2.out
          obtain ⟨a, ha⟩ : ∃ a, kdOf l i - q = a + 1 := ⟨kdOf l i - q - 1, by omega⟩
          rw [ha] at hfit2
          obtain ⟨hm, m', hf1, hf2⟩ := hfit2.open_
          have HM := Aside0.mk hm
          have HF3 := Aside0.mk hf1
          have HF4 := Aside0.mk (show Fits (kdOf l) l.length m' (kdOf l i - (q + 1)) e from by rw [show kdOf l i - (q + 1) = a by omega]; exact hf2)
          have hGr := HG.out.below HB.out
          have hlk : q < (G.kl i).length := by rw [(HG.out.done i HI.out).1]; exact hq
          have hck : (G.kl i)[q]? = some m := by
            rw [List.getElem?_eq_getElem hlk]
            exact congrArg some ((((HG.out.done i HI.out).2 q _ (List.getElem?_eq_getElem hlk)).1).det HF1.out)
          have hcl : wr.cell? ⟨g, q, none⟩ = some (.pointer (some ⟨G.b m, 0, none⟩)) := by
            have h := (Kd.R_celln (0 : Nat) (show kp.R 150 wr w0.heap.size _ (.slice (some ⟨g, 0, none⟩) (kdOf l i) ck) _ from by have h_ := hGr.row i HI.out; rw [HE.out] at h_; exact h_) (q : Int) (by omega) (by omega)).1
            rw [Int.toNat_natCast] at h
            refine h.trans ?_
            unfold rdOf
            rw [Int.toNat_natCast, List.getD_eq_getElem?_getD, List.getElem?_map, hck]
            rfl
          have hwq : wrap64 ((q : Int) + 1) = (q : Int) + 1 := by have h1 := HF.out.count; have h2 := HF.out.le.2; have := H4.out; unfold wrap64; omega
          have hle1 := HF1.out.le
          have hle2 := hf1.le
          have hle3 := HF4.out.le
          have hsz : (catN l i (m - i)).size + (catN l m (m' - m)).size ≤ 9223372036854775807 := by
            have h1 := cat_size l i (m - i) (m' - m)
            have h2 := cat_part (l := l) (i := i) (e := m') (n := l.length) (by omega) (by omega)
            rw [show i + (m - i) = m by omega] at h1
            rw [show m' - i = (m - i) + (m' - m) by omega] at h2
            have := HZ.out
            omega
          have HST := Aside0.mk (cat_step l (i := i) (m := m) (m' := m') (by omega) (by omega))
          have HGR := Aside0.mk hGr
          have HLT := Aside0.mk (show i < m by omega)
          clear hq hfit2 ha hm hf1 hf2 hGr hlk hck hle1 hle2 hle3
          go_wp2_with (first
            | ((with_reducible refine gate_dst (N := 28) rfl ?_); (refine goesL_ (some 28) rfl rfl Try.func101 (by kernel_rfl) rfl #[.pointer (some ⟨G.b m, 0, none⟩)] rfl (by (try simp only [List.map_toArray, List.map_cons, List.map_nil]); first | done | rfl) ?_; refine (IH.out m m' _ (by have := HD.out; have := HLT.out; have := HM.out; omega) HM.out HF3.out HGR.out).mono ?_; rintro e_ w4 ⟨rfl, hb⟩; refine ⟨_, rfl, ?_⟩; have HB4 := Aside0.mk (below_step HB.out hb); clear hb hcl)))
          go_roundg (gk - 1)
          case measure => have := HQ.out; have := HQ2.out; omega
          case rel => exact ⟨q + 1, m', by rw [hwq]; rfl, by rw [HST.out], ⟨by have := HQ.out; have := HQ2.out; omega⟩, ⟨HF1.out.join (Fits.mk1 HM.out HF3.out)⟩, HF4, HB4⟩
        · have dq : decide ((q : Int) < (kdOf l i : Int)) = false := decide_eq_false (by omega)
          have dq2 : decide (q < kdOf l i) = false := decide_eq_false hq
          have hme : m = e := by
            have h2 := HF2.out
            rw [show kdOf l i - q = 0 by omega] at h2
            exact h2.zero
          subst hme
          clear hq
          go_wp2
          go_ret
          exact ⟨rfl, HB.out⟩
end Go.Proofs.Ytjoanlocikagaaa.QFnExactTextOf
