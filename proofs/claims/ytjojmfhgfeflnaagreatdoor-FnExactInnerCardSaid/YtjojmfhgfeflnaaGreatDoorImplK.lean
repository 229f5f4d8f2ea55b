/- The writer's kids, and impl.Write, walked. -/
import Derived.Test.YtjojmfhgfeflnaaGreatDoorImplW
namespace Go.Proofs.YtjojmfhgfeflnaaGreatDoor.QFnExactInner
open Go Go.RowKit Go.Proofs.YtjojmfhgfeflnaaGreatDoorV.PrintWords Go.Proofs.YtjojmfhgfeflnaaGreatDoorV.PrintLast Go.Proofs.YtjojmfhgfeflnaaGreatDoorV.PrintMore Go.Proofs.YtjojmfhgfeflnaaGreatDoor.Val Go.Proofs.YtjojmfhgfeflnaaGreatDoor.TreeIx Go.Proofs.YtjojmfhgfeflnaaGreatDoor.Trie
set_option linter.unusedVariables false
set_option linter.unusedSimpArgs false

/-- A node at i writes u; behind it, and all that is in it, comes m. -/
def NodeI (wg : World) (b : Nat) (l : List S57) (G : Gh) (i : Nat) (_ab : ByteArray) (m : Nat) (u : ByteArray) : Prop :=
  WrC wg b 29 #[bp b, .pointer (some ⟨G.b i, 0, none⟩)] u ∧ Fits (kdOf l) l.length i 1 m
set_option maxHeartbeats 8000000 in
set_option maxRecDepth 100000 in
theorem kidsI_calls (wa wg : World) (ad : Addr) (l : List S57) (va : Nat → Value) (G : Gh) (hI : IC wa wg ad l va G) (b i e : Nat) (ab t : ByteArray) (hi : i < l.length) (hkk : kdOf l i ≤ 4000)
    (hS : SeqC (NodeI wg b l G) l.length ab (kdOf l i) (i + 1) e t) : WrC wg b 18 #[bp b, .pointer (some ⟨G.b i, 0, none⟩)] t := by
  intro W s hb hw hl
  have hG := hI.gar.below hb
  have htw := hG.tw i hi
  have hdn := hI.gar.done i hi
  obtain ⟨Ak, ck, ek⟩ := Kd.R_slice (show kp.R 41 W wa.heap.size _ (G.v i) _ from hG.row i hi)
  rw [List.length_map, hdn.1] at ek
  have HE := Aside0.mk ek
  have hk6 : W.cell? ⟨G.b i, 6, none⟩ = some (.slice Ak (kdOf l i) ck) := (blk_cell htw 6).trans (show some (G.v i) = _ from by rw [ek])
  have hform : Aside0 (0 < kdOf l i → ∃ g, Ak = some ⟨g, 0, none⟩) := ⟨fun hp => by
    obtain ⟨g, cap, e1, _⟩ := Kd.R_form (show kp.R 41 W wa.heap.size _ (G.v i) _ from hG.row i hi) (by rw [List.length_map, hdn.1]; exact hp)
    rw [ek] at e1
    injection e1 with e1
    exact ⟨g, e1⟩⟩
  have HGR := Aside0.mk hI.gar
  have HD := Aside0.mk hdn
  have HII := Aside0.mk hi
  have HL := Aside0.mk hl
  have HB0 := Aside0.mk hb
  have HW0 := Aside0.mk hw
  have HS0 := Aside0.mk hS
  have KK := Aside0.mk hkk
  have HK0 := Aside0.mk (keptB_below b (Below.refl W.heap.size W))
  clear hb hw hl hG htw hdn ek hI hS hi hkk
  go_enter Tryz.func18, Tryz.ntmps18
  go_wp2_with (fail)
  clear hk6
  go_loopg [11] (kdOf l i) (fun kq v11 w' => ∃ (q c : Nat) (s' t' : ByteArray), v11 = .int .i64 (q : Int) ∧ Aside0 (q + kq = kdOf l i) ∧ Aside0 (Fits (kdOf l) l.length (i + 1) q c) ∧ Aside0 (SeqC (NodeI wg b l G) l.length ab kq c e t') ∧ Aside0 (WB w' wg.heap.size b s') ∧ Aside0 (s' ++ t' = s ++ t) ∧ Aside0 (Below wg.heap.size wg w') ∧ Aside0 (KeptB b W w'))
  case atStart => exact ⟨0, i + 1, s, t, rfl, ⟨Nat.zero_add _⟩, ⟨.nil (by have := HII.out; omega)⟩, HS0, HW0, ⟨rfl⟩, HB0, HK0⟩
  case round =>
    clear HS0 HW0 HB0 HK0
    obtain ⟨q, c, s', t', rfl, HQ, HF, HS, HW, HT, HB, HK⟩ := hrel
    cases gk with
    | zero =>
      obtain ⟨_, rfl⟩ := HS.out
      have hq : q = kdOf l i := HQ.out
      have dq : decide ((q : Int) < (kdOf l i : Int)) = false := decide_eq_false (by omega)
      have dq2 : decide (q < kdOf l i) = false := decide_eq_false (by omega)
      clear hq
      go_wp2_with (fail)
      go_end0
      have hT := HT.out
      rw [show s' ++ (⟨#[]⟩ : ByteArray) = s' from ByteArray.append_empty] at hT
      exact ⟨rfl, by rw [← hT]; exact HW.out, HB.out, HK.out⟩
    | succ d =>
      obtain ⟨m1, u, s1, ⟨hP, hf1⟩, hc, hS, rfl⟩ := HS.out
      have hq : q < kdOf l i := by have := HQ.out; omega
      have dq : decide ((q : Int) < (kdOf l i : Int)) = true := decide_eq_true (by omega)
      have dq2 : decide (q < kdOf l i) = true := decide_eq_true hq
      have p5 : (0 ≤ (q : Int)) = True := eq_true (by omega)
      have q5 : ((q : Int) < (kdOf l i : Int)) = True := eq_true (by omega)
      obtain ⟨g, eg⟩ := hform.out (by omega)
      subst eg
      have hlk : q < (G.kl i).length := by rw [HD.out.1]; exact hq
      have hck : (G.kl i)[q]? = some c := by
        rw [List.getElem?_eq_getElem hlk]
        exact congrArg some (((HD.out.2 q _ (List.getElem?_eq_getElem hlk)).1).det HF.out)
      have hcl : wr.cell? ⟨g, q, none⟩ = some (.pointer (some ⟨G.b c, 0, none⟩)) := by
        have h := (Kd.R_celln (0 : Nat) (show kp.R 41 wr wa.heap.size _ (.slice (some ⟨g, 0, none⟩) (kdOf l i) ck) _ from by have h_ := (HGR.out.below HB.out).row i HII.out; rw [HE.out] at h_; exact h_) (q : Int) (by omega) (by omega)).1
        rw [Int.toNat_natCast] at h
        refine h.trans ?_
        unfold rdOf
        rw [Int.toNat_natCast, List.getD_eq_getElem?_getD, List.getElem?_map, hck]
        rfl
      have hwq : wrap64 ((q : Int) + 1) = ((q + 1 : Nat) : Int) := ti q (by have := KK.out; omega)
      have HP := Aside0.mk hP
      have HS2 := Aside0.mk hS
      have HF2 := Aside0.mk (show Fits (kdOf l) l.length (i + 1) (q + 1) m1 from HF.out.join hf1)
      have HZ := Aside0.mk (show s'.size + u.size ≤ 3000000000000 from by
        have h := congrArg ByteArray.size HT.out
        have := HL.out
        rw [ByteArray.size_append, ByteArray.size_append, ByteArray.size_append] at h
        omega)
      clear hP hS hf1 hq hlk hck hc HS
      go_wp2_with (first
        | ((with_reducible refine gate_dst (N := 17) rfl ?_); refine goesL_ (some 17) rfl rfl Tryz.func29 (by kernel_rfl) rfl #[bp b, .pointer (some ⟨G.b c, 0, none⟩)] rfl (by (try simp only [List.map_toArray, List.map_cons, List.map_nil]); first | done | rfl) ?_; refine (HP.out _ s' HB.out HW.out HZ.out).mono ?_; rintro e_ w5 ⟨rfl, hw, hb, hk⟩; refine ⟨_, rfl, ?_⟩; have HB5 := Aside0.mk hb; have HW5 := Aside0.mk hw; have HK5 := Aside0.mk (HK.out.trans hk); clear hw hb hk HB HW HK))
      go_roundg d
      case measure => omega
      case rel => exact ⟨q + 1, m1, s' ++ u, s1, congrArg (Value.int .i64) hwq, ⟨by have := HQ.out; omega⟩, HF2, HS2, HW5, ⟨by rw [← HT.out, ByteArray.append_assoc]⟩, HB5, HK5⟩
theorem seqI (wa wg : World) (ad : Addr) (l : List S57) (va : Nat → Value) (G : Gh) (hI : IC wa wg ad l va G) (b : Nat) {i q e : Nat} {ab s : ByteArray} (h : Em l i q ab e s) :
    ∀ j p, j < l.length → ab = (rd_T57 l (j : Nat)).f2 → Fits (kdOf l) l.length (j + 1) p i → p + q = kdOf l j → SeqC (NodeI wg b l G) l.length ab q i e s := by
  induction h with
  | nil _ => exact fun _ _ _ _ _ _ => ⟨rfl, rfl⟩
  | @cons i q m e ab t s h1 h2 h3 ih1 ih2 =>
    intro j p hj hab hp hq
    have f1 := Fits.mk1 h1 h2.fits
    have hji := hp.le
    have hlk : p < (G.kl j).length := by rw [(hI.gar.done j hj).1]; omega
    have hd := (hI.gar.done j hj).2 p _ (List.getElem?_eq_getElem hlk)
    have hc : (G.kl j)[p]'hlk = i := hd.1.det hp
    have hup : G.up i = .pointer (some ⟨G.b j, 0, none⟩) := by rw [← hc]; exact hd.2.1
    subst hab
    refine ⟨m, _, s, ⟨nodeI_calls wa wg ad l va G hI b j i t hj (by omega) h1 hup ?_, f1⟩, h1, ih2 j (p + 1) hj rfl (hp.join f1) (by omega), rfl⟩
    exact kidsI_calls wa wg ad l va G hI b i m _ t h1 (kd_le hI.right h2.fits) (ih1 i 0 h1 rfl (.nil (by omega)) (Nat.zero_add _))
end Go.Proofs.YtjojmfhgfeflnaaGreatDoor.QFnExactInner
