/- (*strings.Replacer).Replace, and impl's two escapes, walked. -/
import Derived.Test.YtkhgmjmfgbpenaaReplW
namespace Go.Proofs.Ytkhgmjmfgbpenaa.Trie
open Go Go.RowKit Go.Proofs.YtkhgmjmfgbpenaaV.PrintWords Go.Proofs.YtkhgmjmfgbpenaaV.PrintLast Go.Proofs.YtkhgmjmfgbpenaaV.PrintMore Go.Proofs.Ytkhgmjmfgbpenaa.Once
set_option linter.unusedVariables false
set_option linter.unusedSimpArgs false

theorem apart_once {W : World} {b n n' c : Nat} {d m s : Int} {A A' : Option Addr} {L : List ByteArray} (h : W.heap[b]? = some (.cells (onceC d m s .nilIface (.slice A n c)) 44 (0, 0))) (hC : Kd.string.C W A' n' L) : ∀ ad, A' = some ad → 0 < n' → ad.block ≠ b := by
  rintro ⟨bl, off, sp⟩ e hn eb
  obtain ⟨ad', e', hc⟩ := Kd.at_string hC 0 (by omega) (by omega)
  obtain rfl : (⟨bl, off, sp⟩ : Addr) = ad' := Option.some.inj (e.symm.trans e')
  have h0 : (⟨bl, off, sp⟩ : Addr).add (0 : Int).toNat = ⟨bl, off, sp⟩ := by simp [Addr.add]
  rw [h0] at hc
  obtain rfl : bl = b := eb
  cases sp with
  | some x => simp [World.cell?, h] at hc
  | none =>
    rw [blk_cell h off] at hc
    match off, hc with
    | 0, hc => cases hc
    | 1, hc => cases hc
    | 2, hc => cases hc
    | 3, hc => cases hc
    | 4, hc => cases hc
    | k + 5, hc => simp [onceC] at hc
set_option maxRecDepth 100000 in
set_option maxHeartbeats 8000000 in
theorem replacer_calls (w : World) (b : Nat) (A : Option Addr) (c np tn q0 : Nat) (L : List ByteArray) (ps : Ps) (l : List UInt8) (hb : w.heap[b]? = some (.cells (onceC 0 0 0 .nilIface (.slice A L.length c)) 44 (0, 0))) (hr : Kd.string.C w A L.length L) (hc : L.length ≤ c)
    (F : Fit L np tn q0 ps) (P : ∀ M, M = (numM (mkA L np) (tn : Int) 256).1 → Places M tn) (hs : l.length ≤ 1048576) (hv : ∀ p, p ∈ ps → p.2.size ≤ 1000) (w0 : World) (base : Nat) (hB : Below base w0 w) (hbb : base ≤ b) (hbs : base ≤ w.heap.size) :
    Calls Try.prog 11 #[.pointer (some ⟨b, 0, none⟩), .string (lst l)] w fun e w' => e = .returned (.string (lst (esc ps (l.length + 1) l))) ∧ Below base w0 w' := by
  have HB := Aside0.mk hb
  have HR := Aside0.mk hr
  have HC := Aside0.mk hc
  have FF := Aside0.mk F
  have PP := Aside0.mk P
  have HS := Aside0.mk hs
  have HV := Aside0.mk hv
  have HBE := Aside0.mk hB
  have HBB := Aside0.mk hbb
  have HBS := Aside0.mk hbs
  have HK := Aside0.mk (show KeepBut w (w.setCell ⟨b, 1, none⟩ (.int .i32 1)) b none from ⟨by simp [World.setCell], fun i hi hg _ => Below.heap_setCell w _ _ i hg⟩)
  have HR1 := Aside0.mk (show Kd.string.C (w.setCell ⟨b, 1, none⟩ (.int .i32 1)) A L.length L from Kd.C_keep ByteArray.empty hr HK.out (apart_once hb hr))
  have HB1 := Aside0.mk (show (w.setCell ⟨b, 1, none⟩ (.int .i32 1)).heap[b]? = some (.cells (onceC 0 1 0 .nilIface (.slice A L.length c)) 44 (0, 0)) from blk_put hb 1 _ rfl)
  clear hb hr hc F P hs hv hB hbb hbs
  go_enter Try.func11, Try.ntmps11
  go_wp2_with (first
    | (go_at_call 12; refine (do_calls b 0 .nilIface (.slice A L.length c) w HB.out (Made (w.setCell ⟨b, 1, none⟩ (.int .i32 1)) b 0 L np tn ps) (fun w2 h => ⟨_, _, h.choose_spec.1⟩) (buildOnce_calls _ b A c 0 .nilIface L np tn q0 ps HB1.out HR1.out HC.out FF.out)).mono ?_; rintro e w3 ⟨rfl, w2, ⟨gr, h1, h2, h3⟩, hw3⟩; have HB2 := Aside0.mk h1; have K2 := Aside0.mk h2; have HG2 := Aside0.mk h3; have HB3 := Aside0.mk (show w3.heap[b]? = some (.cells (onceC 1 0 0 (.iface 55 (.pointer (some ⟨gr, 0, none⟩))) nilS) 44 (0, 0)) from by rw [hw3]; exact blk_put (blk_put (blk_drew h1) 0 _ rfl) 1 _ rfl); have HG3 := Aside0.mk (show Gen w3 L np tn ps (w.setCell ⟨b, 1, none⟩ (.int .i32 1)).heap.size gr from by rw [hw3]; exact ((show Gen w2.drew L np tn ps _ gr from h3).set44 (blk_drew h1) 0 _).set44 (blk_put (blk_drew h1) 0 _ rfl) 1 _); have HBE3 := Aside0.mk (show Below base w0 w3 from by rw [hw3]; exact ((Chg.base (HBE.out.setCell (p := ⟨b, 1, none⟩) HBB.out _) h2 (by simpa [World.setCell] using HBS.out) (fun k hk => by rw [hk]; exact HBB.out)).drew.setCell (p := ⟨b, 0, none⟩) HBB.out _).setCell (p := ⟨b, 1, none⟩) HBB.out _); have HBS3 := Aside0.mk (show base ≤ w3.heap.size from by rw [hw3]; have := h2.size; have := HBS.out; simp only [World.setCell] at *; simpa [World.setCell] using Nat.le_trans HBS.out (by simpa [World.setCell] using h2.size)); clear h1 h2 h3 hw3; have k3 : w3.cell? ⟨b, 3, none⟩ = some (.iface 55 (.pointer (some ⟨gr, 0, none⟩))) := (blk_cell HB3.out 3).trans rfl)
    | ((with_reducible refine gate_dst (N := 16) rfl ?_); refine goesR_ (some 16) rfl rfl 72 #[.pointer (some ⟨gr, 0, none⟩), .string (lst l)] ?hrun ?_; (case hrun => first | (go_simp; done) | (go_simp; rfl)); refine (replace_calls w3 _ gr tn np L ps l HG3.out FF.out.pairs PP.out FF.out.tl FF.out.two HS.out HV.out).mono ?_; rintro e w4 ⟨rfl, hb4⟩; refine ⟨_, rfl, ?_⟩; have HB4 := Aside0.mk (below_then HBE3.out HBS3.out hb4); clear hb4))
  go_ret
  exact ⟨rfl, HB4.out⟩
end Go.Proofs.Ytkhgmjmfgbpenaa.Trie
