/- (*strings.Replacer).Replace, walked where the builder makes a byteStringReplacer. -/
import Derived.Test.YtonmeoaponeadaaGreatDoorByteS
namespace Go.Proofs.YtonmeoaponeadaaGreatDoor.Repl
open Go Go.RowKit Go.Proofs.YtonmeoaponeadaaGreatDoorV.PrintWords Go.Proofs.YtonmeoaponeadaaGreatDoorV.PrintLast Go.Proofs.YtonmeoaponeadaaGreatDoorV.PrintMore Go.Proofs.YtonmeoaponeadaaGreatDoor.Once
set_option linter.unusedVariables false
set_option linter.unusedSimpArgs false

theorem meth (w : World) (gr : Nat) : (method 272 93 (.pointer (some ⟨gr, 0, none⟩)) "Replace").run Tryz.prog w = .ok (120, .pointer (some ⟨gr, 0, none⟩)) w := by kernel_rfl
theorem apart_once {W : World} {b n n' c : Nat} {d m s : Int} {A A' : Option Addr} {L : List ByteArray} (h : W.heap[b]? = some (.cells (onceC d m s .nilIface (.slice A n c)) 74 (0, 0))) (hC : Kd.string.C W A' n' L) : ∀ ad, A' = some ad → 0 < n' → ad.block ≠ b := by
  rintro ⟨bl, off, sp⟩ e hn eb
  obtain ⟨ad', e', hc⟩ := Kd.at_string hC 0 (by omega) (by omega)
  obtain rfl : (⟨bl, off, sp⟩ : Addr) = ad' := Option.some.inj (e.symm.trans e')
  have h0 : (⟨bl, off, sp⟩ : Addr).add (0 : Int).toNat = ⟨bl, off, sp⟩ := by simp [Addr.add]
  rw [h0] at hc
  obtain rfl : bl = b := eb
  cases sp with
  | some x => simp [World.cell?, h] at hc
  | none =>
    rw [blk_cell h off] at hc
    match off, hc with
    | 0, hc => cases hc
    | 1, hc => cases hc
    | 2, hc => cases hc
    | 3, hc => cases hc
    | 4, hc => cases hc
    | k + 5, hc => simp [onceC] at hc
set_option maxRecDepth 100000 in
set_option maxHeartbeats 8000000 in
theorem replacer_calls (w : World) (b : Nat) (A : Option Addr) (c : Nat) (s : ByteArray) (hb : w.heap[b]? = some (.cells (onceC 0 0 0 .nilIface (.slice A 6 c)) 74 (0, 0))) (hr : Kd.string.C w A 6 lS) (hc : 6 ≤ c)
    (hs : s.size ≤ 1048576) (w0 : World) (base : Nat) (hB : Below base w0 w) (hbb : base ≤ b) (hbs : base ≤ w.heap.size) :
    Calls Tryz.prog 31 #[.pointer (some ⟨b, 0, none⟩), .string s] w fun e w' => e = .returned (.string (strOfNums (escI (bytesOf s)))) ∧ Below base w0 w' := by
  have HB := Aside0.mk hb
  have HR := Aside0.mk hr
  have HC := Aside0.mk hc
  have HS := Aside0.mk hs
  have HBE := Aside0.mk hB
  have HBB := Aside0.mk hbb
  have HBS := Aside0.mk hbs
  have HK := Aside0.mk (show KeepBut w (w.setCell ⟨b, 1, none⟩ (.int .i32 1)) b none from ⟨by simp [World.setCell], fun i hi hg _ => Below.heap_setCell w _ _ i hg⟩)
  have HR1 := Aside0.mk (show Kd.string.C (w.setCell ⟨b, 1, none⟩ (.int .i32 1)) A 6 lS from Kd.C_keep ByteArray.empty hr HK.out (apart_once hb hr))
  have HB1 := Aside0.mk (show (w.setCell ⟨b, 1, none⟩ (.int .i32 1)).heap[b]? = some (.cells (onceC 0 1 0 .nilIface (.slice A 6 c)) 74 (0, 0)) from blk_put hb 1 _ rfl)
  clear hb hr hc hs hB hbb hbs
  have hme := meth
  go_enter Tryz.func31, Tryz.ntmps31
  go_wp2_with (first
    | (go_at_call 42; refine (do_calls b 0 .nilIface (.slice A 6 c) w HB.out (Made (w.setCell ⟨b, 1, none⟩ (.int .i32 1)) b 0) (fun w2 h => ⟨_, _, h.choose_spec.1⟩) (buildOnce_calls _ b A c 0 .nilIface HB1.out HR1.out HC.out)).mono ?_; rintro e w3 ⟨rfl, w2, ⟨gr, h1, h2, h3⟩, hw3⟩; have HB2 := Aside0.mk h1; have K2 := Aside0.mk h2; have HG2 := Aside0.mk h3; have HB3 := Aside0.mk (show w3.heap[b]? = some (.cells (onceC 1 0 0 (.iface 93 (.pointer (some ⟨gr, 0, none⟩))) nilS) 74 (0, 0)) from by rw [hw3]; exact blk_put (blk_put (blk_drew h1) 0 _ rfl) 1 _ rfl); have HG3 := Aside0.mk (show Byt w3 (w.setCell ⟨b, 1, none⟩ (.int .i32 1)).heap.size gr from by rw [hw3]; exact ((show Byt w2.drew _ gr from h3).far (blk_drew h1) 0 _).far (blk_put (blk_drew h1) 0 _ rfl) 1 _); have HBE3 := Aside0.mk (show Below base w0 w3 from by rw [hw3]; exact ((Chg.base (HBE.out.setCell (p := ⟨b, 1, none⟩) HBB.out _) h2 (by simpa [World.setCell] using HBS.out) (fun k hk => by rw [hk]; exact HBB.out)).drew.setCell (p := ⟨b, 0, none⟩) HBB.out _).setCell (p := ⟨b, 1, none⟩) HBB.out _); have HBS3 := Aside0.mk (show base ≤ w3.heap.size from by rw [hw3]; have := h2.size; have := HBS.out; simp only [World.setCell] at *; simpa [World.setCell] using Nat.le_trans HBS.out (by simpa [World.setCell] using h2.size)); clear h1 h2 h3 hw3; have k3 : w3.cell? ⟨b, 3, none⟩ = some (.iface 93 (.pointer (some ⟨gr, 0, none⟩))) := (blk_cell HB3.out 3).trans rfl)
    | (go_at_call 120; refine (breplace_calls w3 _ gr s HG3.out HS.out).mono ?_; rintro e w4 ⟨rfl, hb4⟩; have HB4 := Aside0.mk (below_then HBE3.out HBS3.out hb4); clear hb4))
  go_ret
  exact ⟨rfl, HB4.out⟩
end Go.Proofs.YtonmeoaponeadaaGreatDoor.Repl
