/- (*strings.Replacer).build, buildOnce, NewReplacer, walked at three keys of one byte. -/
import Derived.Test.YtonmeoaponeadaaGreatDoorByteB
import Derived.Lib.SliceRun
import Derived.Laws.Cover3
namespace Go.Proofs.YtonmeoaponeadaaGreatDoor.Repl
open Go Go.RowKit Go.Proofs.YtonmeoaponeadaaGreatDoorV.PrintWords Go.Proofs.YtonmeoaponeadaaGreatDoorV.PrintLast Go.Proofs.YtonmeoaponeadaaGreatDoorV.PrintMore Go.Proofs.YtonmeoaponeadaaGreatDoor.Once
set_option linter.unusedVariables false
set_option linter.unusedSimpArgs false

/-- What the replacer's builder has made. -/
def Byt (W : World) (base gr : Nat) : Prop := ∃ ps vt, Rep W base gr ps vt ∧ ps.map Prod.fst = [34, 92, 10] ∧ W.ownsRow base 9 1 vt (ks.map one).length (encs Value.string (ks.map one))
theorem key_at {j : Nat} (hj : j < 3) : rdOf ByteArray.empty lS ((4 - 2 * j : Nat) : Int) = one (ks.getD j 0) ∧ rdOf ByteArray.empty lS ((5 - 2 * j : Nat) : Int) = two (ks.getD j 0) ∧ ks.getD j 0 < 256 ∧ ks.take (j + 1) = ks.take j ++ [ks.getD j 0] := by
  match j, hj with
  | 0, _ | 1, _ | 2, _ => exact ⟨rfl, rfl, by decide, rfl⟩
theorem val_none {ps : List (Nat × Value)} {j : Nat} (hj : j < 3) (h : ps.map Prod.fst = (ks.take j).reverse) : valAt ps (ks.getD j 0) = nilS := by
  have hn : ks.getD j 0 ∉ ps.map Prod.fst := by
    rw [h, List.mem_reverse]
    match j, hj with
    | 0, _ | 1, _ | 2, _ => decide
  clear h
  induction ps with
  | nil => rfl
  | cons p r ih =>
    rw [List.map_cons, List.mem_cons] at hn
    unfold valAt
    rw [if_neg (fun e => hn (.inl e.symm))]
    exact ih (fun e => hn (.inr e))
set_option maxRecDepth 100000 in
set_option maxHeartbeats 8000000 in
theorem build_calls (w : World) (b : Nat) (A : Option Addr) (c : Nat) (s : Int) (v3 : Value) (hb : w.heap[b]? = some (.cells (onceC 0 1 s v3 (.slice A 6 c)) 74 (0, 0))) (hr : Kd.string.C w A 6 lS) (hc : 6 ≤ c) :
    Calls Tryz.prog 48 #[.pointer (some ⟨b, 0, none⟩)] w fun e w' => ∃ gr, e = .returned (.iface 93 (.pointer (some ⟨gr, 0, none⟩))) ∧ Below w.heap.size w w' ∧ Byt w' w.heap.size gr := by
  have h4 : w.cell? ⟨b, 4, none⟩ = some (.slice A 6 c) := (blk_cell hb 4).trans rfl
  have HR := Aside0.mk hr
  have HC := Aside0.mk hc
  clear hr hc hb
  go_enter Tryz.func48, Tryz.ntmps48
  go_wp2_with (fail)
  go_loopg [4, 5] 3 (fun kq v4 v5 w' => ∃ (i q : Nat) (b4 : Bool), v5 = .int .i64 (i : Int) ∧ v4 = .bool b4 ∧ Aside0 (b4 = decide (q = 0)) ∧ Aside0 (i = 2 * q) ∧ Aside0 (kq + q = 3) ∧ w = w')
  case atStart => exact ⟨0, 0, true, rfl, rfl, ⟨rfl⟩, ⟨rfl⟩, ⟨by omega⟩, rfl⟩
  case round =>
    obtain ⟨i, q, b4, rfl, rfl, H4, HI, HQ, rfl⟩ := hrel
    by_cases hq : q < 3
    · have hil : i + 1 < 6 := by have := HI.out; omega
      have dj : decide ((i : Int) < 6) = true := decide_eq_true (by omega)
      have dj2 : decide (i < 6) = true := decide_eq_true (by omega)
      have p5 : (0 ≤ (i : Int)) = True := eq_true (by omega)
      have q5 : ((i : Int) < 6) = True := eq_true (by omega)
      have p6 : (0 ≤ (i : Int) + 1) = True := eq_true (by omega)
      have q6 : ((i : Int) + 1 < 6) = True := eq_true (by omega)
      have e6 : ((i : Int) + 1).toNat = i + 1 := by omega
      have hw1 : wrap64 ((i : Int) + 1) = (i : Int) + 1 := by unfold wrap64; omega
      have hw2 : wrap64 ((i : Int) + 2) = ((i + 2 : Nat) : Int) := by unfold wrap64; omega
      obtain ⟨ad, eA, hx⟩ := Kd.at_string HR.out (i : Int) (by omega) (by omega)
      obtain ⟨ad2, eA2, hy⟩ := Kd.at_string HR.out ((i + 1 : Nat) : Int) (by omega) (by omega)
      cases eA
      cases eA2
      rw [Int.toNat_natCast] at hx hy
      have hk : (rdOf ByteArray.empty lS (i : Int)).size = 1 ∧ (rdOf ByteArray.empty lS ((i + 1 : Nat) : Int)).size = 2 := by
        rw [HI.out]
        match q, hq with
        | 0, _ | 1, _ | 2, _ => exact ⟨rfl, rfl⟩
      have hy0 := hy
      simp only [go_sem] at hy0
      obtain ⟨key, ek⟩ : ∃ key, key = rdOf ByteArray.empty lS (i : Int) := ⟨_, rfl⟩
      obtain ⟨val, ev⟩ : ∃ val, val = rdOf ByteArray.empty lS ((i + 1 : Nat) : Int) := ⟨_, rfl⟩
      rw [← ek] at hx hk
      rw [← ev] at hy hy0 hk
      obtain ⟨k1, k2⟩ := hk
      have s1 : ((key.size : Int) != 1) = false := by rw [k1]; rfl
      have s2 : (key.size != 1) = false := by rw [k1]; rfl
      have s3 : ((val.size : Int) != 1) = true := by rw [k2]; rfl
      have s4 : (val.size != 1) = true := by rw [k2]; rfl
      have QQ := Aside0.mk hq
      clear ek ev hil k1 k2 hq
      go_wp2_with (fail)
      go_roundg (2 - q)
      case measure => have := HQ.out; have := QQ.out; omega
      case rel => exact ⟨i + 2, q + 1, false, by rw [hw2], rfl, ⟨by simp⟩, ⟨by have := HI.out; omega⟩, ⟨by have := HQ.out; have := QQ.out; omega⟩, rfl⟩
    · have dj : decide ((i : Int) < 6) = false := decide_eq_false (by have := HI.out; omega)
      have dj2 : decide (i < 6) = false := decide_eq_false (by have := HI.out; omega)
      obtain rfl : b4 = false := H4.out.trans (decide_eq_false (by omega))
      have DQ := Aside0.mk hq
      have HB0 := Aside0.mk (Below.refl w.heap.size w)
      clear hq
      go_wp2_with (first
        | ((with_reducible refine gate_dst (N := 94) rfl ?_); obtain ⟨w1, hm1, hm2, hm3⟩ := make_strs w; refine Kd.event_run (v := .slice (some ⟨w.heap.size, 0, none⟩) 0 3) (w1 := w1) rfl ?hs8 ?_; (case hs8 => show (Instr.makeSlice 58 (.int .i64 0) (.int .i64 3) >>= fun a => pure (Next.value a)).run Tryz.prog w = _; rw [Sem.run_bind, hm1]; rfl); have HO1 := Aside0.mk (show w1.ownsRow w.heap.size 9 1 (.slice (some ⟨w.heap.size, 0, none⟩) 0 3) 0 [] from hm2); have HB1 := Aside0.mk (HB0.out.grown hm3 (Nat.le_refl _) (fun k hk => by cases hk)); clear hm1 hm2 hm3)
        | ((with_reducible refine gate_dst (N := 95) rfl ?_); refine build_all rfl 92 _ rfl (rowOf [] (.slice (some ⟨w.heap.size, 0, none⟩) 0 3)) (by kernel_rfl) ?_)
        | ((with_reducible refine gate_dst (N := 11) rfl ?_); refine box_event ?hg (N := 11) ?hd (cs := rowOf [] nilS) (t := 92) ?hr ?_; (case hd => rfl); (case hg => rfl); (case hr => first | (go_simp; done) | (go_simp; rfl)); intro gr hgr w2 hbox hbel; have GW := Aside0.mk (show w.heap.size ≤ gr from by rw [hgr]; exact HB1.out.size); have HX2 := Aside0.mk hbox; have HB2 := Aside0.mk (below_step HB1.out hbel); have HO2 := Aside0.mk (own_below HO1.out hbel); clear hgr hbox hbel HB1 HO1)
        | ((with_reducible refine gate_store (t := 92) (p := 11) rfl ?_); refine store_all (w := w) rfl 92 _ _ rfl rfl gr (rowOf [] (.slice (some ⟨w.heap.size, 0, none⟩) 0 3)) rfl rfl 92 (rowOf [] nilS) HX2.out (by kernel_rfl) (by kernel_rfl) (by kernel_rfl) HB2.out GW.out ?_; intro w3 hs3 hk3 hb3; have HX3 := Aside0.mk (show Rep w3 w.heap.size gr [] (.slice (some ⟨w.heap.size, 0, none⟩) 0 3) from ⟨GW.out, hs3, fun p hp => by cases hp⟩); have HB3 := Aside0.mk hb3; have HO3 := Aside0.mk (own_move HO2.out (fun k hk => hk3 k (fun e => by obtain ⟨cells, hc⟩ := own_typed HO2.out k hk; exact typed_ne hc HX2.out (by decide) e))); clear hs3 hk3 hb3 HX2 HB2 HO2))
      go_loopg [12] 3 (fun kq v12 w' => ∃ (i : Int) (j : Nat) (ps : List (Nat × Value)) (vt : Value), v12 = .int .i64 i ∧ Aside0 (i = 4 - 2 * (j : Int)) ∧ Aside0 (kq + j = 3) ∧ Aside0 (Below w.heap.size w w') ∧ Aside0 (Rep w' w.heap.size gr ps vt) ∧ Aside0 (ps.map Prod.fst = (ks.take j).reverse) ∧ Aside0 (w'.ownsRow w.heap.size 9 1 vt ((ks.take j).map one).length (encs Value.string ((ks.take j).map one))))
      case atStart => exact ⟨4, 0, [], _, rfl, ⟨rfl⟩, ⟨rfl⟩, HB3, HX3, ⟨rfl⟩, HO3⟩
      case round =>
        obtain ⟨i, j, ps, vt, rfl, HI, HJ, HB, HX, HP, HO⟩ := hrel
        by_cases hj : j < 3
        · obtain ⟨kx, ky, ko, kt⟩ := key_at hj
          have vn := val_none hj HP.out
          obtain ⟨o, eo⟩ : ∃ o, o = ks.getD j 0 := ⟨_, rfl⟩
          rw [← eo] at kx ky ko kt vn
          obtain ⟨n, en⟩ : ∃ n : Nat, i = (n : Int) ∧ n = 4 - 2 * j := ⟨4 - 2 * j, by have := HI.out; omega, rfl⟩
          obtain ⟨rfl, en⟩ := en
          have dj : decide (0 ≤ (n : Int)) = true := decide_eq_true (by omega)
          have p5 : (0 ≤ (n : Int)) = True := eq_true (by omega)
          have q5 : ((n : Int) < 6) = True := eq_true (by omega)
          have p6 : (0 ≤ (n : Int) + 1) = True := eq_true (by omega)
          have q6 : ((n : Int) + 1 < 6) = True := eq_true (by omega)
          have e6 : ((n : Int) + 1).toNat = n + 1 := by omega
          have hw1 : wrap64 ((n : Int) + 1) = (n : Int) + 1 := by unfold wrap64; omega
          have hw2 : wrap64 ((n : Int) - 2) = (n : Int) - 2 := by unfold wrap64; omega
          obtain ⟨ad, eA, hx⟩ := Kd.at_string (Kd.C_below HR.out HB.out) (n : Int) (by omega) (by omega)
          obtain ⟨ad2, eA2, hy⟩ := Kd.at_string (Kd.C_below HR.out HB.out) ((n + 1 : Nat) : Int) (by omega) (by omega)
          cases eA
          cases eA2
          rw [Int.toNat_natCast] at hx hy
          rw [en, kx, ← en] at hx
          rw [show n + 1 = 5 - 2 * j from by omega, ky, ← show n + 1 = 5 - 2 * j from by omega] at hy
          have hy0 := hy
          simp only [go_sem] at hy0
          have k1 : (one o).size = 1 := rfl
          have hb0 : ∀ h : 0 < (one o).size, (((one o)[0]'h).toNat : Int) = (o : Int) := fun h => by
            show ((UInt8.ofNat o).toNat : Int) = _
            rw [UInt8.toNat_ofNat']
            omega
          obtain ⟨key, ek⟩ : ∃ key, key = one o := ⟨_, rfl⟩
          obtain ⟨val, ev⟩ : ∃ val, val = two o := ⟨_, rfl⟩
          rw [← ek] at hx k1 hb0
          rw [← ev] at hy hy0
          have q0 : 0 < key.size := by omega
          have qz : ((0 : Int) < (key.size : Int)) = True := eq_true (by omega)
          replace q0 := eq_true q0
          have o0 : (0 ≤ (o : Int)) = True := eq_true (by omega)
          have o1 : ((o : Int) < 256) = True := eq_true (by omega)
          have hX : wr.cell? ⟨gr, o, none⟩ = some (.slice none 0 0) := (blk_cell HX.out.2.1 o).trans ((rowOf_at ko).trans (congrArg some vn))
          have hT : wr.cell? ⟨gr, 256, none⟩ = some vt := (blk_cell HX.out.2.1 256).trans rowOf_last
          have KX := Aside0.mk ko
          have KT := Aside0.mk kt
          have EO := Aside0.mk eo
          have EN := Aside0.mk en
          have EV := Aside0.mk ev
          have JJ := Aside0.mk hj
          have vn0 := vn
          clear ko kt eo en ek ev hj kx ky vn
          have VN := Aside0.mk vn0
          clear vn0
          have hnl := fun w => Lib.run_eql_slice_nil (P := Tryz.prog) w 32 5 none 0 0 0 0 Tryz.underlying32
          go_wp2_with (first
            | ((with_reducible refine gate_dst (N := 121) rfl ?_); refine Kd.R_lit (Kd.int .u8) _ 5 ?hg (N := 121) ?hd (xs := [(o : Int)]) (inner := [.int .u8 (o : Int)]) (ok := fun _ => True) (okp := fun _ => True) ?hr ?hp (fun _ hk => hk) trivial (Below.refl _ _) (Nat.le_refl _) (by simp) ?_; (case hd => rfl); (case hg => rfl); (case hr => first | (go_simp; done) | (go_simp; rfl)); (case hp => exact (Reps.one (show Kd.M (Kd.int .u8) _ _ _ (o : Int) [.int .u8 (o : Int)] from rfl) (Reps.none _ _))); intro v121 w1 ho4 hb hg_ hnew_; clear hg_ hnew_; have HB1 := Aside0.mk (below_step HB.out hb); have HX1 := Aside0.mk (HX.out.below hb); have HO1 := Aside0.mk (own_below HO.out hb); have hcv := own_string (P := Tryz.prog) Tryz.underlying32 Tryz.underlying5 Tryz.underlying9 (Kd.own_of_R ho4); rw [strOf_one] at hcv; clear ho4 hb HB HX HO hX hT)
            | ((with_reducible refine gate_builtin (b := .append) (xs := #[.tmp 119, .tmp 123]) rfl ?_); at_builtin; refine Kd.R_append Kd.string (w0 := w) w.heap.size rfl (.tmp 119) (.tmp 123) 58 9 (.string ⟨#[]⟩) 16 rfl Tryz.underlying58 (by kernel_rfl) rfl (by decide) (by omega) vt ((ks.take j).map one) (one o) [.string (one o)] (fun _ => True) (fun _ => False) rfl rfl ?aP (fun _ hk => hk.elim) (fun _ _ => trivial) (Kd.R_of_own HO1.out (fun _ _ => trivial)) HB1.out HB1.out.size ?aL ?_; (case aP => exact rfl); (case aL => have := JJ.out; rw [List.length_map, List.length_take]; omega); intro v124 w2 ho hb hg hat; have HB2 := Aside0.mk hb; have HX2 := Aside0.mk (HX1.out.grown hg (own_typed HO1.out)); have HO2 := Aside0.mk (Kd.own_of_R ho); have EV1 := Aside0.mk (Kd.R_slice ho); clear ho hb hg hat HB1 HX1 HO1; have hT2 : w2.cell? ⟨gr, 256, none⟩ = some vt := (blk_cell HX2.out.2.1 256).trans rowOf_last; have fT2 := blk_frozen HX2.out.2.1 256)
            | ((with_reducible refine gate_store (t := 58) (p := 125) rfl ?_); refine store_event (t := 58) (p := 125) (v := ?vo1) (w1 := w2.setCell ⟨gr, 256, none⟩ v124) ?hg ?ho ?hn ?hr ?_; (case ho => rfl); (case hg => rfl); (case hn => rfl); (case hr => obtain ⟨A_, c_, e_⟩ := EV1.out; rw [e_]; first | (go_simp; done) | (go_simp; rfl)); intro w3 hw3; have HX3 := Aside0.mk (show Rep w3 w.heap.size gr ps v124 from by rw [hw3]; exact HX2.out.last _); have HB3 := Aside0.mk (show Below w.heap.size w w3 from by rw [hw3]; exact below_set HB2.out GW.out); have HO3 := Aside0.mk (show w3.ownsRow w.heap.size 9 1 v124 _ _ from by rw [hw3]; exact own_set HO2.out HX2.out.2.1 (by decide) _ _); clear hw3 hT2 fT2 HX2 HB2 HO2)
            | ((with_reducible refine gate_dst (N := 128) rfl ?_); refine two_event (N := 128) rfl rfl o w.heap.size KX.out HB3.out.size ?hr ?_; (case hr => show (convert 9 32 (.string val) >>= fun a => pure (Next.value a)).run Tryz.prog w3 = _; rw [Sem.run_bind, Lib.run_convert_string_bytes w3 9 32 5 val Tryz.underlying9 Tryz.underlying32 Tryz.underlying5, EV.out]; rfl); intro v128 w4 h2 hb4; have T4 := Aside0.mk h2; have HB4 := Aside0.mk (below_step HB3.out hb4); have HX4 := Aside0.mk (HX3.out.below hb4); have HO4 := Aside0.mk (own_below HO3.out hb4); clear h2 hb4 HB3 HX3 HO3; have hX4 : w4.cell? ⟨gr, o, none⟩ = some (.slice none 0 0) := (blk_cell HX4.out.2.1 o).trans ((rowOf_at KX.out).trans (congrArg some VN.out)); have fX4 := blk_frozen HX4.out.2.1 o)
            | ((with_reducible refine gate_store (t := 32) (p := 130) rfl ?_); refine store_event (t := 32) (p := 130) (v := ?vo2) (w1 := w4.setCell ⟨gr, o, none⟩ v128) ?hg ?ho ?hn ?hr ?_; (case ho => rfl); (case hg => rfl); (case hn => rfl); (case hr => obtain ⟨g_, c_, _, _, e_, _⟩ := T4.out; rw [e_]; first | (go_simp; done) | (go_simp; rfl)); intro w5 hw5; have HX5 := Aside0.mk (show Rep w5 w.heap.size gr ((o, v128) :: ps) v124 from by rw [hw5]; exact HX4.out.put KX.out T4.out); have HB5 := Aside0.mk (show Below w.heap.size w w5 from by rw [hw5]; exact below_set HB4.out GW.out); have HO5 := Aside0.mk (show w5.ownsRow w.heap.size 9 1 v124 _ _ from by rw [hw5]; exact own_set HO4.out HX4.out.2.1 (by decide) _ _); clear hw5 hX4 fX4 HX4 HB4 HO4))
          go_roundg (2 - j)
          case measure => have := HJ.out; have := JJ.out; omega
          case rel => exact ⟨(n : Int) - 2, j + 1, (o, v128) :: ps, v124, by rw [hw2], ⟨by have := EN.out; have := JJ.out; omega⟩, ⟨by have := HJ.out; have := JJ.out; omega⟩, HB5, HX5, ⟨by rw [List.map_cons, HP.out, KT.out, List.reverse_append]; rfl⟩, ⟨by have := HO5.out; rw [KT.out, List.map_append]; exact this⟩⟩
        · have dj : decide (0 ≤ i) = false := decide_eq_false (by have := HI.out; omega)
          have ej : j = 3 := by have := HJ.out; omega
          have FIN := Aside0.mk (show Byt wr w.heap.size gr from ⟨ps, vt, HX.out, by rw [HP.out, ej]; rfl, by have := HO.out; rw [ej] at this; exact this⟩)
          clear hj ej
          go_wp2_with (fail)
          go_ret
          exact ⟨gr, rfl, HB.out, FIN.out⟩
end Go.Proofs.YtonmeoaponeadaaGreatDoor.Repl
