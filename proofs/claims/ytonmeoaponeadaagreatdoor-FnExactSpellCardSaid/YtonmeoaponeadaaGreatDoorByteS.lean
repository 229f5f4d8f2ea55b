/- (*strings.byteStringReplacer).Replace, walked. -/
import Derived.Test.YtonmeoaponeadaaGreatDoorByteR
import Derived.StillTailTactics
namespace Go.Proofs.YtonmeoaponeadaaGreatDoor.Repl
open Go Go.RowKit Go.Proofs.YtonmeoaponeadaaGreatDoorV.PrintWords Go.Proofs.YtonmeoaponeadaaGreatDoorV.PrintLast Go.Proofs.YtonmeoaponeadaaGreatDoorV.PrintMore Go.Proofs.YtonmeoaponeadaaGreatDoor.Once
set_option linter.unusedVariables false
set_option linter.unusedSimpArgs false

def cn (s : ByteArray) (q : Nat) : Nat := Lib.countByte s.data.toList (UInt8.ofNat (ks.getD q 0))
def sumC (s : ByteArray) : Nat → Nat
  | 0 => 0
  | q + 1 => sumC s q + cn s q
theorem sumC_succ (s : ByteArray) (q : Nat) : sumC s (q + 1) = sumC s q + cn s q := rfl
theorem sumC_all (s : ByteArray) : sumC s 3 = spn (bytesOf s) := by
  show 0 + cn s 0 + cn s 1 + cn s 2 = _
  rw [Nat.zero_add]
  exact counts s.data.toList
theorem cn_le (s : ByteArray) (q : Nat) : cn s q ≤ s.size := by
  unfold cn Lib.countByte
  exact Nat.le_trans List.count_le_length (by rw [data_length]; exact Nat.le_refl _)
theorem spn_le (l : List Int) : spn l ≤ l.length := List.length_filter_le _ _
theorem byte_at (s : ByteArray) (i : Nat) (hi : i < s.size) : ∃ c : Nat, c < 256 ∧ (∀ h : i < s.size, ((s[i]'h).toNat : Int) = (c : Int)) ∧ (bytesOf s).take (i + 1) = (bytesOf s).take i ++ [(c : Int)] := by
  refine ⟨(s[i]'hi).toNat, UInt8.toNat_lt _, fun h => rfl, ?_⟩
  rw [List.take_add_one, List.getElem?_eq_getElem (by rw [bytesOf_length]; exact hi)]
  simp [bytesOf]
  rfl
theorem strOf_bytes (s : ByteArray) : strOfNums (bytesOf s) = s := by
  unfold strOfNums bytesOf
  rw [List.map_map]
  have : ∀ x ∈ s.data.toList, ((fun n : Int => UInt8.ofNat n.toNat) ∘ fun b : UInt8 => (b.toNat : Int)) x = x := by
    intro x _
    simp
  rw [List.map_congr_left this, List.map_id']
theorem two_slice {W : World} {base c : Nat} {v : Value} (h : Two W base v c) : ∃ g cap, v = .slice (some ⟨g, 0, none⟩) 2 cap := by
  obtain ⟨g, cap, _, _, e, _⟩ := h
  exact ⟨g, cap, e⟩
theorem run_step {P : Program} {ops : Array Oper} {o : Oper} {a : Act} {Q : Exit → Act → World → Prop} {Kc : Act → World → Prop} {W w1 : World} {v : Value} (hw : Region.wanted o (yielded ops a.tmps) = true) (hrun : (execOp a.eval o).run P W = .ok (.value v) w1) (h : Kc (a.put o.dst v) w1) :
    if Region.wanted o (yielded ops a.tmps) = true then Oper.wp P o a W Kc Q else Kc (a.put o.dst undef) W := by
  rw [if_pos hw]
  unfold Oper.wp
  rw [hrun]
  exact h
theorem fill_room (s : ByteArray) (i j n kk : Nat) (hi : i < s.size) (ht : (bytesOf s).take (i + 1) = (bytesOf s).take i ++ [(kk : Int)]) (hj : (escI ((bytesOf s).take i)).length = j) (en : n = s.size + spn (bytesOf s)) : j + 1 ≤ n ∧ (sp (kk : Int) = true → j + 2 ≤ n) := by
  have hsp := spn_take (bytesOf s) (i + 1)
  rw [ht, spn_snoc] at hsp
  rw [escI_length, List.length_take, bytesOf_length] at hj
  cases h : sp (kk : Int) with
  | true => rw [h] at hsp; simp at hsp; exact ⟨by omega, fun _ => by omega⟩
  | false => rw [h] at hsp; simp at hsp; exact ⟨by omega, fun h => by cases h⟩
theorem tt {a b : Nat} (h : a < b) : ((a : Int) < (b : Int)) = True ∧ (a < b) = True ∧ decide ((a : Int) < (b : Int)) = true ∧ decide (a < b) = true := ⟨eq_true (by omega), eq_true h, decide_eq_true (by omega), decide_eq_true h⟩
theorem tl {a b : Nat} (h : a ≤ b) : ((a : Int) ≤ (b : Int)) = True ∧ (a ≤ b) = True := ⟨eq_true (by omega), eq_true h⟩
theorem t0 (a : Nat) : (0 ≤ (a : Int)) = True := eq_true (by omega)
theorem tc {c : Nat} (h : c < 256) : ((c : Int) < 256) = True := eq_true (by omega)
set_option maxRecDepth 100000 in
set_option maxHeartbeats 8000000 in
theorem breplace_calls (w : World) (base gr : Nat) (s : ByteArray) (H : Byt w base gr) (hs : s.size ≤ 1048576) :
    Calls Tryz.prog 120 #[.pointer (some ⟨gr, 0, none⟩), .string s] w fun e w' => e = .returned (.string (strOfNums (escI (bytesOf s)))) ∧ Below w.heap.size w w' := by
  obtain ⟨ps, vt, h1, h2, h3⟩ := H
  obtain ⟨A, c, rfl⟩ := Kd.R_slice (Kd.R_of_own (enc := Value.string) (h1 := fun _ => rfl) (ok := fun _ => True) h3 (fun _ _ => trivial))
  obtain ⟨_, _, kC⟩ := Kd.R_reads' (Kd.R_of_own (enc := Value.string) (h1 := fun _ => rfl) (ok := fun _ => True) h3 (fun _ _ => trivial))
  have hT : w.cell? ⟨gr, 256, none⟩ = some (.slice A 3 c) := (blk_cell h1.2.1 256).trans rowOf_last
  have KC := Aside0.mk kC
  have RP := Aside0.mk h1
  have HP := Aside0.mk h2
  have HS := Aside0.mk hs
  have HB := Aside0.mk (Below.refl w.heap.size w)
  have hnn := fun (w : World) (a : Addr) (cap : Nat) => run_neq_slice_nil (P := Tryz.prog) w 32 5 (some a) 2 cap Tryz.underlying32
  have hn0 := fun (w : World) => run_neq_slice_nil (P := Tryz.prog) w 32 5 none 0 0 Tryz.underlying32
  have hnot : ∀ (x : Bool) (w : World), (Op.unary .not (.bool x)).run Tryz.prog w = .ok (.bool (!x)) w := fun _ _ => rfl
  clear h1 h2 h3 kC hs
  go_enter Tryz.func120, Tryz.ntmps120
  go_upto_if 26 with (fail)
  go_cut [5, 6] (fun v5 v6 wc => ∃ (M : Int) (b6 : Bool), v5 = .int .i64 M ∧ v6 = .bool b6 ∧ Aside0 (M = ((s.size + spn (bytesOf s) : Nat) : Int)) ∧ Aside0 (b6 = decide (spn (bytesOf s) ≠ 0)) ∧ Aside0 (∃ n, wc = w.drewN n))
  case first =>
    by_cases h24 : 24 ≤ s.size
    · have d24 : decide ((24 : Int) ≤ (s.size : Int)) = true := decide_eq_true (by omega)
      rw [d24]
      clear d24 h24
      go_wp2_with (fail)
      go_loopg [32, 5, 6] 3 (fun kq v32 v5 v6 w' => ∃ (q : Nat) (M : Int) (b6 : Bool), v32 = .int .i64 (q : Int) ∧ v5 = .int .i64 M ∧ v6 = .bool b6 ∧ Aside0 (M = ((s.size + sumC s q : Nat) : Int)) ∧ Aside0 (b6 = decide (sumC s q ≠ 0)) ∧ Aside0 (kq + q = 3) ∧ Aside0 (∃ n, w' = w.drewN n))
      case atStart => exact ⟨0, _, false, rfl, rfl, rfl, ⟨rfl⟩, ⟨rfl⟩, ⟨rfl⟩, ⟨0, rfl⟩⟩
      case round =>
        obtain ⟨q, M, b6, rfl, rfl, rfl, HM, H6, HQ, HN⟩ := hrel
        by_cases hq : q < 3
        · obtain ⟨nd, hnd⟩ := HN.out
          have dj : decide ((q : Int) < 3) = true := decide_eq_true (by omega)
          have dj2 : decide (q < 3) = true := decide_eq_true (by omega)
          have p5 : (0 ≤ (q : Int)) = True := eq_true (by omega)
          have q5 : ((q : Int) < 3) = True := eq_true (by omega)
          have q6 : (q < 3) = True := eq_true (by omega)
          have hw1 : wrap64 ((q : Int) + 1) = ((q + 1 : Nat) : Int) := wa1 q (by omega)
          obtain ⟨ad, eA, hx⟩ := Kd.at_string KC.out (q : Int) (by omega) (by show (q : Int) < 3; omega)
          cases eA
          rw [Int.toNat_natCast] at hx
          obtain ⟨kk, ek⟩ : ∃ kk, kk = ks.getD q 0 := ⟨_, rfl⟩
          have hk : rdOf ByteArray.empty (ks.map one) (q : Int) = one kk ∧ kk < 256 ∧ sp (kk : Int) = true := by
            rw [ek]
            match q, hq with
            | 0, _ | 1, _ | 2, _ => exact ⟨rfl, by decide, by decide⟩
          obtain ⟨e1, kl, ksp⟩ := hk
          rw [e1] at hx
          obtain ⟨n, en⟩ : ∃ n, n = cn s q := ⟨_, rfl⟩
          have hcn : cn s q = n := en.symm
          have hcc : Lib.countByte s.data.toList (UInt8.ofNat kk) = n := by rw [ek]; exact hcn
          have hle := cn_le s q
          have hsum : sumC s q ≤ 2 * s.size := by
            have a0 := cn_le s 0
            have a1 := cn_le s 1
            match q, hq with
            | 0, _ => exact Nat.zero_le _
            | 1, _ => show 0 + cn s 0 ≤ _; omega
            | 2, _ => show 0 + cn s 0 + cn s 1 ≤ _; omega
          have hsz := HS.out
          have hb0 : ∀ h : 0 < (one kk).size, (((one kk)[0]'h).toNat : Int) = (kk : Int) := fun h => by
            show ((UInt8.ofNat kk).toNat : Int) = _
            rw [UInt8.toNat_ofNat']
            omega
          have k1 : (one kk).size = 1 := rfl
          have hcc2 := count_calls wr s kk kl
          rw [hcc] at hcc2
          have CC := Aside0.mk hcc2
          obtain ⟨key, eky⟩ : ∃ key, key = one kk := ⟨_, rfl⟩
          rw [← eky] at hx k1 hb0 CC
          have q0 : (0 < key.size) = True := eq_true (by omega)
          have qz : ((0 : Int) < (key.size : Int)) = True := eq_true (by omega)
          have o0 : (0 ≤ (kk : Int)) = True := eq_true (by omega)
          have o1 : ((kk : Int) < 256) = True := eq_true (by omega)
          obtain ⟨g2, c2, e2⟩ := two_slice ((byt_at RP.out HP.out kk).1 ksp)
          have hX : w.cell? ⟨gr, kk, none⟩ = some (.slice (some ⟨g2, 0, none⟩) 2 c2) := (blk_cell RP.out.2.1 kk).trans ((rowOf_at kl).trans (congrArg some e2))
          have hx' : wr.cell? (ad.add q) = some (.string key) := by rw [hnd]; exact hx
          have hX' : wr.cell? ⟨gr, kk, none⟩ = some (.slice (some ⟨g2, 0, none⟩) 2 c2) := by rw [hnd]; exact hX
          have hw3 : wrap64 (M + (n : Int)) = ((s.size + (sumC s q + n) : Nat) : Int) := by
            rw [HM.out, ← Nat.add_assoc]
            exact wa _ _ (by omega)
          have hw5 : wrap64 (n : Int) = (n : Int) := wn n (by omega)
          have hw4 : wrap64 ((n : Int) * 1) = (n : Int) := by rw [Int.mul_one]; exact hw5
          have CN := Aside0.mk hcn
          have QQ := Aside0.mk hq
          have HW3 := Aside0.mk hw3
          clear ek e1 kl ksp en hcn hcc hle hsum hsz hcc2 eky hq k1 e2 hw3 hx hX hnd
          by_cases hn : n = 0
          · have z1 : ((n : Int) != 0) = false := by rw [hn]; rfl
            have z2 : (n != 0) = false := by rw [hn]; rfl
            have NZ := Aside0.mk hn
            clear hn
            go_wp2_with (first
              | (go_at_call 122; refine CC.out.mono ?_; rintro e w' ⟨rfl, rfl⟩))
            go_roundg (2 - q)
            case measure => have := HQ.out; have := QQ.out; omega
            case rel => exact ⟨q + 1, M, b6, by rw [hw1], rfl, rfl, ⟨by rw [HM.out, sumC_succ, CN.out, NZ.out, Nat.add_zero]⟩, ⟨by rw [H6.out, sumC_succ, CN.out, NZ.out, Nat.add_zero]⟩, ⟨by have := HQ.out; have := QQ.out; omega⟩, HN⟩
          · have z1 : ((n : Int) != 0) = true := bne_iff_ne.mpr (by omega)
            have z2 : (n != 0) = true := bne_iff_ne.mpr hn
            have NZ := Aside0.mk hn
            clear hn
            go_wp2_with (first
              | (go_at_call 122; refine CC.out.mono ?_; rintro e w' ⟨rfl, rfl⟩))
            go_still_tail 13, (by kernel_rfl)
            change wpList _ _ _ _ _ wr.drew
            have HN2 := Aside0.mk (show ∃ n, wr.drew = w.drewN n from by obtain ⟨n, hn⟩ := HN.out; exact ⟨n + 1, by rw [hn]; rfl⟩)
            clear HN hx' hX' CC
            generalize wr.drew = w2 at HN2 ⊢
            go_wp2_with (fail)
            go_roundg (2 - q)
            case measure => have := HQ.out; have := QQ.out; omega
            case rel => exact ⟨q + 1, _, true, by rw [hw1], rfl, rfl, ⟨by rw [i64_w, i64_w, i64_w, show wrap64 1 = 1 from by unfold wrap64; omega, hw4, HW3.out, sumC_succ, CN.out]⟩, ⟨by rw [sumC_succ, CN.out]; exact (decide_eq_true (by have := NZ.out; omega)).symm⟩, ⟨by have := HQ.out; have := QQ.out; omega⟩, HN2⟩
        · have dj : decide ((q : Int) < 3) = false := decide_eq_false (by omega)
          have dj2 : decide (q < 3) = false := decide_eq_false (by omega)
          have eq3 : q = 3 := by have := HQ.out; omega
          have H7 := H6.out
          have M7 := HM.out
          rw [eq3, sumC_all] at H7 M7
          have H8 := Aside0.mk H7
          have M8 := Aside0.mk M7
          clear hq H7 M7 eq3
          go_wp2_with (fail)
          go_meet
          case rel => exact ⟨M, b6, rfl, rfl, M8, H8, HN⟩
    · have d24 : decide ((24 : Int) ≤ (s.size : Int)) = false := decide_eq_false (by omega)
      rw [d24]
      clear d24 h24
      go_wp2_with (fail)
      go_loopg [10, 5, 6] s.size (fun kq v10 v5 v6 w' => ∃ (i : Nat) (M : Int) (b6 : Bool), v10 = .int .i64 (i : Int) ∧ v5 = .int .i64 M ∧ v6 = .bool b6 ∧ Aside0 (M = ((s.size + spn ((bytesOf s).take i) : Nat) : Int)) ∧ Aside0 (b6 = decide (spn ((bytesOf s).take i) ≠ 0)) ∧ Aside0 (kq + i = s.size) ∧ w = w')
      case atStart => exact ⟨0, _, false, rfl, rfl, rfl, ⟨rfl⟩, ⟨rfl⟩, ⟨rfl⟩, rfl⟩
      case round =>
        obtain ⟨i, M, b6, rfl, rfl, rfl, HM, H6, HI, rfl⟩ := hrel
        have hsz := HS.out
        by_cases hi : i < s.size
        · have dj : decide ((i : Int) < (s.size : Int)) = true := decide_eq_true (by omega)
          have dj2 : decide (i < s.size) = true := decide_eq_true hi
          have p5 : (0 ≤ (i : Int)) = True := eq_true (by omega)
          have q5 : ((i : Int) < (s.size : Int)) = True := eq_true (by omega)
          have q6 : (i < s.size) = True := eq_true hi
          have hw1 : wrap64 ((i : Int) + 1) = ((i + 1 : Nat) : Int) := wa1 i (by omega)
          obtain ⟨kk, kl, hb0, ht⟩ := byte_at s i hi
          have hb1 : ∀ h : (i : Int).toNat < s.size, ((s[(i : Int).toNat]'h).toNat : Int) = (kk : Int) := hb0
          have o0 : (0 ≤ (kk : Int)) = True := eq_true (by omega)
          have o1 : ((kk : Int) < 256) = True := eq_true (by omega)
          have hba := byt_at RP.out HP.out kk
          have hcl : w.cell? ⟨gr, kk, none⟩ = some (valAt ps kk) := (blk_cell RP.out.2.1 kk).trans (rowOf_at kl)
          have hst : spn ((bytesOf s).take (i + 1)) = spn ((bytesOf s).take i) + (if sp (kk : Int) then 1 else 0) := by rw [ht, spn_snoc]
          have hsp := spn_take (bytesOf s) i
          have hsl := spn_le (bytesOf s)
          rw [bytesOf_length] at hsl
          have II := Aside0.mk hi
          have hw3 : wrap64 (M + 1) = ((s.size + (spn ((bytesOf s).take i) + 1) : Nat) : Int) := by
            rw [HM.out, ← Nat.add_assoc]
            exact wa1 _ (by omega)
          have HW3 := Aside0.mk hw3
          clear kl ht hsp hsl hi hw3 hsz
          cases hs : sp (kk : Int) with
          | true =>
            obtain ⟨g2, c2, e2⟩ := two_slice (hba.1 hs)
            rw [e2] at hcl
            rw [hs] at hst
            have ST := Aside0.mk hst
            clear hst hba hs e2
            go_wp2_with (fail)
            go_roundg (s.size - i - 1)
            case measure => have := HI.out; have := II.out; omega
            case rel => exact ⟨i + 1, _, true, by first | rw [hw1] | rfl, rfl, rfl, ⟨by rw [ST.out]; first | exact HW3.out | (rw [i64_w, i64_w, show wrap64 1 = 1 from by unfold wrap64; omega]; exact HW3.out)⟩, ⟨by rw [ST.out]; exact (decide_eq_true (by simp)).symm⟩, ⟨by have := HI.out; have := II.out; omega⟩, rfl⟩
          | false =>
            rw [hba.2 hs] at hcl
            rw [hs] at hst
            have ST := Aside0.mk hst
            clear hst hba hs
            go_wp2_with (fail)
            go_roundg (s.size - i - 1)
            case measure => have := HI.out; have := II.out; omega
            case rel => exact ⟨i + 1, M, b6, by first | rw [hw1] | rfl, rfl, rfl, ⟨by rw [ST.out]; exact HM.out⟩, ⟨by rw [ST.out]; exact H6.out⟩, ⟨by have := HI.out; have := II.out; omega⟩, rfl⟩
        · have dj : decide ((i : Int) < (s.size : Int)) = false := decide_eq_false (by omega)
          have dj2 : decide (i < s.size) = false := decide_eq_false hi
          have ei : i = s.size := by have := HI.out; omega
          have H7 := H6.out
          have M7 := HM.out
          rw [ei, List.take_of_length_le (by rw [bytesOf_length]; exact Nat.le_refl _)] at H7 M7
          have H8 := Aside0.mk H7
          have M8 := Aside0.mk M7
          clear hi H7 M7 ei hsz
          go_wp2_with (fail)
          go_meet
          case rel => exact ⟨M, b6, rfl, rfl, M8, H8, ⟨0, rfl⟩⟩
  case rest =>
    obtain ⟨M, b6, rfl, rfl, HM, H6, HN⟩ := hcut
    have HBW := Aside0.mk (show Below w.heap.size w wc from by obtain ⟨nd, hnd⟩ := HN.out; rw [hnd]; apply pw_below_drewN; exact Below.refl _ _)
    have hsl := spn_le (bytesOf s)
    rw [bytesOf_length] at hsl
    have hsz := HS.out
    by_cases hz : spn (bytesOf s) = 0
    · obtain rfl : b6 = false := H6.out.trans (decide_eq_false (fun h => h hz))
      have HZ := Aside0.mk hz
      clear hz hsl hsz
      go_wp2_with (fail)
      go_ret
      exact ⟨by rw [escI_none _ HZ.out, strOf_bytes]; rfl, HBW.out⟩
    · obtain rfl : b6 = true := H6.out.trans (decide_eq_true hz)
      obtain ⟨n, en⟩ : ∃ n, n = s.size + spn (bytesOf s) := ⟨_, rfl⟩
      obtain rfl : M = (n : Int) := by rw [HM.out, en]
      have hnb : n ≤ 2097152 := by omega
      have hn0 : 0 < n := by omega
      have EN := Aside0.mk en
      have NB := Aside0.mk hnb
      have N0 := Aside0.mk hn0
      have p84 : (0 ≤ (n : Int)) = True := eq_true (by omega)
      clear hz hsl hsz en hnb hn0 HM H6
      go_wp2_with (first
        | ((with_reducible refine gate_dst (N := 85) rfl ?_); refine Kd.R_make (Kd.int .u8) (w0 := w) w.heap.size 5 rfl (N := 85) rfl 32 _ _ rfl (n : Int) rfl rfl Tryz.underlying32 (.int .u8 0) 1 (by kernel_rfl) rfl (by decide) (by omega) 0 (ok := fun _ => True) (okp := fun _ => True) rfl (fun _ hk => hk) trivial (by omega) (by have := NB.out; omega) HBW.out HBW.out.size ?_; intro v85 w4 ho5 hb hg_ hnew_; have own5 := Kd.own_of_R ho5; rw [List.length_replicate, Int.toNat_natCast] at own5; obtain ⟨gb, N, e85, hgb, hnN, hNm, hF⟩ := Fill.of own5 N0.out; subst e85; have HB4 := Aside0.mk hb; have GB := Aside0.mk hgb; have NN := Aside0.mk hnN; have NM := Aside0.mk hNm; have HF4 := Aside0.mk hF; clear ho5 hb hg_ hnew_ own5 hgb hnN hNm hF))
      go_loopg [14, 13] s.size (fun kq v14 v13 w' => ∃ (i : Nat) (j : Nat), v14 = .int .i64 (i : Int) ∧ v13 = .int .i64 (j : Int) ∧ Aside0 ((escI ((bytesOf s).take i)).length = j) ∧ Aside0 (kq + i = s.size) ∧ Aside0 (Below w.heap.size w w') ∧ Aside0 (Fill w' gb N (escI ((bytesOf s).take i))))
      case atStart => exact ⟨0, 0, rfl, rfl, ⟨rfl⟩, ⟨rfl⟩, HB4, HF4⟩
      case round =>
        obtain ⟨i, j, rfl, rfl, HJ, HI, HBR, HF⟩ := hrel
        by_cases hi : i < s.size
        · obtain ⟨q5, q6, dj, dj2⟩ := tt hi
          have p5 := t0 i
          obtain ⟨kk, kl, hb0, ht⟩ := byte_at s i hi
          have hb1 : ∀ h : (i : Int).toNat < s.size, ((s[(i : Int).toNat]'h).toNat : Int) = (kk : Int) := hb0
          have o0 := t0 kk
          have o1 := tc kl
          have RPW := RP.out.below HBR.out
          have hba := byt_at RPW HP.out kk
          have hcl : wr.cell? ⟨gr, kk, none⟩ = some (valAt ps kk) := (blk_cell RPW.2.1 kk).trans (rowOf_at kl)
          have hes : escI ((bytesOf s).take (i + 1)) = escI ((bytesOf s).take i) ++ (if sp (kk : Int) then [92, (kk : Int)] else [(kk : Int)]) := by rw [ht, escI_snoc]
          obtain ⟨r1, r2⟩ := fill_room s i j n kk hi ht HJ.out EN.out
          have II := Aside0.mk hi
          have hw1 : wrap64 ((i : Int) + 1) = ((i + 1 : Nat) : Int) := wa1 i (Nat.le_trans hi (Nat.le_trans HS.out (by decide)))
          have hjb : j + 1 ≤ 2097152 := Nat.le_trans r1 NB.out
          have w1_ : wrap64 ((j : Int) + 1) = ((j + 1 : Nat) : Int) := wa1 j (Nat.le_trans hjb (by decide))
          have w2_ : wrap64 ((j : Int) + 2) = ((j + 2 : Nat) : Int) := wa2 j (Nat.le_trans (Nat.succ_le_succ hjb) (by decide))
          clear hi hjb
          cases hs : sp (kk : Int) with
          | true =>
            have hl2 : j + 2 ≤ n := r2 hs
            have htwo := hba.1 hs
            obtain ⟨g2, c2, e2⟩ := two_slice htwo
            rw [e2] at hcl htwo
            rw [hs] at hes
            have ES := Aside0.mk hes
            have TW := Aside0.mk htwo
            have KL := Aside0.mk kl
            have VA := Aside0.mk e2
            have L2 := Aside0.mk hl2
            have j0 := t0 j
            obtain ⟨j1, j2⟩ := tl (Nat.le_trans (Nat.le_succ j) r1)
            obtain ⟨j3, j6⟩ := tl (Nat.le_trans (Nat.le_trans (Nat.le_succ j) r1) NN.out)
            obtain ⟨j4, j5⟩ := tl NN.out
            have j7 : (N = j) = False := eq_false (Nat.ne_of_gt (Nat.lt_of_lt_of_le (Nat.lt_of_lt_of_le (Nat.lt_succ_self j) r1) NN.out))
            clear kl ht hes hba hs e2 hl2 htwo RPW r1 r2
            go_wp2_with (fail)
            refine start_ (n := 13) (S := fun w' => w'.cell? ⟨gr, kk, none⟩ = some (.slice (some ⟨g2, 0, none⟩) 2 c2)) (ds := []) #[false, false, false, false, false, false, false, false, false, false, false, false, false] (by kernel_rfl) rfl rfl hcl (fun hHeld => ?_)
            have HF4 := Aside0.mk (show Fill wr.drew gb N _ from HF.out)
            have HB4 := Aside0.mk (HBR.out.drew)
            have TW4 := Aside0.mk (show Two wr.drew base _ kk from TW.out)
            clear HF HBR TW hcl
            generalize wr.drew = w4 at HF4 HB4 TW4 hHeld ⊢
            refine pure_ (i := 0) (N := (some 102)) (v := ?_) (a' := ?_) #[true, false, false, false, false, false, false, false, false, false, false, false, false] rfl rfl (by kernel_rfl) (fun _ _ _ h => h) (Or.inl ⟨by rfl, ?_⟩) ?_ ?_
            rotate_left
            · intro w'
              go_simp
              with_reducible rfl
            rotate_left
            · simp only [Act.put, List.setIfInBounds_toArray, List.set_cons_zero, List.set_cons_succ, i64_w, i32_w]
              rfl
            refine pure_ (i := 1) (N := (some 103)) (v := ?_) (a' := ?_) #[true, true, false, false, false, false, false, false, false, false, false, false, false] rfl rfl (by kernel_rfl) (fun _ _ _ h => h) (Or.inl ⟨by rfl, ?_⟩) ?_ ?_
            rotate_left
            · intro w'
              go_simp
              with_reducible rfl
            rotate_left
            · simp only [Act.put, List.setIfInBounds_toArray, List.set_cons_zero, List.set_cons_succ, i64_w, i32_w]
              rfl
            refine pure_ (i := 2) (N := (some 104)) (v := ?_) (a' := ?_) #[true, true, true, false, false, false, false, false, false, false, false, false, false] rfl rfl (by kernel_rfl) (fun _ _ _ h => h) (Or.inl ⟨by rfl, ?_⟩) ?_ ?_
            rotate_left
            · intro w'
              go_simp
              with_reducible rfl
            rotate_left
            · simp only [Act.put, List.setIfInBounds_toArray, List.set_cons_zero, List.set_cons_succ, i64_w, i32_w]
              rfl
            refine pure_ (i := 3) (N := (some 105)) (v := ?_) (a' := ?_) #[true, true, true, true, false, false, false, false, false, false, false, false, false] rfl rfl (by kernel_rfl) (fun _ _ _ h => h) (Or.inl ⟨by rfl, ?_⟩) ?_ ?_
            rotate_left
            · intro w'
              go_simp
              with_reducible rfl
            rotate_left
            · simp only [Act.put, List.setIfInBounds_toArray, List.set_cons_zero, List.set_cons_succ, i64_w, i32_w]
              rfl
            refine pure_ (i := 4) (N := (some 106)) (v := ?_) (a' := ?_) #[true, true, true, true, true, false, false, false, false, false, false, false, false] rfl rfl (by kernel_rfl) (fun _ _ _ h => h) (Or.inl ⟨by rfl, ?_⟩) ?_ ?_
            rotate_left
            · intro w'
              go_simp
              with_reducible rfl
            rotate_left
            · simp only [Act.put, List.setIfInBounds_toArray, List.set_cons_zero, List.set_cons_succ, i64_w, i32_w]
              rfl
            refine pure_ (i := 5) (N := (some 107)) (v := ?_) (a' := ?_) #[true, true, true, true, true, true, false, false, false, false, false, false, false] rfl rfl (by kernel_rfl) (fun _ _ _ h => h) (Or.inl ⟨by rfl, ?_⟩) ?_ ?_
            rotate_left
            · intro w'
              go_simp
              with_reducible rfl
            rotate_left
            · simp only [Act.put, List.setIfInBounds_toArray, List.set_cons_zero, List.set_cons_succ, i64_w, i32_w]
              rfl
            refine pure_ (i := 6) (N := (some 108)) (v := ?_) (a' := ?_) #[true, true, true, true, true, true, true, false, false, false, false, false, false] rfl rfl (by kernel_rfl) (fun _ _ _ h => h) (Or.inl ⟨by rfl, ?_⟩) ?_ ?_
            rotate_left
            · intro w'
              go_simp
              with_reducible rfl
            rotate_left
            · simp only [Act.put, List.setIfInBounds_toArray, List.set_cons_zero, List.set_cons_succ, i64_w, i32_w]
              rfl
            refine pure_ (i := 7) (N := (some 109)) (v := ?_) (a' := ?_) #[true, true, true, true, true, true, true, true, false, false, false, false, false] rfl rfl (by kernel_rfl) (fun _ _ _ h => h) (Or.inl ⟨by rfl, ?_⟩) ?_ ?_
            rotate_left
            · intro w'
              go_simp
              with_reducible rfl
            rotate_left
            · simp only [Act.put, List.setIfInBounds_toArray, List.set_cons_zero, List.set_cons_succ, i64_w, i32_w]
              rfl
            refine pure_ (i := 8) (N := (some 110)) (v := ?_) (a' := ?_) #[true, true, true, true, true, true, true, true, true, false, false, false, false] rfl rfl (by kernel_rfl) (fun _ _ _ h => h) (Or.inl ⟨by rfl, ?_⟩) ?_ ?_
            rotate_left
            · intro w'
              go_simp
              with_reducible rfl
            rotate_left
            · simp only [Act.put, List.setIfInBounds_toArray, List.set_cons_zero, List.set_cons_succ, i64_w, i32_w]
              rfl
            refine take_ (i := 9) (N := (some 111)) (v := ?_) (a' := ?_) #[true, true, true, true, true, true, true, true, true, true, false, false, false] rfl rfl (by kernel_rfl) (fun _ _ _ h => h) (Or.inl ⟨by rfl, ?_⟩) hHeld ?_ ?_
            rotate_left
            · rintro w' hS
              go_simp
              with_reducible rfl
            rotate_left
            · simp only [Act.put, List.setIfInBounds_toArray, List.set_cons_zero, List.set_cons_succ, i64_w, i32_w]
              rfl
            refine one_ (i := 10) (N := (some 112)) #[true, true, true, true, true, true, true, true, true, true, true, false, false] rfl rfl (by kernel_rfl) (by decide) (fun K hK => ?_)
            obtain ⟨w5, hc1, hc2, hc3, hc4, hc5, hc6, hc7⟩ := Fill.copy (dc := N - j) HF4.out TW4.out (by rw [HJ.out]; exact L2.out) NN.out
            rw [HJ.out] at hc1
            have HF5 := Aside0.mk hc2
            have HB5 := Aside0.mk (show Below w.heap.size w w5 from ⟨hc5.trans HB4.out.os, hc6.trans HB4.out.tape, hc7.trans HB4.out.output, by rw [hc4]; exact HB4.out.size, fun k hk => (hc3 k (by have := GB.out; omega)).trans (HB4.out.block k hk)⟩)
            have hcl5 : w5.cell? ⟨gr, kk, none⟩ = some (.slice (some ⟨g2, 0, none⟩) 2 c2) := (blk_cell (RP.out.below HB5.out).2.1 kk).trans ((rowOf_at KL.out).trans (congrArg some VA.out))
            clear hc2 hc3 hc4 hc5 hc6 hc7
            refine run_step (by rfl) (v := .int .i64 2) (w1 := w5) ?hrc ?_
            case hrc => first | (go_simp; done) | (go_simp; rfl)
            refine hK.out _ _ hcl5 (fun hHeld => ?_)
            clear hK K
            refine norm_ (a' := ?_) ?_ ?_
            rotate_left
            · show Act.put _ (some 112) _ = _
              simp only [Act.put, List.setIfInBounds_toArray, List.set_cons_zero, List.set_cons_succ, i64_w, i32_w]
              rfl
            refine pure_ (i := 11) (N := (some 113)) (v := ?_) (a' := ?_) #[true, true, true, true, true, true, true, true, true, true, true, true, false] rfl rfl (by kernel_rfl) (fun _ _ _ h => h) (Or.inl ⟨by rfl, ?_⟩) ?_ ?_
            rotate_left
            · intro w'
              go_simp
              with_reducible rfl
            rotate_left
            · simp only [Act.put, List.setIfInBounds_toArray, List.set_cons_zero, List.set_cons_succ, i64_w, i32_w]
              rfl
            refine pure_ (i := 12) (N := (some 13)) (v := ?_) (a' := ?_) #[true, true, true, true, true, true, true, true, true, true, true, true, true] rfl rfl (by kernel_rfl) (fun _ _ _ h => h) (Or.inl ⟨by rfl, ?_⟩) ?_ ?_
            rotate_left
            · intro w'
              go_simp
              with_reducible rfl
            rotate_left
            · simp only [Act.put, List.setIfInBounds_toArray, List.set_cons_zero, List.set_cons_succ, i64_w, i32_w]
              rfl
            refine done_ (by kernel_rfl) ?_
            go_wp2_with (fail)
            go_roundg (s.size - i - 1)
            case measure => have := HI.out; have := II.out; omega
            case rel => exact ⟨i + 1, j + 2, by first | rw [hw1] | rfl, by first | rw [w2_] | (rw [i64_w]; exact congrArg _ w2_) | rfl, ⟨by rw [ES.out, List.length_append, HJ.out]; rfl⟩, ⟨by have := HI.out; have := II.out; omega⟩, HB5, ⟨by rw [ES.out]; exact HF5.out⟩⟩
          | false =>
            have hl2 : j + 1 ≤ n := r1
            rw [hba.2 hs] at hcl
            rw [hs] at hes
            have ES := Aside0.mk hes
            have L2 := Aside0.mk hl2
            have j0 := t0 j
            obtain ⟨j1, j2, _, _⟩ := tt hl2
            obtain ⟨⟨u, hu⟩, fu⟩ := HF.out.cell (by rw [HJ.out]; exact Nat.le_trans hl2 NN.out)
            rw [HJ.out] at hu fu
            clear kl ht hes hba hs hl2 RPW r1 r2
            go_wp2_with (first
              | ((with_reducible refine gate_store (t := 5) (p := 117) rfl ?_); refine store_event (t := 5) (p := 117) (v := ?vo1) (w1 := wr.setCell ⟨gb, j, none⟩ (.int .u8 (kk : Int))) ?hg ?ho ?hn ?hr ?_; (case ho => rfl); (case hg => rfl); (case hn => rfl); (case hr => first | (go_simp; done) | (go_simp; rfl)); intro w5 hw5; have HB5 := Aside0.mk (show Below w.heap.size w w5 from by rw [hw5]; exact below_set HBR.out GB.out); have HF5 := Aside0.mk (show Fill w5 gb N (escI ((bytesOf s).take (i + 1))) from by rw [hw5, ES.out]; have h_ := HF.out.one (kk : Int) (by rw [HJ.out]; have := L2.out; have := NN.out; omega); rw [HJ.out] at h_; exact h_); clear hw5 hu fu HF HBR hcl))
            go_roundg (s.size - i - 1)
            case measure => have := HI.out; have := II.out; omega
            case rel => exact ⟨i + 1, j + 1, by first | rw [hw1] | rfl, by first | rw [w1_] | rfl, ⟨by rw [ES.out, List.length_append, HJ.out]; rfl⟩, ⟨by have := HI.out; have := II.out; omega⟩, HB5, HF5⟩
        · have dj : decide ((i : Int) < (s.size : Int)) = false := decide_eq_false (fun h => hi (Int.ofNat_lt.1 h))
          have dj2 : decide (i < s.size) = false := decide_eq_false hi
          have ei : i = s.size := by have := HI.out; omega
          have F7 := HF.out
          have J7 := HJ.out
          rw [ei, List.take_of_length_le (by rw [bytesOf_length]; exact Nat.le_refl _)] at F7 J7
          have hjn : (escI (bytesOf s)).length = n := by rw [escI_length, bytesOf_length, EN.out]
          have hcv := own_string (P := Tryz.prog) Tryz.underlying32 Tryz.underlying5 Tryz.underlying9 (F7.own (base := w.heap.size) hjn GB.out NN.out NM.out)
          clear hi F7 J7 ei hjn
          go_wp2_with (fail)
          go_ret
          exact ⟨rfl, HBR.out⟩
end Go.Proofs.YtonmeoaponeadaaGreatDoor.Repl
