/- spec.CodePoints, walked: the print's own walk, turned (wip/tools/cpsurg.py): []byte(s) is a row that is read. -/
import Derived.Test.YtamhebnfgegijaaQFnExactCodePointsx2
import Derived.Test.YtamhebnfgegijaaBytesEv
namespace Go.Proofs.Ytamhebnfgegijaa.QFnExactCodePoints
open Go Go.RowKit Go.Proofs.YtamhebnfgegijaaV.PrintWords Go.Proofs.YtamhebnfgegijaaV.PrintLast Go.Proofs.YtamhebnfgegijaaV.PrintMore Go.Proofs.Ytamhebnfgegijaa.BytesEv
set_option linter.unusedVariables false
set_option linter.unusedSimpArgs false

/-! ### spec_CodePoints: function 4 -/
def spec_CodePoints.l0 : Nat → List Int → List Int → Int → Option (List Int)
  | 0, _, _, _ => none
  | k + 1, x3, x4, x5 => if x5 < (x3.length : Int) then ((spec_l1Seq.f k x3 x5).bind fun bt120 => (if bt120.2 = true then (if 0 ≤ x5 then (if x5 ≤ (wrap64 (x5 + bt120.1)) then (if (wrap64 (x5 + bt120.1)) ≤ (x3.length : Int) then ((spec_l1Point.f ((x3.take ((wrap64 (x5 + bt120.1)) : Int).toNat).drop (x5 : Int).toNat)).bind fun t126 => (if x4.length < 17592186044416 then (spec_CodePoints.l0 k x3 (x4 ++ [t126]) (wrap64 (x5 + bt120.1))) else (none))) else (none)) else (none)) else (none)) else (if bt120.1 = 0 then (if x4.length < 17592186044416 then (spec_CodePoints.l0 k x3 (x4 ++ [65533]) (wrap64 (x5 + 1))) else (none)) else (if x4.length < 17592186044416 then (spec_CodePoints.l0 k x3 (x4 ++ [65533]) (wrap64 (x5 + bt120.1))) else (none))))) else (some x4)
def spec_CodePoints.f (k : Nat) (a0 : ByteArray) : Option (List Int) := if a0.size ≤ 1048576 then (spec_CodePoints.l0 k (bytesOf a0) (([] : List Int)) 0) else (none)
theorem spec_CodePoints.mono_l : ∀ k, (∀ y0 y1 y2, LeO (spec_CodePoints.l0 k y0 y1 y2) (spec_CodePoints.l0 (k + 1) y0 y1 y2))
  | 0 => fun _ _ _ r h => by simp [spec_CodePoints.l0] at h
  | k + 1 => by
    have ih0 := spec_CodePoints.mono_l k
    · intro y0 y1 y2
      unfold spec_CodePoints.l0
      repeat' first
      | (with_reducible exact ih0 _ _ _)
      | (with_reducible exact spec_l1Seq.mono _ _ _)
      | (with_reducible exact LeO.refl _)
      | (with_reducible exact LeO.none _)
      | (with_reducible refine LeO.ite ?_ ?_)
      | (with_reducible refine LeO.bind ?_ (fun _ => ?_))
      | exact ih0 _ _ _
      | exact spec_l1Seq.mono _ _ _
      | exact LeO.none _
      | refine LeO.ite ?_ ?_
      | refine LeO.bind ?_ (fun _ => ?_)
theorem spec_CodePoints.mono : ∀ a0 k, LeO (spec_CodePoints.f k a0) (spec_CodePoints.f (k + 1) a0) := by
  intro a0 k
  have ih0 := spec_CodePoints.mono_l k
  unfold spec_CodePoints.f
  repeat' first
      | (with_reducible exact ih0 _ _ _)
      | (with_reducible exact spec_l1Seq.mono _ _ _)
      | (with_reducible exact LeO.refl _)
      | (with_reducible exact LeO.none _)
      | (with_reducible refine LeO.ite ?_ ?_)
      | (with_reducible refine LeO.bind ?_ (fun _ => ?_))
      | exact ih0 _ _ _
      | exact spec_l1Seq.mono _ _ _
      | exact LeO.none _
      | refine LeO.ite ?_ ?_
      | refine LeO.bind ?_ (fun _ => ?_)
set_option maxHeartbeats 8000000 in
set_option maxRecDepth 100000 in
theorem spec_CodePoints.calls (k : Nat) (a0 : ByteArray) (r : List Int) (w : World) (h : spec_CodePoints.f k a0 = some r) :
    Calls Try.prog 4 #[.string a0] w fun e w' => ∃ v0_ : Value, e = .returned (v0_) ∧ Kd.R (Kd.int .i64) 3 w' w.heap.size (fun _ => True) v0_ r ∧ Below w.heap.size w w' := by
  unfold spec_CodePoints.f at h
  by_cases hs : a0.size ≤ 1048576
  rotate_left
  · rw [if_neg hs] at h
    cases h
  rw [if_pos hs] at h
  have HS := Aside0.mk hs
  clear hs
  have H : (spec_CodePoints.l0 k (bytesOf a0) (([] : List Int)) 0) = some r := h
  clear h
  obtain ⟨y114, hy114⟩ : ∃ y_ : List Int, y_ = bytesOf a0 := ⟨_, rfl⟩
  replace H : (spec_CodePoints.l0 k y114 (([] : List Int)) 0) = some r := by first | (rw [hy114]; with_reducible exact H) | (have H2_ := (Option.bind_some _ _).symm.trans H; rw [hy114]; with_reducible exact H2_) | (have H2_ := (Option.bind_some _ _).symm.trans H; with_reducible exact H2_) | with_reducible exact H | (rw [hy114]; exact H) | exact H
  have Ny114 := Aside0.mk hy114
  clear hy114
  obtain ⟨y117, hy117⟩ : ∃ y_ : List Int, y_ = (([] : List Int)) := ⟨_, rfl⟩
  replace H : (spec_CodePoints.l0 k y114 y117 0) = some r := by first | (rw [hy117]; with_reducible exact H) | (have H2_ := (Option.bind_some _ _).symm.trans H; rw [hy117]; with_reducible exact H2_) | (have H2_ := (Option.bind_some _ _).symm.trans H; with_reducible exact H2_) | with_reducible exact H | (rw [hy117]; exact H) | exact H
  have Ny117 := Aside0.mk hy117
  clear hy117
  have H' := Aside0.mk H
  clear H
  have hconv := fun w : World => print_bytes (P := Try.prog) 9 27 5 Try.underlying9 Try.underlying27 Try.underlying5 a0 w
  go_enter Try.func4, Try.ntmps4
  go_wp2_with (first | ((with_reducible refine gate_dst (N := 9) rfl ?_); refine bytes_event (N := 9) rfl rfl (e := 5) a0 (Nat.le_trans HS.out (by decide)) ?hr9 ?_; (case hr9 => first | (go_simp; done) | (go_simp; rfl)); intro ad cb w1 hcc hC hb hge; have HBW := Aside0.mk hb; have HCL := Aside0.mk (show y114.length ≤ cb from by rw [Ny114.out, bytesOf_length]; exact hcc); have HCB := Aside0.mk (show Kd.C (Kd.int .u8) w1 (some ad) y114.length y114 from by rw [Ny114.out, bytesOf_length]; exact hC); rw [show a0.size = y114.length from by rw [Ny114.out, bytesOf_length]]; have HB := Aside0.mk (Below.refl w1.heap.size w1); clear hcc hC hb hge) | ((with_reducible refine gate_dst (N := 10) rfl ?_); refine Kd.R_lit (Kd.int .i64) _ 3 ?hg (N := 10) ?hd (xs := ([] : List Int)) (inner := []) (ok := fun _ => True) (okp := fun _ => True) ?hr ?hp (fun _ hk => hk) trivial (Below.refl _ _) (Nat.le_refl _) (by simp) ?_; (case hd => rfl); (case hg => rfl); (case hr => first | (go_simp; done) | (go_simp; rfl)); (case hp => exact (Reps.none _ _)); intro v118 w4 ho5 hb hg_ hnew_; clear hg_ hnew_; (first | rw [← Ny117.out] at ho5 | (simp only [Int.reduceToNat] at ho5; rw [← Ny117.out] at ho5)); have n1_ := Aside0.mk (Kd.R_lower ho5 (below_size (by repeat (first | (with_reducible first | exact HB.out | apply below_alloc | apply pw_below_drewN | apply below_drew1) | exact HB.out)))); have n2_ := Aside0.mk (below_step (by repeat (first | (with_reducible first | exact HB.out | apply below_alloc | apply pw_below_drewN | apply below_drew1) | exact HB.out)) hb); clear HB; have HO119 := n1_; have HB := n2_; (try clear n1_); (try clear n2_); clear hb ho5))
  go_loopg [4, 5] k (fun kq v4 v5 w' => ∃ (x4_1 : List Int) (x5_1 : Int), v5 = .int .i64 x5_1 ∧ Aside0 (spec_CodePoints.l0 kq y114 x4_1 x5_1 = some r) ∧ Aside0 (kq ≤ k) ∧ Aside0 (Kd.R (Kd.int .i64) 3 w' w1.heap.size (fun _ => True) v4 x4_1) ∧ Aside0 (Below w1.heap.size w1 w'))
  case atStart => exact ⟨(y117), (0), (by first | rfl | (simp; done) | (simp [*]; done)), H', ⟨Nat.le_refl _⟩, ⟨by (with_reducible repeat (first | apply Kd.R_alloc | apply Kd.R_drewN | apply Kd.R_drew)); exact HO119.out⟩, ⟨by repeat (first | (with_reducible first | exact HB.out | apply below_alloc | apply pw_below_drewN | apply below_drew1) | exact HB.out)⟩⟩
  case round =>
    clear H'
    try clear p2
    try clear c4
    obtain ⟨x4_1, x5_1, rfl, HA, HK1, HO_4, HB⟩ := hrel
    cases gk with
    | zero => exact absurd HA.out (by simp [spec_CodePoints.l0])
    | succ k1 =>
      have H := HA.out
      clear HA
      simp only [spec_CodePoints.l0] at H
      by_cases c6 : x5_1 < (y114.length : Int)
      · rw [if_pos c6] at H
        have c6b0 : decide (x5_1 < (y114.length : Int)) = true := decide_eq_true c6
        clear c6
        replace H := Option.bind_eq_some_iff.mp H
        obtain ⟨⟨t120, t121⟩, A70, H⟩ := H
        replace H : (if t121 = true then (if 0 ≤ x5_1 then (if x5_1 ≤ (wrap64 (x5_1 + t120)) then (if (wrap64 (x5_1 + t120)) ≤ (y114.length : Int) then ((spec_l1Point.f ((y114.take ((wrap64 (x5_1 + t120)) : Int).toNat).drop (x5_1 : Int).toNat)).bind fun t126 => (if x4_1.length < 17592186044416 then (spec_CodePoints.l0 k1 y114 (x4_1 ++ [t126]) (wrap64 (x5_1 + t120))) else (none))) else (none)) else (none)) else (none)) else (if t120 = 0 then (if x4_1.length < 17592186044416 then (spec_CodePoints.l0 k1 y114 (x4_1 ++ [65533]) (wrap64 (x5_1 + 1))) else (none)) else (if x4_1.length < 17592186044416 then (spec_CodePoints.l0 k1 y114 (x4_1 ++ [65533]) (wrap64 (x5_1 + t120))) else (none)))) = some r := H
        have A7 := Aside0.mk A70
        clear A70
        by_cases c8 : t121 = true
        · subst c8
          have H1 : (if 0 ≤ x5_1 then (if x5_1 ≤ (wrap64 (x5_1 + t120)) then (if (wrap64 (x5_1 + t120)) ≤ (y114.length : Int) then ((spec_l1Point.f ((y114.take ((wrap64 (x5_1 + t120)) : Int).toNat).drop (x5_1 : Int).toNat)).bind fun t126 => (if x4_1.length < 17592186044416 then (spec_CodePoints.l0 k1 y114 (x4_1 ++ [t126]) (wrap64 (x5_1 + t120))) else (none))) else (none)) else (none)) else (none)) = some r := by rw [if_pos rfl] at H; exact H
          clear H
          have H := H1
          clear H1
          by_cases c9 : 0 ≤ x5_1
          · rw [if_pos c9] at H
            have c9b0 := eq_true c9
            have c9b1 : decide (0 ≤ x5_1) = true := decide_eq_true c9
            clear c9
            by_cases c10 : x5_1 ≤ (wrap64 (x5_1 + t120))
            · rw [if_pos c10] at H
              have c10b0 := eq_true c10
              have c10b1 : decide (x5_1 ≤ (wrap64 (x5_1 + t120))) = true := decide_eq_true c10
              by_cases c11 : (wrap64 (x5_1 + t120)) ≤ (y114.length : Int)
              · rw [if_pos c11] at H
                have c11b0 := eq_true c11
                have c11b1 : decide ((wrap64 (x5_1 + t120)) ≤ (y114.length : Int)) = true := decide_eq_true c11
                obtain ⟨y122, hy122⟩ : ∃ y_ : List Int, y_ = ((y114.take ((wrap64 (x5_1 + t120)) : Int).toNat).drop (x5_1 : Int).toNat) := ⟨_, rfl⟩
                replace H : ((spec_l1Point.f y122).bind fun t126 => (if x4_1.length < 17592186044416 then (spec_CodePoints.l0 k1 y114 (x4_1 ++ [t126]) (wrap64 (x5_1 + t120))) else (none))) = some r := by first | (rw [hy122]; with_reducible exact H) | (have H2_ := (Option.bind_some _ _).symm.trans H; rw [hy122]; with_reducible exact H2_) | (have H2_ := (Option.bind_some _ _).symm.trans H; with_reducible exact H2_) | with_reducible exact H | (rw [hy122]; exact H) | exact H
                have Ny122 := Aside0.mk hy122
                clear hy122
                replace H := Option.bind_eq_some_iff.mp H
                obtain ⟨t126, A120, H⟩ := H
                replace H : (if x4_1.length < 17592186044416 then (spec_CodePoints.l0 k1 y114 (x4_1 ++ [t126]) (wrap64 (x5_1 + t120))) else (none)) = some r := H
                have A12 := Aside0.mk A120
                clear A120
                by_cases c13 : x4_1.length < 17592186044416
                · rw [if_pos c13] at H
                  have LMc13 := Aside0.mk c13
                  clear c13
                  obtain ⟨y127, hy127⟩ : ∃ y_ : List Int, y_ = (x4_1 ++ [t126]) := ⟨_, rfl⟩
                  replace H : (spec_CodePoints.l0 k1 y114 y127 (wrap64 (x5_1 + t120))) = some r := by first | (rw [hy127]; with_reducible exact H) | (have H2_ := (Option.bind_some _ _).symm.trans H; rw [hy127]; with_reducible exact H2_) | (have H2_ := (Option.bind_some _ _).symm.trans H; with_reducible exact H2_) | with_reducible exact H | (rw [hy127]; exact H) | exact H
                  have Ny127 := Aside0.mk hy127
                  clear hy127
                  have H' := Aside0.mk H
                  clear H
                  go_wp2_with (first | ((with_reducible refine gate_callee (f := 9) rfl ?_); refine goesL_ (some 18) rfl rfl Try.func9 (by kernel_rfl) rfl #[.slice (some ad) y114.length cb, .int .i64 x5_1] rfl (by (try simp only [List.map_toArray, List.map_cons, List.map_nil]); first | done | rfl | (simp only [List.length_drop, List.length_take]; rfl)) ?_; (with_reducible refine (spec_l1Seq.calls k1 _ _ y114 x5_1 t120 true _ ?side1 ?side2 A7.out).mono ?_); (case side1 => repeat (first | exact (Kd.C_below HCB.out HB.out) | (with_reducible refine Kd.C_alloc ?_ _) | (with_reducible refine Kd.C_drewN ?_ _) | (with_reducible refine Kd.C_drew ?_))); (case side2 => exact HCL.out); rintro e w' ⟨rfl, ⟨nd, rfl⟩⟩; refine ⟨_, rfl, ?_⟩; have q15 : ((wrap64 (x5_1 + t120)) : Int) ≤ ((y114.length : Int) : Int) := of_decide_eq_true (by first | (with_reducible assumption) | assumption); obtain ⟨i015, hi015, _, hsz15, _⟩ := info_parts info5; have hroom15 : y114.length ≤ cb := HCL.out; have hC15 : Kd.C (Kd.int .u8) _ (some ad) y114.length y114 := (Kd.C_below HCB.out HB.out); have ql15 : (x5_1 : Int) ≤ ((wrap64 (x5_1 + t120)) : Int) := of_decide_eq_true (by first | (with_reducible assumption) | assumption); have q015 : (0 : Int) ≤ (x5_1 : Int) := of_decide_eq_true (by first | (with_reducible assumption) | assumption); have hcut15 := cut_mid (P := Try.prog) 27 5 .i64 .i64 Try.underlying27 hi015 1 hsz15 (some ad) y114.length cb x5_1 (wrap64 (x5_1 + t120)) q015 ql15 q15 hroom15; have hr15 := Kd.C_mid (lo := (x5_1 : Int).toNat) (hi := ((wrap64 (x5_1 + t120)) : Int).toNat) (c := cb) hC15 (by omega) (by omega) hroom15; obtain ⟨A15, hA15⟩ : ∃ A1, A1 = (if cb = (x5_1 : Int).toNat then (some ad) else ((some ad) : Option Addr).map (·.add ((x5_1 : Int).toNat * 1))) := ⟨_, rfl⟩; obtain ⟨c15, hc15⟩ : ∃ c1, c1 = cb - (x5_1 : Int).toNat := ⟨_, rfl⟩; have hy15 : y122.length = ((wrap64 (x5_1 + t120)) : Int).toNat - (x5_1 : Int).toNat := (by rw [Ny122.out, List.length_drop, List.length_take] <;> omega); rw [show ((y114).take ((wrap64 (x5_1 + t120)) : Int).toNat).drop (x5_1 : Int).toNat = y122 from Ny122.out.symm] at hr15; replace hr15 : Kd.C (Kd.int .u8) _ A15 y122.length y122 := (by rw [hA15]; exact hr15); rw [← hy15, ← hA15, ← hc15] at hcut15; have HR125 := Aside0.mk hr15; have HC125 := Aside0.mk (show y122.length ≤ c15 from by rw [hy15, hc15]; exact Nat.sub_le_sub_right (Nat.le_trans (by omega) hroom15) _); clear hr15 hC15 hroom15 hi015 hsz15 hc15; have KY15 := Aside0.mk hy15; have KA15 := Aside0.mk hA15; clear hy15 hA15; have KL15 := Aside0.mk (show ((wrap64 (x5_1 + t120)) : Int).toNat ≤ y114.length from by omega); have KM15 := Aside0.mk (show (x5_1 : Int).toNat ≤ ((wrap64 (x5_1 + t120)) : Int).toNat from by omega); replace q15 := eq_true q15) | ((with_reducible refine gate_callee (f := 10) rfl ?_); refine goesL_ (some 29) rfl rfl Try.func10 (by kernel_rfl) rfl #[.slice A15 y122.length c15] rfl (by (try simp only [List.map_toArray, List.map_cons, List.map_nil]); first | done | rfl | (simp only [List.length_drop, List.length_take]; rfl)) ?_; (with_reducible refine (spec_l1Point.calls _ _ y122 t126 _ ?side1 ?side2 A12.out).mono ?_); (case side1 => repeat (first | exact (by repeat (first | (with_reducible exact HR125.out) | (with_reducible refine Kd.C_alloc ?_ _) | (with_reducible refine Kd.C_drewN ?_ _) | (with_reducible refine Kd.C_drew ?_) | exact HR125.out)) | (with_reducible refine Kd.C_alloc ?_ _) | (with_reducible refine Kd.C_drewN ?_ _) | (with_reducible refine Kd.C_drew ?_))); (case side2 => exact HC125.out); rintro e w' ⟨rfl, ⟨nd, rfl⟩⟩; refine ⟨_, rfl, ?_⟩) | ((with_reducible refine gate_builtin (b := .append) (xs := #[.tmp 22, .tmp 30]) rfl ?_); at_builtin; refine Kd.R_append (Kd.int .i64) (w0 := w1) w1.heap.size rfl (.tmp 22) (.tmp 30) 22 3 (.int .i64 0) 8 rfl Try.underlying22 info3 rfl (by decide) (by omega) u4 x4_1 t126 [.int .i64 t126] (fun _ => True) (fun _ => False) rfl rfl ?aP (fun _ hk => hk.elim) ?aF ?aO ?aB ?aS ?aL ?_; (case aP => exact rfl); (case aB => exact (by repeat (first | (with_reducible first | exact HB.out | apply below_alloc | apply pw_below_drewN | apply below_drew1) | exact HB.out))); (case aF => exact (fun _ _ => trivial)); (case aO => exact (by (with_reducible repeat (first | apply Kd.R_alloc | apply Kd.R_drewN | apply Kd.R_drew)); exact HO_4.out)); (case aS => exact (below_size (by repeat (first | (with_reducible first | exact HB.out | apply below_alloc | apply pw_below_drewN | apply below_drew1) | exact HB.out)))); (case aL => have := LMc13.out; omega); intro v128 w16 ho hb hg hat; rw [← Ny127.out] at ho; have n1_ := Aside0.mk (hb); have n2_ := Aside0.mk ((show Kd.C (Kd.int .u8) w16 A15 y122.length y122 from by rw [Ny122.out, KA15.out]; exact Kd.C_mid (lo := (x5_1 : Int).toNat) (hi := ((wrap64 (x5_1 + t120)) : Int).toNat) (c := cb) ((Kd.C_below HCB.out hb)) KM15.out KL15.out (HCL.out))); have n3_ := Aside0.mk (ho); clear HB; clear HR125; clear HO_4; have HB := n1_; have HR125 := n2_; have HO129 := n3_; (try clear n0_); (try clear n1_); (try clear n2_); (try clear n3_); clear ho hb hg hat))
                  go_roundg k1
                  case measure => have := HK1.out; omega
                  case rel => exact ⟨(y127), (wrap64 (x5_1 + t120)), (by first | rfl | (simp; done) | (simp [*]; done)), H', ⟨by have := HK1.out; omega⟩, ⟨by (with_reducible repeat (first | apply Kd.R_alloc | apply Kd.R_drewN | apply Kd.R_drew)); exact HO129.out⟩, ⟨by repeat (first | (with_reducible first | exact HB.out | apply below_alloc | apply pw_below_drewN | apply below_drew1) | exact HB.out)⟩⟩
                · rw [if_neg c13] at H
                  exact absurd H (by simp)
              · rw [if_neg c11] at H
                exact absurd H (by simp)
            · rw [if_neg c10] at H
              exact absurd H (by simp)
          · rw [if_neg c9] at H
            exact absurd H (by simp)
        · replace c8 := Bool.eq_false_iff.mpr c8
          subst c8
          have H1 : (if t120 = 0 then (if x4_1.length < 17592186044416 then (spec_CodePoints.l0 k1 y114 (x4_1 ++ [65533]) (wrap64 (x5_1 + 1))) else (none)) else (if x4_1.length < 17592186044416 then (spec_CodePoints.l0 k1 y114 (x4_1 ++ [65533]) (wrap64 (x5_1 + t120))) else (none))) = some r := by rw [if_neg (show ¬ (false = true) by decide)] at H; exact H
          clear H
          have H := H1
          clear H1
          by_cases c17 : t120 = 0
          · rw [if_pos c17] at H
            have c17b0 : (t120 == 0) = true := beq_iff_eq.mpr c17
            have c17b1 : (t120 != 0) = false := bne_eq_false_iff_eq.mpr c17
            clear c17
            by_cases c18 : x4_1.length < 17592186044416
            · rw [if_pos c18] at H
              have LMc18 := Aside0.mk c18
              clear c18
              obtain ⟨y130, hy130⟩ : ∃ y_ : List Int, y_ = (x4_1 ++ [65533]) := ⟨_, rfl⟩
              replace H : (spec_CodePoints.l0 k1 y114 y130 (wrap64 (x5_1 + 1))) = some r := by first | (rw [hy130]; with_reducible exact H) | (have H2_ := (Option.bind_some _ _).symm.trans H; rw [hy130]; with_reducible exact H2_) | (have H2_ := (Option.bind_some _ _).symm.trans H; with_reducible exact H2_) | with_reducible exact H | (rw [hy130]; exact H) | exact H
              have Ny130 := Aside0.mk hy130
              clear hy130
              have H' := Aside0.mk H
              clear H
              go_wp2_with (first | ((with_reducible refine gate_callee (f := 9) rfl ?_); refine goesL_ (some 18) rfl rfl Try.func9 (by kernel_rfl) rfl #[.slice (some ad) y114.length cb, .int .i64 x5_1] rfl (by (try simp only [List.map_toArray, List.map_cons, List.map_nil]); first | done | rfl | (simp only [List.length_drop, List.length_take]; rfl)) ?_; (with_reducible refine (spec_l1Seq.calls k1 _ _ y114 x5_1 t120 false _ ?side1 ?side2 A7.out).mono ?_); (case side1 => repeat (first | exact (Kd.C_below HCB.out HB.out) | (with_reducible refine Kd.C_alloc ?_ _) | (with_reducible refine Kd.C_drewN ?_ _) | (with_reducible refine Kd.C_drew ?_))); (case side2 => exact HCL.out); rintro e w' ⟨rfl, ⟨nd, rfl⟩⟩; refine ⟨_, rfl, ?_⟩) | ((with_reducible refine gate_builtin (b := .append) (xs := #[.tmp 37, .tmp 38]) rfl ?_); at_builtin; refine Kd.R_append (Kd.int .i64) (w0 := w1) w1.heap.size rfl (.tmp 37) (.tmp 38) 22 3 (.int .i64 0) 8 rfl Try.underlying22 info3 rfl (by decide) (by omega) u4 x4_1 65533 [.int .i64 65533] (fun _ => True) (fun _ => False) rfl rfl ?aP (fun _ hk => hk.elim) ?aF ?aO ?aB ?aS ?aL ?_; (case aP => exact rfl); (case aB => exact (by repeat (first | (with_reducible first | exact HB.out | apply below_alloc | apply pw_below_drewN | apply below_drew1) | exact HB.out))); (case aF => exact (fun _ _ => trivial)); (case aO => exact (by (with_reducible repeat (first | apply Kd.R_alloc | apply Kd.R_drewN | apply Kd.R_drew)); exact HO_4.out)); (case aS => exact (below_size (by repeat (first | (with_reducible first | exact HB.out | apply below_alloc | apply pw_below_drewN | apply below_drew1) | exact HB.out)))); (case aL => have := LMc18.out; omega); intro v131 w20 ho hb hg hat; rw [← Ny130.out] at ho; have n1_ := Aside0.mk (hb); have n2_ := Aside0.mk (ho); clear HB; clear HO_4; have HB := n1_; have HO132 := n2_; (try clear n0_); (try clear n1_); (try clear n2_); clear ho hb hg hat))
              go_roundg k1
              case measure => have := HK1.out; omega
              case rel => exact ⟨(y130), (wrap64 (x5_1 + 1)), (by first | rfl | (simp; done) | (simp [*]; done)), H', ⟨by have := HK1.out; omega⟩, ⟨by (with_reducible repeat (first | apply Kd.R_alloc | apply Kd.R_drewN | apply Kd.R_drew)); exact HO132.out⟩, ⟨by repeat (first | (with_reducible first | exact HB.out | apply below_alloc | apply pw_below_drewN | apply below_drew1) | exact HB.out)⟩⟩
            · rw [if_neg c18] at H
              exact absurd H (by simp)
          · rw [if_neg c17] at H
            have c17b0 : (t120 == 0) = false := beq_eq_false_iff_ne.mpr c17
            have c17b1 : (t120 != 0) = true := bne_iff_ne.mpr c17
            by_cases c21 : x4_1.length < 17592186044416
            · rw [if_pos c21] at H
              have LMc21 := Aside0.mk c21
              clear c21
              obtain ⟨y133, hy133⟩ : ∃ y_ : List Int, y_ = (x4_1 ++ [65533]) := ⟨_, rfl⟩
              replace H : (spec_CodePoints.l0 k1 y114 y133 (wrap64 (x5_1 + t120))) = some r := by first | (rw [hy133]; with_reducible exact H) | (have H2_ := (Option.bind_some _ _).symm.trans H; rw [hy133]; with_reducible exact H2_) | (have H2_ := (Option.bind_some _ _).symm.trans H; with_reducible exact H2_) | with_reducible exact H | (rw [hy133]; exact H) | exact H
              have Ny133 := Aside0.mk hy133
              clear hy133
              have H' := Aside0.mk H
              clear H
              go_wp2_with (first | ((with_reducible refine gate_callee (f := 9) rfl ?_); refine goesL_ (some 18) rfl rfl Try.func9 (by kernel_rfl) rfl #[.slice (some ad) y114.length cb, .int .i64 x5_1] rfl (by (try simp only [List.map_toArray, List.map_cons, List.map_nil]); first | done | rfl | (simp only [List.length_drop, List.length_take]; rfl)) ?_; (with_reducible refine (spec_l1Seq.calls k1 _ _ y114 x5_1 t120 false _ ?side1 ?side2 A7.out).mono ?_); (case side1 => repeat (first | exact (Kd.C_below HCB.out HB.out) | (with_reducible refine Kd.C_alloc ?_ _) | (with_reducible refine Kd.C_drewN ?_ _) | (with_reducible refine Kd.C_drew ?_))); (case side2 => exact HCL.out); rintro e w' ⟨rfl, ⟨nd, rfl⟩⟩; refine ⟨_, rfl, ?_⟩) | ((with_reducible refine gate_builtin (b := .append) (xs := #[.tmp 37, .tmp 38]) rfl ?_); at_builtin; refine Kd.R_append (Kd.int .i64) (w0 := w1) w1.heap.size rfl (.tmp 37) (.tmp 38) 22 3 (.int .i64 0) 8 rfl Try.underlying22 info3 rfl (by decide) (by omega) u4 x4_1 65533 [.int .i64 65533] (fun _ => True) (fun _ => False) rfl rfl ?aP (fun _ hk => hk.elim) ?aF ?aO ?aB ?aS ?aL ?_; (case aP => exact rfl); (case aB => exact (by repeat (first | (with_reducible first | exact HB.out | apply below_alloc | apply pw_below_drewN | apply below_drew1) | exact HB.out))); (case aF => exact (fun _ _ => trivial)); (case aO => exact (by (with_reducible repeat (first | apply Kd.R_alloc | apply Kd.R_drewN | apply Kd.R_drew)); exact HO_4.out)); (case aS => exact (below_size (by repeat (first | (with_reducible first | exact HB.out | apply below_alloc | apply pw_below_drewN | apply below_drew1) | exact HB.out)))); (case aL => have := LMc21.out; omega); intro v134 w23 ho hb hg hat; rw [← Ny133.out] at ho; have n1_ := Aside0.mk (hb); have n2_ := Aside0.mk (ho); clear HB; clear HO_4; have HB := n1_; have HO135 := n2_; (try clear n0_); (try clear n1_); (try clear n2_); clear ho hb hg hat))
              go_roundg k1
              case measure => have := HK1.out; omega
              case rel => exact ⟨(y133), (wrap64 (x5_1 + t120)), (by first | rfl | (simp; done) | (simp [*]; done)), H', ⟨by have := HK1.out; omega⟩, ⟨by (with_reducible repeat (first | apply Kd.R_alloc | apply Kd.R_drewN | apply Kd.R_drew)); exact HO135.out⟩, ⟨by repeat (first | (with_reducible first | exact HB.out | apply below_alloc | apply pw_below_drewN | apply below_drew1) | exact HB.out)⟩⟩
            · rw [if_neg c21] at H
              exact absurd H (by simp)
      · rw [if_neg c6] at H
        have c6b0 : decide (x5_1 < (y114.length : Int)) = false := decide_eq_false c6
        clear c6
        obtain rfl := Option.some.inj H
        go_wp2
        go_ret
        exact ⟨_, rfl, Kd.R_lower HO_4.out HBW.out.size, below_then HBW.out HBW.out.size HB.out⟩
end Go.Proofs.Ytamhebnfgegijaa.QFnExactCodePoints
