/- Written by a program (wip/tools/own_print.py) out of the walk that the kit's printer made; turned where it fell. -/
import Derived.Test.YtjoanlocikagaaaQFnExactSelectorOkx0
import Derived.Test.YtjoanlocikagaaaQFnExactSelectorOkx5
namespace Go.Proofs.Ytjoanlocikagaaa.QFnExactSelectorOk
open Go.RowKit Go.Proofs.YtjoanlocikagaaaW.PrintWords Go.Proofs.YtjoanlocikagaaaW.PrintLast Go.Proofs.YtjoanlocikagaaaW.PrintMore
attribute [local go_sem] max2_int min2_int max_two min_two max_three min_three max_four min_four   -- for this text's walks alone
set_option linter.unusedVariables false
set_option linter.unusedSimpArgs false

/-! ### laws_toAltS: function 171 -/
def laws_toAltS.l0 : Nat → List (S310) → List (S228) → Int → Option ((List (S228)))
  | 0, _, _, _ => none
  | k + 1, x0, x3, x4 => if x4 < (x0.length : Int) then (if 0 ≤ x4 then ((laws_toAlt.f k ((rd_T310 x0 x4).f0)).bind fun t155 => (if x4 < (x3.length : Int) then (laws_toAltS.l0 k x0 (x3.set (x4 : Int).toNat (⟨t155⟩ : S228)) (wrap64 (x4 + 1))) else (none))) else (none)) else (some x3)
def laws_toAltS.f (k : Nat) (l0 : List (S310)) : Option ((List (S228))) := if 0 ≤ (l0.length : Int) then (if ((l0.length : Int) : Int).toNat ≤ 11728124029610 then (laws_toAltS.l0 k l0 (List.replicate ((l0.length : Int) : Int).toNat z228) 0) else (none)) else (none)
theorem laws_toAltS.mono_l : ∀ k, (∀ y0 y1 y2, LeO (laws_toAltS.l0 k y0 y1 y2) (laws_toAltS.l0 (k + 1) y0 y1 y2))
 | 0 => fun _ _ _ r h => by simp [laws_toAltS.l0] at h
 | k + 1 => by
  have ih0 := laws_toAltS.mono_l k
  ·intro y0 y1 y2
   unfold laws_toAltS.l0
   repeat' first
  |(with_reducible exact ih0 _ _ _)
  |(with_reducible exact laws_toAlt.mono _ _)
  |(with_reducible exact LeO.refl _)
  |(with_reducible exact LeO.none _)
  |(with_reducible refine LeO.ite ?_ ?_)
  |(with_reducible refine LeO.bind ?_ (fun _ => ?_))
  |exact ih0 _ _ _
  |exact laws_toAlt.mono _ _
  |exact LeO.none _
  |refine LeO.ite ?_ ?_
  |refine LeO.bind ?_ (fun _ => ?_)
theorem laws_toAltS.mono : ∀ a0 k, LeO (laws_toAltS.f k a0) (laws_toAltS.f (k + 1) a0) := by
 intro a0 k
 have ih0 := laws_toAltS.mono_l k
 unfold laws_toAltS.f
 repeat' first
  |(with_reducible exact ih0 _ _ _)
  |(with_reducible exact laws_toAlt.mono _ _)
  |(with_reducible exact LeO.refl _)
  |(with_reducible exact LeO.none _)
  |(with_reducible refine LeO.ite ?_ ?_)
  |(with_reducible refine LeO.bind ?_ (fun _ => ?_))
  |exact ih0 _ _ _
  |exact laws_toAlt.mono _ _
  |exact LeO.none _
  |refine LeO.ite ?_ ?_
  |refine LeO.bind ?_ (fun _ => ?_)
set_option maxHeartbeats 8000000 in
set_option maxRecDepth 100000 in
theorem laws_toAltS.calls (k : Nat) (A0 : Option Addr) (c0 : Nat) (l0 : List (S310)) (r : List (S228)) (w : World) (hr0 : Kd.C k310 w A0 l0.length l0) (hc0 : l0.length ≤ c0) (h : laws_toAltS.f k l0 = some r) :
  Calls Try.prog 171 #[.slice A0 l0.length c0] w fun e w' => ∃ v0_ : Value, e = .returned (v0_) ∧ Kd.S k228 228 w' w.heap.size (fun _ => True) v0_ r ∧ Below w.heap.size w w' := by
 have hu310 := Try.underlying310
 have hu228 := Try.underlying228
 have HR0 := Aside0.mk hr0
 have HC0 := Aside0.mk hc0
 clear hr0 hc0
 have HB := Aside0.mk (Below.refl w.heap.size w)
 have H : (if 0 ≤ (l0.length : Int) then (if ((l0.length : Int) : Int).toNat ≤ 11728124029610 then (laws_toAltS.l0 k l0 (List.replicate ((l0.length : Int) : Int).toNat z228) 0) else (none)) else (none)) = some r := h
 clear h
 by_cases c2 : 0 ≤ (l0.length : Int)
 ·rw [if_pos c2] at H
  have c2b0 := eq_true c2
  have c2b1 : decide (0 ≤ (l0.length : Int)) = true := decide_eq_true c2
  clear c2
  by_cases c3 : ((l0.length : Int) : Int).toNat ≤ 11728124029610
  ·rw [if_pos c3] at H
   have c3b0 := eq_true c3
   have c3b1 : decide (((l0.length : Int) : Int).toNat ≤ 11728124029610) = true := decide_eq_true c3
   clear c3
   obtain ⟨y151, hy151⟩ : ∃ y_ : List (S228), y_ = (List.replicate ((l0.length : Int) : Int).toNat z228) := ⟨_, rfl⟩
   replace H : (laws_toAltS.l0 k l0 y151 0) = some r := by first|(rw [hy151];with_reducible exact H)|(have H2_ := (Option.bind_some _ _).symm.trans H;rw [hy151];with_reducible exact H2_)|(have H2_ := (Option.bind_some _ _).symm.trans H;with_reducible exact H2_)|with_reducible exact H|(rw [hy151];exact H)|exact H
   have Ny151 := Aside0.mk hy151
   clear hy151
   have H' := Aside0.mk H
   clear H
   go_enter Try.func171, Try.ntmps171
   go_wp2_with (first|((with_reducible refine gate_dst (N := 7) rfl ?_);refine Kd.S_make k228 _ 228 rfl (N := 7) rfl 162 _ _ rfl (l0.length : Int) rfl rfl Try.underlying162 (.agg #[(.slice none 0 0)]) 24 info228 rfl (by decide) (by omega) z228 (ok := fun _ => True) (okp := fun _ => True) (k228_mkM _ _ _ z228 (Kd.R_nil _ _ _ _ _)) (fun _ hk => hk) trivial (of_decide_eq_true (by first|(with_reducible assumption)|assumption)) (Nat.le_trans (Nat.mul_le_mul_right _ (of_decide_eq_true (by first|(with_reducible assumption)|assumption) : (l0.length : Int).toNat ≤ 11728124029610)) (by omega)) (Below.refl _ _) (Nat.le_refl _) ?_;intro v152 w4 ho5 hb hg_ hnew_;clear hg_ hnew_;(first|rw [← Ny151.out] at ho5|(simp only [Int.reduceToNat] at ho5;rw [← Ny151.out] at ho5));have n0_ := Aside0.mk (Kd.S_lower ho5 (below_size (by repeat (first|(with_reducible first|exact HB.out|apply below_alloc|apply pw_below_drewN|apply below_drew1)|exact HB.out))));have n1_ := Aside0.mk (below_step (by repeat (first|(with_reducible first|exact HB.out|apply below_alloc|apply pw_below_drewN|apply below_drew1)|exact HB.out)) hb);clear HB;have HO153 := n0_;have HB := n1_;clear n0_ n1_;clear hb ho5))
   go_loopg [4] k (fun kq v4 w' => ∃ (x3_1 : List (S228)) (x4_1 : Int), v4 = .int .i64 x4_1 ∧ Aside0 (laws_toAltS.l0 kq l0 x3_1 x4_1 = some r) ∧ Aside0 (kq ≤ k) ∧ Aside0 (Kd.S k228 228 w' w.heap.size (fun _ => True) v152 x3_1) ∧ Aside0 (Below w.heap.size w w'))
   case atStart => exact ⟨(y151),(0),(by first|rfl|(simp;done)|(simp [*];done)), H', ⟨Nat.le_refl _⟩,⟨by (with_reducible repeat (first|apply Kd.S_alloc|apply Kd.S_drewN|apply Kd.S_drew));exact HO153.out⟩,⟨by repeat (first|(with_reducible first|exact HB.out|apply below_alloc|apply pw_below_drewN|apply below_drew1)|exact HB.out)⟩⟩
   case round =>
    clear H'
    try clear c1;try clear c2;try clear c2b0;try clear c2b1;try clear p2;try clear c3;try clear c3b0;try clear c3b1
    obtain ⟨x3_1, x4_1, rfl, HA, HK1, HO_3, HB⟩ := hrel
    cases gk with
   |zero => exact absurd HA.out (by simp [laws_toAltS.l0])
   |succ k1 =>
     have H := HA.out
     clear HA
     simp only [laws_toAltS.l0] at H
     by_cases c6 : x4_1 < (l0.length : Int)
     ·rw [if_pos c6] at H
      have c6b0 : decide (x4_1 < (l0.length : Int)) = true := decide_eq_true c6
      clear c6
      by_cases c7 : 0 ≤ x4_1
      ·rw [if_pos c7] at H
       have c7b0 : decide (0 ≤ x4_1) = true := decide_eq_true c7
       clear c7
       replace H := Option.bind_eq_some_iff.mp H
       obtain ⟨t155, A80, H⟩ := H
       replace H : (if x4_1 < (x3_1.length : Int) then (laws_toAltS.l0 k1 l0 (x3_1.set (x4_1 : Int).toNat (⟨t155⟩ : S228)) (wrap64 (x4_1 + 1))) else (none)) = some r := H
       have A8 := Aside0.mk A80
       clear A80
       by_cases c9 : x4_1 < (x3_1.length : Int)
       ·rw [if_pos c9] at H
        have c9b0 : decide (x4_1 < (x3_1.length : Int)) = true := decide_eq_true c9
        clear c9
        obtain ⟨y158, hy158⟩ : ∃ y_ : List (S228), y_ = (x3_1.set (x4_1 : Int).toNat (⟨t155⟩ : S228)) := ⟨_, rfl⟩
        replace H : (laws_toAltS.l0 k1 l0 y158 (wrap64 (x4_1 + 1))) = some r := by first|(rw [hy158];with_reducible exact H)|(have H2_ := (Option.bind_some _ _).symm.trans H;rw [hy158];with_reducible exact H2_)|(have H2_ := (Option.bind_some _ _).symm.trans H;with_reducible exact H2_)|with_reducible exact H|(rw [hy158];exact H)|exact H
        have Ny158 := Aside0.mk hy158
        clear hy158
        have H' := Aside0.mk H
        clear H
        have p154 : 0 ≤ (x4_1 : Int) := of_decide_eq_true (by first|(with_reducible assumption)|assumption)
        have q154 : x4_1 < (l0.length : Int) := of_decide_eq_true (by first|(with_reducible assumption)|assumption)
        obtain ⟨ad154, A154_0, c154_0, e154, hx154_0, hl154_0, hi154_0⟩ := at_T310 HR0.out x4_1 p154 q154
        cases e154
        replace hx154_0 := (HB.out.cell (World.block_lt_of_cell? w _ hx154_0)).trans hx154_0
        have HR154_0 := Aside0.mk hi154_0
        have HC154_0 := Aside0.mk hl154_0
        clear hi154_0 hl154_0
        replace p154 := eq_true p154
        replace q154 := eq_true q154
        go_wp2_with (first|((with_reducible refine gate_callee (f := 185) rfl ?_);refine goesL_ (some 20) rfl rfl Try.func185 (by kernel_rfl) rfl #[.agg #[.slice A154_0 ((rd_T310 l0 x4_1).f0).length c154_0]] rfl (by (try simp only [List.map_toArray, List.map_cons, List.map_nil]);first|done|rfl|(simp only [List.length_drop, List.length_take];rfl)) ?_;(with_reducible refine (laws_toAlt.calls k1 _ _ ((rd_T310 l0 x4_1).f0) t155 _ ?side1 ?side2 A8.out).mono ?_);(case side1 => repeat (first|exact (Kd.C_below HR154_0.out HB.out)|(with_reducible refine Kd.C_alloc ?_ _)|(with_reducible refine Kd.C_drewN ?_ _)|(with_reducible refine Kd.C_drew ?_)));(case side2 => exact HC154_0.out);rintro e w11 ⟨v156, rfl, ho0, hb⟩;refine ⟨_, rfl, ?_⟩;have n0_ := Aside0.mk (Kd.S_elder' (by (with_reducible repeat (first|apply Kd.S_alloc|apply Kd.S_drewN|apply Kd.S_drew));exact HO_3.out) (Kd.R_base ho0) hb);have n1_ := Aside0.mk (Kd.R_lower ho0 (below_size (by repeat (first|(with_reducible first|exact HB.out|apply below_alloc|apply pw_below_drewN|apply below_drew1)|exact HB.out))));have n2_ := Aside0.mk (below_step (by repeat (first|(with_reducible first|exact HB.out|apply below_alloc|apply pw_below_drewN|apply below_drew1)|exact HB.out)) hb);clear HO_3;clear HB;have HO_3 := n0_;have HO157 := n1_;have HB := n2_;clear n0_ n1_ n2_;(try clear hb);(try clear hb2);(try clear hk);(try clear hi);(try clear ho0);have p10 : 0 ≤ (x4_1 : Int) := of_decide_eq_true (by first|(with_reducible assumption)|assumption);have q10 : (x4_1 : Int) < ((x3_1.length : Int) : Int) := of_decide_eq_true (by first|(with_reducible assumption)|assumption);obtain ⟨go10, co10, eo10, gb10, gl10, cl10, HG10⟩ := Kd.S_form HO_3.out (by omega);(first|cases eo10|(injection eo10 with ea_ en_ ec_;(first|subst ea_|(injection ea_ with ea_;subst ea_));subst ec_;clear en_));have GB10 := Aside0.mk gb10;have GG10 := Aside0.mk HG10;clear gb10 gl10 HG10;obtain ⟨_, ce10, hcl10, hM10, hcc10, hfr10, _, _⟩ := Kd.S_elem HO_3.out z228 (x4_1 : Int) p10 q10;obtain ⟨ve10_0, rfl, ge10_0⟩ := k228_openM hM10;have hx10_0 := hcc10 0 _ rfl;have hf10_0 := hfr10 0;(try simp only [show (k228).sz = 1 from rfl, Nat.mul_one, Nat.add_zero] at hx10_0);(try simp only [show (k228).sz = 1 from rfl, Nat.mul_one, Nat.add_zero] at hf10_0);clear hcl10 hcc10 hfr10 hM10;replace p10 := eq_true p10;replace q10 := eq_true q10;have n_ := Aside0.mk (Kd.S_mono (ok' := (fun k_ => some k_ ≠ (v156 : Value).ownBlock)) HO_3.out (fun k_ hk => hk.2));clear HO_3;have HO_3 := n_;clear n_;have HX12 := Aside0.mk (show Kd.S k228 228 w11 w.heap.size (fun k_ => ((fun _ => True)) k_ ∧ ¬ ((fun k_ => some k_ = (v156 : Value).ownBlock)) k_) (.slice (some ⟨go10, 0, none⟩) x3_1.length co10) x3_1 from (by (with_reducible repeat (first|apply Kd.S_alloc|apply Kd.S_drewN|apply Kd.S_drew));exact Kd.S_mono HO_3.out (fun k_ hk => ⟨trivial, fun e_ => hk e_⟩)));obtain ⟨oki12, ce12, hcl12, hM12, hcc12, hfr12, hoki12, hH12⟩ := Kd.S_elem HX12.out z228 (x4_1 : Int) (of_decide_eq_true (by first|(with_reducible assumption)|assumption)) (by have h_ : (x4_1 : Int) < ((x3_1.length : Int) : Int) := of_decide_eq_true (by first|(with_reducible assumption)|assumption);first|exact h_|(have e_ := (Kd.S_reads' HO_3.out).1;omega)|simpa using h_);obtain ⟨ve12_0, rfl, ge12_0⟩ := k228_openM hM12;have HP12 := Kd.S_seg hH12 (of_decide_eq_true (by first|(with_reducible assumption)|assumption)) (by have h_ : (x4_1 : Int) < ((x3_1.length : Int) : Int) := of_decide_eq_true (by first|(with_reducible assumption)|assumption);first|exact h_|(have e_ := (Kd.S_reads' HO_3.out).1;omega)|simpa using h_) (seg := [v156]) (j := 0) (show 1 ≤ 1 from by decide) (x' := (⟨t155⟩ : S228)) (k228_mkM _ _ _ (⟨t155⟩ : S228) (Kd.R_mono (Kd.R_tight rfl (Kd.R_mono (ok' := fun k_ => ((fun _ => True)) k_ ∧ k_ ≠ go10) (Kd.R_apart' (HO157.out) (Kd.S_typed HO_3.out) (by decide)) (fun k_ hk => ⟨trivial, fun e_ => (hk.2) (by rw [e_];rfl)⟩))) (fun _ h_ => Or.inr (h_)))) (fun _ hk => hk) (fun k_ hk_ => ((Kd.R_mono (ok' := fun k_ => ((fun _ => True)) k_ ∧ k_ ≠ go10) (Kd.R_apart' (HO157.out) (Kd.S_typed HO_3.out) (by decide)) (fun k_ hk => ⟨trivial, fun e_ => (hk.2) (by rw [e_];rfl)⟩))).1 k_ hk_.symm);have hx12_0 := hcc12 0 _ rfl;(try simp only [show (k228).sz = 1 from rfl, Nat.mul_one, Nat.add_zero] at hx12_0);have hf12_0 := hfr12 0;(try simp only [show (k228).sz = 1 from rfl, Nat.mul_one, Nat.add_zero] at hf12_0);clear hcl12 hcc12 hfr12 hM12 hoki12 hH12;(try simp only [show (k228).sz = 1 from rfl, Nat.mul_one, Nat.add_zero] at HP12))|((with_reducible refine gate_store (t := 228) (p := 21) rfl ?_);refine store_event (t := 228) (p := 21) (v := ?vo_w13) (w1 := (w11.setCell ⟨go10, (x4_1 : Int).toNat, none⟩ (v156))) ?hg ?ho ?hn ?hr ?_;(case ho => rfl);(case hg => rfl);(case hn => rfl);(case hr => first|(go_simp;done)|(go_simp;rfl)|(have o156_ : (v156 : Value).oneCell' = true := (by first|(obtain ⟨A_, c_, e_⟩ := Kd.R_slice HO157.out;rw [e_];rfl)|(obtain ⟨A_, c_, e_⟩ := Kd.S_slice HO157.out;rw [e_];rfl)|(obtain ⟨A_, c_, e_⟩ := Kd.N_slice HO157.out;rw [e_];rfl));go_simp;(try rw [run_store _ _ _ _ _ o156_]);go_simp;done));intro w13 hw;have hg : w11.grownBy w13 (some go10) := (by rw [hw];exact HP12.2);have hp_ : Kd.S k228 228 w13 w.heap.size (fun _ => True) (.slice (some ⟨go10, 0, none⟩) x3_1.length co10) y158 := (by rw [hw, Ny158.out];exact HP12.1);clear HP12;have n0_ := Aside0.mk (hp_);have n1_ := Aside0.mk ((by rw [hw];exact below_set (HB.out) GB10.out : Below w.heap.size w w13));clear HO_3;clear HB;clear HO157;have HO_3 := n0_;have HB := n1_;clear n0_ n1_;clear hg hw hp_))
        go_roundg k1
        case measure => have := HK1.out;omega
        case rel => exact ⟨(y158),(wrap64 (x4_1 + 1)),(by first|rfl|(simp;done)|(simp [*];done)), H', ⟨by have := HK1.out;omega⟩,⟨by (with_reducible repeat (first|apply Kd.S_alloc|apply Kd.S_drewN|apply Kd.S_drew));exact HO_3.out⟩,⟨by repeat (first|(with_reducible first|exact HB.out|apply below_alloc|apply pw_below_drewN|apply below_drew1)|exact HB.out)⟩⟩
       ·rw [if_neg c9] at H
        exact absurd H (by simp)
      ·rw [if_neg c7] at H
       exact absurd H (by simp)
     ·rw [if_neg c6] at H
      have c6b0 : decide (x4_1 < (l0.length : Int)) = false := decide_eq_false c6
      clear c6
      obtain rfl := Option.some.inj H
      go_wp2
      go_ret
      exact ⟨_, by first|rfl|(simp [errW_none, errW_some] <;> rfl)|(simp [*, errW_none, errW_some] <;> rfl), by (with_reducible repeat (first|apply Kd.S_alloc|apply Kd.S_drewN|apply Kd.S_drew));exact HO_3.out, by repeat (first|(with_reducible first|exact HB.out|apply below_alloc|apply pw_below_drewN|apply below_drew1)|exact HB.out)⟩
  ·rw [if_neg c3] at H
   exact absurd H (by simp)
 ·rw [if_neg c2] at H
  exact absurd H (by simp)

/-! ### laws_toSimple: function 160 -/
def laws_toSimple.f (k : Nat) (a0_0 : Int) (a0_1 : ByteArray) (a0_2 : ByteArray) (a0_3 : Int) (a0_4 : Int) (l0_5 : List (S310)) : Option (Int × ByteArray × ByteArray × Int × Int × (List (S228))) := (laws_toBasic.f a0_0 a0_1 a0_2 a0_3 a0_4).bind fun bt162 => ((laws_toAltS.f k l0_5).bind fun t167 => (some (bt162.1, bt162.2.1, bt162.2.2.1, bt162.2.2.2.1, bt162.2.2.2.2, t167)))
theorem laws_toSimple.mono : ∀ a0 a1 a2 a3 a4 a5 k, LeO (laws_toSimple.f k a0 a1 a2 a3 a4 a5) (laws_toSimple.f (k + 1) a0 a1 a2 a3 a4 a5) := by
 intro a0 a1 a2 a3 a4 a5 k
 unfold laws_toSimple.f
 repeat' first
  |(with_reducible exact laws_toAltS.mono _ _)
  |(with_reducible exact LeO.refl _)
  |(with_reducible exact LeO.none _)
  |(with_reducible refine LeO.ite ?_ ?_)
  |(with_reducible refine LeO.bind ?_ (fun _ => ?_))
  |exact laws_toAltS.mono _ _
  |exact LeO.none _
  |refine LeO.ite ?_ ?_
  |refine LeO.bind ?_ (fun _ => ?_)
set_option maxHeartbeats 8000000 in
set_option maxRecDepth 100000 in
theorem laws_toSimple.calls (k : Nat) (a0_0 : Int) (a0_1 : ByteArray) (a0_2 : ByteArray) (a0_3 : Int) (a0_4 : Int) (A0_5 : Option Addr) (c0_5 : Nat) (l0_5 : List (S310)) (r1 : Int) (r2 : ByteArray) (r3 : ByteArray) (r4 : Int) (r5 : Int) (r6 : List (S228)) (w : World) (hr0_5 : Kd.C k310 w A0_5 l0_5.length l0_5) (hc0_5 : l0_5.length ≤ c0_5) (h : laws_toSimple.f k a0_0 a0_1 a0_2 a0_3 a0_4 l0_5 = some (r1, r2, r3, r4, r5, r6)) :
  Calls Try.prog 160 #[.agg #[.int .i64 a0_0, .string a0_1, .string a0_2, .int .i64 a0_3, .int .i64 a0_4, .slice A0_5 l0_5.length c0_5]] w fun e w' => ∃ v5_ : Value, e = .returned (.agg #[.int .i64 r1, .string r2, .string r3, .int .i64 r4, .int .i64 r5, v5_]) ∧ Kd.S k228 228 w' w.heap.size (fun _ => True) v5_ r6 ∧ Below w.heap.size w w' := by
 have hu273 := Try.underlying273
 have hu164 := Try.underlying164
 have hu270 := Try.underlying270
 have hu161 := Try.underlying161
 have HR0_5 := Aside0.mk hr0_5
 have HC0_5 := Aside0.mk hc0_5
 clear hr0_5 hc0_5
 have HB := Aside0.mk (Below.refl w.heap.size w)
 have H : ((laws_toBasic.f a0_0 a0_1 a0_2 a0_3 a0_4).bind fun bt162 => ((laws_toAltS.f k l0_5).bind fun t167 => (some (bt162.1, bt162.2.1, bt162.2.2.1, bt162.2.2.2.1, bt162.2.2.2.2, t167)))) = some (r1, r2, r3, r4, r5, r6) := h
 clear h
 replace H := Option.bind_eq_some_iff.mp H
 obtain ⟨⟨t162, t163, t164, t165, t166⟩, A20, H⟩ := H
 replace H : ((laws_toAltS.f k l0_5).bind fun t167 => (some (t162, t163, t164, t165, t166, t167))) = some (r1, r2, r3, r4, r5, r6) := H
 have A2 := Aside0.mk A20
 clear A20
 replace H := Option.bind_eq_some_iff.mp H
 obtain ⟨t167, A30, H⟩ := H
 replace H : (some (t162, t163, t164, t165, t166, t167)) = some (r1, r2, r3, r4, r5, r6) := H
 have A3 := Aside0.mk A30
 clear A30
 simp only [Option.some.injEq, Prod.mk.injEq] at H
 obtain ⟨rfl, rfl, rfl, rfl, rfl, rfl⟩ := H
 go_enter Try.func160, Try.ntmps160
 go_wp2_with (first|((with_reducible refine gate_dst (N := 1) rfl ?_);refine box_event ?hg (N := 1) ?hd (cs := #[.int .i64 a0_0, .string a0_1, .string a0_2, .int .i64 a0_3, .int .i64 a0_4, .slice A0_5 l0_5.length c0_5]) (t := 273) ?hr ?_;(case hd => rfl);(case hg => rfl);(case hr => first|(go_simp;done)|(go_simp;rfl));intro gb159 hg w4 hbox hb;have n0_ := Aside0.mk (below_step (by repeat (first|(with_reducible first|exact HB.out|apply below_alloc|apply pw_below_drewN|apply below_drew1)|exact HB.out)) hb);have n1_ := Aside0.mk (hbox);have n2_ := Aside0.mk ((by rw [hg];exact (below_size (by repeat (first|(with_reducible first|exact HB.out|apply below_alloc|apply pw_below_drewN|apply below_drew1)|exact HB.out))) : w.heap.size ≤ gb159));have n3_ := Aside0.mk ((by rw [hg];exact (below_size (by repeat (first|(with_reducible first|exact HB.out|apply below_alloc|apply pw_below_drewN|apply below_drew1)|exact HB.out))) : w.heap.size ≤ gb159));clear HB;have HB := n0_;have BK159 := n1_;have GW159 := n2_;have GE159 := n3_;clear n0_ n1_ n2_ n3_;clear hb hbox hg)|((with_reducible refine gate_dst (N := 2) rfl ?_);refine box_event ?hg (N := 2) ?hd (cs := #[.int .i64 0, .string (⟨#[]⟩ : ByteArray), .string (⟨#[]⟩ : ByteArray), .int .i64 0, .int .i64 0, .slice none 0 0]) (t := 164) ?hr ?_;(case hd => rfl);(case hg => rfl);(case hr => first|(go_simp;done)|(go_simp;rfl));intro gb160 hg w5 hbox hb;have n0_ := Aside0.mk (blk_below (g := gb159) (o := .cells #[.int .i64 a0_0, .string a0_1, .string a0_2, .int .i64 a0_3, .int .i64 a0_4, .slice A0_5 l0_5.length c0_5] 273 (0, 0)) (by (with_reducible repeat (first|refine blk_drewN ?_ _|refine blk_drew ?_|refine blk_alloc ?_ _));exact BK159.out) hb);have n1_ := Aside0.mk (below_step (by repeat (first|(with_reducible first|exact HB.out|apply below_alloc|apply pw_below_drewN|apply below_drew1|refine below_set ?_ GE159.out)|exact HB.out)) hb);have n2_ := Aside0.mk (hbox);have n3_ := Aside0.mk ((by rw [hg];exact (below_size (by repeat (first|(with_reducible first|exact HB.out|apply below_alloc|apply pw_below_drewN|apply below_drew1|refine below_set ?_ GE159.out)|exact HB.out))) : w.heap.size ≤ gb160));have n4_ := Aside0.mk ((by rw [hg];exact (below_size (by repeat (first|(with_reducible first|exact HB.out|apply below_alloc|apply pw_below_drewN|apply below_drew1|refine below_set ?_ GE159.out)|exact HB.out))) : w.heap.size ≤ gb160));have n5_ := Aside0.mk ((by rw [hg];exact Nat.ne_of_lt (blk_lt (g := gb159) (o := .cells #[.int .i64 a0_0, .string a0_1, .string a0_2, .int .i64 a0_3, .int .i64 a0_4, .slice A0_5 l0_5.length c0_5] 273 (0, 0)) (by (with_reducible repeat (first|refine blk_drewN ?_ _|refine blk_drew ?_|refine blk_alloc ?_ _));exact BK159.out)) : gb159 ≠ gb160));have n6_ := Aside0.mk ((by rw [hg];exact Nat.ne_of_gt (blk_lt (g := gb159) (o := .cells #[.int .i64 a0_0, .string a0_1, .string a0_2, .int .i64 a0_3, .int .i64 a0_4, .slice A0_5 l0_5.length c0_5] 273 (0, 0)) (by (with_reducible repeat (first|refine blk_drewN ?_ _|refine blk_drew ?_|refine blk_alloc ?_ _));exact BK159.out)) : gb160 ≠ gb159));clear BK159;clear HB;have BK159 := n0_;have HB := n1_;have BK160 := n2_;have GW160 := n3_;have GE160 := n4_;have NB159_160 := n5_;have NB160_159 := n6_;clear n0_ n1_ n2_ n3_ n4_ n5_ n6_;clear hb hbox hg)|((with_reducible refine gate_dst (N := 3) rfl ?_);refine box_event ?hg (N := 3) ?hd (cs := #[.int .i64 0, .string (⟨#[]⟩ : ByteArray), .string (⟨#[]⟩ : ByteArray), .int .i64 0, .int .i64 0, .slice none 0 0]) (t := 164) ?hr ?_;(case hd => rfl);(case hg => rfl);(case hr => first|(go_simp;done)|(go_simp;rfl));intro gb161 hg w6 hbox hb;have n0_ := Aside0.mk (blk_below (g := gb159) (o := .cells #[.int .i64 a0_0, .string a0_1, .string a0_2, .int .i64 a0_3, .int .i64 a0_4, .slice A0_5 l0_5.length c0_5] 273 (0, 0)) (by (with_reducible repeat (first|refine blk_drewN ?_ _|refine blk_drew ?_|refine blk_alloc ?_ _));exact BK159.out) hb);have n1_ := Aside0.mk (blk_below (g := gb160) (o := .cells #[.int .i64 0, .string (⟨#[]⟩ : ByteArray), .string (⟨#[]⟩ : ByteArray), .int .i64 0, .int .i64 0, .slice none 0 0] 164 (0, 0)) (by (with_reducible repeat (first|refine blk_drewN ?_ _|refine blk_drew ?_|refine blk_alloc ?_ _));exact BK160.out) hb);have n2_ := Aside0.mk (below_step (by repeat (first|(with_reducible first|exact HB.out|apply below_alloc|apply pw_below_drewN|apply below_drew1|refine below_set ?_ GE159.out|refine below_set ?_ GE160.out)|exact HB.out)) hb);have n3_ := Aside0.mk (hbox);have n4_ := Aside0.mk ((by rw [hg];exact (below_size (by repeat (first|(with_reducible first|exact HB.out|apply below_alloc|apply pw_below_drewN|apply below_drew1|refine below_set ?_ GE159.out|refine below_set ?_ GE160.out)|exact HB.out))) : w.heap.size ≤ gb161));have n5_ := Aside0.mk ((by rw [hg];exact (below_size (by repeat (first|(with_reducible first|exact HB.out|apply below_alloc|apply pw_below_drewN|apply below_drew1|refine below_set ?_ GE159.out|refine below_set ?_ GE160.out)|exact HB.out))) : w.heap.size ≤ gb161));have n6_ := Aside0.mk ((by rw [hg];exact Nat.ne_of_lt (blk_lt (g := gb159) (o := .cells #[.int .i64 a0_0, .string a0_1, .string a0_2, .int .i64 a0_3, .int .i64 a0_4, .slice A0_5 l0_5.length c0_5] 273 (0, 0)) (by (with_reducible repeat (first|refine blk_drewN ?_ _|refine blk_drew ?_|refine blk_alloc ?_ _));exact BK159.out)) : gb159 ≠ gb161));have n7_ := Aside0.mk ((by rw [hg];exact Nat.ne_of_gt (blk_lt (g := gb159) (o := .cells #[.int .i64 a0_0, .string a0_1, .string a0_2, .int .i64 a0_3, .int .i64 a0_4, .slice A0_5 l0_5.length c0_5] 273 (0, 0)) (by (with_reducible repeat (first|refine blk_drewN ?_ _|refine blk_drew ?_|refine blk_alloc ?_ _));exact BK159.out)) : gb161 ≠ gb159));have n8_ := Aside0.mk ((by rw [hg];exact Nat.ne_of_lt (blk_lt (g := gb160) (o := .cells #[.int .i64 0, .string (⟨#[]⟩ : ByteArray), .string (⟨#[]⟩ : ByteArray), .int .i64 0, .int .i64 0, .slice none 0 0] 164 (0, 0)) (by (with_reducible repeat (first|refine blk_drewN ?_ _|refine blk_drew ?_|refine blk_alloc ?_ _));exact BK160.out)) : gb160 ≠ gb161));have n9_ := Aside0.mk ((by rw [hg];exact Nat.ne_of_gt (blk_lt (g := gb160) (o := .cells #[.int .i64 0, .string (⟨#[]⟩ : ByteArray), .string (⟨#[]⟩ : ByteArray), .int .i64 0, .int .i64 0, .slice none 0 0] 164 (0, 0)) (by (with_reducible repeat (first|refine blk_drewN ?_ _|refine blk_drew ?_|refine blk_alloc ?_ _));exact BK160.out)) : gb161 ≠ gb160));clear BK159;clear BK160;clear HB;have BK159 := n0_;have BK160 := n1_;have HB := n2_;have BK161 := n3_;have GW161 := n4_;have GE161 := n5_;have NB159_161 := n6_;have NB161_159 := n7_;have NB160_161 := n8_;have NB161_160 := n9_;clear n0_ n1_ n2_ n3_ n4_ n5_ n6_ n7_ n8_ n9_;clear hb hbox hg;have hnb7 := NB159_160.out;have hnc7 := NB160_159.out;have hnb8 := NB159_161.out;have hnc8 := NB161_159.out;have hcz9_0 : w6.cell? ⟨gb159, 0, none⟩ = some (.int .i64 a0_0) := (blk_cell BK159.out 0).trans rfl;have hcz9_1 : w6.cell? ⟨gb159, 1, none⟩ = some (.string a0_1) := (blk_cell BK159.out 1).trans rfl;have hcz9_2 : w6.cell? ⟨gb159, 2, none⟩ = some (.string a0_2) := (blk_cell BK159.out 2).trans rfl;have hcz9_3 : w6.cell? ⟨gb159, 3, none⟩ = some (.int .i64 a0_3) := (blk_cell BK159.out 3).trans rfl;have hcz9_4 : w6.cell? ⟨gb159, 4, none⟩ = some (.int .i64 a0_4) := (blk_cell BK159.out 4).trans rfl;have hcz9_5 : w6.cell? ⟨gb159, 5, none⟩ = some (.slice A0_5 l0_5.length c0_5) := (blk_cell BK159.out 5).trans rfl;have hfz9_0 := blk_frozen BK159.out 0;have hfz9_1 := blk_frozen BK159.out 1;have hfz9_2 := blk_frozen BK159.out 2;have hfz9_3 := blk_frozen BK159.out 3;have hfz9_4 := blk_frozen BK159.out 4;have hfz9_5 := blk_frozen BK159.out 5)|((with_reducible refine gate_callee (f := 170) rfl ?_);refine goesL_ (some 6) rfl rfl Try.func170 (by kernel_rfl) rfl #[.agg #[.int .i64 a0_0, .string a0_1, .string a0_2, .int .i64 a0_3, .int .i64 a0_4]] rfl (by (try simp only [List.map_toArray, List.map_cons, List.map_nil]);first|done|rfl|(simp only [List.length_drop, List.length_take];rfl)) ?_;(with_reducible refine (laws_toBasic.calls a0_0 a0_1 a0_2 a0_3 a0_4 t162 t163 t164 t165 t166 _ A2.out).mono ?_);rintro e w10 ⟨rfl, hb⟩;refine ⟨_, rfl, ?_⟩;have n0_ := Aside0.mk (blk_below (g := gb159) (o := .cells #[.int .i64 a0_0, .string a0_1, .string a0_2, .int .i64 a0_3, .int .i64 a0_4, .slice A0_5 l0_5.length c0_5] 273 (0, 0)) (by (with_reducible repeat (first|refine blk_drewN ?_ _|refine blk_drew ?_|refine blk_alloc ?_ _));exact BK159.out) hb);have n1_ := Aside0.mk (blk_below (g := gb160) (o := .cells #[.int .i64 0, .string (⟨#[]⟩ : ByteArray), .string (⟨#[]⟩ : ByteArray), .int .i64 0, .int .i64 0, .slice none 0 0] 164 (0, 0)) (by (with_reducible repeat (first|refine blk_drewN ?_ _|refine blk_drew ?_|refine blk_alloc ?_ _));exact BK160.out) hb);have n2_ := Aside0.mk (blk_below (g := gb161) (o := .cells #[.int .i64 0, .string (⟨#[]⟩ : ByteArray), .string (⟨#[]⟩ : ByteArray), .int .i64 0, .int .i64 0, .slice none 0 0] 164 (0, 0)) (by (with_reducible repeat (first|refine blk_drewN ?_ _|refine blk_drew ?_|refine blk_alloc ?_ _));exact BK161.out) hb);have n3_ := Aside0.mk (below_step (by repeat (first|(with_reducible first|exact HB.out|apply below_alloc|apply pw_below_drewN|apply below_drew1|refine below_set ?_ GE159.out|refine below_set ?_ GE160.out|refine below_set ?_ GE161.out)|exact HB.out)) hb);clear BK159;clear BK160;clear BK161;clear HB;have BK159 := n0_;have BK160 := n1_;have BK161 := n2_;have HB := n3_;clear n0_ n1_ n2_ n3_;(try clear hb);(try clear hb2);(try clear hk);(try clear hi);have hnb11 := NB161_160.out;have hnc11 := NB160_161.out;have hcz12_0 : w10.cell? ⟨gb161, 0, none⟩ = some (.int .i64 0) := (blk_cell BK161.out 0).trans rfl;have hcz12_1 : w10.cell? ⟨gb161, 1, none⟩ = some (.string (⟨#[]⟩ : ByteArray)) := (blk_cell BK161.out 1).trans rfl;have hcz12_2 : w10.cell? ⟨gb161, 2, none⟩ = some (.string (⟨#[]⟩ : ByteArray)) := (blk_cell BK161.out 2).trans rfl;have hcz12_3 : w10.cell? ⟨gb161, 3, none⟩ = some (.int .i64 0) := (blk_cell BK161.out 3).trans rfl;have hcz12_4 : w10.cell? ⟨gb161, 4, none⟩ = some (.int .i64 0) := (blk_cell BK161.out 4).trans rfl;have hcz12_5 : w10.cell? ⟨gb161, 5, none⟩ = some (.slice none 0 0) := (blk_cell BK161.out 5).trans rfl;have hfz12_0 := blk_frozen BK161.out 0;have hfz12_1 := blk_frozen BK161.out 1;have hfz12_2 := blk_frozen BK161.out 2;have hfz12_3 := blk_frozen BK161.out 3;have hfz12_4 := blk_frozen BK161.out 4;have hfz12_5 := blk_frozen BK161.out 5;have hcz13_0 : w10.cell? ⟨gb159, 0, none⟩ = some (.int .i64 a0_0) := (blk_cell BK159.out 0).trans rfl;have hcz13_1 : w10.cell? ⟨gb159, 1, none⟩ = some (.string a0_1) := (blk_cell BK159.out 1).trans rfl;have hcz13_2 : w10.cell? ⟨gb159, 2, none⟩ = some (.string a0_2) := (blk_cell BK159.out 2).trans rfl;have hcz13_3 : w10.cell? ⟨gb159, 3, none⟩ = some (.int .i64 a0_3) := (blk_cell BK159.out 3).trans rfl;have hcz13_4 : w10.cell? ⟨gb159, 4, none⟩ = some (.int .i64 a0_4) := (blk_cell BK159.out 4).trans rfl;have hcz13_5 : w10.cell? ⟨gb159, 5, none⟩ = some (.slice A0_5 l0_5.length c0_5) := (blk_cell BK159.out 5).trans rfl;have hfz13_0 := blk_frozen BK159.out 0;have hfz13_1 := blk_frozen BK159.out 1;have hfz13_2 := blk_frozen BK159.out 2;have hfz13_3 := blk_frozen BK159.out 3;have hfz13_4 := blk_frozen BK159.out 4;have hfz13_5 := blk_frozen BK159.out 5)|((with_reducible refine gate_callee (f := 171) rfl ?_);refine goesL_ (some 10) rfl rfl Try.func171 (by kernel_rfl) rfl #[.slice A0_5 l0_5.length c0_5] rfl (by (try simp only [List.map_toArray, List.map_cons, List.map_nil]);first|done|rfl|(simp only [List.length_drop, List.length_take];rfl)) ?_;(with_reducible refine (laws_toAltS.calls k _ _ l0_5 t167 _ ?side1 ?side2 A3.out).mono ?_);(case side1 => exact Kd.C_below HR0_5.out (by repeat (first|(with_reducible first|exact HB.out|apply below_alloc|apply pw_below_drewN|apply below_drew1|refine below_set ?_ GE159.out|refine below_set ?_ GE160.out|refine below_set ?_ GE161.out)|exact HB.out)));(case side2 => exact HC0_5.out);rintro e w14 ⟨v168, rfl, ho0, hb⟩;refine ⟨_, rfl, ?_⟩;have n0_ := Aside0.mk (Kd.S_lower ho0 (below_size (by repeat (first|(with_reducible first|exact HB.out|apply below_alloc|apply pw_below_drewN|apply below_drew1|refine below_set ?_ GE159.out|refine below_set ?_ GE160.out|refine below_set ?_ GE161.out)|exact HB.out))));have n1_ := Aside0.mk (blk_below (g := gb159) (o := .cells #[.int .i64 a0_0, .string a0_1, .string a0_2, .int .i64 a0_3, .int .i64 a0_4, .slice A0_5 l0_5.length c0_5] 273 (0, 0)) (by (with_reducible repeat (first|refine blk_drewN ?_ _|refine blk_drew ?_|refine blk_alloc ?_ _));refine blk_far ?_ NB159_161.out _;(with_reducible repeat (first|refine blk_drewN ?_ _|refine blk_drew ?_|refine blk_alloc ?_ _));refine blk_far ?_ NB159_161.out _;(with_reducible repeat (first|refine blk_drewN ?_ _|refine blk_drew ?_|refine blk_alloc ?_ _));refine blk_far ?_ NB159_161.out _;(with_reducible repeat (first|refine blk_drewN ?_ _|refine blk_drew ?_|refine blk_alloc ?_ _));refine blk_far ?_ NB159_161.out _;(with_reducible repeat (first|refine blk_drewN ?_ _|refine blk_drew ?_|refine blk_alloc ?_ _));refine blk_far ?_ NB159_161.out _;(with_reducible repeat (first|refine blk_drewN ?_ _|refine blk_drew ?_|refine blk_alloc ?_ _));exact BK159.out) hb);have n2_ := Aside0.mk (blk_below (g := gb160) (o := .cells #[.int .i64 0, .string (⟨#[]⟩ : ByteArray), .string (⟨#[]⟩ : ByteArray), .int .i64 0, .int .i64 0, .slice none 0 0] 164 (0, 0)) (by (with_reducible repeat (first|refine blk_drewN ?_ _|refine blk_drew ?_|refine blk_alloc ?_ _));refine blk_far ?_ NB160_161.out _;(with_reducible repeat (first|refine blk_drewN ?_ _|refine blk_drew ?_|refine blk_alloc ?_ _));refine blk_far ?_ NB160_161.out _;(with_reducible repeat (first|refine blk_drewN ?_ _|refine blk_drew ?_|refine blk_alloc ?_ _));refine blk_far ?_ NB160_161.out _;(with_reducible repeat (first|refine blk_drewN ?_ _|refine blk_drew ?_|refine blk_alloc ?_ _));refine blk_far ?_ NB160_161.out _;(with_reducible repeat (first|refine blk_drewN ?_ _|refine blk_drew ?_|refine blk_alloc ?_ _));refine blk_far ?_ NB160_161.out _;(with_reducible repeat (first|refine blk_drewN ?_ _|refine blk_drew ?_|refine blk_alloc ?_ _));exact BK160.out) hb);have n3_ := Aside0.mk (blk_below (g := gb161) (o := .cells #[.int .i64 t162, .string t163, .string t164, .int .i64 t165, .int .i64 t166, .slice none 0 0] 164 (0, 0)) (by (with_reducible repeat (first|refine blk_drewN ?_ _|refine blk_drew ?_|refine blk_alloc ?_ _));refine blk_put (cs := #[.int .i64 t162, .string t163, .string t164, .int .i64 t165, .int .i64 0, .slice none 0 0]) ?_ 4 _ rfl;(with_reducible repeat (first|refine blk_drewN ?_ _|refine blk_drew ?_|refine blk_alloc ?_ _));refine blk_put (cs := #[.int .i64 t162, .string t163, .string t164, .int .i64 0, .int .i64 0, .slice none 0 0]) ?_ 3 _ rfl;(with_reducible repeat (first|refine blk_drewN ?_ _|refine blk_drew ?_|refine blk_alloc ?_ _));refine blk_put (cs := #[.int .i64 t162, .string t163, .string (⟨#[]⟩ : ByteArray), .int .i64 0, .int .i64 0, .slice none 0 0]) ?_ 2 _ rfl;(with_reducible repeat (first|refine blk_drewN ?_ _|refine blk_drew ?_|refine blk_alloc ?_ _));refine blk_put (cs := #[.int .i64 t162, .string (⟨#[]⟩ : ByteArray), .string (⟨#[]⟩ : ByteArray), .int .i64 0, .int .i64 0, .slice none 0 0]) ?_ 1 _ rfl;(with_reducible repeat (first|refine blk_drewN ?_ _|refine blk_drew ?_|refine blk_alloc ?_ _));refine blk_put (cs := #[.int .i64 0, .string (⟨#[]⟩ : ByteArray), .string (⟨#[]⟩ : ByteArray), .int .i64 0, .int .i64 0, .slice none 0 0]) ?_ 0 _ rfl;(with_reducible repeat (first|refine blk_drewN ?_ _|refine blk_drew ?_|refine blk_alloc ?_ _));exact BK161.out) hb);have n4_ := Aside0.mk (below_step (by repeat (first|(with_reducible first|exact HB.out|apply below_alloc|apply pw_below_drewN|apply below_drew1|refine below_set ?_ GE159.out|refine below_set ?_ GE160.out|refine below_set ?_ GE161.out)|exact HB.out)) hb);clear BK159;clear BK160;clear BK161;clear HB;have HO169 := n0_;have BK159 := n1_;have BK160 := n2_;have BK161 := n3_;have HB := n4_;clear n0_ n1_ n2_ n3_ n4_;(try clear hb);(try clear hb2);(try clear hk);(try clear hi);(try clear ho0);obtain ⟨Ao15, co15, eo15⟩ := Kd.S_slice HO169.out;subst eo15;have hcz16_0 : w14.cell? ⟨gb161, 0, none⟩ = some (.int .i64 t162) := (blk_cell BK161.out 0).trans rfl;have hcz16_1 : w14.cell? ⟨gb161, 1, none⟩ = some (.string t163) := (blk_cell BK161.out 1).trans rfl;have hcz16_2 : w14.cell? ⟨gb161, 2, none⟩ = some (.string t164) := (blk_cell BK161.out 2).trans rfl;have hcz16_3 : w14.cell? ⟨gb161, 3, none⟩ = some (.int .i64 t165) := (blk_cell BK161.out 3).trans rfl;have hcz16_4 : w14.cell? ⟨gb161, 4, none⟩ = some (.int .i64 t166) := (blk_cell BK161.out 4).trans rfl;have hcz16_5 : w14.cell? ⟨gb161, 5, none⟩ = some (.slice none 0 0) := (blk_cell BK161.out 5).trans rfl;have hfz16_0 := blk_frozen BK161.out 0;have hfz16_1 := blk_frozen BK161.out 1;have hfz16_2 := blk_frozen BK161.out 2;have hfz16_3 := blk_frozen BK161.out 3;have hfz16_4 := blk_frozen BK161.out 4;have hfz16_5 := blk_frozen BK161.out 5;have hcz17_0 : w14.cell? ⟨gb160, 0, none⟩ = some (.int .i64 0) := (blk_cell BK160.out 0).trans rfl;have hcz17_1 : w14.cell? ⟨gb160, 1, none⟩ = some (.string (⟨#[]⟩ : ByteArray)) := (blk_cell BK160.out 1).trans rfl;have hcz17_2 : w14.cell? ⟨gb160, 2, none⟩ = some (.string (⟨#[]⟩ : ByteArray)) := (blk_cell BK160.out 2).trans rfl;have hcz17_3 : w14.cell? ⟨gb160, 3, none⟩ = some (.int .i64 0) := (blk_cell BK160.out 3).trans rfl;have hcz17_4 : w14.cell? ⟨gb160, 4, none⟩ = some (.int .i64 0) := (blk_cell BK160.out 4).trans rfl;have hcz17_5 : w14.cell? ⟨gb160, 5, none⟩ = some (.slice none 0 0) := (blk_cell BK160.out 5).trans rfl;have hfz17_0 := blk_frozen BK160.out 0;have hfz17_1 := blk_frozen BK160.out 1;have hfz17_2 := blk_frozen BK160.out 2;have hfz17_3 := blk_frozen BK160.out 3;have hfz17_4 := blk_frozen BK160.out 4;have hfz17_5 := blk_frozen BK160.out 5))
 refine bodyPost_ret (results_cell_row rfl _ _ gb160 164 #[.int .i64 t162, .string t163, .string t164, .int .i64 t165, .int .i64 t166, .slice Ao15 t167.length co15] (0, 0) _ rfl (by (with_reducible repeat (first|refine blk_drewN ?_ _|refine blk_drew ?_|refine blk_alloc ?_ _));refine blk_put (cs := #[.int .i64 t162, .string t163, .string t164, .int .i64 t165, .int .i64 t166, .slice none 0 0]) ?_ 5 _ rfl;(with_reducible repeat (first|refine blk_drewN ?_ _|refine blk_drew ?_|refine blk_alloc ?_ _));refine blk_put (cs := #[.int .i64 t162, .string t163, .string t164, .int .i64 t165, .int .i64 0, .slice none 0 0]) ?_ 4 _ rfl;(with_reducible repeat (first|refine blk_drewN ?_ _|refine blk_drew ?_|refine blk_alloc ?_ _));refine blk_put (cs := #[.int .i64 t162, .string t163, .string t164, .int .i64 0, .int .i64 0, .slice none 0 0]) ?_ 3 _ rfl;(with_reducible repeat (first|refine blk_drewN ?_ _|refine blk_drew ?_|refine blk_alloc ?_ _));refine blk_put (cs := #[.int .i64 t162, .string t163, .string (⟨#[]⟩ : ByteArray), .int .i64 0, .int .i64 0, .slice none 0 0]) ?_ 2 _ rfl;(with_reducible repeat (first|refine blk_drewN ?_ _|refine blk_drew ?_|refine blk_alloc ?_ _));refine blk_put (cs := #[.int .i64 t162, .string (⟨#[]⟩ : ByteArray), .string (⟨#[]⟩ : ByteArray), .int .i64 0, .int .i64 0, .slice none 0 0]) ?_ 1 _ rfl;(with_reducible repeat (first|refine blk_drewN ?_ _|refine blk_drew ?_|refine blk_alloc ?_ _));refine blk_put (cs := #[.int .i64 0, .string (⟨#[]⟩ : ByteArray), .string (⟨#[]⟩ : ByteArray), .int .i64 0, .int .i64 0, .slice none 0 0]) ?_ 0 _ rfl;(with_reducible repeat (first|refine blk_drewN ?_ _|refine blk_drew ?_|refine blk_alloc ?_ _));refine blk_far ?_ NB160_161.out _;(with_reducible repeat (first|refine blk_drewN ?_ _|refine blk_drew ?_|refine blk_alloc ?_ _));exact BK160.out) Try.underlying164 rfl (by kernel_rfl)) rfl ?_
 exact ⟨_, by first|rfl|(simp [errW_none, errW_some] <;> rfl)|(simp [*, errW_none, errW_some] <;> rfl), by (with_reducible repeat (first|apply Kd.S_alloc|apply Kd.S_drewN|apply Kd.S_drew));exact Kd.S_mono (Kd.S_far (p := ⟨gb160, 5, none⟩) (Kd.S_far (p := ⟨gb160, 4, none⟩) (Kd.S_far (p := ⟨gb160, 3, none⟩) (Kd.S_far (p := ⟨gb160, 2, none⟩) (Kd.S_far (p := ⟨gb160, 1, none⟩) (Kd.S_far (p := ⟨gb160, 0, none⟩) (Kd.S_far (p := ⟨gb161, 5, none⟩) (Kd.S_types (Kd.S_types HO169.out BK161.out (by decide)) BK160.out (by decide)) (fun _ hk => hk.1.2) (.slice Ao15 t167.length co15)) (fun _ hk => hk.2) (.int .i64 t162)) (fun _ hk => hk.2) (.string t163)) (fun _ hk => hk.2) (.string t164)) (fun _ hk => hk.2) (.int .i64 t165)) (fun _ hk => hk.2) (.int .i64 t166)) (fun _ hk => hk.2) (.slice Ao15 t167.length co15)) (fun _ hk => trivial), by repeat (first|(with_reducible first|exact HB.out|apply below_alloc|apply pw_below_drewN|apply below_drew1|refine below_set ?_ GE159.out|refine below_set ?_ GE160.out|refine below_set ?_ GE161.out)|exact HB.out)⟩

/-! ### laws_toSimpleS: function 147 -/
def laws_toSimpleS.l0 : Nat → List (S273) → List (S164) → Int → Option ((List (S164)))
  | 0, _, _, _ => none
  | k + 1, x0, x3, x4 => if x4 < (x0.length : Int) then (if 0 ≤ x4 then ((laws_toSimple.f k ((rd_T273 x0 x4).f0.f0) ((rd_T273 x0 x4).f0.f1) ((rd_T273 x0 x4).f0.f2) ((rd_T273 x0 x4).f0.f3) ((rd_T273 x0 x4).f0.f4) ((rd_T273 x0 x4).f1)).bind fun bt174 => (if x4 < (x3.length : Int) then (laws_toSimpleS.l0 k x0 (x3.set (x4 : Int).toNat (⟨(⟨bt174.1, bt174.2.1, bt174.2.2.1, bt174.2.2.2.1, bt174.2.2.2.2.1⟩ : S161), bt174.2.2.2.2.2⟩ : S164)) (wrap64 (x4 + 1))) else (none))) else (none)) else (some x3)
def laws_toSimpleS.f (k : Nat) (l0 : List (S273)) : Option ((List (S164))) := if 0 ≤ (l0.length : Int) then (if ((l0.length : Int) : Int).toNat ≤ 3518437208883 then (laws_toSimpleS.l0 k l0 (List.replicate ((l0.length : Int) : Int).toNat z164) 0) else (none)) else (none)
theorem laws_toSimpleS.mono_l : ∀ k, (∀ y0 y1 y2, LeO (laws_toSimpleS.l0 k y0 y1 y2) (laws_toSimpleS.l0 (k + 1) y0 y1 y2))
 | 0 => fun _ _ _ r h => by simp [laws_toSimpleS.l0] at h
 | k + 1 => by
  have ih0 := laws_toSimpleS.mono_l k
  ·intro y0 y1 y2
   unfold laws_toSimpleS.l0
   repeat' first
  |(with_reducible exact ih0 _ _ _)
  |(with_reducible exact laws_toSimple.mono _ _ _ _ _ _ _)
  |(with_reducible exact LeO.refl _)
  |(with_reducible exact LeO.none _)
  |(with_reducible refine LeO.ite ?_ ?_)
  |(with_reducible refine LeO.bind ?_ (fun _ => ?_))
  |exact ih0 _ _ _
  |exact laws_toSimple.mono _ _ _ _ _ _ _
  |exact LeO.none _
  |refine LeO.ite ?_ ?_
  |refine LeO.bind ?_ (fun _ => ?_)
theorem laws_toSimpleS.mono : ∀ a0 k, LeO (laws_toSimpleS.f k a0) (laws_toSimpleS.f (k + 1) a0) := by
 intro a0 k
 have ih0 := laws_toSimpleS.mono_l k
 unfold laws_toSimpleS.f
 repeat' first
  |(with_reducible exact ih0 _ _ _)
  |(with_reducible exact laws_toSimple.mono _ _ _ _ _ _ _)
  |(with_reducible exact LeO.refl _)
  |(with_reducible exact LeO.none _)
  |(with_reducible refine LeO.ite ?_ ?_)
  |(with_reducible refine LeO.bind ?_ (fun _ => ?_))
  |exact ih0 _ _ _
  |exact laws_toSimple.mono _ _ _ _ _ _ _
  |exact LeO.none _
  |refine LeO.ite ?_ ?_
  |refine LeO.bind ?_ (fun _ => ?_)
set_option maxHeartbeats 8000000 in
set_option maxRecDepth 100000 in
theorem laws_toSimpleS.calls (k : Nat) (A0 : Option Addr) (c0 : Nat) (l0 : List (S273)) (r : List (S164)) (w : World) (hr0 : Kd.C k273 w A0 l0.length l0) (hc0 : l0.length ≤ c0) (h : laws_toSimpleS.f k l0 = some r) :
  Calls Try.prog 147 #[.slice A0 l0.length c0] w fun e w' => ∃ v0_ : Value, e = .returned (v0_) ∧ Kd.R k164 164 w' w.heap.size (fun _ => True) v0_ r ∧ Below w.heap.size w w' := by
 have hu273 := Try.underlying273
 have hu164 := Try.underlying164
 have HR0 := Aside0.mk hr0
 have HC0 := Aside0.mk hc0
 clear hr0 hc0
 have HB := Aside0.mk (Below.refl w.heap.size w)
 have H : (if 0 ≤ (l0.length : Int) then (if ((l0.length : Int) : Int).toNat ≤ 3518437208883 then (laws_toSimpleS.l0 k l0 (List.replicate ((l0.length : Int) : Int).toNat z164) 0) else (none)) else (none)) = some r := h
 clear h
 by_cases c2 : 0 ≤ (l0.length : Int)
 ·rw [if_pos c2] at H
  have c2b0 := eq_true c2
  have c2b1 : decide (0 ≤ (l0.length : Int)) = true := decide_eq_true c2
  clear c2
  by_cases c3 : ((l0.length : Int) : Int).toNat ≤ 3518437208883
  ·rw [if_pos c3] at H
   have c3b0 := eq_true c3
   have c3b1 : decide (((l0.length : Int) : Int).toNat ≤ 3518437208883) = true := decide_eq_true c3
   clear c3
   obtain ⟨y170, hy170⟩ : ∃ y_ : List (S164), y_ = (List.replicate ((l0.length : Int) : Int).toNat z164) := ⟨_, rfl⟩
   replace H : (laws_toSimpleS.l0 k l0 y170 0) = some r := by first|(rw [hy170];with_reducible exact H)|(have H2_ := (Option.bind_some _ _).symm.trans H;rw [hy170];with_reducible exact H2_)|(have H2_ := (Option.bind_some _ _).symm.trans H;with_reducible exact H2_)|with_reducible exact H|(rw [hy170];exact H)|exact H
   have Ny170 := Aside0.mk hy170
   clear hy170
   have H' := Aside0.mk H
   clear H
   go_enter Try.func147, Try.ntmps147
   go_wp2_with (first|((with_reducible refine gate_dst (N := 7) rfl ?_);refine Kd.R_make k164 _ 164 rfl (N := 7) rfl 156 _ _ rfl (l0.length : Int) rfl rfl Try.underlying156 (.agg #[(.int .i64 0),(.string ⟨#[]⟩),(.string ⟨#[]⟩),(.int .i64 0),(.int .i64 0),(.slice none 0 0)]) 80 info164 rfl (by decide) (by omega) z164 (ok := fun _ => True) (okp := fun _ => True) (k164_mkM _ _ _ z164 (Kd.R_nil _ _ _ _ _)) (fun _ hk => hk) trivial (of_decide_eq_true (by first|(with_reducible assumption)|assumption)) (Nat.le_trans (Nat.mul_le_mul_right _ (of_decide_eq_true (by first|(with_reducible assumption)|assumption) : (l0.length : Int).toNat ≤ 3518437208883)) (by omega)) (Below.refl _ _) (Nat.le_refl _) ?_;intro v171 w4 ho5 hb hg_ hnew_;clear hg_ hnew_;(first|rw [← Ny170.out] at ho5|(simp only [Int.reduceToNat] at ho5;rw [← Ny170.out] at ho5));have n0_ := Aside0.mk (Kd.R_lower ho5 (below_size (by repeat (first|(with_reducible first|exact HB.out|apply below_alloc|apply pw_below_drewN|apply below_drew1)|exact HB.out))));have n1_ := Aside0.mk (below_step (by repeat (first|(with_reducible first|exact HB.out|apply below_alloc|apply pw_below_drewN|apply below_drew1)|exact HB.out)) hb);clear HB;have HO172 := n0_;have HB := n1_;clear n0_ n1_;clear hb ho5))
   go_loopg [4] k (fun kq v4 w' => ∃ (x3_1 : List (S164)) (x4_1 : Int), v4 = .int .i64 x4_1 ∧ Aside0 (laws_toSimpleS.l0 kq l0 x3_1 x4_1 = some r) ∧ Aside0 (kq ≤ k) ∧ Aside0 (Kd.R k164 164 w' w.heap.size (fun _ => True) v171 x3_1) ∧ Aside0 (Below w.heap.size w w'))
   case atStart => exact ⟨(y170),(0),(by first|rfl|(simp;done)|(simp [*];done)), H', ⟨Nat.le_refl _⟩,⟨by (with_reducible repeat (first|apply Kd.R_alloc|apply Kd.R_drewN|apply Kd.R_drew));exact HO172.out⟩,⟨by repeat (first|(with_reducible first|exact HB.out|apply below_alloc|apply pw_below_drewN|apply below_drew1)|exact HB.out)⟩⟩
   case round =>
    clear H'
    try clear c1;try clear c2;try clear c2b0;try clear c2b1;try clear p2;try clear c3;try clear c3b0;try clear c3b1
    obtain ⟨x3_1, x4_1, rfl, HA, HK1, HO_3, HB⟩ := hrel
    cases gk with
   |zero => exact absurd HA.out (by simp [laws_toSimpleS.l0])
   |succ k1 =>
     have H := HA.out
     clear HA
     simp only [laws_toSimpleS.l0] at H
     by_cases c6 : x4_1 < (l0.length : Int)
     ·rw [if_pos c6] at H
      have c6b0 : decide (x4_1 < (l0.length : Int)) = true := decide_eq_true c6
      clear c6
      by_cases c7 : 0 ≤ x4_1
      ·rw [if_pos c7] at H
       have c7b0 : decide (0 ≤ x4_1) = true := decide_eq_true c7
       clear c7
       replace H := Option.bind_eq_some_iff.mp H
       obtain ⟨⟨t174, t175, t176, t177, t178, t179⟩, A80, H⟩ := H
       replace H : (if x4_1 < (x3_1.length : Int) then (laws_toSimpleS.l0 k1 l0 (x3_1.set (x4_1 : Int).toNat (⟨(⟨t174, t175, t176, t177, t178⟩ : S161), t179⟩ : S164)) (wrap64 (x4_1 + 1))) else (none)) = some r := H
       have A8 := Aside0.mk A80
       clear A80
       by_cases c9 : x4_1 < (x3_1.length : Int)
       ·rw [if_pos c9] at H
        have c9b0 : decide (x4_1 < (x3_1.length : Int)) = true := decide_eq_true c9
        clear c9
        obtain ⟨y182, hy182⟩ : ∃ y_ : List (S164), y_ = (x3_1.set (x4_1 : Int).toNat (⟨(⟨t174, t175, t176, t177, t178⟩ : S161), t179⟩ : S164)) := ⟨_, rfl⟩
        replace H : (laws_toSimpleS.l0 k1 l0 y182 (wrap64 (x4_1 + 1))) = some r := by first|(rw [hy182];with_reducible exact H)|(have H2_ := (Option.bind_some _ _).symm.trans H;rw [hy182];with_reducible exact H2_)|(have H2_ := (Option.bind_some _ _).symm.trans H;with_reducible exact H2_)|with_reducible exact H|(rw [hy182];exact H)|exact H
        have Ny182 := Aside0.mk hy182
        clear hy182
        have H' := Aside0.mk H
        clear H
        have p173 : 0 ≤ (x4_1 : Int) := of_decide_eq_true (by first|(with_reducible assumption)|assumption)
        have q173 : x4_1 < (l0.length : Int) := of_decide_eq_true (by first|(with_reducible assumption)|assumption)
        obtain ⟨ad173, A173_5, c173_5, e173, hx173_0, hx173_1, hx173_2, hx173_3, hx173_4, hx173_5, hl173_5, hi173_5⟩ := at_T273 HR0.out x4_1 p173 q173
        cases e173
        replace hx173_0 := (HB.out.cell (World.block_lt_of_cell? w _ hx173_0)).trans hx173_0
        replace hx173_1 := (HB.out.cell (World.block_lt_of_cell? w _ hx173_1)).trans hx173_1
        replace hx173_2 := (HB.out.cell (World.block_lt_of_cell? w _ hx173_2)).trans hx173_2
        replace hx173_3 := (HB.out.cell (World.block_lt_of_cell? w _ hx173_3)).trans hx173_3
        replace hx173_4 := (HB.out.cell (World.block_lt_of_cell? w _ hx173_4)).trans hx173_4
        replace hx173_5 := (HB.out.cell (World.block_lt_of_cell? w _ hx173_5)).trans hx173_5
        have HR173_5 := Aside0.mk hi173_5
        have HC173_5 := Aside0.mk hl173_5
        clear hi173_5 hl173_5
        replace p173 := eq_true p173
        replace q173 := eq_true q173
        go_wp2_with (first|((with_reducible refine gate_callee (f := 160) rfl ?_);refine goesL_ (some 20) rfl rfl Try.func160 (by kernel_rfl) rfl #[.agg #[.int .i64 ((rd_T273 l0 x4_1).f0.f0), .string ((rd_T273 l0 x4_1).f0.f1), .string ((rd_T273 l0 x4_1).f0.f2), .int .i64 ((rd_T273 l0 x4_1).f0.f3), .int .i64 ((rd_T273 l0 x4_1).f0.f4), .slice A173_5 ((rd_T273 l0 x4_1).f1).length c173_5]] rfl (by (try simp only [List.map_toArray, List.map_cons, List.map_nil]);first|done|rfl|(simp only [List.length_drop, List.length_take];rfl)) ?_;(with_reducible refine (laws_toSimple.calls k1 ((rd_T273 l0 x4_1).f0.f0) ((rd_T273 l0 x4_1).f0.f1) ((rd_T273 l0 x4_1).f0.f2) ((rd_T273 l0 x4_1).f0.f3) ((rd_T273 l0 x4_1).f0.f4) _ _ ((rd_T273 l0 x4_1).f1) t174 t175 t176 t177 t178 t179 _ ?side1 ?side2 A8.out).mono ?_);(case side1 => repeat (first|exact (Kd.C_below HR173_5.out HB.out)|(with_reducible refine Kd.C_alloc ?_ _)|(with_reducible refine Kd.C_drewN ?_ _)|(with_reducible refine Kd.C_drew ?_)));(case side2 => exact HC173_5.out);rintro e w11 ⟨v180, rfl, ho0, hb⟩;refine ⟨_, rfl, ?_⟩;have n0_ := Aside0.mk (Kd.R_elder' (by (with_reducible repeat (first|apply Kd.R_alloc|apply Kd.R_drewN|apply Kd.R_drew));exact HO_3.out) (Kd.S_base ho0) hb);have n1_ := Aside0.mk (Kd.S_lower ho0 (below_size (by repeat (first|(with_reducible first|exact HB.out|apply below_alloc|apply pw_below_drewN|apply below_drew1)|exact HB.out))));have n2_ := Aside0.mk (below_step (by repeat (first|(with_reducible first|exact HB.out|apply below_alloc|apply pw_below_drewN|apply below_drew1)|exact HB.out)) hb);clear HO_3;clear HB;have HO_3 := n0_;have HO181 := n1_;have HB := n2_;clear n0_ n1_ n2_;(try clear hb);(try clear hb2);(try clear hk);(try clear hi);(try clear ho0);have p10 : 0 ≤ (x4_1 : Int) := of_decide_eq_true (by first|(with_reducible assumption)|assumption);have q10 : (x4_1 : Int) < ((x3_1.length : Int) : Int) := of_decide_eq_true (by first|(with_reducible assumption)|assumption);obtain ⟨go10, co10, eo10, gb10, gl10, cl10, HG10⟩ := Kd.R_form HO_3.out (by omega);(first|cases eo10|(injection eo10 with ea_ en_ ec_;(first|subst ea_|(injection ea_ with ea_;subst ea_));subst ec_;clear en_));have GB10 := Aside0.mk gb10;have GG10 := Aside0.mk HG10;clear gb10 gl10 HG10;obtain ⟨ce10, hcl10, hM10, hcc10, hfr10⟩ := Kd.R_elem HO_3.out z164 (x4_1 : Int) p10 q10;obtain ⟨ve10_5, rfl, ge10_5⟩ := k164_openM hM10;have hx10_0 : w11.cell? ⟨go10, (x4_1 : Int).toNat * 6, none⟩ = some (.int .i64 ((rd_T164 x3_1 x4_1).f0.f0)) := hcc10 0 _ rfl;have hx10_1 : w11.cell? ⟨go10, (x4_1 : Int).toNat * 6 + 1, none⟩ = some (.string ((rd_T164 x3_1 x4_1).f0.f1)) := hcc10 1 _ rfl;have hx10_2 : w11.cell? ⟨go10, (x4_1 : Int).toNat * 6 + 2, none⟩ = some (.string ((rd_T164 x3_1 x4_1).f0.f2)) := hcc10 2 _ rfl;have hx10_3 : w11.cell? ⟨go10, (x4_1 : Int).toNat * 6 + 3, none⟩ = some (.int .i64 ((rd_T164 x3_1 x4_1).f0.f3)) := hcc10 3 _ rfl;have hx10_4 : w11.cell? ⟨go10, (x4_1 : Int).toNat * 6 + 4, none⟩ = some (.int .i64 ((rd_T164 x3_1 x4_1).f0.f4)) := hcc10 4 _ rfl;have hx10_5 : w11.cell? ⟨go10, (x4_1 : Int).toNat * 6 + 5, none⟩ = some (ve10_5) := hcc10 5 _ rfl;have hf10_0 : w11.frozen? ⟨go10, (x4_1 : Int).toNat * 6, none⟩ = false := hfr10 0;have hf10_1 : w11.frozen? ⟨go10, (x4_1 : Int).toNat * 6 + 1, none⟩ = false := hfr10 1;have hf10_2 : w11.frozen? ⟨go10, (x4_1 : Int).toNat * 6 + 2, none⟩ = false := hfr10 2;have hf10_3 : w11.frozen? ⟨go10, (x4_1 : Int).toNat * 6 + 3, none⟩ = false := hfr10 3;have hf10_4 : w11.frozen? ⟨go10, (x4_1 : Int).toNat * 6 + 4, none⟩ = false := hfr10 4;have hf10_5 : w11.frozen? ⟨go10, (x4_1 : Int).toNat * 6 + 5, none⟩ = false := hfr10 5;clear hcl10 hcc10 hfr10 hM10;replace p10 := eq_true p10;replace q10 := eq_true q10;have n_ := Aside0.mk (Kd.R_mono (ok' := (fun k_ => some k_ ≠ (v180 : Value).ownBlock)) HO_3.out (fun k_ hk => hk.2));clear HO_3;have HO_3 := n_;clear n_;have HX12 := Aside0.mk (show Kd.R k164 164 w11 w.heap.size (fun _ => True) (.slice (some ⟨go10, 0, none⟩) x3_1.length co10) x3_1 from (by (with_reducible repeat (first|apply Kd.R_alloc|apply Kd.R_drewN|apply Kd.R_drew));exact Kd.R_mono HO_3.out (fun _ hk => trivial)));obtain ⟨ce12, hcl12, hM12, hcc12, hfr12⟩ := Kd.R_elem HX12.out z164 (x4_1 : Int) (of_decide_eq_true (by first|(with_reducible assumption)|assumption)) (by have h_ : (x4_1 : Int) < ((x3_1.length : Int) : Int) := of_decide_eq_true (by first|(with_reducible assumption)|assumption);first|exact h_|(have e_ := (Kd.R_reads' HO_3.out).1;omega)|simpa using h_);obtain ⟨ve12_5, rfl, ge12_5⟩ := k164_openM hM12;have HP12 := Kd.R_seg HX12.out (x4_1 : Int) (of_decide_eq_true (by first|(with_reducible assumption)|assumption)) (by have h_ : (x4_1 : Int) < ((x3_1.length : Int) : Int) := of_decide_eq_true (by first|(with_reducible assumption)|assumption);first|exact h_|(have e_ := (Kd.R_reads' HO_3.out).1;omega)|simpa using h_) (seg := [.int .i64 t174, .string t175, .string t176, .int .i64 t177, .int .i64 t178, v180]) (j := 0) hcl12 hcc12 (show 6 ≤ 6 from by decide) (x' := (⟨(⟨t174, t175, t176, t177, t178⟩ : S161), t179⟩ : S164)) (k164_mkM _ _ _ (⟨(⟨t174, t175, t176, t177, t178⟩ : S161), t179⟩ : S164) (Kd.R_mono (Kd.R_apart' ((Kd.S_R HO181.out)) (Kd.R_typed HO_3.out) (by decide)) (fun k_ hk => ⟨trivial, fun e_ => (hk.2) (by rw [e_];rfl)⟩))) (fun _ hk => hk);have hx12_0 := hcc12 0 _ rfl;(try simp only [show (k164).sz = 6 from rfl, Nat.mul_one, Nat.add_zero] at hx12_0);have hf12_0 := hfr12 0;(try simp only [show (k164).sz = 6 from rfl, Nat.mul_one, Nat.add_zero] at hf12_0);have hx12_1 := hcc12 1 _ rfl;(try simp only [show (k164).sz = 6 from rfl, Nat.mul_one, Nat.add_zero] at hx12_1);have hf12_1 := hfr12 1;(try simp only [show (k164).sz = 6 from rfl, Nat.mul_one, Nat.add_zero] at hf12_1);have hx12_2 := hcc12 2 _ rfl;(try simp only [show (k164).sz = 6 from rfl, Nat.mul_one, Nat.add_zero] at hx12_2);have hf12_2 := hfr12 2;(try simp only [show (k164).sz = 6 from rfl, Nat.mul_one, Nat.add_zero] at hf12_2);have hx12_3 := hcc12 3 _ rfl;(try simp only [show (k164).sz = 6 from rfl, Nat.mul_one, Nat.add_zero] at hx12_3);have hf12_3 := hfr12 3;(try simp only [show (k164).sz = 6 from rfl, Nat.mul_one, Nat.add_zero] at hf12_3);have hx12_4 := hcc12 4 _ rfl;(try simp only [show (k164).sz = 6 from rfl, Nat.mul_one, Nat.add_zero] at hx12_4);have hf12_4 := hfr12 4;(try simp only [show (k164).sz = 6 from rfl, Nat.mul_one, Nat.add_zero] at hf12_4);have hx12_5 := hcc12 5 _ rfl;(try simp only [show (k164).sz = 6 from rfl, Nat.mul_one, Nat.add_zero] at hx12_5);have hf12_5 := hfr12 5;(try simp only [show (k164).sz = 6 from rfl, Nat.mul_one, Nat.add_zero] at hf12_5);clear hcl12 hcc12 hfr12 hM12)|((with_reducible refine gate_store (t := 164) (p := 21) rfl ?_);refine store_event (t := 164) (p := 21) (v := ?vo_w13) (w1 := ((((((w11.setCell ⟨go10, (x4_1 : Int).toNat * 6, none⟩ (.int .i64 t174)).setCell ⟨go10, (x4_1 : Int).toNat * 6 + 1, none⟩ (.string t175)).setCell ⟨go10, (x4_1 : Int).toNat * 6 + 2, none⟩ (.string t176)).setCell ⟨go10, (x4_1 : Int).toNat * 6 + 3, none⟩ (.int .i64 t177)).setCell ⟨go10, (x4_1 : Int).toNat * 6 + 4, none⟩ (.int .i64 t178)).setCell ⟨go10, (x4_1 : Int).toNat * 6 + 5, none⟩ (v180))) ?hg ?ho ?hn ?hr ?_;(case ho => rfl);(case hg => rfl);(case hn => rfl);(case hr => first|(go_simp;done)|(go_simp;rfl)|(have o180_ : (v180 : Value).oneCell' = true := (by first|(obtain ⟨A_, c_, e_⟩ := Kd.R_slice HO181.out;rw [e_];rfl)|(obtain ⟨A_, c_, e_⟩ := Kd.S_slice HO181.out;rw [e_];rfl)|(obtain ⟨A_, c_, e_⟩ := Kd.N_slice HO181.out;rw [e_];rfl));go_simp;(try rw [run_store _ _ _ _ _ o180_]);go_simp;done));intro w13 hw;have hg : w11.grownBy w13 (some go10) := (by rw [hw];exact HP12.2);have hp_ : Kd.R k164 164 w13 w.heap.size (fun _ => True) (.slice (some ⟨go10, 0, none⟩) x3_1.length co10) y182 := (by rw [hw, Ny182.out];exact HP12.1);clear HP12;have n0_ := Aside0.mk (hp_);have n1_ := Aside0.mk ((by rw [hw];exact below_set (below_set (below_set (below_set (below_set (below_set (HB.out) GB10.out) GB10.out) GB10.out) GB10.out) GB10.out) GB10.out : Below w.heap.size w w13));clear HO_3;clear HB;clear HO181;have HO_3 := n0_;have HB := n1_;clear n0_ n1_;clear hg hw hp_))
        go_roundg k1
        case measure => have := HK1.out;omega
        case rel => exact ⟨(y182),(wrap64 (x4_1 + 1)),(by first|rfl|(simp;done)|(simp [*];done)), H', ⟨by have := HK1.out;omega⟩,⟨by (with_reducible repeat (first|apply Kd.R_alloc|apply Kd.R_drewN|apply Kd.R_drew));exact HO_3.out⟩,⟨by repeat (first|(with_reducible first|exact HB.out|apply below_alloc|apply pw_below_drewN|apply below_drew1)|exact HB.out)⟩⟩
       ·rw [if_neg c9] at H
        exact absurd H (by simp)
      ·rw [if_neg c7] at H
       exact absurd H (by simp)
     ·rw [if_neg c6] at H
      have c6b0 : decide (x4_1 < (l0.length : Int)) = false := decide_eq_false c6
      clear c6
      obtain rfl := Option.some.inj H
      go_wp2
      go_ret
      exact ⟨_, by first|rfl|(simp [errW_none, errW_some] <;> rfl)|(simp [*, errW_none, errW_some] <;> rfl), by (with_reducible repeat (first|apply Kd.R_alloc|apply Kd.R_drewN|apply Kd.R_drew));exact HO_3.out, by repeat (first|(with_reducible first|exact HB.out|apply below_alloc|apply pw_below_drewN|apply below_drew1)|exact HB.out)⟩
  ·rw [if_neg c3] at H
   exact absurd H (by simp)
 ·rw [if_neg c2] at H
  exact absurd H (by simp)

/-! ### laws_toCompound: function 134 -/
def laws_toCompound.f (k : Nat) (a0_0 : Int) (l0_1 : List (S273)) : Option (Int × (List (S164))) := (laws_toSimpleS.f k l0_1).bind fun t186 => (some (a0_0, t186))
theorem laws_toCompound.mono : ∀ a0 a1 k, LeO (laws_toCompound.f k a0 a1) (laws_toCompound.f (k + 1) a0 a1) := by
 intro a0 a1 k
 unfold laws_toCompound.f
 repeat' first
  |(with_reducible exact laws_toSimpleS.mono _ _)
  |(with_reducible exact LeO.refl _)
  |(with_reducible exact LeO.none _)
  |(with_reducible refine LeO.ite ?_ ?_)
  |(with_reducible refine LeO.bind ?_ (fun _ => ?_))
  |exact laws_toSimpleS.mono _ _
  |exact LeO.none _
  |refine LeO.ite ?_ ?_
  |refine LeO.bind ?_ (fun _ => ?_)
set_option maxHeartbeats 8000000 in
set_option maxRecDepth 100000 in
theorem laws_toCompound.calls (k : Nat) (a0_0 : Int) (A0_1 : Option Addr) (c0_1 : Nat) (l0_1 : List (S273)) (r1 : Int) (r2 : List (S164)) (w : World) (hr0_1 : Kd.C k273 w A0_1 l0_1.length l0_1) (hc0_1 : l0_1.length ≤ c0_1) (h : laws_toCompound.f k a0_0 l0_1 = some (r1, r2)) :
  Calls Try.prog 134 #[.agg #[.int .i64 a0_0, .slice A0_1 l0_1.length c0_1]] w fun e w' => ∃ v1_ : Value, e = .returned (.agg #[.int .i64 r1, v1_]) ∧ Kd.R k164 164 w' w.heap.size (fun _ => True) v1_ r2 ∧ Below w.heap.size w w' := by
 have hu224 := Try.underlying224
 have hu158 := Try.underlying158
 have HR0_1 := Aside0.mk hr0_1
 have HC0_1 := Aside0.mk hc0_1
 clear hr0_1 hc0_1
 have HB := Aside0.mk (Below.refl w.heap.size w)
 have H : ((laws_toSimpleS.f k l0_1).bind fun t186 => (some (a0_0, t186))) = some (r1, r2) := h
 clear h
 replace H := Option.bind_eq_some_iff.mp H
 obtain ⟨t186, A20, H⟩ := H
 replace H : (some (a0_0, t186)) = some (r1, r2) := H
 have A2 := Aside0.mk A20
 clear A20
 simp only [Option.some.injEq, Prod.mk.injEq] at H
 obtain ⟨rfl, rfl⟩ := H
 go_enter Try.func134, Try.ntmps134
 go_wp2_with (first|((with_reducible refine gate_dst (N := 1) rfl ?_);refine box_event ?hg (N := 1) ?hd (cs := #[.int .i64 a0_0, .slice A0_1 l0_1.length c0_1]) (t := 224) ?hr ?_;(case hd => rfl);(case hg => rfl);(case hr => first|(go_simp;done)|(go_simp;rfl));intro gb183 hg w3 hbox hb;have n0_ := Aside0.mk (below_step (by repeat (first|(with_reducible first|exact HB.out|apply below_alloc|apply pw_below_drewN|apply below_drew1)|exact HB.out)) hb);have n1_ := Aside0.mk (hbox);have n2_ := Aside0.mk ((by rw [hg];exact (below_size (by repeat (first|(with_reducible first|exact HB.out|apply below_alloc|apply pw_below_drewN|apply below_drew1)|exact HB.out))) : w.heap.size ≤ gb183));have n3_ := Aside0.mk ((by rw [hg];exact (below_size (by repeat (first|(with_reducible first|exact HB.out|apply below_alloc|apply pw_below_drewN|apply below_drew1)|exact HB.out))) : w.heap.size ≤ gb183));clear HB;have HB := n0_;have BK183 := n1_;have GW183 := n2_;have GE183 := n3_;clear n0_ n1_ n2_ n3_;clear hb hbox hg)|((with_reducible refine gate_dst (N := 2) rfl ?_);refine box_event ?hg (N := 2) ?hd (cs := #[.int .i64 0, .slice none 0 0]) (t := 158) ?hr ?_;(case hd => rfl);(case hg => rfl);(case hr => first|(go_simp;done)|(go_simp;rfl));intro gb184 hg w4 hbox hb;have n0_ := Aside0.mk (blk_below (g := gb183) (o := .cells #[.int .i64 a0_0, .slice A0_1 l0_1.length c0_1] 224 (0, 0)) (by (with_reducible repeat (first|refine blk_drewN ?_ _|refine blk_drew ?_|refine blk_alloc ?_ _));exact BK183.out) hb);have n1_ := Aside0.mk (below_step (by repeat (first|(with_reducible first|exact HB.out|apply below_alloc|apply pw_below_drewN|apply below_drew1|refine below_set ?_ GE183.out)|exact HB.out)) hb);have n2_ := Aside0.mk (hbox);have n3_ := Aside0.mk ((by rw [hg];exact (below_size (by repeat (first|(with_reducible first|exact HB.out|apply below_alloc|apply pw_below_drewN|apply below_drew1|refine below_set ?_ GE183.out)|exact HB.out))) : w.heap.size ≤ gb184));have n4_ := Aside0.mk ((by rw [hg];exact (below_size (by repeat (first|(with_reducible first|exact HB.out|apply below_alloc|apply pw_below_drewN|apply below_drew1|refine below_set ?_ GE183.out)|exact HB.out))) : w.heap.size ≤ gb184));have n5_ := Aside0.mk ((by rw [hg];exact Nat.ne_of_lt (blk_lt (g := gb183) (o := .cells #[.int .i64 a0_0, .slice A0_1 l0_1.length c0_1] 224 (0, 0)) (by (with_reducible repeat (first|refine blk_drewN ?_ _|refine blk_drew ?_|refine blk_alloc ?_ _));exact BK183.out)) : gb183 ≠ gb184));have n6_ := Aside0.mk ((by rw [hg];exact Nat.ne_of_gt (blk_lt (g := gb183) (o := .cells #[.int .i64 a0_0, .slice A0_1 l0_1.length c0_1] 224 (0, 0)) (by (with_reducible repeat (first|refine blk_drewN ?_ _|refine blk_drew ?_|refine blk_alloc ?_ _));exact BK183.out)) : gb184 ≠ gb183));clear BK183;clear HB;have BK183 := n0_;have HB := n1_;have BK184 := n2_;have GW184 := n3_;have GE184 := n4_;have NB183_184 := n5_;have NB184_183 := n6_;clear n0_ n1_ n2_ n3_ n4_ n5_ n6_;clear hb hbox hg)|((with_reducible refine gate_dst (N := 3) rfl ?_);refine box_event ?hg (N := 3) ?hd (cs := #[.int .i64 0, .slice none 0 0]) (t := 158) ?hr ?_;(case hd => rfl);(case hg => rfl);(case hr => first|(go_simp;done)|(go_simp;rfl));intro gb185 hg w5 hbox hb;have n0_ := Aside0.mk (blk_below (g := gb183) (o := .cells #[.int .i64 a0_0, .slice A0_1 l0_1.length c0_1] 224 (0, 0)) (by (with_reducible repeat (first|refine blk_drewN ?_ _|refine blk_drew ?_|refine blk_alloc ?_ _));exact BK183.out) hb);have n1_ := Aside0.mk (blk_below (g := gb184) (o := .cells #[.int .i64 0, .slice none 0 0] 158 (0, 0)) (by (with_reducible repeat (first|refine blk_drewN ?_ _|refine blk_drew ?_|refine blk_alloc ?_ _));exact BK184.out) hb);have n2_ := Aside0.mk (below_step (by repeat (first|(with_reducible first|exact HB.out|apply below_alloc|apply pw_below_drewN|apply below_drew1|refine below_set ?_ GE183.out|refine below_set ?_ GE184.out)|exact HB.out)) hb);have n3_ := Aside0.mk (hbox);have n4_ := Aside0.mk ((by rw [hg];exact (below_size (by repeat (first|(with_reducible first|exact HB.out|apply below_alloc|apply pw_below_drewN|apply below_drew1|refine below_set ?_ GE183.out|refine below_set ?_ GE184.out)|exact HB.out))) : w.heap.size ≤ gb185));have n5_ := Aside0.mk ((by rw [hg];exact (below_size (by repeat (first|(with_reducible first|exact HB.out|apply below_alloc|apply pw_below_drewN|apply below_drew1|refine below_set ?_ GE183.out|refine below_set ?_ GE184.out)|exact HB.out))) : w.heap.size ≤ gb185));have n6_ := Aside0.mk ((by rw [hg];exact Nat.ne_of_lt (blk_lt (g := gb183) (o := .cells #[.int .i64 a0_0, .slice A0_1 l0_1.length c0_1] 224 (0, 0)) (by (with_reducible repeat (first|refine blk_drewN ?_ _|refine blk_drew ?_|refine blk_alloc ?_ _));exact BK183.out)) : gb183 ≠ gb185));have n7_ := Aside0.mk ((by rw [hg];exact Nat.ne_of_gt (blk_lt (g := gb183) (o := .cells #[.int .i64 a0_0, .slice A0_1 l0_1.length c0_1] 224 (0, 0)) (by (with_reducible repeat (first|refine blk_drewN ?_ _|refine blk_drew ?_|refine blk_alloc ?_ _));exact BK183.out)) : gb185 ≠ gb183));have n8_ := Aside0.mk ((by rw [hg];exact Nat.ne_of_lt (blk_lt (g := gb184) (o := .cells #[.int .i64 0, .slice none 0 0] 158 (0, 0)) (by (with_reducible repeat (first|refine blk_drewN ?_ _|refine blk_drew ?_|refine blk_alloc ?_ _));exact BK184.out)) : gb184 ≠ gb185));have n9_ := Aside0.mk ((by rw [hg];exact Nat.ne_of_gt (blk_lt (g := gb184) (o := .cells #[.int .i64 0, .slice none 0 0] 158 (0, 0)) (by (with_reducible repeat (first|refine blk_drewN ?_ _|refine blk_drew ?_|refine blk_alloc ?_ _));exact BK184.out)) : gb185 ≠ gb184));clear BK183;clear BK184;clear HB;have BK183 := n0_;have BK184 := n1_;have HB := n2_;have BK185 := n3_;have GW185 := n4_;have GE185 := n5_;have NB183_185 := n6_;have NB185_183 := n7_;have NB184_185 := n8_;have NB185_184 := n9_;clear n0_ n1_ n2_ n3_ n4_ n5_ n6_ n7_ n8_ n9_;clear hb hbox hg;have hnb6 := NB183_184.out;have hnc6 := NB184_183.out;have hnb7 := NB183_185.out;have hnc7 := NB185_183.out;have hcz8_0 : w5.cell? ⟨gb183, 0, none⟩ = some (.int .i64 a0_0) := (blk_cell BK183.out 0).trans rfl;have hcz8_1 : w5.cell? ⟨gb183, 1, none⟩ = some (.slice A0_1 l0_1.length c0_1) := (blk_cell BK183.out 1).trans rfl;have hfz8_0 := blk_frozen BK183.out 0;have hfz8_1 := blk_frozen BK183.out 1;have hnb9 := NB185_184.out;have hnc9 := NB184_185.out;have hcz10_0 : w5.cell? ⟨gb185, 0, none⟩ = some (.int .i64 0) := (blk_cell BK185.out 0).trans rfl;have hcz10_1 : w5.cell? ⟨gb185, 1, none⟩ = some (.slice none 0 0) := (blk_cell BK185.out 1).trans rfl;have hfz10_0 := blk_frozen BK185.out 0;have hfz10_1 := blk_frozen BK185.out 1)|((with_reducible refine gate_callee (f := 147) rfl ?_);refine goesL_ (some 9) rfl rfl Try.func147 (by kernel_rfl) rfl #[.slice A0_1 l0_1.length c0_1] rfl (by (try simp only [List.map_toArray, List.map_cons, List.map_nil]);first|done|rfl|(simp only [List.length_drop, List.length_take];rfl)) ?_;(with_reducible refine (laws_toSimpleS.calls k _ _ l0_1 t186 _ ?side1 ?side2 A2.out).mono ?_);(case side1 => exact Kd.C_below HR0_1.out (by repeat (first|(with_reducible first|exact HB.out|apply below_alloc|apply pw_below_drewN|apply below_drew1|refine below_set ?_ GE183.out|refine below_set ?_ GE184.out|refine below_set ?_ GE185.out)|exact HB.out)));(case side2 => exact HC0_1.out);rintro e w11 ⟨v187, rfl, ho0, hb⟩;refine ⟨_, rfl, ?_⟩;have n0_ := Aside0.mk (Kd.R_lower ho0 (below_size (by repeat (first|(with_reducible first|exact HB.out|apply below_alloc|apply pw_below_drewN|apply below_drew1|refine below_set ?_ GE183.out|refine below_set ?_ GE184.out|refine below_set ?_ GE185.out)|exact HB.out))));have n1_ := Aside0.mk (blk_below (g := gb183) (o := .cells #[.int .i64 a0_0, .slice A0_1 l0_1.length c0_1] 224 (0, 0)) (by (with_reducible repeat (first|refine blk_drewN ?_ _|refine blk_drew ?_|refine blk_alloc ?_ _));refine blk_far ?_ NB183_185.out _;(with_reducible repeat (first|refine blk_drewN ?_ _|refine blk_drew ?_|refine blk_alloc ?_ _));exact BK183.out) hb);have n2_ := Aside0.mk (blk_below (g := gb184) (o := .cells #[.int .i64 0, .slice none 0 0] 158 (0, 0)) (by (with_reducible repeat (first|refine blk_drewN ?_ _|refine blk_drew ?_|refine blk_alloc ?_ _));refine blk_far ?_ NB184_185.out _;(with_reducible repeat (first|refine blk_drewN ?_ _|refine blk_drew ?_|refine blk_alloc ?_ _));exact BK184.out) hb);have n3_ := Aside0.mk (blk_below (g := gb185) (o := .cells #[.int .i64 a0_0, .slice none 0 0] 158 (0, 0)) (by (with_reducible repeat (first|refine blk_drewN ?_ _|refine blk_drew ?_|refine blk_alloc ?_ _));refine blk_put (cs := #[.int .i64 0, .slice none 0 0]) ?_ 0 _ rfl;(with_reducible repeat (first|refine blk_drewN ?_ _|refine blk_drew ?_|refine blk_alloc ?_ _));exact BK185.out) hb);have n4_ := Aside0.mk (below_step (by repeat (first|(with_reducible first|exact HB.out|apply below_alloc|apply pw_below_drewN|apply below_drew1|refine below_set ?_ GE183.out|refine below_set ?_ GE184.out|refine below_set ?_ GE185.out)|exact HB.out)) hb);clear BK183;clear BK184;clear BK185;clear HB;have HO188 := n0_;have BK183 := n1_;have BK184 := n2_;have BK185 := n3_;have HB := n4_;clear n0_ n1_ n2_ n3_ n4_;(try clear hb);(try clear hb2);(try clear hk);(try clear hi);(try clear ho0);obtain ⟨Ao12, co12, eo12⟩ := Kd.R_slice HO188.out;subst eo12;have hcz13_0 : w11.cell? ⟨gb185, 0, none⟩ = some (.int .i64 a0_0) := (blk_cell BK185.out 0).trans rfl;have hcz13_1 : w11.cell? ⟨gb185, 1, none⟩ = some (.slice none 0 0) := (blk_cell BK185.out 1).trans rfl;have hfz13_0 := blk_frozen BK185.out 0;have hfz13_1 := blk_frozen BK185.out 1;have hcz14_0 : w11.cell? ⟨gb184, 0, none⟩ = some (.int .i64 0) := (blk_cell BK184.out 0).trans rfl;have hcz14_1 : w11.cell? ⟨gb184, 1, none⟩ = some (.slice none 0 0) := (blk_cell BK184.out 1).trans rfl;have hfz14_0 := blk_frozen BK184.out 0;have hfz14_1 := blk_frozen BK184.out 1))
 refine bodyPost_ret (results_cell_row rfl _ _ gb184 158 #[.int .i64 a0_0, .slice Ao12 t186.length co12] (0, 0) _ rfl (by (with_reducible repeat (first|refine blk_drewN ?_ _|refine blk_drew ?_|refine blk_alloc ?_ _));refine blk_put (cs := #[.int .i64 a0_0, .slice none 0 0]) ?_ 1 _ rfl;(with_reducible repeat (first|refine blk_drewN ?_ _|refine blk_drew ?_|refine blk_alloc ?_ _));refine blk_put (cs := #[.int .i64 0, .slice none 0 0]) ?_ 0 _ rfl;(with_reducible repeat (first|refine blk_drewN ?_ _|refine blk_drew ?_|refine blk_alloc ?_ _));refine blk_far ?_ NB184_185.out _;(with_reducible repeat (first|refine blk_drewN ?_ _|refine blk_drew ?_|refine blk_alloc ?_ _));exact BK184.out) Try.underlying158 rfl (by kernel_rfl)) rfl ?_
 exact ⟨_, by first|rfl|(simp [errW_none, errW_some] <;> rfl)|(simp [*, errW_none, errW_some] <;> rfl), by (with_reducible repeat (first|apply Kd.R_alloc|apply Kd.R_drewN|apply Kd.R_drew));exact Kd.R_mono (Kd.R_far (p := ⟨gb184, 1, none⟩) (Kd.R_far (p := ⟨gb184, 0, none⟩) (Kd.R_far (p := ⟨gb185, 1, none⟩) (Kd.R_types (Kd.R_types HO188.out BK185.out (by decide)) BK184.out (by decide)) (fun _ hk => hk.1.2) (.slice Ao12 t186.length co12)) (fun _ hk => hk.2) (.int .i64 a0_0)) (fun _ hk => hk.2) (.slice Ao12 t186.length co12)) (fun _ hk => trivial), by repeat (first|(with_reducible first|exact HB.out|apply below_alloc|apply pw_below_drewN|apply below_drew1|refine below_set ?_ GE183.out|refine below_set ?_ GE184.out|refine below_set ?_ GE185.out)|exact HB.out)⟩

/-! ### laws_toCompoundS: function 104 -/
def laws_toCompoundS.l0 : Nat → List (S224) → List (S158) → Int → Option ((List (S158)))
  | 0, _, _, _ => none
  | k + 1, x0, x3, x4 => if x4 < (x0.length : Int) then (if 0 ≤ x4 then ((laws_toCompound.f k ((rd_T224 x0 x4).f0) ((rd_T224 x0 x4).f1)).bind fun bt193 => (if x4 < (x3.length : Int) then (laws_toCompoundS.l0 k x0 (x3.set (x4 : Int).toNat (⟨bt193.1, bt193.2⟩ : S158)) (wrap64 (x4 + 1))) else (none))) else (none)) else (some x3)
def laws_toCompoundS.f (k : Nat) (l0 : List (S224)) : Option ((List (S158))) := if 0 ≤ (l0.length : Int) then (if ((l0.length : Int) : Int).toNat ≤ 8796093022208 then (laws_toCompoundS.l0 k l0 (List.replicate ((l0.length : Int) : Int).toNat z158) 0) else (none)) else (none)
theorem laws_toCompoundS.mono_l : ∀ k, (∀ y0 y1 y2, LeO (laws_toCompoundS.l0 k y0 y1 y2) (laws_toCompoundS.l0 (k + 1) y0 y1 y2))
 | 0 => fun _ _ _ r h => by simp [laws_toCompoundS.l0] at h
 | k + 1 => by
  have ih0 := laws_toCompoundS.mono_l k
  ·intro y0 y1 y2
   unfold laws_toCompoundS.l0
   repeat' first
  |(with_reducible exact ih0 _ _ _)
  |(with_reducible exact laws_toCompound.mono _ _ _)
  |(with_reducible exact LeO.refl _)
  |(with_reducible exact LeO.none _)
  |(with_reducible refine LeO.ite ?_ ?_)
  |(with_reducible refine LeO.bind ?_ (fun _ => ?_))
  |exact ih0 _ _ _
  |exact laws_toCompound.mono _ _ _
  |exact LeO.none _
  |refine LeO.ite ?_ ?_
  |refine LeO.bind ?_ (fun _ => ?_)
theorem laws_toCompoundS.mono : ∀ a0 k, LeO (laws_toCompoundS.f k a0) (laws_toCompoundS.f (k + 1) a0) := by
 intro a0 k
 have ih0 := laws_toCompoundS.mono_l k
 unfold laws_toCompoundS.f
 repeat' first
  |(with_reducible exact ih0 _ _ _)
  |(with_reducible exact laws_toCompound.mono _ _ _)
  |(with_reducible exact LeO.refl _)
  |(with_reducible exact LeO.none _)
  |(with_reducible refine LeO.ite ?_ ?_)
  |(with_reducible refine LeO.bind ?_ (fun _ => ?_))
  |exact ih0 _ _ _
  |exact laws_toCompound.mono _ _ _
  |exact LeO.none _
  |refine LeO.ite ?_ ?_
  |refine LeO.bind ?_ (fun _ => ?_)
set_option maxHeartbeats 8000000 in
set_option maxRecDepth 100000 in
theorem laws_toCompoundS.calls (k : Nat) (A0 : Option Addr) (c0 : Nat) (l0 : List (S224)) (r : List (S158)) (w : World) (hr0 : Kd.C k224 w A0 l0.length l0) (hc0 : l0.length ≤ c0) (h : laws_toCompoundS.f k l0 = some r) :
  Calls Try.prog 104 #[.slice A0 l0.length c0] w fun e w' => ∃ v0_ : Value, e = .returned (v0_) ∧ Kd.R k158 158 w' w.heap.size (fun _ => True) v0_ r ∧ Below w.heap.size w w' := by
 have hu224 := Try.underlying224
 have hu158 := Try.underlying158
 have HR0 := Aside0.mk hr0
 have HC0 := Aside0.mk hc0
 clear hr0 hc0
 have HB := Aside0.mk (Below.refl w.heap.size w)
 have H : (if 0 ≤ (l0.length : Int) then (if ((l0.length : Int) : Int).toNat ≤ 8796093022208 then (laws_toCompoundS.l0 k l0 (List.replicate ((l0.length : Int) : Int).toNat z158) 0) else (none)) else (none)) = some r := h
 clear h
 by_cases c2 : 0 ≤ (l0.length : Int)
 ·rw [if_pos c2] at H
  have c2b0 := eq_true c2
  have c2b1 : decide (0 ≤ (l0.length : Int)) = true := decide_eq_true c2
  clear c2
  by_cases c3 : ((l0.length : Int) : Int).toNat ≤ 8796093022208
  ·rw [if_pos c3] at H
   have c3b0 := eq_true c3
   have c3b1 : decide (((l0.length : Int) : Int).toNat ≤ 8796093022208) = true := decide_eq_true c3
   clear c3
   obtain ⟨y189, hy189⟩ : ∃ y_ : List (S158), y_ = (List.replicate ((l0.length : Int) : Int).toNat z158) := ⟨_, rfl⟩
   replace H : (laws_toCompoundS.l0 k l0 y189 0) = some r := by first|(rw [hy189];with_reducible exact H)|(have H2_ := (Option.bind_some _ _).symm.trans H;rw [hy189];with_reducible exact H2_)|(have H2_ := (Option.bind_some _ _).symm.trans H;with_reducible exact H2_)|with_reducible exact H|(rw [hy189];exact H)|exact H
   have Ny189 := Aside0.mk hy189
   clear hy189
   have H' := Aside0.mk H
   clear H
   go_enter Try.func104, Try.ntmps104
   go_wp2_with (first|((with_reducible refine gate_dst (N := 7) rfl ?_);refine Kd.R_make k158 _ 158 rfl (N := 7) rfl 80 _ _ rfl (l0.length : Int) rfl rfl Try.underlying80 (.agg #[(.int .i64 0),(.slice none 0 0)]) 32 info158 rfl (by decide) (by omega) z158 (ok := fun _ => True) (okp := fun _ => True) (k158_mkM _ _ _ z158 (Kd.R_nil _ _ _ _ _)) (fun _ hk => hk) trivial (of_decide_eq_true (by first|(with_reducible assumption)|assumption)) (Nat.le_trans (Nat.mul_le_mul_right _ (of_decide_eq_true (by first|(with_reducible assumption)|assumption) : (l0.length : Int).toNat ≤ 8796093022208)) (by omega)) (Below.refl _ _) (Nat.le_refl _) ?_;intro v190 w4 ho5 hb hg_ hnew_;clear hg_ hnew_;(first|rw [← Ny189.out] at ho5|(simp only [Int.reduceToNat] at ho5;rw [← Ny189.out] at ho5));have n0_ := Aside0.mk (Kd.R_lower ho5 (below_size (by repeat (first|(with_reducible first|exact HB.out|apply below_alloc|apply pw_below_drewN|apply below_drew1)|exact HB.out))));have n1_ := Aside0.mk (below_step (by repeat (first|(with_reducible first|exact HB.out|apply below_alloc|apply pw_below_drewN|apply below_drew1)|exact HB.out)) hb);clear HB;have HO191 := n0_;have HB := n1_;clear n0_ n1_;clear hb ho5))
   go_loopg [4] k (fun kq v4 w' => ∃ (x3_1 : List (S158)) (x4_1 : Int), v4 = .int .i64 x4_1 ∧ Aside0 (laws_toCompoundS.l0 kq l0 x3_1 x4_1 = some r) ∧ Aside0 (kq ≤ k) ∧ Aside0 (Kd.R k158 158 w' w.heap.size (fun _ => True) v190 x3_1) ∧ Aside0 (Below w.heap.size w w'))
   case atStart => exact ⟨(y189),(0),(by first|rfl|(simp;done)|(simp [*];done)), H', ⟨Nat.le_refl _⟩,⟨by (with_reducible repeat (first|apply Kd.R_alloc|apply Kd.R_drewN|apply Kd.R_drew));exact HO191.out⟩,⟨by repeat (first|(with_reducible first|exact HB.out|apply below_alloc|apply pw_below_drewN|apply below_drew1)|exact HB.out)⟩⟩
   case round =>
    clear H'
    try clear c1;try clear c2;try clear c2b0;try clear c2b1;try clear p2;try clear c3;try clear c3b0;try clear c3b1
    obtain ⟨x3_1, x4_1, rfl, HA, HK1, HO_3, HB⟩ := hrel
    cases gk with
   |zero => exact absurd HA.out (by simp [laws_toCompoundS.l0])
   |succ k1 =>
     have H := HA.out
     clear HA
     simp only [laws_toCompoundS.l0] at H
     by_cases c6 : x4_1 < (l0.length : Int)
     ·rw [if_pos c6] at H
      have c6b0 : decide (x4_1 < (l0.length : Int)) = true := decide_eq_true c6
      clear c6
      by_cases c7 : 0 ≤ x4_1
      ·rw [if_pos c7] at H
       have c7b0 : decide (0 ≤ x4_1) = true := decide_eq_true c7
       clear c7
       replace H := Option.bind_eq_some_iff.mp H
       obtain ⟨⟨t193, t194⟩, A80, H⟩ := H
       replace H : (if x4_1 < (x3_1.length : Int) then (laws_toCompoundS.l0 k1 l0 (x3_1.set (x4_1 : Int).toNat (⟨t193, t194⟩ : S158)) (wrap64 (x4_1 + 1))) else (none)) = some r := H
       have A8 := Aside0.mk A80
       clear A80
       by_cases c9 : x4_1 < (x3_1.length : Int)
       ·rw [if_pos c9] at H
        have c9b0 : decide (x4_1 < (x3_1.length : Int)) = true := decide_eq_true c9
        clear c9
        obtain ⟨y197, hy197⟩ : ∃ y_ : List (S158), y_ = (x3_1.set (x4_1 : Int).toNat (⟨t193, t194⟩ : S158)) := ⟨_, rfl⟩
        replace H : (laws_toCompoundS.l0 k1 l0 y197 (wrap64 (x4_1 + 1))) = some r := by first|(rw [hy197];with_reducible exact H)|(have H2_ := (Option.bind_some _ _).symm.trans H;rw [hy197];with_reducible exact H2_)|(have H2_ := (Option.bind_some _ _).symm.trans H;with_reducible exact H2_)|with_reducible exact H|(rw [hy197];exact H)|exact H
        have Ny197 := Aside0.mk hy197
        clear hy197
        have H' := Aside0.mk H
        clear H
        have p192 : 0 ≤ (x4_1 : Int) := of_decide_eq_true (by first|(with_reducible assumption)|assumption)
        have q192 : x4_1 < (l0.length : Int) := of_decide_eq_true (by first|(with_reducible assumption)|assumption)
        obtain ⟨ad192, A192_1, c192_1, e192, hx192_0, hx192_1, hl192_1, hi192_1⟩ := at_T224 HR0.out x4_1 p192 q192
        cases e192
        replace hx192_0 := (HB.out.cell (World.block_lt_of_cell? w _ hx192_0)).trans hx192_0
        replace hx192_1 := (HB.out.cell (World.block_lt_of_cell? w _ hx192_1)).trans hx192_1
        have HR192_1 := Aside0.mk hi192_1
        have HC192_1 := Aside0.mk hl192_1
        clear hi192_1 hl192_1
        replace p192 := eq_true p192
        replace q192 := eq_true q192
        go_wp2_with (first|((with_reducible refine gate_callee (f := 134) rfl ?_);refine goesL_ (some 20) rfl rfl Try.func134 (by kernel_rfl) rfl #[.agg #[.int .i64 ((rd_T224 l0 x4_1).f0), .slice A192_1 ((rd_T224 l0 x4_1).f1).length c192_1]] rfl (by (try simp only [List.map_toArray, List.map_cons, List.map_nil]);first|done|rfl|(simp only [List.length_drop, List.length_take];rfl)) ?_;(with_reducible refine (laws_toCompound.calls k1 ((rd_T224 l0 x4_1).f0) _ _ ((rd_T224 l0 x4_1).f1) t193 t194 _ ?side1 ?side2 A8.out).mono ?_);(case side1 => repeat (first|exact (Kd.C_below HR192_1.out HB.out)|(with_reducible refine Kd.C_alloc ?_ _)|(with_reducible refine Kd.C_drewN ?_ _)|(with_reducible refine Kd.C_drew ?_)));(case side2 => exact HC192_1.out);rintro e w11 ⟨v195, rfl, ho0, hb⟩;refine ⟨_, rfl, ?_⟩;have n0_ := Aside0.mk (Kd.R_elder' (by (with_reducible repeat (first|apply Kd.R_alloc|apply Kd.R_drewN|apply Kd.R_drew));exact HO_3.out) (Kd.R_base ho0) hb);have n1_ := Aside0.mk (Kd.R_lower ho0 (below_size (by repeat (first|(with_reducible first|exact HB.out|apply below_alloc|apply pw_below_drewN|apply below_drew1)|exact HB.out))));have n2_ := Aside0.mk (below_step (by repeat (first|(with_reducible first|exact HB.out|apply below_alloc|apply pw_below_drewN|apply below_drew1)|exact HB.out)) hb);clear HO_3;clear HB;have HO_3 := n0_;have HO196 := n1_;have HB := n2_;clear n0_ n1_ n2_;(try clear hb);(try clear hb2);(try clear hk);(try clear hi);(try clear ho0);have p10 : 0 ≤ (x4_1 : Int) := of_decide_eq_true (by first|(with_reducible assumption)|assumption);have q10 : (x4_1 : Int) < ((x3_1.length : Int) : Int) := of_decide_eq_true (by first|(with_reducible assumption)|assumption);obtain ⟨go10, co10, eo10, gb10, gl10, cl10, HG10⟩ := Kd.R_form HO_3.out (by omega);(first|cases eo10|(injection eo10 with ea_ en_ ec_;(first|subst ea_|(injection ea_ with ea_;subst ea_));subst ec_;clear en_));have GB10 := Aside0.mk gb10;have GG10 := Aside0.mk HG10;clear gb10 gl10 HG10;obtain ⟨ce10, hcl10, hM10, hcc10, hfr10⟩ := Kd.R_elem HO_3.out z158 (x4_1 : Int) p10 q10;obtain ⟨ve10_1, rfl, ge10_1⟩ := k158_openM hM10;have hx10_0 : w11.cell? ⟨go10, (x4_1 : Int).toNat * 2, none⟩ = some (.int .i64 ((rd_T158 x3_1 x4_1).f0)) := hcc10 0 _ rfl;have hx10_1 : w11.cell? ⟨go10, (x4_1 : Int).toNat * 2 + 1, none⟩ = some (ve10_1) := hcc10 1 _ rfl;have hf10_0 : w11.frozen? ⟨go10, (x4_1 : Int).toNat * 2, none⟩ = false := hfr10 0;have hf10_1 : w11.frozen? ⟨go10, (x4_1 : Int).toNat * 2 + 1, none⟩ = false := hfr10 1;clear hcl10 hcc10 hfr10 hM10;replace p10 := eq_true p10;replace q10 := eq_true q10;have n_ := Aside0.mk (Kd.R_mono (ok' := (fun k_ => some k_ ≠ (v195 : Value).ownBlock)) HO_3.out (fun k_ hk => hk.2));clear HO_3;have HO_3 := n_;clear n_;have HX12 := Aside0.mk (show Kd.R k158 158 w11 w.heap.size (fun _ => True) (.slice (some ⟨go10, 0, none⟩) x3_1.length co10) x3_1 from (by (with_reducible repeat (first|apply Kd.R_alloc|apply Kd.R_drewN|apply Kd.R_drew));exact Kd.R_mono HO_3.out (fun _ hk => trivial)));obtain ⟨ce12, hcl12, hM12, hcc12, hfr12⟩ := Kd.R_elem HX12.out z158 (x4_1 : Int) (of_decide_eq_true (by first|(with_reducible assumption)|assumption)) (by have h_ : (x4_1 : Int) < ((x3_1.length : Int) : Int) := of_decide_eq_true (by first|(with_reducible assumption)|assumption);first|exact h_|(have e_ := (Kd.R_reads' HO_3.out).1;omega)|simpa using h_);obtain ⟨ve12_1, rfl, ge12_1⟩ := k158_openM hM12;have HP12 := Kd.R_seg HX12.out (x4_1 : Int) (of_decide_eq_true (by first|(with_reducible assumption)|assumption)) (by have h_ : (x4_1 : Int) < ((x3_1.length : Int) : Int) := of_decide_eq_true (by first|(with_reducible assumption)|assumption);first|exact h_|(have e_ := (Kd.R_reads' HO_3.out).1;omega)|simpa using h_) (seg := [.int .i64 t193, v195]) (j := 0) hcl12 hcc12 (show 2 ≤ 2 from by decide) (x' := (⟨t193, t194⟩ : S158)) (k158_mkM _ _ _ (⟨t193, t194⟩ : S158) (Kd.R_mono (Kd.R_apart' (HO196.out) (Kd.R_typed HO_3.out) (by decide)) (fun k_ hk => ⟨trivial, fun e_ => (hk.2) (by rw [e_];rfl)⟩))) (fun _ hk => hk);have hx12_0 := hcc12 0 _ rfl;(try simp only [show (k158).sz = 2 from rfl, Nat.mul_one, Nat.add_zero] at hx12_0);have hf12_0 := hfr12 0;(try simp only [show (k158).sz = 2 from rfl, Nat.mul_one, Nat.add_zero] at hf12_0);have hx12_1 := hcc12 1 _ rfl;(try simp only [show (k158).sz = 2 from rfl, Nat.mul_one, Nat.add_zero] at hx12_1);have hf12_1 := hfr12 1;(try simp only [show (k158).sz = 2 from rfl, Nat.mul_one, Nat.add_zero] at hf12_1);clear hcl12 hcc12 hfr12 hM12)|((with_reducible refine gate_store (t := 158) (p := 21) rfl ?_);refine store_event (t := 158) (p := 21) (v := ?vo_w13) (w1 := ((w11.setCell ⟨go10, (x4_1 : Int).toNat * 2, none⟩ (.int .i64 t193)).setCell ⟨go10, (x4_1 : Int).toNat * 2 + 1, none⟩ (v195))) ?hg ?ho ?hn ?hr ?_;(case ho => rfl);(case hg => rfl);(case hn => rfl);(case hr => first|(go_simp;done)|(go_simp;rfl)|(have o195_ : (v195 : Value).oneCell' = true := (by first|(obtain ⟨A_, c_, e_⟩ := Kd.R_slice HO196.out;rw [e_];rfl)|(obtain ⟨A_, c_, e_⟩ := Kd.S_slice HO196.out;rw [e_];rfl)|(obtain ⟨A_, c_, e_⟩ := Kd.N_slice HO196.out;rw [e_];rfl));go_simp;(try rw [run_store _ _ _ _ _ o195_]);go_simp;done));intro w13 hw;have hg : w11.grownBy w13 (some go10) := (by rw [hw];exact HP12.2);have hp_ : Kd.R k158 158 w13 w.heap.size (fun _ => True) (.slice (some ⟨go10, 0, none⟩) x3_1.length co10) y197 := (by rw [hw, Ny197.out];exact HP12.1);clear HP12;have n0_ := Aside0.mk (hp_);have n1_ := Aside0.mk ((by rw [hw];exact below_set (below_set (HB.out) GB10.out) GB10.out : Below w.heap.size w w13));clear HO_3;clear HB;clear HO196;have HO_3 := n0_;have HB := n1_;clear n0_ n1_;clear hg hw hp_))
        go_roundg k1
        case measure => have := HK1.out;omega
        case rel => exact ⟨(y197),(wrap64 (x4_1 + 1)),(by first|rfl|(simp;done)|(simp [*];done)), H', ⟨by have := HK1.out;omega⟩,⟨by (with_reducible repeat (first|apply Kd.R_alloc|apply Kd.R_drewN|apply Kd.R_drew));exact HO_3.out⟩,⟨by repeat (first|(with_reducible first|exact HB.out|apply below_alloc|apply pw_below_drewN|apply below_drew1)|exact HB.out)⟩⟩
       ·rw [if_neg c9] at H
        exact absurd H (by simp)
      ·rw [if_neg c7] at H
       exact absurd H (by simp)
     ·rw [if_neg c6] at H
      have c6b0 : decide (x4_1 < (l0.length : Int)) = false := decide_eq_false c6
      clear c6
      obtain rfl := Option.some.inj H
      go_wp2
      go_ret
      exact ⟨_, by first|rfl|(simp [errW_none, errW_some] <;> rfl)|(simp [*, errW_none, errW_some] <;> rfl), by (with_reducible repeat (first|apply Kd.R_alloc|apply Kd.R_drewN|apply Kd.R_drew));exact HO_3.out, by repeat (first|(with_reducible first|exact HB.out|apply below_alloc|apply pw_below_drewN|apply below_drew1)|exact HB.out)⟩
  ·rw [if_neg c3] at H
   exact absurd H (by simp)
 ·rw [if_neg c2] at H
  exact absurd H (by simp)

/-! ### laws_toSelector: function 49 -/
def laws_toSelector.f (k : Nat) (l0_0 : List (S224)) : Option ((List (S158))) := (laws_toCompoundS.f k l0_0).bind fun t201 => (some t201)
theorem laws_toSelector.mono : ∀ a0 k, LeO (laws_toSelector.f k a0) (laws_toSelector.f (k + 1) a0) := by
 intro a0 k
 unfold laws_toSelector.f
 repeat' first
  |(with_reducible exact laws_toCompoundS.mono _ _)
  |(with_reducible exact LeO.refl _)
  |(with_reducible exact LeO.none _)
  |(with_reducible refine LeO.ite ?_ ?_)
  |(with_reducible refine LeO.bind ?_ (fun _ => ?_))
  |exact laws_toCompoundS.mono _ _
  |exact LeO.none _
  |refine LeO.ite ?_ ?_
  |refine LeO.bind ?_ (fun _ => ?_)
set_option maxHeartbeats 8000000 in
set_option maxRecDepth 100000 in
theorem laws_toSelector.calls (k : Nat) (A0_0 : Option Addr) (c0_0 : Nat) (l0_0 : List (S224)) (r : List (S158)) (w : World) (hr0_0 : Kd.C k224 w A0_0 l0_0.length l0_0) (hc0_0 : l0_0.length ≤ c0_0) (h : laws_toSelector.f k l0_0 = some r) :
  Calls Try.prog 49 #[.agg #[.slice A0_0 l0_0.length c0_0]] w fun e w' => ∃ v0_ : Value, e = .returned (.agg #[v0_]) ∧ Kd.R k158 158 w' w.heap.size (fun _ => True) v0_ r ∧ Below w.heap.size w w' := by
 have hu77 := Try.underlying77
 have hu82 := Try.underlying82
 have HR0_0 := Aside0.mk hr0_0
 have HC0_0 := Aside0.mk hc0_0
 clear hr0_0 hc0_0
 have HB := Aside0.mk (Below.refl w.heap.size w)
 have H : ((laws_toCompoundS.f k l0_0).bind fun t201 => (some t201)) = some r := h
 clear h
 replace H := Option.bind_eq_some_iff.mp H
 obtain ⟨t201, A20, H⟩ := H
 replace H : (some t201) = some r := H
 have A2 := Aside0.mk A20
 clear A20
 obtain rfl := Option.some.inj H
 go_enter Try.func49, Try.ntmps49
 go_wp2_with (first|((with_reducible refine gate_dst (N := 1) rfl ?_);refine box_event ?hg (N := 1) ?hd (cs := #[.slice A0_0 l0_0.length c0_0]) (t := 77) ?hr ?_;(case hd => rfl);(case hg => rfl);(case hr => first|(go_simp;done)|(go_simp;rfl));intro gb198 hg w3 hbox hb;have n0_ := Aside0.mk (below_step (by repeat (first|(with_reducible first|exact HB.out|apply below_alloc|apply pw_below_drewN|apply below_drew1)|exact HB.out)) hb);have n1_ := Aside0.mk (hbox);have n2_ := Aside0.mk ((by rw [hg];exact (below_size (by repeat (first|(with_reducible first|exact HB.out|apply below_alloc|apply pw_below_drewN|apply below_drew1)|exact HB.out))) : w.heap.size ≤ gb198));have n3_ := Aside0.mk ((by rw [hg];exact (below_size (by repeat (first|(with_reducible first|exact HB.out|apply below_alloc|apply pw_below_drewN|apply below_drew1)|exact HB.out))) : w.heap.size ≤ gb198));clear HB;have HB := n0_;have BK198 := n1_;have GW198 := n2_;have GE198 := n3_;clear n0_ n1_ n2_ n3_;clear hb hbox hg)|((with_reducible refine gate_dst (N := 2) rfl ?_);refine box_event ?hg (N := 2) ?hd (cs := #[.slice none 0 0]) (t := 82) ?hr ?_;(case hd => rfl);(case hg => rfl);(case hr => first|(go_simp;done)|(go_simp;rfl));intro gb199 hg w4 hbox hb;have n0_ := Aside0.mk (blk_below (g := gb198) (o := .cells #[.slice A0_0 l0_0.length c0_0] 77 (0, 0)) (by (with_reducible repeat (first|refine blk_drewN ?_ _|refine blk_drew ?_|refine blk_alloc ?_ _));exact BK198.out) hb);have n1_ := Aside0.mk (below_step (by repeat (first|(with_reducible first|exact HB.out|apply below_alloc|apply pw_below_drewN|apply below_drew1|refine below_set ?_ GE198.out)|exact HB.out)) hb);have n2_ := Aside0.mk (hbox);have n3_ := Aside0.mk ((by rw [hg];exact (below_size (by repeat (first|(with_reducible first|exact HB.out|apply below_alloc|apply pw_below_drewN|apply below_drew1|refine below_set ?_ GE198.out)|exact HB.out))) : w.heap.size ≤ gb199));have n4_ := Aside0.mk ((by rw [hg];exact (below_size (by repeat (first|(with_reducible first|exact HB.out|apply below_alloc|apply pw_below_drewN|apply below_drew1|refine below_set ?_ GE198.out)|exact HB.out))) : w.heap.size ≤ gb199));have n5_ := Aside0.mk ((by rw [hg];exact Nat.ne_of_lt (blk_lt (g := gb198) (o := .cells #[.slice A0_0 l0_0.length c0_0] 77 (0, 0)) (by (with_reducible repeat (first|refine blk_drewN ?_ _|refine blk_drew ?_|refine blk_alloc ?_ _));exact BK198.out)) : gb198 ≠ gb199));have n6_ := Aside0.mk ((by rw [hg];exact Nat.ne_of_gt (blk_lt (g := gb198) (o := .cells #[.slice A0_0 l0_0.length c0_0] 77 (0, 0)) (by (with_reducible repeat (first|refine blk_drewN ?_ _|refine blk_drew ?_|refine blk_alloc ?_ _));exact BK198.out)) : gb199 ≠ gb198));clear BK198;clear HB;have BK198 := n0_;have HB := n1_;have BK199 := n2_;have GW199 := n3_;have GE199 := n4_;have NB198_199 := n5_;have NB199_198 := n6_;clear n0_ n1_ n2_ n3_ n4_ n5_ n6_;clear hb hbox hg)|((with_reducible refine gate_dst (N := 3) rfl ?_);refine box_event ?hg (N := 3) ?hd (cs := #[.slice none 0 0]) (t := 82) ?hr ?_;(case hd => rfl);(case hg => rfl);(case hr => first|(go_simp;done)|(go_simp;rfl));intro gb200 hg w5 hbox hb;have n0_ := Aside0.mk (blk_below (g := gb198) (o := .cells #[.slice A0_0 l0_0.length c0_0] 77 (0, 0)) (by (with_reducible repeat (first|refine blk_drewN ?_ _|refine blk_drew ?_|refine blk_alloc ?_ _));exact BK198.out) hb);have n1_ := Aside0.mk (blk_below (g := gb199) (o := .cells #[.slice none 0 0] 82 (0, 0)) (by (with_reducible repeat (first|refine blk_drewN ?_ _|refine blk_drew ?_|refine blk_alloc ?_ _));exact BK199.out) hb);have n2_ := Aside0.mk (below_step (by repeat (first|(with_reducible first|exact HB.out|apply below_alloc|apply pw_below_drewN|apply below_drew1|refine below_set ?_ GE198.out|refine below_set ?_ GE199.out)|exact HB.out)) hb);have n3_ := Aside0.mk (hbox);have n4_ := Aside0.mk ((by rw [hg];exact (below_size (by repeat (first|(with_reducible first|exact HB.out|apply below_alloc|apply pw_below_drewN|apply below_drew1|refine below_set ?_ GE198.out|refine below_set ?_ GE199.out)|exact HB.out))) : w.heap.size ≤ gb200));have n5_ := Aside0.mk ((by rw [hg];exact (below_size (by repeat (first|(with_reducible first|exact HB.out|apply below_alloc|apply pw_below_drewN|apply below_drew1|refine below_set ?_ GE198.out|refine below_set ?_ GE199.out)|exact HB.out))) : w.heap.size ≤ gb200));have n6_ := Aside0.mk ((by rw [hg];exact Nat.ne_of_lt (blk_lt (g := gb198) (o := .cells #[.slice A0_0 l0_0.length c0_0] 77 (0, 0)) (by (with_reducible repeat (first|refine blk_drewN ?_ _|refine blk_drew ?_|refine blk_alloc ?_ _));exact BK198.out)) : gb198 ≠ gb200));have n7_ := Aside0.mk ((by rw [hg];exact Nat.ne_of_gt (blk_lt (g := gb198) (o := .cells #[.slice A0_0 l0_0.length c0_0] 77 (0, 0)) (by (with_reducible repeat (first|refine blk_drewN ?_ _|refine blk_drew ?_|refine blk_alloc ?_ _));exact BK198.out)) : gb200 ≠ gb198));have n8_ := Aside0.mk ((by rw [hg];exact Nat.ne_of_lt (blk_lt (g := gb199) (o := .cells #[.slice none 0 0] 82 (0, 0)) (by (with_reducible repeat (first|refine blk_drewN ?_ _|refine blk_drew ?_|refine blk_alloc ?_ _));exact BK199.out)) : gb199 ≠ gb200));have n9_ := Aside0.mk ((by rw [hg];exact Nat.ne_of_gt (blk_lt (g := gb199) (o := .cells #[.slice none 0 0] 82 (0, 0)) (by (with_reducible repeat (first|refine blk_drewN ?_ _|refine blk_drew ?_|refine blk_alloc ?_ _));exact BK199.out)) : gb200 ≠ gb199));clear BK198;clear BK199;clear HB;have BK198 := n0_;have BK199 := n1_;have HB := n2_;have BK200 := n3_;have GW200 := n4_;have GE200 := n5_;have NB198_200 := n6_;have NB200_198 := n7_;have NB199_200 := n8_;have NB200_199 := n9_;clear n0_ n1_ n2_ n3_ n4_ n5_ n6_ n7_ n8_ n9_;clear hb hbox hg;have hnb6 := NB198_199.out;have hnc6 := NB199_198.out;have hnb7 := NB198_200.out;have hnc7 := NB200_198.out;have hcz8_0 : w5.cell? ⟨gb198, 0, none⟩ = some (.slice A0_0 l0_0.length c0_0) := (blk_cell BK198.out 0).trans rfl;have hfz8_0 := blk_frozen BK198.out 0)|((with_reducible refine gate_callee (f := 104) rfl ?_);refine goesL_ (some 6) rfl rfl Try.func104 (by kernel_rfl) rfl #[.slice A0_0 l0_0.length c0_0] rfl (by (try simp only [List.map_toArray, List.map_cons, List.map_nil]);first|done|rfl|(simp only [List.length_drop, List.length_take];rfl)) ?_;(with_reducible refine (laws_toCompoundS.calls k _ _ l0_0 t201 _ ?side1 ?side2 A2.out).mono ?_);(case side1 => repeat (first|exact (Kd.C_below HR0_0.out HB.out)|(with_reducible refine Kd.C_alloc ?_ _)|(with_reducible refine Kd.C_drewN ?_ _)|(with_reducible refine Kd.C_drew ?_)));(case side2 => exact HC0_0.out);rintro e w9 ⟨v202, rfl, ho0, hb⟩;refine ⟨_, rfl, ?_⟩;have n0_ := Aside0.mk (Kd.R_lower ho0 (below_size (by repeat (first|(with_reducible first|exact HB.out|apply below_alloc|apply pw_below_drewN|apply below_drew1|refine below_set ?_ GE198.out|refine below_set ?_ GE199.out|refine below_set ?_ GE200.out)|exact HB.out))));have n1_ := Aside0.mk (blk_below (g := gb198) (o := .cells #[.slice A0_0 l0_0.length c0_0] 77 (0, 0)) (by (with_reducible repeat (first|refine blk_drewN ?_ _|refine blk_drew ?_|refine blk_alloc ?_ _));exact BK198.out) hb);have n2_ := Aside0.mk (blk_below (g := gb199) (o := .cells #[.slice none 0 0] 82 (0, 0)) (by (with_reducible repeat (first|refine blk_drewN ?_ _|refine blk_drew ?_|refine blk_alloc ?_ _));exact BK199.out) hb);have n3_ := Aside0.mk (blk_below (g := gb200) (o := .cells #[.slice none 0 0] 82 (0, 0)) (by (with_reducible repeat (first|refine blk_drewN ?_ _|refine blk_drew ?_|refine blk_alloc ?_ _));exact BK200.out) hb);have n4_ := Aside0.mk (below_step (by repeat (first|(with_reducible first|exact HB.out|apply below_alloc|apply pw_below_drewN|apply below_drew1|refine below_set ?_ GE198.out|refine below_set ?_ GE199.out|refine below_set ?_ GE200.out)|exact HB.out)) hb);clear BK198;clear BK199;clear BK200;clear HB;have HO203 := n0_;have BK198 := n1_;have BK199 := n2_;have BK200 := n3_;have HB := n4_;clear n0_ n1_ n2_ n3_ n4_;(try clear hb);(try clear hb2);(try clear hk);(try clear hi);(try clear ho0);obtain ⟨Ao10, co10, eo10⟩ := Kd.R_slice HO203.out;subst eo10;have hnb11 := NB200_199.out;have hnc11 := NB199_200.out;have hcz12_0 : w9.cell? ⟨gb200, 0, none⟩ = some (.slice none 0 0) := (blk_cell BK200.out 0).trans rfl;have hfz12_0 := blk_frozen BK200.out 0;have hcz13_0 : w9.cell? ⟨gb199, 0, none⟩ = some (.slice none 0 0) := (blk_cell BK199.out 0).trans rfl;have hfz13_0 := blk_frozen BK199.out 0))
 refine bodyPost_ret (results_cell_row rfl _ _ gb199 82 #[.slice Ao10 t201.length co10] (0, 0) _ rfl (by (with_reducible repeat (first|refine blk_drewN ?_ _|refine blk_drew ?_|refine blk_alloc ?_ _));refine blk_put (cs := #[.slice none 0 0]) ?_ 0 _ rfl;(with_reducible repeat (first|refine blk_drewN ?_ _|refine blk_drew ?_|refine blk_alloc ?_ _));refine blk_far ?_ NB199_200.out _;(with_reducible repeat (first|refine blk_drewN ?_ _|refine blk_drew ?_|refine blk_alloc ?_ _));exact BK199.out) Try.underlying82 rfl (by kernel_rfl)) rfl ?_
 exact ⟨_, by first|rfl|(simp [errW_none, errW_some] <;> rfl)|(simp [*, errW_none, errW_some] <;> rfl), by (with_reducible repeat (first|apply Kd.R_alloc|apply Kd.R_drewN|apply Kd.R_drew));exact Kd.R_mono (Kd.R_far (p := ⟨gb199, 0, none⟩) (Kd.R_far (p := ⟨gb200, 0, none⟩) (Kd.R_types (Kd.R_types HO203.out BK200.out (by decide)) BK199.out (by decide)) (fun _ hk => hk.1.2) (.slice Ao10 t201.length co10)) (fun _ hk => hk.2) (.slice Ao10 t201.length co10)) (fun _ hk => trivial), by repeat (first|(with_reducible first|exact HB.out|apply below_alloc|apply pw_below_drewN|apply below_drew1|refine below_set ?_ GE198.out|refine below_set ?_ GE199.out|refine below_set ?_ GE200.out)|exact HB.out)⟩

end Go.Proofs.Ytjoanlocikagaaa.QFnExactSelectorOk
