/- impl.spellNumber, walked. -/
import Derived.Test.YtonmeoaponeadaaGreatDoorItoaLay
import Derived.Test.YtonmeoaponeadaaGreatDoorByteX
import Derived.Lib.AppendIntMem
import Derived.Lib.SmallJoins
namespace Go.Proofs.YtonmeoaponeadaaGreatDoor.Repl
open Go Go.RowKit Go.Proofs.YtonmeoaponeadaaGreatDoorV.PrintWords Go.Proofs.YtonmeoaponeadaaGreatDoorV.PrintLast Go.Proofs.YtonmeoaponeadaaGreatDoorV.PrintMore Go.Proofs.YtonmeoaponeadaaGreatDoor.Once
set_option linter.unusedVariables false
set_option linter.unusedSimpArgs false

def GTab (w : World) : Prop := Lib.TabIs Tryz.prog w "internal/strconv.uint64pow10" .u64 Lib.pow10Tab
def dec (n : Nat) : ByteArray := ⟨(Lib.decDigits n).toArray⟩
theorem itoa_calls (w : World) (n : Nat) (hn : n ≤ 4611686018427387904) (h : GTab w) :
    Calls Tryz.prog 44 #[.int .i64 (n : Int)] w fun e w' => e = .returned (.string (dec n)) ∧ Below w.heap.size w w' := by
  refine (Any.strconv_Itoa itoaL (n : Int) (by omega) (by omega) w h).mono ?_
  rintro e w' ⟨rfl, k, os, rfl⟩
  refine ⟨?_, Lib.below_grow _ w (Nat.le_refl _) k os⟩
  unfold Lib.itoa dec
  rw [if_neg (by omega), Int.toNat_natCast]
theorem digits_le : ∀ u : Nat, Lib.nDigits u ≤ u + 1 := by
  intro u
  induction u using Nat.strongRecOn with
  | _ u ih =>
    by_cases h : u < 10
    · rw [Lib.nDigits_small h]; omega
    · rw [Lib.nDigits_big h]
      have := ih (u / 10) (by omega)
      omega
theorem dec_size (n : Nat) : 1 ≤ (dec n).size ∧ (dec n).size ≤ n + 1 := by
  have h : (dec n).size = Lib.nDigits n := by
    show (Lib.decDigits n).toArray.size = _
    rw [List.size_toArray, Lib.decDigits_length]
  rw [h]
  exact ⟨Lib.nDigits_pos n, digits_le n⟩
theorem GTab.below {w w1 : World} (h : GTab w) (hb : Below w.heap.size w w1) : GTab w1 := by
  unfold GTab Lib.TabIs at *
  exact _root_.Go.Joins.var_stays (g := 0) (by kernel_rfl) h hb (Nat.le_refl _)
/-- What spellNumber says. -/
def numT (p : ByteArray) (m : Nat) : ByteArray := if m % 1000 = 0 then p ++ dec (m / 1000) else (p ++ dec (m / 1000)) ++ ((⟨#[46]⟩ : ByteArray) ++ (dec (1000 + m % 1000)).extract 1 (dec (1000 + m % 1000)).size)
def numS (n : Int) (u : ByteArray) : ByteArray := numT (if n < 0 then ⟨#[45]⟩ else ⟨#[]⟩) n.natAbs ++ u
set_option maxRecDepth 100000 in
set_option maxHeartbeats 8000000 in
theorem number_calls (w : World) (kd n : Int) (t u : ByteArray) (h0 : -1000000000 ≤ n) (h1 : n ≤ 1000000000) (hu : u.size ≤ 1048576) (hg : GTab w) :
    Calls Tryz.prog 32 #[.agg #[.int .i64 kd, .string t, .int .i64 n, .string u]] w fun e w' => e = .returned (.string (numS n u)) ∧ Below w.heap.size w w' := by
  have HG := Aside0.mk hg
  have HU := Aside0.mk hu
  have H0 := Aside0.mk h0
  have H1 := Aside0.mk h1
  clear hg hu h0 h1
  go_enter Tryz.func32, Tryz.ntmps32
  go_upto_if 8 with (first
    | ((with_reducible refine gate_dst (N := 1) rfl ?_); refine box_event ?hg (N := 1) ?hd (cs := #[.int .i64 kd, .string t, .int .i64 n, .string u]) (t := 34) ?hr ?_; (case hd => rfl); (case hg => rfl); (case hr => first | (go_simp; done) | (go_simp; rfl)); intro gb hgb w1 hbox hbel; have HX1 := Aside0.mk hbox; have HB1 := Aside0.mk hbel; have k2 : w1.cell? ⟨gb, 2, none⟩ = some (.int .i64 n) := (blk_cell hbox 2).trans rfl; have k3 : w1.cell? ⟨gb, 3, none⟩ = some (.string u) := (blk_cell hbox 3).trans rfl; clear hgb hbox hbel))
  go_cut [3, 4] (fun v3 v4 wc => ∃ (m : Nat) (p : ByteArray), v3 = .int .i64 (m : Int) ∧ v4 = .string p ∧ Aside0 (m = n.natAbs) ∧ Aside0 (p = if n < 0 then ⟨#[45]⟩ else ⟨#[]⟩) ∧ w1 = wc)
  case first =>
    by_cases hn : n < 0
    · have d1 : decide (n < 0) = true := decide_eq_true hn
      rw [d1]
      have hw : wrap64 (-n) = ((n.natAbs : Nat) : Int) := by have := H0.out; unfold wrap64; omega
      have HN := Aside0.mk hn
      clear hn d1
      go_wp2_with (fail)
      go_meet
      case rel => exact ⟨n.natAbs, ⟨#[45]⟩, by first | rw [hw] | (rw [i64_w, hw]) | rfl, rfl, ⟨rfl⟩, ⟨by rw [if_pos HN.out]⟩, rfl⟩
    · have d1 : decide (n < 0) = false := decide_eq_false hn
      rw [d1]
      have hw : n = ((n.natAbs : Nat) : Int) := by omega
      have HN := Aside0.mk hn
      have HW := Aside0.mk hw
      clear hn d1 hw
      go_wp2_with (fail)
      go_meet
      case rel => exact ⟨n.natAbs, ⟨#[]⟩, congrArg (Value.int .i64) HW.out, rfl, ⟨rfl⟩, ⟨by rw [if_neg (by have := HN.out; omega)]⟩, rfl⟩
  case rest =>
    obtain ⟨m, p, rfl, rfl, HM, HP, rfl⟩ := hcut
    have hp1 : p.size ≤ 1 := by rw [HP.out]; split <;> decide
    have hm1 : m ≤ 1000000000 := by have := HM.out; have := H0.out; have := H1.out; omega
    have ht : Int.tdiv (m : Int) 1000 = ((m / 1000 : Nat) : Int) := Int.ofNat_tdiv m 1000
    have hr : Int.tmod (m : Int) 1000 = ((m % 1000 : Nat) : Int) := Int.ofNat_tmod m 1000
    have hw : wrap64 ((m / 1000 : Nat) : Int) = ((m / 1000 : Nat) : Int) := wn _ (by omega)
    obtain ⟨q, eq_⟩ : ∃ q, q = m / 1000 := ⟨_, rfl⟩
    obtain ⟨r, er⟩ : ∃ r, r = m % 1000 := ⟨_, rfl⟩
    rw [← eq_] at ht hw
    rw [← er] at hr
    have ds := dec_size q
    obtain ⟨d, ed⟩ : ∃ d, d = dec q := ⟨_, rfl⟩
    rw [← ed] at ds
    have hov : (9223372036854775807 < p.size + d.size) = False := eq_false (by omega)
    have hl1 : (p ++ d).size ≤ 1000000002 := by rw [ByteArray.size_append]; omega
    have HR1 := Aside0.mk hp1
    have Q1 := Aside0.mk (show q ≤ 4611686018427387904 by omega)
    have RL := Aside0.mk (show r < 1000 by omega)
    have ED := Aside0.mk ed
    have EQ := Aside0.mk eq_
    have ER := Aside0.mk er
    have L1 := Aside0.mk hl1
    have G1 := Aside0.mk (HG.out.below HB1.out)
    have HP0 := HP
    clear hp1 hm1 eq_ er ed ds hl1
    go_upto_if 18 with (first
      | (go_at_call 44; refine (itoa_calls _ q Q1.out G1.out).mono ?_; rintro e w2 ⟨rfl, hb⟩; rw [← ED.out]; have HB2 := Aside0.mk (below_step HB1.out hb); have HX2 := Aside0.mk (blk_below HX1.out hb); have G2 := Aside0.mk (G1.out.below hb); clear hb HB1 HX1 G1 k2 k3))
    have FT := Aside0.mk (show p ++ dec (m / 1000) = p ++ d from by rw [ED.out, EQ.out])
    have LY := L1
    clear hov
    generalize hy : p ++ d = y at LY FT ⊢
    clear hy L1
    have hle := LY.out
    have k3 : w2.cell? ⟨gb, 3, none⟩ = some (.string u) := (blk_cell HX2.out 3).trans rfl
    go_cut [4] (fun v4 wc => ∃ (x : ByteArray), v4 = .string x ∧ Aside0 (x = numT p m) ∧ Aside0 (x.size ≤ 2000000000) ∧ Aside0 (Below w.heap.size w wc) ∧ wc.cell? ⟨gb, 3, none⟩ = some (.string u))
    case first =>
      by_cases hz : r = 0
      · have z1 : ((r : Int) != 0) = false := by rw [hz]; rfl
        rw [z1]
        have RZ := Aside0.mk hz
        have LE := Aside0.mk hle
        clear hz z1 hle
        go_wp2_with (fail)
        go_meet
        case rel => exact ⟨y, rfl, ⟨by unfold numT; rw [← ER.out, if_pos RZ.out, FT.out]⟩, ⟨Nat.le_trans LE.out (by decide)⟩, HB2, k3⟩
      · have z1 : ((r : Int) != 0) = true := bne_iff_ne.mpr (by omega)
        rw [z1]
        have RZ := Aside0.mk hz
        have ds := dec_size (1000 + r)
        obtain ⟨d2, e2⟩ : ∃ d2, d2 = dec (1000 + r) := ⟨_, rfl⟩
        rw [← e2] at ds
        have hrl := RL.out
        have hw2 : wrap64 (1000 + (r : Int)) = ((1000 + r : Nat) : Int) := wa 1000 r (by omega)
        have R2 := Aside0.mk (show 1000 + r ≤ 4611686018427387904 by omega)
        have E2 := Aside0.mk e2
        have LE := Aside0.mk hle
        have hs1 : (1 ≤ d2.size) = True := eq_true ds.1
        have hs2 : ((1 : Int) ≤ (d2.size : Int)) = True := eq_true (by omega)
        have hs3 : (9223372036854775807 < d2.size) = False := eq_false (by omega)
        have hs4 : (9223372036854775807 < y.size + d2.size) = False := eq_false (by omega)
        have hs5 : (y ++ ((⟨#[46]⟩ : ByteArray) ++ d2.extract 1 d2.size)).size ≤ 2000000000 := by
          rw [ByteArray.size_append, ByteArray.size_append, ByteArray.size_extract]
          have e1 : (⟨#[46]⟩ : ByteArray).size = 1 := rfl
          omega
        have HS5 := Aside0.mk hs5
        clear hz z1 ds hrl e2 hle hs5
        go_wp2_with (first
          | (go_at_call 44; refine (itoa_calls _ (1000 + r) R2.out G2.out).mono ?_; rintro e w3 ⟨rfl, hb⟩; rw [← E2.out]; have HB3 := Aside0.mk (below_step HB2.out hb); have k33 : w3.cell? ⟨gb, 3, none⟩ = some (.string u) := (blk_cell (blk_below HX2.out hb) 3).trans rfl; clear hb HB2 HX2 G2 k3))
        go_meet
        case rel => exact ⟨_, rfl, ⟨by unfold numT; rw [← ER.out, if_neg RZ.out, FT.out, ← E2.out]⟩, HS5, HB3, k33⟩
    case rest =>
      obtain ⟨x, rfl, HXX, HXS, HB4, k4⟩ := hcut
      have hx1 := HXS.out
      have hx2 := HU.out
      have hs6 : (9223372036854775807 < x.size + u.size) = False := eq_false (by omega)
      clear hx1 hx2
      go_wp2_with (fail)
      go_ret
      exact ⟨by unfold numS; rw [← HP0.out, ← HM.out, ← HXX.out]; rfl, HB4.out⟩
end Go.Proofs.YtonmeoaponeadaaGreatDoor.Repl
