/- FnExactReference: the program and the reference read the same references, at every text and place. -/
import Derived.Test.YtalljfmgpicdaaaDoorRefP
namespace Go.Proofs.YtalljfmgpicdaaaDoor.QFnExactReference
open Go Go.RowKit Go.Proofs.YtalljfmgpicdaaaDoorW.PrintWords Go.Proofs.YtalljfmgpicdaaaDoorW.PrintLast Go.Proofs.YtalljfmgpicdaaaDoorW.PrintMore Go.Proofs.YtalljfmgpicdaaaDoor.Val
set_option linter.unusedVariables false
set_option linter.unusedSimpArgs false

def names : List ByteArray := refs.map (·.1)
def points : List Int := refs.map (·.2)
theorem names_F : spec_l2Names.f = some names := rfl
theorem points_F : spec_l2Points.f = some points := rfl
theorem names_len : (names.length : Int) = 16 := rfl
theorem points_len : (points.length : Int) = 16 := rfl
theorem name_at (i : Nat) (h : i < 16) : ∃ (nm : ByteArray) (cp : Int), refAt i = some (nm, cp) ∧ rdOf ByteArray.empty names i = nm ∧ rd points i = cp ∧ 1 ≤ nm.size ∧ nm.size ≤ 6 ∧ 0 ≤ cp ∧ cp ≤ 10000 := by
  match i, h with
  | 0, _ | 1, _ | 2, _ | 3, _ | 4, _ | 5, _ | 6, _ | 7, _ | 8, _ | 9, _ | 10, _ | 11, _ | 12, _ | 13, _ | 14, _ | 15, _ => exact ⟨_, _, rfl, rfl, rfl, by decide, by decide, by decide, by decide⟩
  | k + 16, h => exact absurd h (by omega)

/-- The two searches' states: nothing found yet, or the same name. -/
def St (x8 x9 x10 : Int) (b : ByteArray) (c : Int) : Prop :=
  (x8 = -1 ∧ x10 = 0 ∧ b.size = 0) ∨ (∃ j : Nat, j < 16 ∧ x8 = (j : Int) ∧ rdOf ByteArray.empty names j = b ∧ rd points j = c ∧ x10 = x9 ∧ 1 ≤ x9 ∧ 1 ≤ b.size ∧ 0 ≤ c ∧ c ≤ 10000)
theorem st_pick {α : Type} {x8 x9 x10 : Int} {b : ByteArray} {c : Int} (st : St x8 x9 x10 b c) (nm : ByteArray) (hn : 1 ≤ nm.size) (X Y : Option α) :
    (if x8 < 0 then X else (if 0 ≤ x8 then (if x8 < (names.length : Int) then (if (nm.size : Int) > ((rdOf ByteArray.empty names x8).size : Int) then X else Y) else none) else none)) = if nm.size > b.size then X else Y := by
  rw [names_len]
  rcases st with ⟨h1, h2, h3⟩ | ⟨j, hj, h1, h2, h3, h4, h5, h6, _, _⟩
  · rw [if_pos (by omega), if_pos (by omega)]
  · subst h1
    rw [if_neg (by omega), if_pos (by omega), if_pos (by omega), h2]
    by_cases q : nm.size > b.size
    · rw [if_pos q, if_pos (by omega)]
    · rw [if_neg q, if_neg (by omega)]
theorem wn {x : Int} {n : Nat} (h : x = (n : Int)) (hn : n ≤ 9000000000000000000) : wrap64 x = (n : Int) := by
  rw [h]
  exact w64 (by omega) (by omega)
theorem wraps (i p m : Nat) (hi : i < 16) (hp : p < 1048576) (hm : m ≤ 6) :
    Aside0 (wrap64 ((i : Int) + 1) = ((i + 1 : Nat) : Int)) ∧ Aside0 (wrap64 ((p : Int) + 1) = ((p + 1 : Nat) : Int)) ∧ Aside0 (wrap64 (1 + (m : Int)) = ((m + 1 : Nat) : Int)) ∧ Aside0 (wrap64 ((p : Int) + ((m + 1 : Nat) : Int)) = ((p + 1 + m : Nat) : Int)) ∧ Aside0 (wrap64 (((m + 1 : Nat) : Int) + 1) = ((m + 2 : Nat) : Int)) ∧ Aside0 (wrap64 ((m : Int) + 2) = ((m + 2 : Nat) : Int)) ∧ Aside0 (wrap64 ((m : Int) + 1) = ((m + 1 : Nat) : Int)) :=
  ⟨⟨wn (by omega) (by omega)⟩, ⟨wn (by omega) (by omega)⟩, ⟨wn (by omega) (by omega)⟩, ⟨wn (by omega) (by omega)⟩, ⟨wn (by omega) (by omega)⟩, ⟨wn (by omega) (by omega)⟩, ⟨wn (by omega) (by omega)⟩⟩
theorem nameLoop (s : ByteArray) (p : Nat) (attr : Bool) (hs : s.size ≤ 1048576) (hp : p < s.size) : ∀ (d i : Nat), i + d = 16 → ∀ (x8 x9 x10 : Int) (b : ByteArray) (c : Int), St x8 x9 x10 b c →
    ∃ r, spec_Reference.L0 s p attr x8 x9 names i = some r ∧ impl_Reference.L0 attr (s.extract (p + 1) s.size) x10 i b c = some r := by
  have z : (s.extract (p + 1) s.size).size = s.size - (p + 1) := by rw [ByteArray.size_extract]; omega
  intro d
  induction d with
  | zero =>
    intro i hd x8 x9 x10 b c st
    rw [spec_Reference.L0_eq, impl_Reference.L0_eq, if_neg (show ¬ (i : Int) < (names.length : Int) by rw [names_len]; omega), if_neg (show ¬ (i : Int) < 16 by omega), points_F, Option.bind_some]
    rcases st with ⟨h1, h2, h3⟩ | ⟨j, hj, h1, h2, h3, h4, h5, h6, h7, h8⟩
    · rw [if_pos (show x8 < 0 by omega), if_pos h2]
      exact ⟨_, rfl, rfl⟩
    · subst h1
      rw [if_neg (show ¬ (j : Int) < 0 by omega), if_pos (show 0 ≤ (j : Int) by omega), if_pos (show (j : Int) < (points.length : Int) by rw [points_len]; omega), h3, put_one, if_neg (show ¬ x10 = 0 by omega), enc_one c (by omega) (by omega), h4]
      exact ⟨_, rfl, rfl⟩
  | succ d ih =>
    intro i hd x8 x9 x10 b c st
    obtain ⟨nm, cp, n1, n2, n3, n4, n5, n6, n7⟩ := name_at i (by omega)
    have N3 := Aside0.mk n3
    clear n3
    obtain ⟨W1, W2, W3, W4, W5, W6, W7⟩ := wraps i p nm.size (by omega) (by omega) (by omega)
    have g1 : (i : Int) < (names.length : Int) := by rw [names_len]; omega
    have g2 : 0 ≤ (i : Int) := by omega
    have g3 : (i : Int) < 16 := by omega
    have same := ih (i + 1) (by omega) x8 x9 x10 b c st
    have new1 := ih (i + 1) (by omega) (i : Int) ((nm.size + 1 : Nat) : Int) ((nm.size + 1 : Nat) : Int) nm cp (Or.inr ⟨i, by omega, rfl, n2, N3.out, rfl, by omega, n4, n6, n7⟩)
    have new2 := ih (i + 1) (by omega) (i : Int) ((nm.size + 2 : Nat) : Int) ((nm.size + 2 : Nat) : Int) nm cp (Or.inr ⟨i, by omega, rfl, n2, N3.out, rfl, by omega, n4, n6, n7⟩)
    have pick := fun (X Y : Option (ByteArray × Int)) => st_pick st nm n4 X Y
    have J1t : ∀ q : Int, spec_Reference.J1 s p attr x8 x9 names i q true = spec_Reference.L0 s p attr x8 x9 names ((i + 1 : Nat) : Int) := by
      intro q
      rw [spec_Reference.J1_eq, if_pos rfl, W1.out]
    have J1f : ∀ q : Int, spec_Reference.J1 s p attr x8 x9 names i q false = if nm.size > b.size then spec_Reference.L0 s p attr i q names ((i + 1 : Nat) : Int) else spec_Reference.L0 s p attr x8 x9 names ((i + 1 : Nat) : Int) := by
      intro q
      rw [spec_Reference.J1_eq, if_neg (show ¬ (false = true) by decide), if_pos g2, if_pos g1, W1.out, n2]
      exact pick _ _
    rw [spec_Reference.L0_eq, impl_Reference.L0_eq, if_pos g1, if_pos g2, if_pos g3, n1, n2, Option.bind_some, W2.out, stands_F s (p + 1) nm hs (by omega) (by omega), Option.bind_some]
    simp only []
    rw [prefix_F s (p + 1) nm (by omega), Option.bind_some, W3.out, W4.out]
    cases hS : H s (p + 1) nm with
    | false =>
      rw [if_neg (show ¬ (false = true) by decide), if_neg (show ¬ (false = true) by decide), impl_Reference.J2_eq, if_pos rfl, W1.out]
      exact same
    | true =>
      have hq : p + 1 + nm.size ≤ s.size := (of_decide_eq_true hS).1
      rw [if_pos (rfl : true = true), if_pos (rfl : true = true), stands_F s (p + 1 + nm.size) _ hs (by decide) hq, Option.bind_some, H_one, W5.out, W1.out]
      have c59 : ((59 : UInt8).toNat : Int) = 59 := rfl
      rw [c59, pick]
      by_cases big : nm.size > b.size
      · have e0 : decide ((nm.size : Int) ≤ (b.size : Int)) = false := decide_eq_false (by omega)
        rw [if_pos big, e0, impl_Reference.J2_eq, if_neg (show ¬ (false = true) by decide)]
        have J1f' : ∀ q : Int, spec_Reference.J1 s p attr x8 x9 names i q false = spec_Reference.L0 s p attr i q names ((i + 1 : Nat) : Int) := fun q => by rw [J1f, if_pos big]
        have J3t : impl_Reference.J3 attr (s.extract (p + 1) s.size) x10 i (nm.size : Int) i true b c nm cp = impl_Reference.L0 attr (s.extract (p + 1) s.size) ((nm.size + 2 : Nat) : Int) ((i + 1 : Nat) : Int) nm cp := by
          rw [impl_Reference.J3_eq, if_pos rfl, W1.out, W6.out]
        -- no ';' behind
        have rest : (¬ (p + 1 + nm.size < s.size ∧ bt s ((p + 1 + nm.size : Nat) : Int) = 59)) →
            ∃ r, (if (i : Int) ≥ 6 then (spec_Reference.J1 s p attr x8 x9 names i ((nm.size + 1 : Nat) : Int) true) else (if attr = true then (if ((p + 1 + nm.size : Nat) : Int) < (s.size : Int) then (if 0 ≤ ((p + 1 + nm.size : Nat) : Int) then ((spec_l1Letter.f (bt s ((p + 1 + nm.size : Nat) : Int))).bind fun t168 => (if t168 = true then (spec_Reference.J1 s p attr x8 x9 names i ((nm.size + 1 : Nat) : Int) true) else ((spec_l1Digit.f (bt s ((p + 1 + nm.size : Nat) : Int))).bind fun t169 => (if t169 = true then (spec_Reference.J1 s p attr x8 x9 names i ((nm.size + 1 : Nat) : Int) true) else (spec_Reference.J1 s p attr x8 x9 names i ((nm.size + 1 : Nat) : Int) ((bt s ((p + 1 + nm.size : Nat) : Int)) == 61)))))) else (none)) else (spec_Reference.J1 s p attr x8 x9 names i ((nm.size + 1 : Nat) : Int) false)) else (spec_Reference.J1 s p attr x8 x9 names i ((nm.size + 1 : Nat) : Int) false))) = some r ∧
              impl_Reference.J3 attr (s.extract (p + 1) s.size) x10 i (nm.size : Int) i false b c nm cp = some r := by
          intro _
          rw [impl_Reference.J3_eq, if_neg (show ¬ (false = true) by decide), W1.out, W7.out]
          by_cases l6 : (i : Int) < 6
          · rw [if_neg (show ¬ (i : Int) ≥ 6 by omega), if_pos l6]
            cases attr with
            | false =>
              rw [if_neg (show ¬ (false = true) by decide), if_neg (show ¬ (false = true) by decide), J1f']
              exact new1
            | true =>
              rw [if_pos (rfl : true = true), if_pos (rfl : true = true)]
              by_cases more : p + 1 + nm.size < s.size
              · have m1 : ((p + 1 + nm.size : Nat) : Int) < (s.size : Int) := by omega
                have m2 : 0 ≤ ((p + 1 + nm.size : Nat) : Int) := by omega
                have m3 : (nm.size : Int) < ((s.extract (p + 1) s.size).size : Int) := by omega
                have m4 : 0 ≤ (nm.size : Int) := by omega
                rw [if_pos m1, if_pos m2, if_pos m3, if_pos m4, bt_ext s (p + 1) nm.size more, lettS, digS, lettI, digI]
                simp only [Option.bind_some]
                cases isLB (bt s ((p + 1 + nm.size : Nat) : Int)) with
                | true =>
                  simp only [if_true, J1t]
                  exact same
                | false =>
                  simp only [Bool.false_eq_true, if_false]
                  cases isDB (bt s ((p + 1 + nm.size : Nat) : Int)) with
                  | true =>
                    simp only [if_true, J1t]
                    exact same
                  | false =>
                    simp only [Bool.false_eq_true, if_false]
                    by_cases e : bt s ((p + 1 + nm.size : Nat) : Int) = 61
                    · rw [if_pos e, beq_iff_eq.2 e, J1t]
                      exact same
                    · rw [if_neg e, beq_eq_false_iff_ne.2 e, J1f']
                      exact new1
              · rw [if_neg (show ¬ ((p + 1 + nm.size : Nat) : Int) < (s.size : Int) by omega), if_neg (show ¬ (nm.size : Int) < ((s.extract (p + 1) s.size).size : Int) by omega), J1f']
                exact new1
          · rw [if_pos (show (i : Int) ≥ 6 by omega), if_neg l6, J1t]
            exact same
        by_cases semi : p + 1 + nm.size < s.size ∧ bt s ((p + 1 + nm.size : Nat) : Int) = 59
        · rw [decide_eq_true semi, if_pos (rfl : true = true), if_pos (show (nm.size : Int) < ((s.extract (p + 1) s.size).size : Int) by have := semi.1; omega), if_pos (show 0 ≤ (nm.size : Int) by omega), bt_ext s (p + 1) nm.size semi.1, beq_iff_eq.2 semi.2, J3t]
          exact new2
        · rw [decide_eq_false semi, if_neg (show ¬ (false = true) by decide)]
          have R := rest semi
          by_cases more : p + 1 + nm.size < s.size
          · have ne : ¬ bt s ((p + 1 + nm.size : Nat) : Int) = 59 := fun e => semi ⟨more, e⟩
            rw [if_pos (show (nm.size : Int) < ((s.extract (p + 1) s.size).size : Int) by omega), if_pos (show 0 ≤ (nm.size : Int) by omega), bt_ext s (p + 1) nm.size more, beq_eq_false_iff_ne.2 ne]
            exact R
          · rw [if_neg (show ¬ (nm.size : Int) < ((s.extract (p + 1) s.size).size : Int) by omega)]
            exact R
      · have e0 : decide ((nm.size : Int) ≤ (b.size : Int)) = true := decide_eq_true (by omega)
        rw [if_neg big, e0, impl_Reference.J2_eq, if_pos (rfl : true = true), W1.out]
        have J1f' : ∀ q : Int, spec_Reference.J1 s p attr x8 x9 names i q false = spec_Reference.L0 s p attr x8 x9 names ((i + 1 : Nat) : Int) := fun q => by rw [J1f, if_neg big]
        have J1b : ∀ (q : Int) (y : Bool), spec_Reference.J1 s p attr x8 x9 names i q y = spec_Reference.L0 s p attr x8 x9 names ((i + 1 : Nat) : Int) := by
          intro q y
          cases y with
          | true => exact J1t q
          | false => exact J1f' q
        simp only [J1b, lettS, digS, Option.bind_some, ite_self]
        by_cases more : ((p + 1 + nm.size : Nat) : Int) < (s.size : Int)
        · simp only [if_pos more, if_pos (show 0 ≤ ((p + 1 + nm.size : Nat) : Int) by omega), ite_self]
          exact same
        · simp only [if_neg more, ite_self]
          exact same
theorem refs_same (s : ByteArray) (a1 : Int) (attr : Bool) (hs : s.size ≤ 1048576) (hw : -9223372036854775808 ≤ a1 ∧ a1 ≤ 9223372036854775807) : ∃ r, spec_Reference.F s a1 attr = some r ∧ impl_Reference.F s a1 attr = some r := by
  have w2 : ∀ p : Nat, p < s.size → wrap64 ((p : Int) + 1) = ((p + 1 : Nat) : Int) := fun p hp => by rw [w64 (by omega) (by omega)]; omega
  rw [spec_Reference.F_eq, impl_Reference.F_eq]
  by_cases c1 : a1 < 0
  · have e : spec_l2Stands.f s a1 ⟨#[38]⟩ = some false := by unfold spec_l2Stands.f; rw [if_neg (by omega)]
    rw [e, Option.bind_some, if_neg (show ¬ (false = true) by decide), if_pos c1, impl_Reference.J0_eq, if_pos rfl]
    exact ⟨_, rfl, rfl⟩
  rw [if_neg c1]
  by_cases c2 : a1 ≥ (s.size : Int)
  · have e : spec_l2Stands.f s a1 ⟨#[38]⟩ = some false := by
      by_cases c3 : a1 ≤ (s.size : Int)
      · obtain ⟨p, rfl⟩ : ∃ p : Nat, a1 = (p : Int) := ⟨a1.toNat, by omega⟩
        rw [stands_F s p _ hs (by decide) (by omega), H_one, decide_eq_false (fun h => absurd h.1 (by omega))]
      · unfold spec_l2Stands.f; rw [if_pos (by omega), if_neg c3]
    rw [e, Option.bind_some, if_neg (show ¬ (false = true) by decide), if_pos c2, impl_Reference.J0_eq, if_pos rfl]
    exact ⟨_, rfl, rfl⟩
  rw [if_neg c2]
  obtain ⟨p, rfl⟩ : ∃ p : Nat, a1 = (p : Int) := ⟨a1.toNat, by omega⟩
  have hp : p < s.size := by omega
  have c38 : ((38 : UInt8).toNat : Int) = 38 := rfl
  have c35 : ((35 : UInt8).toNat : Int) = 35 := rfl
  rw [if_pos (show 0 ≤ (p : Int) by omega), if_pos (show (p : Int) < (s.size : Int) by omega), stands_F s p _ hs (by decide) (by omega), stands_F s p _ hs (by decide) (by omega), H_one, H_two, names_F, c38, c35]
  simp only [Option.bind_some]
  by_cases amp : bt s (p : Int) = 38
  · have e1 : (bt s (p : Int) != 38) = false := bne_eq_false_iff_eq.2 amp
    rw [decide_eq_true (show p < s.size ∧ bt s (p : Int) = 38 from ⟨hp, amp⟩), if_pos (rfl : true = true), e1, impl_Reference.J0_eq, if_neg (show ¬ (false = true) by decide), w2 p hp, if_pos (show 0 ≤ ((p + 1 : Nat) : Int) by omega), if_pos (show ((p + 1 : Nat) : Int) ≤ (s.size : Int) by omega), Int.toNat_natCast, prefix_F s (p + 1) _ (by omega), H_one, c35, Option.bind_some]
    have z : (s.extract (p + 1) s.size).size = s.size - (p + 1) := by rw [ByteArray.size_extract]; omega
    by_cases num : p + 1 < s.size ∧ bt s ((p + 1 : Nat) : Int) = 35
    · rw [decide_eq_true (show p + 1 < s.size ∧ bt s (p : Int) = 38 ∧ bt s ((p + 1 : Nat) : Int) = 35 from ⟨num.1, amp, num.2⟩), decide_eq_true num, if_pos (rfl : true = true), if_pos (rfl : true = true), if_pos (show (1 : Int) ≤ ((s.extract (p + 1) s.size).size : Int) by have := num.1; omega)]
      have ee : (s.extract (p + 1) s.size).extract 1 (s.extract (p + 1) s.size).size = s.extract (p + 2) s.size := by
        rw [ByteArray.extract_extract, z]
        congr 1
        have := num.1
        omega
      obtain ⟨r, r1, r2⟩ := number_same s p hs (by have := num.1; omega)
      rw [ee, r1, r2]
      exact ⟨_, rfl, rfl⟩
    · rw [decide_eq_false (show ¬ (p + 1 < s.size ∧ bt s (p : Int) = 38 ∧ bt s ((p + 1 : Nat) : Int) = 35) from fun h => num ⟨h.1, h.2.2⟩), decide_eq_false num, if_neg (show ¬ (false = true) by decide), if_neg (show ¬ (false = true) by decide)]
      exact nameLoop s p attr hs hp 16 0 (by omega) (-1) 0 0 _ 0 (Or.inl ⟨rfl, rfl, rfl⟩)
  · have e1 : (bt s (p : Int) != 38) = true := bne_iff_ne.2 amp
    rw [decide_eq_false (show ¬ (p < s.size ∧ bt s (p : Int) = 38) from fun h => amp h.2), if_neg (show ¬ (false = true) by decide), e1, impl_Reference.J0_eq, if_pos rfl]
    exact ⟨_, rfl, rfl⟩
theorem FnExactReference : laws_FnExactReference.Pure := by
  intro s a1 attr _ hw
  apply val_rounds (g := fun k => laws_FnExactReference.f k s a1 attr)
  show laws_FnExactReference.F s a1 attr = some true
  rw [laws_FnExactReference.F_eq]
  by_cases hb : (s.size : Int) > 1048576
  · rw [if_pos hb]
  · obtain ⟨r, h1, h2⟩ := refs_same s a1 attr (by omega) (wf_i64 hw)
    rw [if_neg hb, h1, h2, Option.bind_some, Option.bind_some, if_pos rfl, if_pos rfl]
end Go.Proofs.YtalljfmgpicdaaaDoor.QFnExactReference
