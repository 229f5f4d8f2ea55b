/- FnExactSpell, the plain side: numbers, escapes, the list. -/
import Derived.Test.YtonmeoaponeadaaGreatDoorVordOkPSpell
import Derived.Test.YtonmeoaponeadaaGreatDoorConvFnExactSpell
namespace Go.Proofs.YtonmeoaponeadaaGreatDoor.QFnExactSpell
open Go Go.RowKit Go.Proofs.YtonmeoaponeadaaGreatDoorV.PrintWords Go.Proofs.YtonmeoaponeadaaGreatDoorV.PrintLast Go.Proofs.YtonmeoaponeadaaGreatDoorV.PrintMore Go.Proofs.YtonmeoaponeadaaGreatDoor.Val Go.Proofs.YtonmeoaponeadaaGreatDoor.Repl
set_option linter.unusedVariables false
set_option linter.unusedSimpArgs false

theorem strOf_app (a b : List Int) : strOfNums (a ++ b) = strOfNums a ++ strOfNums b := by
  unfold strOfNums
  apply ByteArray.ext
  simp
theorem one_digit (n : Nat) (h : n < 10) : strOfNums [(wrap64 (48 + (n : Int))) % 256] = dec n := by
  have e : (wrap64 (48 + (n : Int))) % 256 = ((48 + n : Nat) : Int) := by unfold wrap64; omega
  rw [e]
  unfold dec
  rw [Lib.decDigits_one h]
  rfl
theorem dec_step (n : Nat) (h : ¬ n < 10) : dec n = dec (n / 10) ++ dec (n % 10) := by
  unfold dec
  rw [Lib.decDigits_one (show n % 10 < 10 by omega)]
  rw [Lib.decDigits, dif_neg h]
  apply ByteArray.ext
  simp
theorem l6Dec_is (n : Nat) : n ≤ 4611686018427387904 → spec_l6Dec.F (n : Int) = some (dec n) := by
  induction n using Nat.strongRecOn with
  | ind n ih =>
    intro hn
    rw [spec_l6Dec.F_eq]
    by_cases h : n < 10
    · rw [if_pos (by omega), one_digit n h]
    · rw [if_neg (by omega)]
      have e1 : wrap64 (Int.tdiv (n : Int) 10) = ((n / 10 : Nat) : Int) := by
        rw [show Int.tdiv (n : Int) 10 = ((n / 10 : Nat) : Int) from rfl, w64 (by omega) (by omega)]
      have e2 : Int.tmod (n : Int) 10 = ((n % 10 : Nat) : Int) := rfl
      rw [e1, ih (n / 10) (by omega) (by omega), Option.bind_some, Option.bind_some, e2, one_digit (n % 10) (by omega)]
      have d1 := dec_size (n / 10)
      have d2 := dec_size (n % 10)
      rw [if_pos (by omega), ← dec_step n h]
theorem three (r : Nat) (h : r < 1000) : (dec (1000 + r)).extract 1 (dec (1000 + r)).size = (dec (r / 100) ++ dec (r / 10 % 10)) ++ dec (r % 10) := by
  have e : dec (1000 + r) = dec 1 ++ ((dec (r / 100) ++ dec (r / 10 % 10)) ++ dec (r % 10)) := by
    rw [dec_step (1000 + r) (by omega), dec_step ((1000 + r) / 10) (by omega), dec_step ((1000 + r) / 10 / 10) (by omega)]
    rw [show (1000 + r) / 10 / 10 / 10 = 1 by omega, show (1000 + r) / 10 / 10 % 10 = r / 100 by omega, show (1000 + r) / 10 % 10 = r / 10 % 10 by omega, show (1000 + r) % 10 = r % 10 by omega]
    simp only [ByteArray.append_assoc]
  rw [e]
  generalize (dec (r / 100) ++ dec (r / 10 % 10)) ++ dec (r % 10) = y
  have h1 : dec 1 = ⟨#[49]⟩ := by unfold dec; rw [Lib.decDigits_one (by decide)]; rfl
  rw [h1]
  apply ByteArray.ext
  apply Array.ext'
  simp [ByteArray.size_append, ByteArray.data_extract]
  exact List.take_of_length_le (by rw [Array.length_toList]; show y.size ≤ 1 + y.size - 1; omega)
theorem numT_size (p : ByteArray) (m : Nat) (hp : p.size ≤ 1) (hm : m ≤ 1000000000) : (numT p m).size ≤ 1010000 := by
  have d1 := dec_size (m / 1000)
  have d2 := dec_size (1000 + m % 1000)
  unfold numT
  split
  · rw [ByteArray.size_append]; omega
  · rw [ByteArray.size_append, ByteArray.size_append, ByteArray.size_append, ByteArray.size_extract]
    have : (⟨#[46]⟩ : ByteArray).size = 1 := rfl
    omega
theorem j1_is (m : Nat) (p u s : ByteArray) (a b : Int) (hm : m ≤ 1000000000) (hp : p.size ≤ 1) (hu : u.size ≤ 1048576) : spec_l6Spell.J1 (m : Int) p a s b u = some (numT p m ++ u) := by
  rw [spec_l6Spell.J1_eq]
  have e0 : wrap64 (Int.tdiv (m : Int) 1000) = ((m / 1000 : Nat) : Int) := by
    rw [show Int.tdiv (m : Int) 1000 = ((m / 1000 : Nat) : Int) from rfl, w64 (by omega) (by omega)]
  have e1 : Int.tmod (m : Int) 1000 = ((m % 1000 : Nat) : Int) := rfl
  have e2 : Int.tmod (wrap64 (Int.tdiv (m : Int) 100)) 10 = ((m / 100 % 10 : Nat) : Int) := by
    rw [show Int.tdiv (m : Int) 100 = ((m / 100 : Nat) : Int) from rfl, w64 (by omega) (by omega)]
    rfl
  have e3 : Int.tmod (wrap64 (Int.tdiv (m : Int) 10)) 10 = ((m / 10 % 10 : Nat) : Int) := by
    rw [show Int.tdiv (m : Int) 10 = ((m / 10 : Nat) : Int) from rfl, w64 (by omega) (by omega)]
    rfl
  have e4 : Int.tmod (m : Int) 10 = ((m % 10 : Nat) : Int) := rfl
  have d0 := dec_size (m / 1000)
  have d1 := dec_size (m / 100 % 10)
  have d2 := dec_size (m / 10 % 10)
  have d3 := dec_size (m % 10)
  have z : (⟨#[46]⟩ : ByteArray).size = 1 := rfl
  rw [e0, l6Dec_is _ (by omega), Option.bind_some, if_pos (by omega), e1]
  by_cases h : m % 1000 = 0
  · rw [if_neg (by omega), if_pos (by rw [ByteArray.size_append]; omega)]
    unfold numT
    rw [if_pos h]
  · rw [if_pos (by omega), e2, l6Dec_is _ (by omega), Option.bind_some, if_pos (by omega), e3, l6Dec_is _ (by omega), Option.bind_some,
      if_pos (by simp only [ByteArray.size_append]; omega), e4, l6Dec_is _ (by omega), Option.bind_some,
      if_pos (by simp only [ByteArray.size_append]; omega), if_pos (by simp only [ByteArray.size_append]; omega), if_pos (by simp only [ByteArray.size_append]; omega)]
    unfold numT
    rw [if_neg h, three (m % 1000) (by omega), show m % 1000 / 100 = m / 100 % 10 by omega, show m % 1000 / 10 % 10 = m / 10 % 10 by omega, show m % 1000 % 10 = m % 10 by omega]
    simp only [ByteArray.append_assoc]
theorem esc_drop (s : ByteArray) (i : Nat) (h : i < s.size) : escI ((bytesOf s).drop i) = (if sp (bt s (i : Int)) = true then [92, bt s (i : Int)] else [bt s (i : Int)]) ++ escI ((bytesOf s).drop (i + 1)) := by
  have hl : i < (bytesOf s).length := by rw [bytesOf_length]; exact h
  rw [List.drop_eq_getElem_cons hl, bytesOf_get s i h]
  rfl
theorem esc_is (s u : ByteArray) (a b : Int) (hs : s.size ≤ 1048576) (d : Nat) : ∀ (i : Nat) (xs : List Int), i + d = s.size → xs.length ≤ 2 * i + 1 → spec_l6Spell.L0 xs (i : Int) a s b u = some (strOfNums (xs ++ escI ((bytesOf s).drop i) ++ [34])) := by
  induction d with
  | zero =>
    intro i xs hi hx
    rw [spec_l6Spell.L0_eq, if_neg (by omega), if_pos (by omega), List.drop_eq_nil_of_le (by rw [bytesOf_length]; omega)]
    show _ = some (strOfNums (xs ++ [] ++ [34]))
    rw [List.append_nil]
  | succ d ih =>
    intro i xs hi hx
    have hi' : i < s.size := by omega
    have w : wrap64 ((i : Int) + 1) = ((i + 1 : Nat) : Int) := by rw [w64 (by omega) (by omega)]; rfl
    rw [spec_l6Spell.L0_eq, if_pos (by omega), if_pos (by omega), esc_drop s i hi', w]
    have two : ∀ c : Int, bt s (i : Int) = c → sp c = true → (if xs.length < 140737488355328 then ((some (xs ++ [92] : List Int)).bind fun y139 => (if y139.length < 140737488355328 then (spec_l6Spell.L0 (y139 ++ [bt s (i : Int)]) ((i + 1 : Nat) : Int) a s b u) else (none))) else (none)) = some (strOfNums (xs ++ ((if sp (bt s (i : Int)) = true then [92, bt s (i : Int)] else [bt s (i : Int)]) ++ escI ((bytesOf s).drop (i + 1))) ++ [34])) := by
      intro c hc hsp
      rw [hc, if_pos hsp, if_pos (by omega), Option.bind_some, if_pos (by rw [List.length_append]; show xs.length + 1 < _; omega)]
      rw [ih (i + 1) _ (by omega) (by simp only [List.length_append, List.length_cons, List.length_nil]; omega)]
      simp
    by_cases c1 : bt s (i : Int) = 34
    · rw [if_pos c1]; exact two 34 c1 rfl
    rw [if_neg c1]
    by_cases c2 : bt s (i : Int) = 92
    · rw [if_pos c2]; exact two 92 c2 rfl
    rw [if_neg c2]
    by_cases c3 : bt s (i : Int) = 10
    · rw [if_pos c3]; exact two 10 c3 rfl
    rw [if_neg c3, if_pos (by omega)]
    have ns : sp (bt s (i : Int)) = false := by
      unfold sp
      rw [beq_eq_false_iff_ne.mpr c1, beq_eq_false_iff_ne.mpr c2, beq_eq_false_iff_ne.mpr c3]
      rfl
    rw [ns, if_neg (by decide), ih (i + 1) _ (by omega) (by simp only [List.length_append, List.length_cons, List.length_nil]; omega)]
    simp
theorem spell_is (k n : Int) (t u : ByteArray) (ht : t.size ≤ 1048576) (hu : u.size ≤ 1048576) (h6 : k = 6 → -1000000000 ≤ n ∧ n ≤ 1000000000) : spec_l6Spell.F k t n u = some (spellS k t n u) ∧ (spellS k t n u).size ≤ 4000000 := by
  have z1 : (⟨#[40]⟩ : ByteArray).size = 1 := rfl
  have z2 : (⟨#[64]⟩ : ByteArray).size = 1 := rfl
  have z3 : (⟨#[35]⟩ : ByteArray).size = 1 := rfl
  have z4 : (⟨#[34]⟩ : ByteArray).size = 1 := rfl
  have z5 : (⟨#[32]⟩ : ByteArray).size = 1 := rfl
  rw [spec_l6Spell.F_eq]
  unfold spellS
  by_cases c2 : k = 2
  · rw [if_pos c2, if_pos c2, if_pos (by omega)]
    exact ⟨rfl, by rw [ByteArray.size_append]; omega⟩
  rw [if_neg c2, if_neg c2]
  by_cases c3 : k = 3
  · rw [if_pos c3, if_pos c3, if_pos (by omega)]
    exact ⟨rfl, by rw [ByteArray.size_append]; omega⟩
  rw [if_neg c3, if_neg c3]
  by_cases c4 : k = 4
  · rw [if_pos c4, if_pos c4, if_pos (by omega)]
    exact ⟨rfl, by rw [ByteArray.size_append]; omega⟩
  rw [if_neg c4, if_neg c4]
  by_cases c5 : k = 5
  · rw [if_neg (by omega), if_pos c5, if_pos c5]
    have h := esc_is t u k n ht t.size 0 [34] (by omega) (by simp)
    have es := esc_size t ht
    refine ⟨?_, by rw [ByteArray.size_append, ByteArray.size_append]; omega⟩
    rw [show (0 : Int) = ((0 : Nat) : Int) from rfl, h, List.drop_zero, strOf_app, strOf_app]
    rfl
  by_cases c8 : k = 8
  · rw [if_pos c8, if_neg c5, if_neg (by omega), if_pos c8]
    exact ⟨rfl, by omega⟩
  rw [if_neg c8, if_neg c5, if_neg c5]
  by_cases c6 : k = 6
  · rw [if_pos c6, if_pos c6]
    obtain ⟨h0, h1⟩ := h6 c6
    unfold numS
    by_cases hn : n < 0
    · rw [if_pos hn, if_pos hn]
      have w : wrap64 (-n) = ((n.natAbs : Nat) : Int) := by rw [w64 (by omega) (by omega)]; omega
      have e := numT_size ⟨#[45]⟩ n.natAbs (Nat.le_refl 1) (by omega)
      rw [w, j1_is n.natAbs ⟨#[45]⟩ u t k n (by omega) (Nat.le_refl 1) hu]
      exact ⟨rfl, by rw [ByteArray.size_append]; omega⟩
    · rw [if_neg hn, if_neg hn]
      have e := numT_size ⟨#[]⟩ n.natAbs (Nat.zero_le 1) (by omega)
      have w : n = ((n.natAbs : Nat) : Int) := by omega
      have j := j1_is n.natAbs ⟨#[]⟩ u t k n (by omega) (Nat.zero_le 1) hu
      rw [← w] at j
      rw [j]
      exact ⟨rfl, by rw [ByteArray.size_append]; omega⟩
  rw [if_neg c6, if_neg c6, if_neg c8]
  exact ⟨rfl, by omega⟩
theorem ok6 (s u : ByteArray) (n : Int) (h : impl_WordOk.F 6 s n u = some true) : -1000000000 ≤ n ∧ n ≤ 1000000000 := by
  rw [impl_WordOk.F_eq, if_pos rfl, impl_WordOk.J0_eq, if_neg (by decide), if_neg (by decide), if_neg (by decide), impl_WordOk.J1_eq, if_neg (by decide), if_neg (by decide), if_neg (by decide), if_pos rfl] at h
  have fin : ∀ h' : (if n ≥ (-1000000000) then (some (decide (n ≤ 1000000000))) else (some false)) = some true, -1000000000 ≤ n ∧ n ≤ 1000000000 := by
    intro h'
    by_cases c : n ≥ -1000000000
    · rw [if_pos c] at h'
      exact ⟨c, of_decide_eq_true (Option.some.inj h')⟩
    · rw [if_neg c] at h'
      cases Option.some.inj h'
  have nope : ¬ (some false = some true) := by decide
  by_cases c1 : u.toList = ([] : List UInt8)
  · rw [if_pos c1] at h
    by_cases c2 : s.toList = ([] : List UInt8)
    · rw [if_pos c2] at h; exact fin h
    · rw [if_neg c2] at h; exact absurd h nope
  rw [if_neg c1] at h
  by_cases c3 : u.toList = ([37] : List UInt8)
  · rw [if_pos c3] at h
    by_cases c2 : s.toList = ([] : List UInt8)
    · rw [if_pos c2] at h; exact fin h
    · rw [if_neg c2] at h; exact absurd h nope
  rw [if_neg c3] at h
  obtain ⟨x, _, h⟩ := Option.bind_eq_some_iff.1 h
  by_cases c4 : x = true
  · rw [if_pos c4] at h
    obtain ⟨y, _, h⟩ := Option.bind_eq_some_iff.1 h
    by_cases c2 : s.toList = ([] : List UInt8)
    · rw [if_pos c2] at h
      by_cases c5 : y.toList = u.toList
      · rw [if_pos c5] at h; exact fin h
      · rw [if_neg c5] at h; exact absurd h nope
    · rw [if_neg c2] at h; exact absurd h nope
  · rw [if_neg c4] at h
    by_cases c2 : s.toList = ([] : List UInt8)
    · rw [if_pos c2] at h; exact absurd h nope
    · rw [if_neg c2] at h; exact absurd h nope
def IB (l : List UInt8) : List Int := l.map fun b => (b.toNat : Int)
theorem ib_app (a b : List UInt8) : IB (a ++ b) = IB a ++ IB b := List.map_append
theorem ib_len (a : List UInt8) : (IB a).length = a.length := List.length_map _
theorem ib_str (a : List UInt8) : strOfNums (IB a) = ⟨a.toArray⟩ := by
  unfold strOfNums IB
  rw [List.map_map]
  congr 2
  have : ∀ x ∈ a, ((fun n : Int => UInt8.ofNat n.toNat) ∘ fun b : UInt8 => (b.toNat : Int)) x = x := by
    intro x _
    simp only [Function.comp]
    rw [Int.toNat_natCast, UInt8.ofNat_toNat]
  rw [List.map_congr_left this, List.map_id']
theorem ib_bytes (s : ByteArray) : bytesOf s = IB s.data.toList := rfl
theorem gap_size (l : List S34) (i : Nat) : (gapS l i).length ≤ 4 := by unfold gapS; split <;> decide
theorem loop_is (l : List S34) (hl : l.length ≤ 60000) (hz : ∀ i : Nat, i < l.length → (rd_T34 l (i : Int)).f1.size ≤ 1048576 ∧ (rd_T34 l (i : Int)).f3.size ≤ 1048576) (d : Nat) : ∀ (i : Nat) (acc : List UInt8), i + d = l.length → acc.length ≤ i * 4000004 →
    ∃ r, spec_Spell.L0 l (IB acc) (i : Int) = some r ∧ impl_Spell.Ld l d i acc = some r := by
  induction d with
  | zero =>
    intro i acc hi _
    rw [spec_Spell.L0_eq, if_neg (by omega), impl_Spell.Ld_zero]
    exact ⟨_, rfl, by rw [ib_str]⟩
  | succ d ih =>
    intro i acc hi ha
    obtain ⟨s1, s3⟩ := hz i (by omega)
    rw [spec_Spell.L0_eq, if_pos (by omega), if_pos (by omega), impl_Spell.Ld_succ]
    obtain ⟨b, w1, w2⟩ := word_both (rd_T34 l (i : Int)).f0 (rd_T34 l (i : Int)).f1 (rd_T34 l (i : Int)).f2 (rd_T34 l (i : Int)).f3 s1 s3
    rw [w1, w2]
    simp only [Option.bind_some]
    cases b with
    | false => exact ⟨⟨#[]⟩, by simp, by simp⟩
    | true =>
      have gs := gap_size l i
      have gd : gapS l i = if 0 < i ∧ (rd_T34 l (i : Int)).f0 ≠ 8 ∧ (rd_T34 l ((i : Int) - 1)).f0 ≠ 8 then [47, 42, 42, 47] else [] := rfl
      have ws : wordS (rd_T34 l (i : Int)) = spellS (rd_T34 l (i : Int)).f0 (rd_T34 l (i : Int)).f1 (rd_T34 l (i : Int)).f2 (rd_T34 l (i : Int)).f3 := rfl
      have h6 : (rd_T34 l (i : Int)).f0 = 6 → -1000000000 ≤ (rd_T34 l (i : Int)).f2 ∧ (rd_T34 l (i : Int)).f2 ≤ 1000000000 := by
        intro e6
        rw [e6] at w2
        exact ok6 _ _ _ w2
      have so : sayOk (rd_T34 l (i : Int)) = true := by
        unfold sayOk
        rw [decide_eq_true s1, decide_eq_true s3]
        by_cases e6 : (rd_T34 l (i : Int)).f0 = 6
        · obtain ⟨a0, a1⟩ := h6 e6
          rw [decide_eq_true a0, decide_eq_true a1]
          simp
        · rw [bne_iff_ne.mpr e6]; rfl
      obtain ⟨sp1, sp2⟩ := spell_is (rd_T34 l (i : Int)).f0 (rd_T34 l (i : Int)).f2 (rd_T34 l (i : Int)).f1 (rd_T34 l (i : Int)).f3 s1 s3 h6
      rw [← ws] at sp1 sp2
      simp only [if_true, so]
      rw [if_pos (show acc.length + (4 + (wordS (rd_T34 l (i : Int))).size) ≤ 140737488355328 by omega), sp1]
      generalize wordS (rd_T34 l (i : Int)) = z at sp2 ⊢
      have w : wrap64 ((i : Int) + 1) = ((i + 1 : Nat) : Int) := by rw [w64 (by omega) (by omega)]; rfl
      have zl : z.data.toList.length = z.size := by rw [Array.length_toList]; rfl
      obtain ⟨r, r1, r2⟩ := ih (i + 1) (acc ++ gapS l i ++ z.data.toList) (by omega) (by rw [List.length_append, List.length_append, zl]; omega)
      refine ⟨r, ?_, r2⟩
      rw [ib_app, ib_app] at r1
      simp only [Option.bind_some, ib_bytes, w, ib_len]
      by_cases g1 : 0 < i
      · have w1 : wrap64 ((i : Int) - 1) = (i : Int) - 1 := w64 (by omega) (by omega)
        rw [if_pos (show (i : Int) > 0 by omega), w1]
        by_cases g2 : (rd_T34 l (i : Int)).f0 = 8
        · rw [if_pos g2, if_pos (by omega)]
          rw [gd, if_neg (fun h => h.2.1 g2)] at r1
          have e : IB acc ++ IB [] = IB acc := List.append_nil _
          rw [e] at r1
          exact r1
        · rw [if_neg g2, if_pos (by omega), if_pos (by omega)]
          by_cases g3 : (rd_T34 l ((i : Int) - 1)).f0 = 8
          · rw [if_pos g3, if_pos (by omega)]
            rw [gd, if_neg (fun h => h.2.2 g3)] at r1
            have e : IB acc ++ IB [] = IB acc := List.append_nil _
            rw [e] at r1
            exact r1
          · rw [if_neg g3, if_pos (by omega), if_pos (by rw [List.length_append, ib_len, ib_len]; show acc.length + 4 + _ < _; omega)]
            rw [gd, if_pos ⟨g1, g2, g3⟩] at r1
            exact r1
      · rw [if_neg (show ¬ (i : Int) > 0 by omega), if_pos (by omega)]
        rw [gd, if_neg (fun h => g1 h.1)] at r1
        have e : IB acc ++ IB [] = IB acc := List.append_nil _
        rw [e] at r1
        exact r1
theorem spell_both (l : List S34) (hz : ∀ i : Nat, i < l.length → (rd_T34 l (i : Int)).f1.size ≤ 1048576 ∧ (rd_T34 l (i : Int)).f3.size ≤ 1048576) : ∃ r, spec_Spell.F l = some r ∧ impl_Spell.F l = some r := by
  rw [spec_Spell.F_eq, impl_Spell.F_eq]
  by_cases h : (l.length : Int) > 60000
  · rw [if_pos h, if_pos h]
    exact ⟨_, rfl, rfl⟩
  · rw [if_neg h, if_neg h]
    exact loop_is l (by omega) hz l.length 0 [] (by omega) (by simp)
end Go.Proofs.YtonmeoaponeadaaGreatDoor.QFnExactSpell
