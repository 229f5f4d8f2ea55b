import Derived.Test.YtonmeoaponeadaaGreatDoorCharsSpell
/- Words of the printed proofs, as far as these texts use them. -/
namespace Go.Proofs.YtonmeoaponeadaaGreatDoor.QFnExactSpell
open Go Go.RowKit Go.Proofs.YtonmeoaponeadaaGreatDoorV.PrintWords Go.Proofs.YtonmeoaponeadaaGreatDoorV.PrintLast Go.Proofs.YtonmeoaponeadaaGreatDoorV.PrintMore Go.Proofs.YtonmeoaponeadaaGreatDoor.Val
set_option linter.unusedVariables false
set_option linter.unusedSimpArgs false
theorem lower_byte (c : Int) (h : 0 ≤ c ∧ c ≤ 255) : spec_l1LowerByte.f c = some (lowI c) := by
  unfold spec_l1LowerByte.f lowI
  by_cases h1 : c ≥ 65
  · rw [if_pos h1]
    by_cases h2 : c ≤ 90
    · rw [if_pos h2, if_pos ⟨h1, h2⟩]
      congr 1
      omega
    · rw [if_neg h2, if_neg (by omega)]
  · rw [if_neg h1, if_neg (by omega)]
theorem lower_s (s : ByteArray) (hs : s.size ≤ 1048576) : spec_l1Lower.F s = some (lowB s) := by
  have key : ∀ (d i : Nat) (out : List Int), i + d = s.size → out.length = i → spec_l1Lower.L0 s out i = some (strOfNums (out ++ ((bytesOf s).drop i).map lowI)) := by
    intro d
    induction d with
    | zero =>
      intro i out h ho
      rw [spec_l1Lower.L0_eq, if_neg (by omega), List.drop_of_length_le (by rw [bytesOf_length]; omega)]
      simp
    | succ d ih =>
      intro i out h ho
      have hlt : i < s.size := by omega
      rw [spec_l1Lower.L0_eq, if_pos (by omega), if_pos (by omega), lower_byte _ (Go.Proofs.YtonmeoaponeadaaGreatDoor.Val.bt_range s i), Option.bind_some, if_pos (by omega), w64 (by omega : -9223372036854775808 ≤ (i : Int) + 1) (by omega)]
      have := ih (i + 1) (out ++ [lowI (bt s i)]) (by omega) (by simp [ho])
      have e : ((i + 1 : Nat) : Int) = (i : Int) + 1 := by omega
      rw [e] at this
      rw [this]
      have hl : i < (bytesOf s).length := by rw [bytesOf_length]; exact hlt
      rw [List.drop_eq_getElem_cons hl, List.map_cons, bytesOf_get s i hlt, List.append_assoc]
      rfl
  rw [spec_l1Lower.F_eq]
  have := key s.size 0 [] (by omega) rfl
  exact this
theorem lower_i (s : ByteArray) (hs : s.size ≤ 1048576) : impl_lower.F s = some (lowB s) := by
  rw [impl_lower.F_eq, if_pos (by omega)]
theorem scan (s : ByteArray) (hs : s.size ≤ 1048576) (d : Nat) : ∀ i : Nat, i + d = s.size →
    ∃ j : Nat, i ≤ j ∧ j ≤ s.size ∧ impl_hashAt.L0 s i = some (j : Int) ∧ (∀ a : Nat, a ≤ i → spec_l6Name.L0 s a i = some (s.extract a j)) ∧
      (∀ (x : Bool) (k n : Int) (u : ByteArray), spec_WordOk.L0 x i k s n u = if j = s.size then (if x = true then some (s.toList != ([] : List UInt8)) else some false) else some false) := by
  induction d with
  | zero =>
    intro i h
    refine ⟨i, Nat.le_refl _, by omega, ?_, ?_, ?_⟩
    · rw [impl_hashAt.L0_eq, if_neg (by omega)]
    · intro a ha
      rw [spec_l6Name.L0_eq, if_neg (by omega), if_pos (by omega), if_pos (by omega), if_pos (by omega)]
      rfl
    · intro x k n u
      rw [spec_WordOk.L0_eq, if_neg (by omega), if_pos (show i = s.size by omega)]
  | succ d ih =>
    intro i h
    have hlt : (i : Int) < s.size := by omega
    have e : ((i + 1 : Nat) : Int) = (i : Int) + 1 := by omega
    by_cases c : innerB (bt s i) = true
    · obtain ⟨j, h1, h2, h3, h4, h5⟩ := ih (i + 1) (by omega)
      rw [e] at h3 h4 h5
      refine ⟨j, by omega, h2, ?_, ?_, ?_⟩
      · rw [impl_hashAt.L0_eq, if_pos hlt, if_pos (by omega), inner_i, Option.bind_some, if_pos c, w64 (by omega) (by omega), h3]
      · intro a ha
        rw [spec_l6Name.L0_eq, if_pos hlt, if_pos (by omega), inner_s, Option.bind_some, if_pos c, w64 (by omega) (by omega), h4 a (by omega)]
      · intro x k n u
        rw [spec_WordOk.L0_eq, if_pos hlt, if_pos (by omega), inner_s, Option.bind_some, if_pos c, w64 (by omega) (by omega), h5]
    · refine ⟨i, Nat.le_refl _, by omega, ?_, ?_, ?_⟩
      · rw [impl_hashAt.L0_eq, if_pos hlt, if_pos (by omega), inner_i, Option.bind_some, if_neg c]
      · intro a ha
        rw [spec_l6Name.L0_eq, if_pos hlt, if_pos (by omega), inner_s, Option.bind_some, if_neg c, if_pos (by omega), if_pos (by omega), if_pos (by omega)]
        rfl
      · intro x k n u
        rw [spec_WordOk.L0_eq, if_pos hlt, if_pos (by omega), inner_s, Option.bind_some, if_neg c, if_neg (show ¬ i = s.size by omega)]
theorem name_both (s : ByteArray) (hs : s.size ≤ 1048576) : ∃ b, spec_l6IsName.F s = some b ∧ impl_isName.F s = some b := by
  rw [spec_l6IsName.F_eq, impl_isName.F_eq]
  by_cases hz : s.toList = []
  · rw [if_pos hz, if_pos hz]
    exact ⟨false, rfl, rfl⟩
  rw [if_neg hz, if_neg hz]
  have hpos : 0 < s.size := by
    have := mt toList_nil.2 hz
    omega
  obtain ⟨j, _, hj, h3, h4, _⟩ := scan s hs s.size 0 (by omega)
  have h4' := h4 0 (Nat.le_refl _)
  have z : ((0 : Nat) : Int) = 0 := rfl
  rw [z] at h3 h4'
  have yes : ∃ b, (spec_l6Name.J0 s 0).bind (fun t108 => some (t108.toList == s.toList)) = some b ∧ ((impl_hashAt.F s).bind (fun t134 => some t134)).bind (fun t138 => some (t138 == (s.size : Int))) = some b := by
    rw [spec_l6Name.J0_eq, h4', impl_hashAt.F_eq, h3]
    simp only [Option.bind_some]
    refine ⟨decide (j = s.size), ?_, ?_⟩
    · congr 1
      rw [beq_toList, Bool.eq_iff_iff, decide_eq_true_iff, decide_eq_true_iff]
      exact extract_eq s j hj
    · congr 1
      rw [Bool.eq_iff_iff, decide_eq_true_iff, beq_iff_eq]
      omega
  have no : ∃ b, (some (⟨#[]⟩ : ByteArray)).bind (fun t108 => some (t108.toList == s.toList)) = some b ∧ (some (0 : Int)).bind (fun t138 => some (t138 == (s.size : Int))) = some b := by
    refine ⟨false, ?_, ?_⟩
    · rw [Option.bind_some]
      congr 1
      rw [beq_toList, decide_eq_false_iff_not]
      intro h
      rw [← h] at hpos
      exact absurd hpos (by decide)
    · rw [Option.bind_some]
      congr 1
      rw [beq_eq_false_iff_ne]
      omega
  have hw : wrap64 (0 + 1) = 1 := by decide +kernel
  have g0 : ¬ ((0 : Int) ≥ (s.size : Int)) := by omega
  have g1 : (0 : Int) < (s.size : Int) := by omega
  rw [spec_l6Name.F_eq, impl_nameAt.F_eq, if_neg g0, if_neg hz]
  simp only [hw, begin_s, begin_i, Option.bind_some, if_pos g1, if_pos (Int.le_refl 0), if_pos (show (0 : Int) ≤ 1 by omega)]
  by_cases hd : bt s 0 = 45
  · rw [if_pos hd]
    simp only [hd, begin_dash, Bool.false_eq_true, if_false, if_true]
    by_cases h1 : (s.size : Int) > 1
    · have h2 : ¬ ((1 : Int) ≥ (s.size : Int)) := by omega
      have h3 : (1 : Int) < (s.size : Int) := by omega
      rw [if_neg h2]
      simp only [if_pos h1, if_pos h3]
      by_cases hb : beginB (bt s 1) = true
      · rw [if_pos hb, if_pos hb]
        exact yes
      · rw [if_neg hb, if_neg hb]
        by_cases hq : bt s 1 = 45
        · rw [if_pos hq, if_pos hq]
          exact yes
        · rw [if_neg hq, if_neg hq]
          exact no
    · have h2 : ((1 : Int) ≥ (s.size : Int)) := by omega
      rw [if_pos h2, if_neg h1]
      exact no
  · rw [if_neg hd]
    by_cases hb : beginB (bt s 0) = true
    · rw [if_pos hb, if_pos hb]
      exact yes
    · rw [if_neg hb, if_neg hb, if_neg hd]
      exact no
theorem sign_both (s : ByteArray) (k n : Int) (u : ByteArray) : ∃ b, spec_WordOk.J3 ((s.size : Int) != 1) k s n u = some b ∧ impl_signOk.f s = some b := by
  rw [spec_WordOk.J3_eq]
  unfold impl_signOk.f
  by_cases h : (s.size : Int) = 1
  · have h' : ¬ (((s.size : Int) != 1) = true) := by simpa using h
    have g1 : (0 : Int) < (s.size : Int) := by omega
    rw [if_neg h', if_pos h]
    simp only [if_pos g1, white_s, white_i, digit_s, digit_i, begin_s, begin_i, Option.bind_some]
    split
    · exact ⟨false, rfl, rfl⟩
    · split
      · exact ⟨false, rfl, rfl⟩
      · split
        · exact ⟨false, rfl, rfl⟩
        · split
          · exact ⟨false, rfl, rfl⟩
          · exact ⟨_, rfl, rfl⟩
  · have h' : ((s.size : Int) != 1) = true := by simpa using h
    rw [if_pos h', if_neg h]
    exact ⟨false, rfl, rfl⟩
theorem word_at (s u : ByteArray) (hs : s.size ≤ 1048576) (n : Int) : ∃ b, ((spec_l6IsName.F s).bind fun t118 => (if t118 = true then ((spec_l1Lower.F s).bind fun t119 => (some (t119.toList == s.toList))) else (some false))) = some b ∧
    ((impl_isName.F s).bind fun t151 => (if t151 = true then ((impl_lower.F s).bind fun t152 => (some (t152.toList == s.toList))) else (some false))) = some b := by
  obtain ⟨b, e1, e2⟩ := name_both s hs
  rw [e1, e2, lower_s s hs, lower_i s hs]
  simp only [Option.bind_some]
  cases b
  · exact ⟨false, rfl, rfl⟩
  · exact ⟨_, rfl, rfl⟩
theorem hash_both (s : ByteArray) (hs : s.size ≤ 1048576) (k n : Int) (u : ByteArray) : ∃ b, spec_WordOk.L0 true 0 k s n u = some b ∧ (if s.toList = ([] : List UInt8) then (some false) else ((impl_hashAt.F s).bind fun t153 => (some (t153 == (s.size : Int))))) = some b := by
  obtain ⟨j, _, hj, h3, _, h5⟩ := scan s hs s.size 0 (by omega)
  have z : ((0 : Nat) : Int) = 0 := rfl
  rw [z] at h3 h5
  rw [h5, impl_hashAt.F_eq, h3]
  by_cases hz : s.toList = []
  · rw [if_pos hz]
    refine ⟨false, ?_, rfl⟩
    simp [hz]
  · rw [if_neg hz, Option.bind_some]
    by_cases c : j = s.size
    · rw [if_pos c, if_pos rfl]
      refine ⟨true, ?_, ?_⟩
      · simp [hz]
      · simp [c]
    · rw [if_neg c]
      refine ⟨false, rfl, ?_⟩
      congr 1
      rw [beq_eq_false_iff_ne]
      omega
theorem hash_false (s : ByteArray) (hs : s.size ≤ 1048576) (k n : Int) (u : ByteArray) : spec_WordOk.L0 false 0 k s n u = some false := by
  obtain ⟨j, _, hj, _, _, h5⟩ := scan s hs s.size 0 (by omega)
  have z : ((0 : Nat) : Int) = 0 := rfl
  rw [z] at h5
  rw [h5]
  simp
theorem six_both (s u : ByteArray) (hs : s.size ≤ 1048576) (hu : u.size ≤ 1048576) (n : Int) (x : Bool) : ∃ b, spec_WordOk.J1 x 6 false 6 s n u = some b ∧ impl_WordOk.J1 6 false 6 s n u = some b := by
  rw [spec_WordOk.J1_eq, impl_WordOk.J1_eq]
  simp only [Bool.false_eq_true, if_false, Int.reduceEq, if_true]
  obtain ⟨b, e1, e2⟩ := name_both u hu
  rw [e1, e2, lower_s u hu, lower_i u hu]
  simp only [Option.bind_some]
  repeat (first | exact ⟨_, rfl, rfl⟩ | split)
theorem word_both (k : Int) (s : ByteArray) (n : Int) (u : ByteArray) (hs : s.size ≤ 1048576) (hu : u.size ≤ 1048576) : ∃ r, spec_WordOk.F k s n u = some r ∧ impl_WordOk.F k s n u = some r := by
  have hx : ∃ x : Bool, spec_WordOk.F k s n u = spec_WordOk.J0 x k s n u ∧ impl_WordOk.F k s n u = if k = 6 then impl_WordOk.J0 false k s n u else impl_WordOk.J0 (!x) k s n u := by
    rw [spec_WordOk.F_eq, impl_WordOk.F_eq]
    by_cases hn : n = 0
    · refine ⟨u.toList == ([] : List UInt8), ?_, ?_⟩
      · rw [if_pos hn]
      · rw [if_pos hn]
        rfl
    · refine ⟨false, ?_, ?_⟩
      · rw [if_neg hn]
      · rw [if_neg hn]
        rfl
  obtain ⟨x, e1, e2⟩ := hx
  rw [e1, e2]
  by_cases h6 : k = 6
  · subst h6
    rw [if_pos rfl, spec_WordOk.J0_eq, impl_WordOk.J0_eq]
    simp only [Bool.false_eq_true, if_false, Int.reduceEq]
    exact six_both s u hs hu n x
  · rw [if_neg h6, spec_WordOk.J0_eq, impl_WordOk.J0_eq]
    simp only [spec_WordOk.J1_eq, impl_WordOk.J1_eq]
    cases x
    · simp only [Bool.not_false, if_true, Bool.false_eq_true, if_false, hash_false s hs, spec_WordOk.J3_eq]
      refine ⟨false, ?_, rfl⟩
      simp only [if_neg h6]
      repeat (first | rfl | split)
    · simp only [Bool.not_true, Bool.false_eq_true, if_false, if_true]
      by_cases h1 : k = 1
      · rw [if_pos h1, if_pos h1]
        obtain ⟨b, a1, a2⟩ := name_both s hs
        rw [a1, a2]
        exact ⟨b, rfl, rfl⟩
      rw [if_neg h1, if_neg h1]
      by_cases h2 : k = 2
      · subst h2
        simp only [if_true, beq_self_eq_true]
        exact word_at s u hs n
      rw [if_neg h2, if_neg h2]
      by_cases h3 : k = 3
      · subst h3
        simp only [if_true, beq_self_eq_true]
        exact word_at s u hs n
      have h3' : (k == 3) = false := by simpa using h3
      rw [h3']
      simp only [Bool.false_eq_true, if_false]
      by_cases h4 : k = 4
      · rw [if_pos h4, if_pos h4]
        exact hash_both s hs k n u
      rw [if_neg h4, if_neg h4]
      by_cases h5 : k = 5
      · rw [if_pos h5, if_pos h5]
        exact ⟨true, rfl, rfl⟩
      rw [if_neg h5, if_neg h5, if_neg h6, if_neg h6]
      by_cases h7 : k = 7
      · rw [if_pos h7, if_pos h7]
        obtain ⟨b, a1, a2⟩ := sign_both s k n u
        rw [a1, a2]
        exact ⟨b, rfl, rfl⟩
      rw [if_neg h7, if_neg h7]
      by_cases h8 : k = 8
      · rw [if_pos h8]
        exact ⟨_, rfl, rfl⟩
      rw [if_neg h8]
      exact ⟨false, rfl, rfl⟩
end Go.Proofs.YtonmeoaponeadaaGreatDoor.QFnExactSpell
