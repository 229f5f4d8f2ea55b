/- FnExactParseColor, the plain side. -/
import Derived.Test.YtjoanlocikagaaaWordSC
import Derived.Test.YtjoanlocikagaaaWTrimC
import Derived.Test.YtjoanlocikagaaaLowerC
namespace Go.Proofs.Ytjoanlocikagaaa.QFnExactParseColor
open Go Go.RowKit Go.Proofs.YtjoanlocikagaaaW.PrintWords Go.Proofs.YtjoanlocikagaaaW.PrintLast Go.Proofs.YtjoanlocikagaaaW.PrintMore Go.Proofs.Ytjoanlocikagaaa.Val Go.Proofs.Ytjoanlocikagaaa.MapObj
set_option linter.unusedVariables false
set_option linter.unusedSimpArgs false

theorem hex_both (c : Int) (h : 0 ≤ c ∧ c ≤ 255) : ∃ a b : Int, spec_l2Hex.F c = some a ∧ impl_digitOf.F c true = some b ∧ ((a > 15 ∧ b < 0) ∨ (¬ a > 15 ∧ ¬ b < 0 ∧ a = b)) := by
  rw [spec_l2Hex.F_eq, impl_digitOf.F_eq]
  unfold spec_l1Digit.f impl_isDigit.f
  simp only [spec_l2Hex.J0_eq, impl_digitOf.J0_eq]
  by_cases h1 : c ≥ 48
  · by_cases h2 : c ≤ 57
    · simp only [h1, h2, decide_true, if_true, Option.bind_some]
      exact ⟨_, _, rfl, rfl, .inr ⟨by omega, by omega, rfl⟩⟩
    · by_cases h3 : c ≥ 97
      · by_cases h4 : c ≤ 102
        · simp only [h1, h2, h3, h4, decide_true, decide_false, if_true, if_false, Option.bind_some, Bool.false_eq_true]
          exact ⟨_, _, rfl, rfl, .inr ⟨by omega, by omega, rfl⟩⟩
        · have h5 : c ≥ 65 := by omega
          have h6 : ¬ c ≤ 70 := by omega
          simp only [h1, h2, h3, h4, h5, h6, decide_true, decide_false, if_true, if_false, Option.bind_some, Bool.false_eq_true]
          exact ⟨_, _, rfl, rfl, .inl ⟨by omega, by omega⟩⟩
      · by_cases h5 : c ≥ 65
        · by_cases h6 : c ≤ 70
          · simp only [h1, h2, h3, h5, h6, decide_true, decide_false, if_true, if_false, Option.bind_some, Bool.false_eq_true]
            exact ⟨_, _, rfl, rfl, .inr ⟨by omega, by omega, rfl⟩⟩
          · simp only [h1, h2, h3, h5, h6, decide_true, decide_false, if_true, if_false, Option.bind_some, Bool.false_eq_true]
            exact ⟨_, _, rfl, rfl, .inl ⟨by omega, by omega⟩⟩
        · simp only [h1, h2, h3, h5, decide_true, decide_false, if_true, if_false, Option.bind_some, Bool.false_eq_true]
          exact ⟨_, _, rfl, rfl, .inl ⟨by omega, by omega⟩⟩
  · have h3 : ¬ c ≥ 97 := by omega
    have h5 : ¬ c ≥ 65 := by omega
    simp only [h1, h3, h5, decide_true, decide_false, if_true, if_false, Option.bind_some, Bool.false_eq_true]
    exact ⟨_, _, rfl, rfl, .inl ⟨by omega, by omega⟩⟩
theorem hash_loop (s : ByteArray) (hs : s.size ≤ 1048576) (a : Int) (b : Int) (e : ByteArray) : ∀ (d i : Nat) (n : Int), i + d = s.size → ∃ r, spec_ParseColor.L1 s n i = some r ∧ impl_ParseColor.L0 n s.size i a s b e = some r
  | 0, i, n, h => by
    rw [spec_ParseColor.L1_eq, impl_ParseColor.L0_eq, if_neg (by omega), if_neg (by omega)]
    exact ⟨_, rfl, rfl⟩
  | d + 1, i, n, h => by
    obtain ⟨p, q, h1, h2, h3⟩ := hex_both (bt s i) (Val.bt_range s i)
    have hw : wrap64 ((i : Int) + 1) = ((i + 1 : Nat) : Int) := by rw [w64 (by omega) (by omega)]; rfl
    have es : spec_ParseColor.L1 s n i = (if p > 15 then (some (0, false)) else (if (s.size : Int) = 3 then (spec_ParseColor.L1 s (wrap64 ((wrap64 ((wrap64 ((wrap64 (n * 16)) + p)) * 16)) + p)) ((i + 1 : Nat) : Int)) else (spec_ParseColor.L1 s (wrap64 ((wrap64 (n * 16)) + p)) ((i + 1 : Nat) : Int)))) := by
      rw [spec_ParseColor.L1_eq, if_pos (by omega), if_pos (by omega), h1, Option.bind_some, hw]
    have ei : impl_ParseColor.L0 n s.size i a s b e = (if q < 0 then (some (0, false)) else (if (s.size : Int) = 3 then (impl_ParseColor.L0 (wrap64 ((wrap64 ((wrap64 ((wrap64 (n * 16)) + q)) * 16)) + q)) s.size ((i + 1 : Nat) : Int) a s b e) else (impl_ParseColor.L0 (wrap64 ((wrap64 (n * 16)) + q)) s.size ((i + 1 : Nat) : Int) a s b e))) := by
      rw [impl_ParseColor.L0_eq, if_pos (by omega), if_pos (by omega), if_pos (by omega), h2, Option.bind_some, hw]
    rw [es, ei]
    rcases h3 with ⟨k1, k2⟩ | ⟨k1, k2, rfl⟩
    · rw [if_pos k1, if_pos k2]
      exact ⟨_, rfl, rfl⟩
    · rw [if_neg k1, if_neg k2]
      by_cases c : (s.size : Int) = 3
      · rw [if_pos c, if_pos c]
        exact hash_loop s hs a b e d (i + 1) _ (by omega)
      · rw [if_neg c, if_neg c]
        exact hash_loop s hs a b e d (i + 1) _ (by omega)

def names : List ByteArray := [(⟨#[98, 108, 97, 99, 107]⟩ : ByteArray), (⟨#[119, 104, 105, 116, 101]⟩ : ByteArray), (⟨#[114, 101, 100]⟩ : ByteArray), (⟨#[103, 114, 101, 101, 110]⟩ : ByteArray), (⟨#[98, 108, 117, 101]⟩ : ByteArray), (⟨#[121, 101, 108, 108, 111, 119]⟩ : ByteArray), (⟨#[103, 114, 97, 121]⟩ : ByteArray), (⟨#[110, 97, 118, 121]⟩ : ByteArray), (⟨#[116, 101, 97, 108]⟩ : ByteArray), (⟨#[109, 97, 114, 111, 111, 110]⟩ : ByteArray), (⟨#[115, 105, 108, 118, 101, 114]⟩ : ByteArray), (⟨#[111, 114, 97, 110, 103, 101]⟩ : ByteArray)]
def numbers : List Int := [0, 16777215, 16711680, 32768, 255, 16776960, 8421504, 128, 32896, 8388608, 12632256, 16753920]
theorem name_step (x : List S96) (hx : 0 < (x.length : Int)) (t : ByteArray) (ht : spec_l1Lower.F (rd_T96 x 0).f1 = some t) (i : Nat) (hi : i < 12) (nm : ByteArray) (nu : Int) (hn : rdOf ByteArray.empty names (i : Int) = nm) (hu : rd numbers (i : Int) = nu) :
    spec_ParseColor.L0 x names numbers i = if t = nm then some (nu, true) else spec_ParseColor.L0 x names numbers ((i + 1 : Nat) : Int) := by
  have h1 : names.length = 12 := rfl
  have h2 : numbers.length = 12 := rfl
  have hw : wrap64 ((i : Int) + 1) = ((i + 1 : Nat) : Int) := by rw [w64 (by omega) (by omega)]; rfl
  rw [spec_ParseColor.L0_eq, if_pos (by omega), if_pos hx, ht, Option.bind_some, if_pos (by omega), hw, hn, hu]
  by_cases c : t = nm
  · rw [if_pos c, if_pos (by rw [c]), if_pos (by omega)]
  · rw [if_neg c, if_neg (fun e => c (toList_inj.1 e))]
theorem name_end (x : List S96) : spec_ParseColor.L0 x names numbers (12 : Nat) = spec_ParseColor.J1 x := by
  rw [spec_ParseColor.L0_eq, if_neg (by decide)]
theorem names_both (x : List S96) (hx : 0 < (x.length : Int)) (h1 : (rd_T96 x 0).f0 = 1) (t : ByteArray) (ht : spec_l1Lower.F (rd_T96 x 0).f1 = some t) : spec_ParseColor.L0 x names numbers 0 = some (colN t, colB t) := by
  have hj : spec_ParseColor.J1 x = some (0, false) := by
    rw [spec_ParseColor.J1_eq, if_pos hx, if_neg (by rw [h1]; decide), spec_ParseColor.J2_eq, if_pos rfl]
  have hz : spec_ParseColor.L0 x names numbers 0 = spec_ParseColor.L0 x names numbers ((0 : Nat) : Int) := rfl
  rw [hz]
  rw [name_step x hx t ht 0 (by omega) (⟨#[98, 108, 97, 99, 107]⟩ : ByteArray) 0 rfl rfl, name_step x hx t ht 1 (by omega) (⟨#[119, 104, 105, 116, 101]⟩ : ByteArray) 16777215 rfl rfl, name_step x hx t ht 2 (by omega) (⟨#[114, 101, 100]⟩ : ByteArray) 16711680 rfl rfl, name_step x hx t ht 3 (by omega) (⟨#[103, 114, 101, 101, 110]⟩ : ByteArray) 32768 rfl rfl, name_step x hx t ht 4 (by omega) (⟨#[98, 108, 117, 101]⟩ : ByteArray) 255 rfl rfl, name_step x hx t ht 5 (by omega) (⟨#[121, 101, 108, 108, 111, 119]⟩ : ByteArray) 16776960 rfl rfl, name_step x hx t ht 6 (by omega) (⟨#[103, 114, 97, 121]⟩ : ByteArray) 8421504 rfl rfl, name_step x hx t ht 7 (by omega) (⟨#[110, 97, 118, 121]⟩ : ByteArray) 128 rfl rfl, name_step x hx t ht 8 (by omega) (⟨#[116, 101, 97, 108]⟩ : ByteArray) 32896 rfl rfl, name_step x hx t ht 9 (by omega) (⟨#[109, 97, 114, 111, 111, 110]⟩ : ByteArray) 8388608 rfl rfl, name_step x hx t ht 10 (by omega) (⟨#[115, 105, 108, 118, 101, 114]⟩ : ByteArray) 12632256 rfl rfl, name_step x hx t ht 11 (by omega) (⟨#[111, 114, 97, 110, 103, 101]⟩ : ByteArray) 16753920 rfl rfl, name_end, hj]
  have hm : mget colHist t = if (⟨#[111, 114, 97, 110, 103, 101]⟩ : ByteArray) = t then some (16753920 : Int) else if (⟨#[115, 105, 108, 118, 101, 114]⟩ : ByteArray) = t then some (12632256 : Int) else if (⟨#[109, 97, 114, 111, 111, 110]⟩ : ByteArray) = t then some (8388608 : Int) else if (⟨#[116, 101, 97, 108]⟩ : ByteArray) = t then some (32896 : Int) else if (⟨#[110, 97, 118, 121]⟩ : ByteArray) = t then some (128 : Int) else if (⟨#[103, 114, 97, 121]⟩ : ByteArray) = t then some (8421504 : Int) else if (⟨#[121, 101, 108, 108, 111, 119]⟩ : ByteArray) = t then some (16776960 : Int) else if (⟨#[98, 108, 117, 101]⟩ : ByteArray) = t then some (255 : Int) else if (⟨#[103, 114, 101, 101, 110]⟩ : ByteArray) = t then some (32768 : Int) else if (⟨#[114, 101, 100]⟩ : ByteArray) = t then some (16711680 : Int) else if (⟨#[119, 104, 105, 116, 101]⟩ : ByteArray) = t then some (16777215 : Int) else if (⟨#[98, 108, 97, 99, 107]⟩ : ByteArray) = t then some (0 : Int) else none := rfl
  unfold colN colB
  rw [hm]
  by_cases a0 : t = (⟨#[98, 108, 97, 99, 107]⟩ : ByteArray)
  · rw [if_pos a0, a0]
    first | rfl | decide
  rw [if_neg a0]
  by_cases a1 : t = (⟨#[119, 104, 105, 116, 101]⟩ : ByteArray)
  · rw [if_pos a1, a1]
    first | rfl | decide
  rw [if_neg a1]
  by_cases a2 : t = (⟨#[114, 101, 100]⟩ : ByteArray)
  · rw [if_pos a2, a2]
    first | rfl | decide
  rw [if_neg a2]
  by_cases a3 : t = (⟨#[103, 114, 101, 101, 110]⟩ : ByteArray)
  · rw [if_pos a3, a3]
    first | rfl | decide
  rw [if_neg a3]
  by_cases a4 : t = (⟨#[98, 108, 117, 101]⟩ : ByteArray)
  · rw [if_pos a4, a4]
    first | rfl | decide
  rw [if_neg a4]
  by_cases a5 : t = (⟨#[121, 101, 108, 108, 111, 119]⟩ : ByteArray)
  · rw [if_pos a5, a5]
    first | rfl | decide
  rw [if_neg a5]
  by_cases a6 : t = (⟨#[103, 114, 97, 121]⟩ : ByteArray)
  · rw [if_pos a6, a6]
    first | rfl | decide
  rw [if_neg a6]
  by_cases a7 : t = (⟨#[110, 97, 118, 121]⟩ : ByteArray)
  · rw [if_pos a7, a7]
    first | rfl | decide
  rw [if_neg a7]
  by_cases a8 : t = (⟨#[116, 101, 97, 108]⟩ : ByteArray)
  · rw [if_pos a8, a8]
    first | rfl | decide
  rw [if_neg a8]
  by_cases a9 : t = (⟨#[109, 97, 114, 111, 111, 110]⟩ : ByteArray)
  · rw [if_pos a9, a9]
    first | rfl | decide
  rw [if_neg a9]
  by_cases a10 : t = (⟨#[115, 105, 108, 118, 101, 114]⟩ : ByteArray)
  · rw [if_pos a10, a10]
    first | rfl | decide
  rw [if_neg a10]
  by_cases a11 : t = (⟨#[111, 114, 97, 110, 103, 101]⟩ : ByteArray)
  · rw [if_pos a11, a11]
    first | rfl | decide
  rw [if_neg a11]
  have n : ∀ {u v : ByteArray}, ¬ u = v → ¬ v = u := fun h e => h e.symm
  rw [if_neg (n a11), if_neg (n a10), if_neg (n a9), if_neg (n a8), if_neg (n a7), if_neg (n a6), if_neg (n a5), if_neg (n a4), if_neg (n a3), if_neg (n a2), if_neg (n a1), if_neg (n a0)]
  rfl
theorem color_both (l : List S96) (hl : l.length ≤ 1048576) (hs : ∀ x ∈ l, x.f1.size ≤ 1048576) : ∃ r, spec_ParseColor.F l = some r ∧ impl_ParseColor.F l = some r := by
  rw [spec_ParseColor.F_eq, impl_ParseColor.F_eq, trim_F l hl, trimmed_F l (by omega)]
  simp only [Option.bind_some]
  have hm : ∀ x ∈ trimW l, x ∈ l := fun x hx => by
    unfold trimW trimEnd at hx
    rw [List.mem_reverse] at hx
    have h1 := (List.dropWhile_sublist _).subset hx
    rw [List.mem_reverse] at h1
    exact (List.dropWhile_sublist _).subset h1
  generalize trimW l = t at hm
  by_cases h : (t.length : Int) = 1
  · have hx0 : 0 < (t.length : Int) := by omega
    rw [if_pos h, if_pos h]
    simp only [hx0, if_true]
    have hin : (rd_T96 t 0) ∈ t := by
      unfold rd_T96
      exact getD_mem (i := 0) (by omega) hx0
    have hsz := hs _ (hm _ hin)
    by_cases k1 : (rd_T96 t 0).f0 = 1
    · rw [if_pos k1, if_pos k1, lower_i _ hsz, Option.bind_some]
      exact ⟨_, names_both t hx0 k1 _ (lower_s _ hsz), rfl⟩
    · rw [if_neg k1, if_neg k1, spec_ParseColor.J1_eq]
      simp only [hx0, if_true]
      by_cases k4 : (rd_T96 t 0).f0 = 4
      · rw [if_pos k4, if_pos k4]
        have go : ∀ f : Bool, ∃ r, spec_ParseColor.J2 (rd_T96 t 0).f1 f = some r ∧ impl_ParseColor.J0 f (rd_T96 t 0).f0 (rd_T96 t 0).f1 (rd_T96 t 0).f2 (rd_T96 t 0).f3 = some r := by
          intro f
          rw [spec_ParseColor.J2_eq, impl_ParseColor.J0_eq]
          cases f with
          | true => exact ⟨_, by rw [if_pos rfl], by rw [if_pos rfl]⟩
          | false =>
            rw [if_neg (by simp), if_neg (by simp)]
            exact hash_loop _ hsz _ _ _ _ 0 0 (Nat.zero_add _)
        by_cases k3 : ((rd_T96 t 0).f1.size : Int) = 3
        · rw [if_pos k3, if_pos k3]
          exact go false
        · rw [if_neg k3, if_neg k3]
          exact go _
      · rw [if_neg k4, if_neg k4, spec_ParseColor.J2_eq, impl_ParseColor.J0_eq, if_pos rfl, if_pos rfl]
        exact ⟨_, rfl, rfl⟩
  · rw [if_neg h, if_neg h]
    exact ⟨_, rfl, rfl⟩

theorem FnExactParseColor_pure (l : List S94) (h : l.length ≤ maxLen ∧ ∀ x ∈ l, (Lit.int .i64 x.f0).wf = true ∧ x.f1.size ≤ maxLen ∧ (Lit.int .i64 x.f2).wf = true ∧ x.f3.size ≤ maxLen) :
    ∃ k, laws_FnExactParseColor.f k l = some true := by
  apply val_rounds (g := fun k => laws_FnExactParseColor.f k l)
  show laws_FnExactParseColor.F l = some true
  rw [laws_FnExactParseColor.F_eq]
  obtain ⟨r, e, _, hr⟩ := sz_words l h.1 (fun x hx => ⟨(h.2 x hx).2.1, (h.2 x hx).2.2.2⟩) 1048576 (by omega) (by omega)
  rw [e, Option.bind_some]
  by_cases c : r < 0
  · rw [if_pos c]
  · rw [if_neg c]
    have hb := hr (by omega)
    have hl : l.length ≤ 1048576 := by omega
    have hsz : ∀ y ∈ l.map wordOf, y.f1.size ≤ 1048576 := by
      intro y hy
      obtain ⟨x, hx, rfl⟩ := List.mem_map.1 hy
      have h1 := sum_mem wordBulk hx
      have h2 : wordBulk x = x.f1.size + x.f3.size := rfl
      have h3 : (l.map wordBulk).sum = wordsBulk l := rfl
      show x.f1.size ≤ _
      omega
    obtain ⟨q, h1, h2⟩ := color_both (l.map wordOf) (by simpa using hl) hsz
    simp only [toWordS_F l hl, Option.bind_some, h1, h2, if_true, laws_FnExactParseColor.J0_eq, eqWordS_self _ (by simp; omega : (l.map wordOf).length ≤ 9223372036854775806), bne_self_eq_false, Bool.false_eq_true, if_false]

end Go.Proofs.Ytjoanlocikagaaa.QFnExactParseColor
