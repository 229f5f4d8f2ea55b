/- The sequences of a text, plainly: both programs cut it alike, and what the second writes decodes to what the first counts. -/
import Derived.Test.YtamhebnfgegijaaFFnExactCodePoints
import Derived.Test.YtamhebnfgegijaaLoops
import Derived.Test.YtamhebnfgegijaaIntsM
import Derived.Lib.TrimUEq
import Derived.Laws.BitsLemmas
namespace Go.Proofs.Ytamhebnfgegijaa.QFnExactCodePoints
open Go Go.RowKit Go.Proofs.YtamhebnfgegijaaV.PrintWords Go.Proofs.YtamhebnfgegijaaV.PrintLast Go.Proofs.YtamhebnfgegijaaV.PrintMore Go.Proofs.Ytamhebnfgegijaa.Val
set_option linter.unusedVariables false
set_option linter.unusedSimpArgs false

/-- The byte at a place. -/
def g (b : List UInt8) (i : Nat) : Nat := (b.getD i 0).toNat
theorem g_lt (b : List UInt8) (i : Nat) : g b i < 256 := (b.getD i 0).toNat_lt
theorem rd_ints (b : List UInt8) (i : Nat) : rd (ints b) (i : Int) = (g b i : Int) := by
  unfold rd ints g
  rw [Int.toNat_natCast, List.getD_eq_getElem?_getD, List.getD_eq_getElem?_getD, List.getElem?_map]
  cases b[i]? <;> rfl
theorem g_drop (b : List UInt8) (p i : Nat) : g (b.drop p) i = g b (p + i) := by
  unfold g
  rw [Lib.getD_dropU]
theorem g_take (b : List UInt8) {n i : Nat} (h : i < n) : g (b.take n) i = g b i := by
  unfold g
  rw [List.getD_eq_getElem?_getD, List.getD_eq_getElem?_getD, List.getElem?_take_of_lt h]
theorem g_app (a b : List UInt8) {i : Nat} (h : i < a.length) : g (a ++ b) i = g a i := by
  unfold g
  rw [List.getD_eq_getElem?_getD, List.getD_eq_getElem?_getD, List.getElem?_append_left h]

/-- What a lead byte asks for: how long the sequence is, and the bounds of its second byte. -/
def need (c : Nat) : Nat × Nat × Nat :=
  if c < 128 then (1, 0, 0) else if 194 ≤ c ∧ c ≤ 223 then (2, 128, 191) else if c = 224 then (3, 160, 191) else if c = 237 then (3, 128, 159) else if 225 ≤ c ∧ c ≤ 239 then (3, 128, 191)
  else if c = 240 then (4, 144, 191) else if c = 244 then (4, 128, 143) else if 241 ≤ c ∧ c ≤ 243 then (4, 128, 191) else (0, 0, 0)
theorem need_le (c : Nat) : (need c).1 ≤ 4 := by
  unfold need
  repeat' split
  all_goals simp
theorem need_cases (c : Nat) : (c < 128 ∧ need c = (1, 0, 0)) ∨ ((194 ≤ c ∧ c ≤ 223) ∧ need c = (2, 128, 191)) ∨ (c = 224 ∧ need c = (3, 160, 191)) ∨ (c = 237 ∧ need c = (3, 128, 159)) ∨
    ((225 ≤ c ∧ c ≤ 239 ∧ c ≠ 237) ∧ need c = (3, 128, 191)) ∨ (c = 240 ∧ need c = (4, 144, 191)) ∨ (c = 244 ∧ need c = (4, 128, 143)) ∨ ((241 ≤ c ∧ c ≤ 243) ∧ need c = (4, 128, 191)) ∨
    (((128 ≤ c ∧ c < 194) ∨ 244 < c) ∧ need c = (0, 0, 0)) := by
  unfold need
  by_cases a1 : c < 128
  · exact Or.inl ⟨a1, if_pos a1⟩
  rw [if_neg a1]
  by_cases a2 : 194 ≤ c ∧ c ≤ 223
  · exact Or.inr (Or.inl ⟨a2, if_pos a2⟩)
  rw [if_neg a2]
  by_cases a3 : c = 224
  · exact Or.inr (Or.inr (Or.inl ⟨a3, if_pos a3⟩))
  rw [if_neg a3]
  by_cases a4 : c = 237
  · exact Or.inr (Or.inr (Or.inr (Or.inl ⟨a4, if_pos a4⟩)))
  rw [if_neg a4]
  by_cases a5 : 225 ≤ c ∧ c ≤ 239
  · exact Or.inr (Or.inr (Or.inr (Or.inr (Or.inl ⟨⟨a5.1, a5.2, a4⟩, if_pos a5⟩))))
  rw [if_neg a5]
  by_cases a6 : c = 240
  · exact Or.inr (Or.inr (Or.inr (Or.inr (Or.inr (Or.inl ⟨a6, if_pos a6⟩)))))
  rw [if_neg a6]
  by_cases a7 : c = 244
  · exact Or.inr (Or.inr (Or.inr (Or.inr (Or.inr (Or.inr (Or.inl ⟨a7, if_pos a7⟩))))))
  rw [if_neg a7]
  by_cases a8 : 241 ≤ c ∧ c ≤ 243
  · exact Or.inr (Or.inr (Or.inr (Or.inr (Or.inr (Or.inr (Or.inr (Or.inl ⟨a8, if_pos a8⟩)))))))
  rw [if_neg a8]
  exact Or.inr (Or.inr (Or.inr (Or.inr (Or.inr (Or.inr (Or.inr (Or.inr ⟨by omega, rfl⟩)))))))
def scan (b : List UInt8) : Nat → Nat → Nat → Nat → Nat × Bool
  | 0, i, _, _ => (i, true)
  | d + 1, i, lo, hi => if i < b.length then (if g b i < lo ∨ hi < g b i then (i, false) else scan b d (i + 1) 128 191) else (i, false)
def seq (b : List UInt8) : Nat × Bool := if (need (g b 0)).1 = 0 then (0, false) else scan b ((need (g b 0)).1 - 1) 1 (need (g b 0)).2.1 (need (g b 0)).2.2
theorem scan_ge (b : List UInt8) : ∀ (d i lo hi : Nat), i ≤ (scan b d i lo hi).1 ∧ (scan b d i lo hi).1 ≤ i + d
  | 0, i, lo, hi => ⟨Nat.le_refl _, Nat.le_refl _⟩
  | d + 1, i, lo, hi => by
    unfold scan
    have ih := scan_ge b d (i + 1) 128 191
    repeat' split
    · exact ⟨Nat.le_refl _, by show i ≤ _; omega⟩
    · omega
    · exact ⟨Nat.le_refl _, by show i ≤ _; omega⟩
theorem scan_le (b : List UInt8) : ∀ (d i lo hi : Nat), i ≤ b.length → (scan b d i lo hi).1 ≤ b.length
  | 0, i, lo, hi, h => h
  | d + 1, i, lo, hi, h => by
    unfold scan
    repeat' split
    · exact h
    · exact scan_le b d (i + 1) 128 191 (by omega)
    · exact h
theorem seq_le (b : List UInt8) (h : 0 < b.length) : (seq b).1 ≤ b.length := by
  unfold seq
  split
  · exact Nat.zero_le _
  · exact scan_le b _ _ _ _ h
theorem seq_four (b : List UInt8) : (seq b).1 ≤ 4 := by
  unfold seq
  split
  · exact Nat.zero_le _
  · have := (scan_ge b ((need (g b 0)).1 - 1) 1 (need (g b 0)).2.1 (need (g b 0)).2.2).2
    have := need_le (g b 0)
    omega
theorem seq_pos (b : List UInt8) (h : (seq b).1 = 0) : (need (g b 0)).1 = 0 := by
  unfold seq at h
  by_cases e : (need (g b 0)).1 = 0
  · exact e
  · rw [if_neg e] at h
    have := (scan_ge b ((need (g b 0)).1 - 1) 1 (need (g b 0)).2.1 (need (g b 0)).2.2).1
    omega
theorem seq_zero (b : List UInt8) (h : (need (g b 0)).1 = 0) : seq b = (0, false) := by
  unfold seq
  rw [if_pos h]

/-! ### both programs' own -/
theorem scan_spec (f : List UInt8) (at_ : Nat) (hf : f.length ≤ 1048576) (ha : at_ ≤ f.length) : ∀ (d i n lo hi : Nat), i + d = n + 1 → 1 ≤ i → n ≤ 3 →
    spec_l1Seq.L0 (ints f) at_ n lo hi i ((i : Int) - 1) = some (((scan (f.drop at_) d i lo hi).1 : Int), (scan (f.drop at_) d i lo hi).2)
  | 0, i, n, lo, hi, h, h1, hn => by
    rw [spec_l1Seq.L0_eq, if_neg (by omega)]
    rfl
  | d + 1, i, n, lo, hi, h, h1, hn => by
    rw [spec_l1Seq.L0_eq, if_pos (by omega), w64 (by omega) (by omega), ints_length]
    unfold scan
    by_cases c : i < (f.drop at_).length
    · have hl : at_ + i < f.length := by rw [List.length_drop] at c; omega
      rw [if_neg (by omega), if_pos (by omega), if_pos (by omega), if_pos c, show ((at_ : Int) + (i : Int)) = ((at_ + i : Nat) : Int) by omega, rd_ints, g_drop]
      by_cases c1 : g f (at_ + i) < lo
      · rw [if_pos (by omega), if_pos (Or.inl c1)]
      · by_cases c2 : hi < g f (at_ + i)
        · rw [if_neg (by omega), if_pos (by omega), if_pos (Or.inr c2)]
        · rw [if_neg (by omega), if_neg (by omega), if_neg (by omega), w64 (by omega) (by omega), w64 (by omega) (by omega)]
          have := scan_spec f at_ hf ha d (i + 1) n 128 191 (by omega) (by omega) hn
          rw [show ((i : Int) + 1) = ((i + 1 : Nat) : Int) by omega, show ((i : Int) - 1 + 1) = (((i + 1 : Nat) : Int) - 1) by omega]
          exact this
    · rw [if_pos (by rw [List.length_drop] at c; omega), if_neg c]
set_option maxRecDepth 100000 in
set_option maxHeartbeats 4000000 in
theorem seq_spec (f : List UInt8) (at_ : Nat) (hf : f.length ≤ 1048576) (ha : at_ < f.length) :
    spec_l1Seq.F (ints f) at_ = some (((seq (f.drop at_)).1 : Int), (seq (f.drop at_)).2) := by
  rw [spec_l1Seq.F_eq, if_pos (by omega), if_pos (by rw [ints_length]; omega), rd_ints]
  have h := g_lt f at_
  have e : g (f.drop at_) 0 = g f at_ := by rw [g_drop, Nat.add_zero]
  have L := fun n lo hi (hn : n ≤ 3) => scan_spec f at_ hf (by omega) n 1 n lo hi (by omega) (by omega) hn
  unfold seq
  rw [e]
  generalize g f at_ = c at h
  simp only [spec_l1Seq.J0_eq, spec_l1Seq.J1_eq, spec_l1Seq.J2_eq, spec_l1Seq.J3_eq, decide_eq_true_eq]
  have L1 := L 1
  have L2 := L 2
  have L3 := L 3
  simp only [Int.natCast_one, Int.cast_ofNat_Int, show ((1 : Nat) : Int) - 1 = 0 from rfl] at L1 L2 L3
  rcases need_cases c with ⟨q, e⟩ | ⟨q, e⟩ | ⟨q, e⟩ | ⟨q, e⟩ | ⟨q, e⟩ | ⟨q, e⟩ | ⟨q, e⟩ | ⟨q, e⟩ | ⟨q, e⟩ <;> rw [e] <;> simp (disch := omega) only [if_pos, if_neg, ge_iff_le, Bool.false_eq_true, if_false, if_true]
  · rfl
  · exact L1 128 191 (by omega)
  · exact L2 160 191 (by omega)
  · exact L2 128 159 (by omega)
  · exact L2 128 191 (by omega)
  · exact L3 144 191 (by omega)
  · exact L3 128 143 (by omega)
  · exact L3 128 191 (by omega)
  · repeat' split
    all_goals first | rfl | (exfalso; omega) | simp at *
set_option maxRecDepth 100000 in
set_option maxHeartbeats 4000000 in
theorem need_impl (c : Nat) (h : c < 256) : impl_needs.F c = some (((need c).1 : Int), ((need c).2.1 : Int), ((need c).2.2 : Int)) := by
  rw [impl_needs.F_eq]
  simp only [impl_needs.J0_eq, impl_needs.J1_eq, decide_eq_true_eq]
  rcases need_cases c with ⟨q, e⟩ | ⟨q, e⟩ | ⟨q, e⟩ | ⟨q, e⟩ | ⟨q, e⟩ | ⟨q, e⟩ | ⟨q, e⟩ | ⟨q, e⟩ | ⟨q, e⟩ <;> rw [e] <;> simp (disch := omega) only [if_pos, if_neg, ge_iff_le, Bool.false_eq_true, if_false, if_true] <;> first
    | rfl
    | (repeat' split
       all_goals first | rfl | (exfalso; omega))
theorem scan_impl (b : List UInt8) (hf : b.length ≤ 1048576) : ∀ (d i n lo hi : Nat), i + d = n → 1 ≤ i → i ≤ b.length → n ≤ 4 →
    ∃ x, impl_stretch.L0 (ints b) i n lo hi = some (((scan b d i lo hi).1 : Int), (scan b d i lo hi).2, x)
  | 0, i, n, lo, hi, h, h1, hi', hn => by
    rw [impl_stretch.L0_eq, if_neg (by omega)]
    exact ⟨_, rfl⟩
  | d + 1, i, n, lo, hi, h, h1, hi', hn => by
    rw [impl_stretch.L0_eq, if_pos (by omega), ints_length]
    unfold scan
    by_cases c : i < b.length
    · rw [if_neg (by omega), if_pos (by omega), if_pos (by omega), if_pos c, rd_ints]
      by_cases c1 : g b i < lo
      · rw [if_pos (by omega), if_pos (Or.inl c1)]
        exact ⟨_, rfl⟩
      · by_cases c2 : hi < g b i
        · rw [if_neg (by omega), if_pos (by omega), if_pos (Or.inr c2)]
          exact ⟨_, rfl⟩
        · rw [if_neg (by omega), if_neg (by omega), if_neg (by omega), w64 (by omega) (by omega)]
          have := scan_impl b hf d (i + 1) n 128 191 (by omega) (by omega) (by omega) hn
          rw [show ((i : Int) + 1) = ((i + 1 : Nat) : Int) by omega]
          exact this
    · rw [if_pos (by omega), if_neg c]
      exact ⟨_, rfl⟩
/-- How far one step goes on. -/
def adv (b : List UInt8) : Nat := if (seq b).1 = 0 then 1 else (seq b).1
theorem adv_pos (b : List UInt8) : 1 ≤ adv b := by
  unfold adv
  split <;> omega
theorem adv_le (b : List UInt8) (h : 0 < b.length) : adv b ≤ b.length := by
  have := seq_le b h
  unfold adv
  split <;> omega
theorem seq_impl (b : List UInt8) (hf : b.length ≤ 1048576) (h : 0 < b.length) : ∃ x, impl_stretch.F (ints b) = some ((adv b : Int), (seq b).2, x) := by
  rw [impl_stretch.F_eq, if_pos (by rw [ints_length]; omega), show (0 : Int) = ((0 : Nat) : Int) from rfl, rd_ints, need_impl _ (g_lt b 0), Option.bind_some]
  show ∃ x, (if (((need (g b 0)).1 : Nat) : Int) = 0 then _ else _) = _
  by_cases c : (need (g b 0)).1 = 0
  · rw [if_pos (by omega)]
    unfold adv
    rw [seq_zero b c]
    exact ⟨_, rfl⟩
  · rw [if_neg (by omega)]
    have k := scan_impl b hf ((need (g b 0)).1 - 1) 1 (need (g b 0)).1 (need (g b 0)).2.1 (need (g b 0)).2.2 (by omega) (Nat.le_refl _) h (need_le _)
    have e : adv b = (seq b).1 := by
      unfold adv
      rw [if_neg (fun x => c (seq_pos b x))]
    rw [e]
    unfold seq
    rw [if_neg c]
    exact k

/-! ### a whole sequence is a code point -/
def ptv (c : List UInt8) : Nat :=
  if c.length = 1 then g c 0 else if c.length = 2 then g c 0 % 32 * 64 + g c 1 % 64 else if c.length = 3 then g c 0 % 16 * 4096 + g c 1 % 64 * 64 + g c 2 % 64
  else g c 0 % 8 * 262144 + g c 1 % 64 * 4096 + g c 2 % 64 * 64 + g c 3 % 64
theorem whole (b : List UInt8) (h : 0 < b.length) (hw : (seq b).2 = true) : ∃ lo hi, need (g b 0) = ((seq b).1, lo, hi) ∧ 1 ≤ (seq b).1 ∧ (seq b).1 ≤ 4 ∧ (seq b).1 ≤ b.length ∧
    (2 ≤ (seq b).1 → lo ≤ g b 1 ∧ g b 1 ≤ hi) ∧ (3 ≤ (seq b).1 → 128 ≤ g b 2 ∧ g b 2 ≤ 191) ∧ (4 ≤ (seq b).1 → 128 ≤ g b 3 ∧ g b 3 ≤ 191) := by
  have h4 := need_le (g b 0)
  have hl := seq_le b h
  obtain ⟨⟨n, lo, hi⟩, e⟩ : ∃ t, need (g b 0) = t := ⟨_, rfl⟩
  rw [e] at h4
  have h4' : n ≤ 4 := h4
  refine ⟨lo, hi, ?_⟩
  rw [e]
  unfold seq at hw hl ⊢
  rw [e] at hw hl ⊢
  match n, h4' with
  | 0, _ => simp at hw
  | 1, _ =>
    simp [scan] at hw hl ⊢
    omega
  | 2, _ =>
    simp only [scan, Nat.reduceSub, Nat.reduceAdd, if_neg (show ¬ (2 = 0) by omega)] at hw hl ⊢
    split at hw
    · split at hw
      · cases hw
      · rename_i c1 c2
        simp only [if_pos c1, if_neg c2]
        refine ⟨trivial, by omega, by omega, by omega, fun _ => by omega, fun x => by omega, fun x => by omega⟩
    · cases hw
  | 3, _ =>
    simp only [scan, Nat.reduceSub, Nat.reduceAdd, if_neg (show ¬ (3 = 0) by omega)] at hw hl ⊢
    split at hw
    · split at hw
      · cases hw
      · split at hw
        · split at hw
          · cases hw
          · rename_i c1 c2 c3 c4
            simp only [if_pos c1, if_neg c2, if_pos c3, if_neg c4]
            refine ⟨trivial, by omega, by omega, by omega, fun _ => by omega, fun x => by omega, fun x => by omega⟩
        · cases hw
    · cases hw
  | 4, _ =>
    simp only [scan, Nat.reduceSub, Nat.reduceAdd, if_neg (show ¬ (4 = 0) by omega)] at hw hl ⊢
    split at hw
    · split at hw
      · cases hw
      · split at hw
        · split at hw
          · cases hw
          · split at hw
            · split at hw
              · cases hw
              · rename_i c1 c2 c3 c4 c5 c6
                simp only [if_pos c1, if_neg c2, if_pos c3, if_neg c4, if_pos c5, if_neg c6]
                refine ⟨trivial, by omega, by omega, by omega, fun _ => by omega, fun x => by omega, fun x => by omega⟩
            · cases hw
        · cases hw
    · cases hw
theorem need_inv {c n lo hi : Nat} (e : need c = (n, lo, hi)) (hn : 1 ≤ n) : (n = 1 ∧ c < 128) ∨ (n = 2 ∧ 194 ≤ c ∧ c ≤ 223 ∧ lo = 128 ∧ hi = 191) ∨
    (n = 3 ∧ 224 ≤ c ∧ c ≤ 239 ∧ 128 ≤ lo ∧ hi ≤ 191 ∧ (c = 224 → lo = 160) ∧ (c = 237 → hi = 159)) ∨ (n = 4 ∧ 240 ≤ c ∧ c ≤ 244 ∧ 128 ≤ lo ∧ hi ≤ 191 ∧ (c = 240 → lo = 144) ∧ (c = 244 → hi = 143)) := by
  unfold need at e
  repeat' split at e
  all_goals
    obtain ⟨rfl, rfl, rfl⟩ : _ ∧ _ ∧ _ := by simpa [Prod.ext_iff] using e
    omega
theorem take_len (b : List UInt8) {n : Nat} (h : n ≤ b.length) : (b.take n).length = n := by rw [List.length_take]; omega
set_option maxRecDepth 100000 in
set_option maxHeartbeats 4000000 in
/-- The code point that the model's decoding finds in a row that begins with a whole sequence. -/
theorem decode_whole (b : List UInt8) (h : 0 < b.length) (hw : (seq b).2 = true) (N : Nat) (x : List UInt8) (hN : (seq b).1 ≤ N) :
    Lib.decodeN N (g (b.take (seq b).1 ++ x) 0) (g (b.take (seq b).1 ++ x) 1) (g (b.take (seq b).1 ++ x) 2) (g (b.take (seq b).1 ++ x) 3) = (ptv (b.take (seq b).1), (seq b).1) := by
  obtain ⟨lo, hi, e, h1, h4, hl, c1, c2, c3⟩ := whole b h hw
  have L := take_len b hl
  have I := need_inv e h1
  generalize (seq b).1 = n at *
  have G : ∀ i, i < n → g (b.take n ++ x) i = g b i := fun i hi' => by rw [g_app _ _ (by omega), g_take _ hi']
  have G' : ∀ i, i < n → g (b.take n) i = g b i := fun i hi' => g_take _ hi'
  unfold ptv
  rw [L]
  rcases I with ⟨rfl, I⟩ | ⟨rfl, I⟩ | ⟨rfl, I⟩ | ⟨rfl, I⟩
  · rw [G 0 (by omega), G' 0 (by omega)]
    unfold Lib.decodeN
    rw [if_pos I]
    rfl
  · have q1 := c1 (by omega)
    rw [G 0 (by omega), G 1 (by omega), G' 0 (by omega), G' 1 (by omega)]
    unfold Lib.decodeN
    rw [if_neg (by omega), if_pos (by omega), if_pos (by omega)]
    rfl
  · have q1 := c1 (by omega)
    have q2 := c2 (by omega)
    rw [G 0 (by omega), G 1 (by omega), G 2 (by omega), G' 0 (by omega), G' 1 (by omega), G' 2 (by omega)]
    unfold Lib.decodeN
    rw [if_neg (by omega), if_neg (by omega), if_pos (by omega), if_pos (by omega)]
    rfl
  · have q1 := c1 (by omega)
    have q2 := c2 (by omega)
    have q3 := c3 (by omega)
    rw [G 0 (by omega), G 1 (by omega), G 2 (by omega), G 3 (by omega), G' 0 (by omega), G' 1 (by omega), G' 2 (by omega), G' 3 (by omega)]
    unfold Lib.decodeN
    rw [if_neg (by omega), if_neg (by omega), if_neg (by omega), if_pos (by omega), if_pos (by omega)]
    rfl
theorem ptv_lt (c : List UInt8) : ptv c < 2097152 := by
  have := g_lt c 0
  unfold ptv
  repeat' split
  all_goals omega
set_option maxRecDepth 100000 in
theorem point_spec (b : List UInt8) (h : 0 < b.length) (hw : (seq b).2 = true) : spec_l1Point.f (ints (b.take (seq b).1)) = some (ptv (b.take (seq b).1) : Int) := by
  obtain ⟨lo, hi, e, h1, h4, hl, _⟩ := whole b h hw
  have L := take_len b hl
  generalize (seq b).1 = n at *
  have g0 := g_lt (b.take n) 0
  have g1 := g_lt (b.take n) 1
  have g2 := g_lt (b.take n) 2
  have g3 := g_lt (b.take n) 3
  unfold spec_l1Point.f ptv
  rw [ints_length, L]
  have r0 := rd_ints (b.take n) 0
  have r1 := rd_ints (b.take n) 1
  have r2 := rd_ints (b.take n) 2
  have r3 := rd_ints (b.take n) 3
  simp only [Int.natCast_zero, Int.natCast_one, Int.cast_ofNat_Int] at r0 r1 r2 r3
  rw [r0, r1, r2, r3]
  have A31 : Go.bits .and .u8 (g (b.take n) 0 : Int) 31 = ((g (b.take n) 0 % 32 : Nat) : Int) := by rw [u8_and31 _ (by omega) (by omega)]; omega
  have A15 : Go.bits .and .u8 (g (b.take n) 0 : Int) 15 = ((g (b.take n) 0 % 16 : Nat) : Int) := by rw [u8_and15 _ (by omega) (by omega)]; omega
  have A7 : Go.bits .and .u8 (g (b.take n) 0 : Int) 7 = ((g (b.take n) 0 % 8 : Nat) : Int) := by rw [u8_and7 _ (by omega) (by omega)]; omega
  have A63 : ∀ i : Nat, Go.bits .and .u8 (g (b.take n) i : Int) 63 = ((g (b.take n) i % 64 : Nat) : Int) := fun i => by
    have := g_lt (b.take n) i
    rw [u8_and63 _ (by omega) (by omega)]
    omega
  rw [A31, A15, A7, A63 1, A63 2, A63 3]
  generalize g (b.take n) 0 = x0 at *
  generalize g (b.take n) 1 = x1 at *
  generalize g (b.take n) 2 = x2 at *
  generalize g (b.take n) 3 = x3 at *
  clear r0 r1 r2 r3 A31 A15 A7 A63
  match n, h1, h4 with
  | 1, _, _ =>
    rw [if_pos (by omega), if_pos (by omega), if_pos rfl, w64 (by omega) (by omega)]
  | 2, _, _ =>
    rw [if_neg (by omega), if_pos (by omega), if_pos (by omega), if_pos (by omega), if_neg (by omega), if_pos rfl]
    simp (disch := omega) only [w64]
    congr 1
  | 3, _, _ =>
    rw [if_neg (by omega), if_neg (by omega), if_pos (by omega), if_pos (by omega), if_pos (by omega), if_pos (by omega), if_neg (by omega), if_neg (by omega), if_pos rfl]
    simp (disch := omega) only [w64]
    congr 1
  | 4, _, _ =>
    rw [if_neg (by omega), if_neg (by omega), if_neg (by omega), if_pos (by omega), if_pos (by omega), if_pos (by omega), if_pos (by omega), if_neg (by omega), if_neg (by omega), if_neg (by omega)]
    simp (disch := omega) only [w64]
    congr 1
end Go.Proofs.Ytamhebnfgegijaa.QFnExactCodePoints
