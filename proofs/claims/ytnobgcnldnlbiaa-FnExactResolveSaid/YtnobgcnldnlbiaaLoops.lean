/- Plain lemmas on loops over lists and on bytes. -/
import Derived.Test.YtnobgcnldnlbiaaVal
namespace Go.Proofs.Ytnobgcnldnlbiaa.Val
open Go.RowKit Go.Proofs.YtnobgcnldnlbiaaW.PrintWords Go.Proofs.YtnobgcnldnlbiaaW.PrintLast Go.Proofs.YtnobgcnldnlbiaaW.PrintMore
set_option linter.unusedVariables false
set_option linter.unusedSimpArgs false

/-- A loop that only counts on. -/
theorem upTo {ρ : Type} (L : Int → ρ) (n : Nat) (h : ∀ i : Int, 0 ≤ i → i < n → L i = L (i + 1)) : L 0 = L n := by
  have : ∀ m : Nat, m ≤ n → L 0 = L m := by
    intro m
    induction m with
    | zero => intro _; rfl
    | succ m ih =>
      intro hm
      rw [ih (by omega), h m (by omega) (by omega)]
      rfl
  exact this n (Nat.le_refl _)

/-- A loop that fills a row of its own, cell by cell. -/
theorem fill {α β : Type} (xs : List α) (g : α → β) (da : α) (L : List β → Int → Option (List β))
    (step : ∀ (ys : List β) (i : Int), 0 ≤ i → i < (xs.length : Int) → ys.length = xs.length → L ys i = L (ys.set i.toNat (g (xs.getD i.toNat da))) (i + 1))
    (stop : ∀ ys : List β, ys.length = xs.length → L ys xs.length = some ys) (ys : List β) (hy : ys.length = xs.length) : L ys 0 = some (xs.map g) := by
  have key : ∀ m : Nat, m ≤ xs.length → L ys 0 = L ((xs.take m).map g ++ ys.drop m) m := by
    intro m
    induction m with
    | zero => intro _; simp
    | succ m ih =>
      intro hm
      rw [ih (by omega)]
      rw [step _ _ (by omega) (by omega) (by simp; omega)]
      have e : ((xs.take m).map g ++ ys.drop m).set (m : Int).toNat (g (xs.getD (m : Int).toNat da)) = (xs.take (m + 1)).map g ++ ys.drop (m + 1) := by
        have hl : ((xs.take m).map g).length = m := by simp; omega
        have hd : ys.drop m = ys[m]'(by omega) :: ys.drop (m + 1) := List.drop_eq_getElem_cons (by omega)
        have hm' : ¬ (m < ((xs.take m).map g).length) := by omega
        rw [Int.toNat_natCast, List.set_append, if_neg hm', hl, Nat.sub_self, hd, List.set_cons_zero, List.take_add_one, List.map_append, List.append_assoc]
        congr 1
        rw [List.getElem?_eq_getElem (show m < xs.length by omega)]
        simp [List.getD_eq_getElem?_getD, List.getElem?_eq_getElem (show m < xs.length by omega)]
      rw [e]
      rfl
  rw [key xs.length (Nat.le_refl _)]
  have hd : ys.drop xs.length = [] := List.drop_of_length_le (by omega)
  rw [hd, List.append_nil, List.take_length]
  have := stop (xs.map g) (by simp)
  exact this

theorem rd_nat (xs : List Int) (i : Nat) : rd xs (i : Int) = xs.getD i 0 := rfl

theorem rd_lt {xs : List Int} {i : Int} (h0 : 0 ≤ i) (h1 : i < xs.length) : rd xs i = xs[i.toNat]'(by omega) := by
  unfold rd
  rw [List.getD_eq_getElem?_getD, List.getElem?_eq_getElem (by omega)]
  rfl

theorem bt_range (s : ByteArray) (i : Int) : 0 ≤ bt s i ∧ bt s i ≤ 255 := by
  unfold bt
  split
  · rename_i h
    have := (s[i.toNat]'h).toNat_lt
    omega
  · omega

theorem wf_i64 {x : Int} (h : (Lit.int .i64 x).wf = true) : -9223372036854775808 ≤ x ∧ x ≤ 9223372036854775807 := by
  simp [Lit.wf, IntKind.min, IntKind.max, IntKind.signed, IntKind.bits] at h
  omega

theorem rd_wf {xs : List Int} (hw : ∀ x ∈ xs, (Lit.int .i64 x).wf = true) (i : Int) : -9223372036854775808 ≤ rd xs i ∧ rd xs i ≤ 9223372036854775807 := by
  unfold rd
  rw [List.getD_eq_getElem?_getD]
  by_cases h : i.toNat < xs.length
  · rw [List.getElem?_eq_getElem h]
    exact wf_i64 (hw _ (List.getElem_mem h))
  · rw [List.getElem?_eq_none (by omega)]
    simp

end Go.Proofs.Ytnobgcnldnlbiaa.Val
