/- Plain lemmas on loops over lists and on bytes. -/
import Derived.Test.YtjojmfhgfeflnaaGreatDoorVal
namespace Go.Proofs.YtjojmfhgfeflnaaGreatDoor.Val
open Go.RowKit Go.Proofs.YtjojmfhgfeflnaaGreatDoorV.PrintWords Go.Proofs.YtjojmfhgfeflnaaGreatDoorV.PrintLast Go.Proofs.YtjojmfhgfeflnaaGreatDoorV.PrintMore
set_option linter.unusedVariables false
set_option linter.unusedSimpArgs false

/-- A loop that only counts on. -/
theorem upTo {ρ : Type} (L : Int → ρ) (n : Nat) (h : ∀ i : Int, 0 ≤ i → i < n → L i = L (i + 1)) : L 0 = L n := by
  have : ∀ m : Nat, m ≤ n → L 0 = L m := by
    intro m
    induction m with
    | zero => intro _; rfl
    | succ m ih =>
      intro hm
      rw [ih (by omega), h m (by omega) (by omega)]
      rfl
  exact this n (Nat.le_refl _)

/-- A loop that fills a row of its own, cell by cell. -/
theorem fill {α β : Type} (xs : List α) (g : α → β) (da : α) (L : List β → Int → Option (List β))
    (step : ∀ (ys : List β) (i : Int), 0 ≤ i → i < (xs.length : Int) → ys.length = xs.length → L ys i = L (ys.set i.toNat (g (xs.getD i.toNat da))) (i + 1))
    (stop : ∀ ys : List β, ys.length = xs.length → L ys xs.length = some ys) (ys : List β) (hy : ys.length = xs.length) : L ys 0 = some (xs.map g) := by
  have key : ∀ m : Nat, m ≤ xs.length → L ys 0 = L ((xs.take m).map g ++ ys.drop m) m := by
    intro m
    induction m with
    | zero => intro _; simp
    | succ m ih =>
      intro hm
      rw [ih (by omega)]
      rw [step _ _ (by omega) (by omega) (by simp; omega)]
      have e : ((xs.take m).map g ++ ys.drop m).set (m : Int).toNat (g (xs.getD (m : Int).toNat da)) = (xs.take (m + 1)).map g ++ ys.drop (m + 1) := by
        have hl : ((xs.take m).map g).length = m := by simp; omega
        have hd : ys.drop m = ys[m]'(by omega) :: ys.drop (m + 1) := List.drop_eq_getElem_cons (by omega)
        have hm' : ¬ (m < ((xs.take m).map g).length) := by omega
        rw [Int.toNat_natCast, List.set_append, if_neg hm', hl, Nat.sub_self, hd, List.set_cons_zero, List.take_add_one, List.map_append, List.append_assoc]
        congr 1
        rw [List.getElem?_eq_getElem (show m < xs.length by omega)]
        simp [List.getD_eq_getElem?_getD, List.getElem?_eq_getElem (show m < xs.length by omega)]
      rw [e]
      rfl
  rw [key xs.length (Nat.le_refl _)]
  have hd : ys.drop xs.length = [] := List.drop_of_length_le (by omega)
  rw [hd, List.append_nil, List.take_length]
  have := stop (xs.map g) (by simp)
  exact this

theorem rd_nat (xs : List Int) (i : Nat) : rd xs (i : Int) = xs.getD i 0 := rfl

theorem rd_lt {xs : List Int} {i : Int} (h0 : 0 ≤ i) (h1 : i < xs.length) : rd xs i = xs[i.toNat]'(by omega) := by
  unfold rd
  rw [List.getD_eq_getElem?_getD, List.getElem?_eq_getElem (by omega)]
  rfl

theorem bt_range (s : ByteArray) (i : Int) : 0 ≤ bt s i ∧ bt s i ≤ 255 := by
  unfold bt
  split
  · rename_i h
    have := (s[i.toNat]'h).toNat_lt
    omega
  · omega

theorem wf_i64 {x : Int} (h : (Lit.int .i64 x).wf = true) : -9223372036854775808 ≤ x ∧ x ≤ 9223372036854775807 := by
  simp [Lit.wf, IntKind.min, IntKind.max, IntKind.signed, IntKind.bits] at h
  omega

theorem rd_wf {xs : List Int} (hw : ∀ x ∈ xs, (Lit.int .i64 x).wf = true) (i : Int) : -9223372036854775808 ≤ rd xs i ∧ rd xs i ≤ 9223372036854775807 := by
  unfold rd
  rw [List.getD_eq_getElem?_getD]
  by_cases h : i.toNat < xs.length
  · rw [List.getElem?_eq_getElem h]
    exact wf_i64 (hw _ (List.getElem_mem h))
  · rw [List.getElem?_eq_none (by omega)]
    simp

/-! ### lists of structs: their bulk, their copy, their likeness -/
theorem getD_mem {α : Type} {l : List α} {i : Int} {d : α} (h0 : 0 ≤ i) (h1 : i < (l.length : Int)) : l.getD i.toNat d ∈ l := by
  rw [List.getD_eq_getElem?_getD, List.getElem?_eq_getElem (by omega)]
  exact List.getElem_mem _

theorem getD_map {α β : Type} (f : α → β) {l : List α} {i : Int} {d : α} {e : β} (h0 : 0 ≤ i) (h1 : i < (l.length : Int)) : (l.map f).getD i.toNat e = f (l.getD i.toNat d) := by
  rw [List.getD_eq_getElem?_getD, List.getD_eq_getElem?_getD, List.getElem?_map, List.getElem?_eq_getElem (show i.toNat < l.length by omega)]
  rfl

theorem sum_mem {α : Type} (f : α → Nat) {l : List α} {x : α} (h : x ∈ l) : f x ≤ (l.map f).sum := by
  induction l with
  | nil => cases h
  | cons a t ih =>
    rw [List.map_cons, List.sum_cons]
    rcases List.mem_cons.1 h with rfl | h
    · omega
    · have := ih h
      omega

theorem sz_list {α : Type} (bulk : α → Nat) (wf : α → Prop) (da : α) (one : α → Int → Option Int) (L : List α → Int → Int → Option Int) (F : List α → Int → Option Int)
    (hF : ∀ (l : List α) (q : Int), F l q = if (wrap64 (q - (l.length : Int))) < 0 then (some (-1)) else (L l (wrap64 (q - (l.length : Int))) 0))
    (hL : ∀ (l : List α) (q i : Int), L l q i = if i < (l.length : Int) then (if 0 ≤ i then ((one (l.getD i.toNat da) q).bind fun t => (if t < 0 then (some (-1)) else (L l t (wrap64 (i + 1))))) else (none)) else (some q))
    (h1 : ∀ x, wf x → ∀ q : Int, 0 ≤ q → q ≤ 1048576 → ∃ r : Int, one x q = some r ∧ r ≤ q ∧ (0 ≤ r → r = q - bulk x))
    (l : List α) (hw : l.length ≤ maxLen ∧ ∀ x ∈ l, wf x) (q : Int) (h0 : 0 ≤ q) (hq : q ≤ 1048576) :
    ∃ r : Int, F l q = some r ∧ r ≤ q ∧ (0 ≤ r → r = q - ((l.length + (l.map bulk).sum : Nat) : Int)) := by
  obtain ⟨hl, hw⟩ := hw
  have hl' := hl
  unfold maxLen at hl'
  have key : ∀ (d : Nat) (i : Int) (q : Int), 0 ≤ i → i + d = l.length → 0 ≤ q → q ≤ 1048576 →
      ∃ r : Int, L l q i = some r ∧ r ≤ q ∧ (0 ≤ r → r = q - (((l.drop i.toNat).map bulk).sum : Nat)) := by
    intro d
    induction d with
    | zero =>
      intro i q hi hd hq hq1
      rw [hL, if_neg (by omega), List.drop_of_length_le (by omega)]
      exact ⟨q, rfl, by omega, by simp⟩
    | succ d ih =>
      intro i q hi hd hq hq1
      rw [hL, if_pos (by omega), if_pos hi]
      have hlt : i.toNat < l.length := by omega
      have hrd : l.getD i.toNat da = l[i.toNat] := by
        rw [List.getD_eq_getElem?_getD, List.getElem?_eq_getElem hlt]
        rfl
      obtain ⟨r, e, hle, hr⟩ := h1 (l.getD i.toNat da) (hw _ (getD_mem hi (by omega))) q hq hq1
      rw [e, Option.bind_some]
      by_cases c : r < 0
      · rw [if_pos c]
        exact ⟨-1, rfl, by omega, by omega⟩
      · rw [if_neg c, w64 (by omega : -9223372036854775808 ≤ i + 1) (by omega)]
        obtain ⟨r2, e2, hb, hr2⟩ := ih (i + 1) r (by omega) (by omega) (by omega) (by omega)
        refine ⟨r2, e2, by omega, fun h => ?_⟩
        have a := hr (by omega)
        have b := hr2 h
        have t : (i + 1).toNat = i.toNat + 1 := by omega
        rw [t] at b
        rw [List.drop_eq_getElem_cons hlt, List.map_cons, List.sum_cons]
        rw [hrd] at a
        omega
  rw [hF, w64 (by omega : -9223372036854775808 ≤ q - (l.length : Int)) (by omega)]
  by_cases c : q - (l.length : Int) < 0
  · rw [if_pos c]
    exact ⟨-1, rfl, by omega, by omega⟩
  · rw [if_neg c]
    obtain ⟨r, e, hb, hr⟩ := key l.length 0 (q - l.length) (by omega) (by omega) (by omega) (by omega)
    refine ⟨r, e, by omega, fun h => ?_⟩
    have := hr h
    rw [Int.toNat_zero, List.drop_zero] at this
    omega

theorem sz_flat {α : Type} (F : List α → Int → Option Int) (hF : ∀ (l : List α) (q : Int), F l q = if (wrap64 (q - (l.length : Int))) < 0 then (some (-1)) else (some (wrap64 (q - (l.length : Int)))))
    (l : List α) (hl : l.length ≤ maxLen) (q : Int) (h0 : 0 ≤ q) (hq : q ≤ 1048576) : ∃ r : Int, F l q = some r ∧ r ≤ q ∧ (0 ≤ r → r = q - ((l.length : Nat) : Int)) := by
  unfold maxLen at hl
  rw [hF, w64 (by omega : -9223372036854775808 ≤ q - (l.length : Int)) (by omega)]
  by_cases c : q - (l.length : Int) < 0
  · rw [if_pos c]
    exact ⟨-1, rfl, by omega, by omega⟩
  · rw [if_neg c]
    exact ⟨_, rfl, by omega, by omega⟩

theorem to_list {α β γ : Type} (of : α → β) (ok : α → Prop) (da : α) (db : β) (cap : Nat) (hcap : 1048576 ≤ cap) (one : α → Option γ) (mk : γ → β) (L : List α → List β → Int → Option (List β)) (F : List α → Option (List β))
    (hF : ∀ l : List α, F l = if 0 ≤ (l.length : Int) then (if ((l.length : Int) : Int).toNat ≤ cap then (L l (List.replicate ((l.length : Int) : Int).toNat db) 0) else (none)) else (none))
    (hL : ∀ (l : List α) (ys : List β) (i : Int), L l ys i = if i < (l.length : Int) then (if 0 ≤ i then ((one (l.getD i.toNat da)).bind fun t => (if i < (ys.length : Int) then (L l (ys.set (i : Int).toNat (mk t)) (wrap64 (i + 1))) else (none))) else (none)) else (some ys))
    (h1 : ∀ x, ok x → ∃ t, one x = some t ∧ mk t = of x) (l : List α) (hl : l.length ≤ 1048576) (ho : ∀ x ∈ l, ok x) : F l = some (l.map of) := by
  rw [hF, if_pos (by omega), if_pos (by omega)]
  refine fill l of da (fun ys i => L l ys i) ?_ ?_ (List.replicate ((l.length : Int) : Int).toNat db) (by simp)
  · intro ys i h0 hi hy
    show L l ys i = _
    obtain ⟨t, e, hm⟩ := h1 (l.getD i.toNat da) (ho _ (getD_mem h0 hi))
    rw [hL, if_pos hi, if_pos h0, e, Option.bind_some, if_pos (by omega), w64 (by omega : -9223372036854775808 ≤ i + 1) (by omega), hm]
  · intro ys hy
    show L l ys l.length = _
    rw [hL, if_neg (by omega)]

theorem eq_list {α β : Type} (of : α → β) (ok : α → Prop) (da : α) (db : β) (one : β → β → Option Bool) (L : List β → List β → Int → Option Bool) (F : List β → List β → Option Bool) {z z' : Option Bool}
    (hF : ∀ a b : List β, F a b = if (a.length : Int) = (b.length : Int) then (L a b 0) else z)
    (hL : ∀ (a b : List β) (i : Int), L a b i = if i < (a.length : Int) then (if 0 ≤ i then (if i < (b.length : Int) then ((one (a.getD i.toNat db) (b.getD i.toNat db)).bind fun t => (if t = true then (L a b (wrap64 (i + 1))) else z')) else (none)) else (none)) else (some true))
    (h1 : ∀ x, ok x → one (of x) (of x) = some true) (l : List α) (hl : l.length ≤ 1048576) (ho : ∀ x ∈ l, ok x) : F (l.map of) (l.map of) = some true := by
  rw [hF, if_pos rfl]
  have h := upTo (fun i => L (l.map of) (l.map of) i) l.length ?_
  · rw [h]
    show L (l.map of) (l.map of) l.length = _
    rw [hL, if_neg (by simp)]
  · intro i h0 hi
    show L (l.map of) (l.map of) i = _
    have hm : i < ((l.map of).length : Int) := by simpa using hi
    rw [hL, if_pos hm, if_pos h0, if_pos hm, getD_map of (d := da) h0 hi, h1 _ (ho _ (getD_mem h0 hi)), Option.bind_some, if_pos rfl, w64 (by omega : -9223372036854775808 ≤ i + 1) (by omega)]

end Go.Proofs.YtjojmfhgfeflnaaGreatDoor.Val
